/- Part. -/
import Derived.Test.YtdahjfmmndjcpaaGreatQ08
set_option linter.unusedSimpArgs false
set_option linter.unusedVariables false
set_option maxHeartbeats 40000000
set_option maxRecDepth 100000
namespace Go.Proofs.YtdahjfmmndjcpaaGreat
open Go Go.RowKit Hr Go.Proofs.Tryz
namespace Hr
def Cg(b:UInt8):List Value:= [.int .u8 (b.toNat:Int)]
def vm(s:ByteArray):List UInt8:=s.data.toList
theorem WU(s:ByteArray):(vm s).length=s.size:=by
 unfold vm
 rw [DU]
 rfl
theorem ahR{P:Program}{X:Nat→Prop}{W:World}{n:Nat}{ah:List (Nat×Value)}{mem:List ak}{o:Oper}{d:Tmp}{t u e:TypeId}{x:Operand}{s:ByteArray}(ho:o.op= .convert t u x)(hd:o.dst=some d)(hdn:Nat.blt d n=true)(ht:P.underlying t=some .string)(hu:P.underlying u=some (.slice e))(he:P.underlying e=some (.int .u8))
  (hx:ev ah x=some (.string s)):H1 P X W n ⟨ah,mem⟩ o (fun _:Nat×Nat=>True) (fun i=>⟨(d,.slice (some ⟨i.1,0,none⟩) (vm s).length i.2)::ah,PC i.1 1 ((vm s).map Cg)::mem⟩):=by
 intro a w cF k Q hk
 have fO:(execOp a.eval o).run P w= .ok (.value (.slice (some ⟨w.heap.size,0,none⟩) (vm s).length (grownCap w s.size 0 e))) (w.drew.alloc (.cells (bytesRow s (grownCap w s.size 0 e)) e ((bytesRow s (grownCap w s.size 0 e)).size,(bytesRow s (grownCap w s.size 0 e)).size+1))):=by
  simp [execOp,ho,cF.eval hx,run_bytes_of_string w t u e s ht hu he,WU]
 refine wv fO ?_
 rw [hd]
 generalize Hw:grownCap w s.size 0 e=cc
 have ct:aU nX w w.drew:=(aU.refl nX w).drew
 have qF:=ct.fu (aU.alloc w.drew (.cells (bytesRow s cc) e ((bytesRow s cc).size,(bytesRow s cc).size+1)))
 have ox:(w.drew.alloc (.cells (bytesRow s cc) e ((bytesRow s cc).size,(bytesRow s cc).size+1))).heap[w.heap.size]?=some (.cells (bytesRow s cc) e ((bytesRow s cc).size,(bytesRow s cc).size+1)):=by
  show(w.heap.push _)[w.heap.size]?=_
  simp
 have cj:Rd (w.drew.alloc (.cells (bytesRow s cc) e ((bytesRow s cc).size,(bytesRow s cc).size+1))) (some ⟨w.heap.size,0,none⟩) 1 ((vm s).map Cg):=by
  refine .inr ⟨_,rfl,fun i c hi j v hj=>?_⟩
  rw [jt]at hi
  obtain⟨b,hb,rfl⟩:=Option.map_eq_some_iff.1 hi
  have gL:j=0:=by
   have:=(xQ.1 hj).1
   simpa [Cg]using this
  subst gL
  obtain rfl:v= .int .u8 (b.toNat:Int):=by simpa [Cg]using hj.symm
  have bG:=(xQ.1 hb).1
  rw [wg,Nat.mul_one,Gk,xR]
  simp only [World.cell?,ox]
  have h1:(bytesRow s cc)[i]?=some (.int .u8 (b.toNat:Int)):=by
   unfold bytesRow
   rw [JW (by simpa [vm]using bG)]
   rw [Array.getElem?_map]
   have:s.data[i]?=some b:=by simpa [vm]using hb
   rw [this];rfl
  simpa using h1
 have hm:Mem X W (PC w.heap.size 1 ((vm s).map Cg)::mem) (w.drew.alloc (.cells (bytesRow s cc) e ((bytesRow s cc).size,(bytesRow s cc).size+1))):=by
  refine(cF.mem.uL qF).cons ⟨tG ox,cj⟩ (fun b hb=>?_) (fun r hr b hb zR=>?_)
  ·have nf:w.heap.size=b:=hb
   exact .inl (by rw [←nf];exact cF.dm.size)
  ·have nf:w.heap.size=b:=hb
   have:=cF.mem.lt r hr b zR
   omega
 exact hk (w.heap.size,cc) _ _ trivial (((cF.D2 (cF.dm.fu qF) hm)).put hdn _)
end Hr
def vn:ByteArray:=ByteArray.mk #[119,111,114,108,100]
def pq:List ByteArray:= [ByteArray.mk #[70,108,117,116,101],ByteArray.mk #[67,108,97,114,105,110,101,116],ByteArray.mk #[80,105,97,110,111],ByteArray.mk #[86,105,111,108,97]]
def Am(b:UInt8):Bool:=decide ((b.toNat:Int)<32)||((b.toNat:Int)==127)
def EL(s:ByteArray):Prop:=s.size≤256∧(vm s).any Am=false
theorem ahS:EL vn:=⟨by decide,by decide⟩
theorem ahT:EL (ByteArray.mk #[]):=⟨by decide,by decide⟩
theorem ahU{q:Nat}(h:q<4):EL (aa pq q):=by
 have:q=0∨q=1∨q=2∨q=3:=oM
 rcases this with rfl|rfl|rfl|rfl<;>exact⟨by decide,by decide⟩
structure kS(p:bw):Prop where
 bg:p.bg=1
 name:∃q,q<4∧p.name=aa pq q
 tr:∃q,q<6∧(⟨p.cp,p.bF⟩:jT)=aa gN q
 st:p.st.length=1∨p.st.length=2
 cl:∀x∈p.st,x.bg=1∧1≤x.wL∧x.wL≤4
theorem kS.An{p:bw}(h:kS p): -77≤p.cp∧p.cp≤77∧-140≤p.bF∧p.bF≤140:=by
 obtain⟨q,hq,e⟩:=h.tr
 have h6:q=0∨q=1∨q=2∨q=3∨q=4∨q=5:=oM
 have e1:p.cp=(aa gN q).cp:=aC jT.cp e
 have e2:p.bF=(aa gN q).bF:=aC jT.bF e
 rw [e1,e2]
 rcases h6 with rfl|rfl|rfl|rfl|rfl|rfl<;>decide
def bC(ps:List bw):Nat:=(ps.map fun p=>p.st.length).sum
def b_(ps:List bw):List Int:=ps.flatMap fun p=>p.aH::p.st.map ig.aH
def eB(ms:List aD):List Int:=ms.flatMap fun m=>m.n.aH::(dD m.cs).map fun e=>e.x.n.aH
structure dE(s:aw):Prop where
 cT:s.cT=vn
 pl:1≤s.ps.length∧s.ps.length≤3
 ps:∀p∈s.ps,kS p
 Lv:b_ s.ps=(List.range (b_ s.ps).length).map fun(j:Nat)=>(j:Int)+1
 ml:1≤s.ms.length∧s.ms.length≤6
 g:Gd (bC s.ps) ((b_ s.ps).length:Int) s.ms
 Ch:(aa s.ms 0).n.start=false
 rL:w8 s.ms
 sl:s.sp.length≤6
 Hy:∀x∈s.sp,x.id.bg=1
 Ci:(b_ s.ps++eB s.ms++s.sp.map fun x=>x.id.aH).Pairwise (· < ·)
 uc:∃N:Int,s.bk= [⟨1,N⟩]∧N≤1073741824∧∀x∈b_ s.ps++eB s.ms++s.sp.map fun x=>x.id.aH,1≤x∧x≤N
theorem Hz{ps:List bw}{k:Nat}(h:k<ps.length):bC (ps.take (k+1))=bC (ps.take k)+(aa ps k).st.length:=by
 rw [nT h]
 simp [bC]
theorem PD{ps:List bw}(h:∀p∈ps,kS p):ps.length≤bC ps∧bC ps≤2*ps.length:=by
 induction ps with
 |nil=>simp [bC]
 |cons p ps ih=>
  have h1:=ih fun x hx=>h x (by simp [hx])
  have h2:=(h p sM).st
  have e:bC (p::ps)=p.st.length+bC ps:=by simp [bC]
  rw [e,fW]
  omega
theorem dE.me{s:aw}(h:dE s){i:Nat}(hi:i<s.ms.length):∃a,nU (aa s.ms i) (bC s.ps) a:=h.g.at hi
theorem dE.sn{s:aw}(h:dE s):1≤bC s.ps∧bC s.ps≤6:=by
 have:=PD h.ps
 have:=h.pl
 omega
theorem dE.ll{s:aw}(h:dE s):s.bk.length=1:=by
 obtain⟨N,e,_⟩:=h.uc
 rw [e];rfl
theorem jB.Lw{v:aW}{n a:Int}(h:jB v n a):v.ts.length≤16:=by
 rcases h.e with⟨x,e1,e2,_⟩|⟨_,_,_,_,eV,_⟩
 ·rw [e2];simp
 ·exact eV
theorem jB.Cj{v:aW}{n a:Int}(h:jB v n a):∀x∈v.es,gx x.x=0:=by
 rcases h.e with⟨x,e1,e2,mK,h0,hf⟩|⟨_,h0,_⟩
 ·intro y hy
  rw [e1]at hy
  rw [cS.1 hy];exact h0
 ·exact h0
theorem dE.cell{s:aw}(h:dE s){i c:Nat}(hi:i<s.ms.length)(hc:c<(aa s.ms i).cs.length):((aa (aa s.ms i).cs c)).cl= []∧(((aa (aa s.ms i).cs c)).vs.length=1∨((aa (aa s.ms i).cs c)).vs.length=2)∧∀v,v<((aa (aa s.ms i).cs c)).vs.length→∃a,jB ((aa (aa (aa s.ms i).cs c).vs v)) (aa s.ms i).n.met.ln a:=by
 obtain⟨a,hm⟩:=h.me hi
 have rr:=hm.ce _ (aB hc)
 exact⟨rr.cl,rr.len,fun v hv=>rr.vs _ (aB hv)⟩
structure yA(p:bw):Prop where
 bg:p.bg=1
 name:∃q,q<4∧p.name=aa pq q
 WV: -77≤p.cp∧p.cp≤77
 Ao: -12≤p.bF∧p.bF≤12
 st:p.st.length=1∨p.st.length=2
 cl:∀x∈p.st,x.bg=1∧1≤x.wL∧x.wL≤4
theorem yA.An{p:bw}(h:yA p): -77≤p.cp∧p.cp≤77∧-140≤p.bF∧p.bF≤140:=by
 have h1:=h.WV
 have h2:=h.Ao
 omega
theorem kS.g{p:bw}(h:kS p):yA p:=by
 refine⟨h.bg,h.name,⟨h.An.1,h.An.2.1⟩,?_,h.st,h.cl⟩
 obtain⟨q,hq,e⟩:=h.tr
 have h6:q=0∨q=1∨q=2∨q=3∨q=4∨q=5:=oM
 have e2:p.bF=(aa gN q).bF:=aC jT.bF e
 rw [e2]
 rcases h6 with rfl|rfl|rfl|rfl|rfl|rfl<;>decide
structure lA(v:aW)(n a:Int):Prop where
 e:yq v n
 ids:∀x∈v.es,x.x.n.bg=1∨x.x.n.bg=8
 len:0<v.es.length∧v.es.length≤56
 ev:∀x∈v.es,(∃st id,x.x=(oy st id).x)∨∃id lg d,iQ x.x id lg d∧fp lg d
theorem jB.g{v:aW}{n a:Int}(h:jB v n a):lA v n a:=⟨h.e,fun x hx=>by
 obtain⟨j,hj,rfl⟩:=fX hx
 have:=(h.ids j hj).1
 exact .inl (by simpa [aa,hj]using this),h.len,fun x hx=>(h.ev x hx).imp (fun⟨id,e⟩=>⟨1,id,e⟩) id⟩
theorem lA.dX{v:aW}{n a:Int}(hv:lA v n a):∀x∈v.es,x.x.dX:=fun x hx=>by
 rcases hv.ev x hx with⟨st,id,e⟩|⟨id,lg,d,hw,_⟩
 ·rw [e];exact⟨gA _,gA _,gA _,(show(0:Int)≤9223372036854775807 by decide)⟩
 ·exact hw.dX
structure EM(c:bu)(n:Int):Prop where
 cl:c.cl= []
 len:c.vs.length=1∨c.vs.length=2
 vs:∀v∈c.vs,∃a,lA v n a
theorem wV.g{c:bu}{n:Int}(h:wV c n):EM c n:=⟨h.cl,h.len,fun v hv=>(h.vs v hv).imp fun a g=>g.g⟩
structure lU(m:aD)(k:Nat)(n:Int):Prop where
 met:Wm m.n.met
 sU:m.n.len=0
 id:m.n.bg=1
 ow: -4≤m.n.ow∧m.n.ow≤4
 eP:(m.n.fv=0∨m.n.fv=2∨m.n.fv=3)∧m.n.BU=0∧m.n.Es=0∧m.n.Et=0∧(m.n.yf=0∨m.n.yf=60)∧m.n.Eu=0∧m.n.Ad=ByteArray.mk #[]
 tm:m.tm= []∨∃t,m.tm= [t]∧t.cD=0∧300000≤t.ye∧t.ye≤2850000
 cs:m.cs.length=k
 ce:∀c∈m.cs,EM c m.n.met.ln
theorem nU.g{m:aD}{k:Nat}{n:Int}(h:nU m k n):lU m k 0:=⟨h.met,h.sU,h.id.1,h.ow,h.eP,h.tm,h.cs,fun c hc=>(h.ce c hc).g⟩
def EN(p:bw):List ba:=⟨p.bg,p.aH⟩::p.st.map fun x=>⟨x.bg,x.aH⟩
def yB(m:aD):List ba:=⟨m.n.bg,m.n.aH⟩::(dD m.cs).map fun e=>⟨e.x.n.bg,e.x.n.aH⟩
def nu(s:aw):List ba:=s.ps.flatMap EN++s.ms.flatMap yB++s.sp.map dS.id
def rN(l:List ba)(k:Int):Int:=((l.find? fun x=>x.bg==k).map ba.aH).getD 0
structure cx(s:aw):Prop where
 cT:s.cT=vn
 pl:1≤s.ps.length∧s.ps.length≤3
 ps:∀p∈s.ps,yA p
 ml:1≤s.ms.length∧s.ms.length≤6
 g:∀m∈s.ms,lU m (bC s.ps) 0
 Ch:(aa s.ms 0).n.start=false
 rL:w8 s.ms
 sl:s.sp.length≤6
 nd:(nu s).Nodup
 ll:s.bk.length=1∨s.bk.length=2
 lo:∀x∈s.bk,0≤x.bg∧x.bg≤99∧1≤x.aH∧x.aH≤1073741824
 li:∀j,j+1<s.bk.length→(aa s.bk j).bg<(aa s.bk (j+1)).bg
 uc:∀x∈nu s,0≤x.bg∧x.bg≤99∧1≤x.aH∧x.aH≤1073741824∧x.aH≤rN s.bk x.bg
theorem WW{α:Type}{l:List α}{f g:α→Int}(h:∀x∈l,f x=1):(l.map fun x=>(⟨f x,g x⟩:ba))=(l.map g).map fun n=>(⟨1,n⟩:ba):=by
 rw [oV]
 exact DY fun x hx=>by rw [h x hx];rfl
theorem Aq{α β:Type}{l:List α}{f g:α→List β}(h:∀x∈l,f x=g x):l.flatMap f=l.flatMap g:=by
 rw [tC,tC,DY h]
theorem dE.PE{s:aw}(h:dE s):nu s=(b_ s.ps++eB s.ms++s.sp.map fun x=>x.id.aH).map fun n=>(⟨1,n⟩:ba):=by
 rw [cB,cB]
 unfold nu
 congr 1
 ·congr 1
  ·unfold b_
   rw [sE]
   refine Aq fun p hp=>?_
   rw [EN,(h.ps p hp).bg,WW fun x hx=>((h.ps p hp).cl x hx).1];rfl
  ·unfold eB
   rw [sE]
   refine Aq fun m hm=>?_
   obtain⟨i,hi,rfl⟩:=fX hm
   obtain⟨a,ha⟩:=h.me hi
   have e:aa s.ms i=s.ms[i]:=by simp [aa,hi]
   rw [←e,yB,ha.id.1,WW fun x hx=>?_];rfl
   obtain⟨c,hc,hx⟩:=ja.1 hx
   obtain⟨v,hv,hx⟩:=ja.1 hx
   obtain⟨b,hb⟩:=(ha.ce c hc).vs v hv
   rcases hb.g.ids x hx with h1|h1
   ·exact h1
   ·obtain⟨j,hj,rfl⟩:=fX hx
    have:=(hb.ids j hj).1
    simpa [aa,hj]using this
 ·rw [oV]
  refine DY fun x hx=>?_
  show x.id=(⟨1,x.id.aH⟩:ba)
  rw [←h.Hy x hx]
theorem dE.w{s:aw}(h:dE s):cx s:=by
 refine⟨h.cT,h.pl,fun p hp=>(h.ps p hp).g,h.ml,fun m hm=>?_,h.Ch,h.rL,h.sl,?_,?_,?_,?_,?_⟩
 ·obtain⟨i,hi,rfl⟩:=fX hm
  obtain⟨a,ha⟩:=h.me hi
  have e:aa s.ms i=s.ms[i]:=by simp [aa,hi]
  rw [←e];exact ha.g
 ·rw [h.PE]
  exact List.Pairwise.map _ (fun a b pw e=>by have:=aC ba.aH e;simp only at this;omega) h.Ci
 ·exact .inl h.ll
 ·obtain⟨N,e,h1,h2⟩:=h.uc
  rw [e]
  have:=h2 (aa s.ps 0).aH (by simp only [dJ];left;left;exact ja.2 ⟨_,aB (l:=s.ps) (q:=0) (by have:=h.pl;omega),dH ..⟩)
  intro x hx
  rw [cS.1 hx]
  exact⟨by show(0:Int)≤1;decide,by show(1:Int)≤99;decide,by show 1≤N;omega,h1⟩
 ·intro j hj
  rw [h.ll]at hj;omega
 ·rw [h.PE]
  obtain⟨N,e,h1,h2⟩:=h.uc
  intro x hx
  obtain⟨n,hn,rfl⟩:=cM.1 hx
  have:=h2 n hn
  rw [e]
  refine⟨by show(0:Int)≤1;decide,by show(1:Int)≤99;decide,this.1,?_,?_⟩
  ·show n≤_;omega
  ·show n≤N;exact this.2
theorem ahV{ps:List bw}(h:∀p∈ps,yA p):ps.length≤bC ps∧bC ps≤2*ps.length:=by
 induction ps with
 |nil=>simp [bC]
 |cons p ps ih=>
  have h1:=ih fun x hx=>h x (by simp [hx])
  have h2:=(h p sM).st
  have e:bC (p::ps)=p.st.length+bC ps:=by simp [bC]
  rw [e,fW]
  omega
theorem cx.me{s:aw}(h:cx s){i:Nat}(hi:i<s.ms.length):∃a,lU (aa s.ms i) (bC s.ps) a:=⟨0,h.g _ (aB hi)⟩
theorem cx.sn{s:aw}(h:cx s):1≤bC s.ps∧bC s.ps≤6:=by
 have:=ahV h.ps
 have:=h.pl
 omega
theorem lA.Lw{v:aW}{n a:Int}(h:lA v n a):v.ts.length≤16:=by
 rcases h.e with⟨x,e1,e2,_⟩|⟨_,_,_,_,eV,_⟩
 ·rw [e2];simp
 ·exact eV
theorem lA.Cj{v:aW}{n a:Int}(h:lA v n a):∀x∈v.es,gx x.x=0:=by
 rcases h.e with⟨x,e1,e2,mK,h0,hf⟩|⟨_,h0,_⟩
 ·intro y hy
  rw [e1]at hy
  rw [cS.1 hy];exact h0
 ·exact h0
theorem cx.cell{s:aw}(h:cx s){i c:Nat}(hi:i<s.ms.length)(hc:c<(aa s.ms i).cs.length):((aa (aa s.ms i).cs c)).cl= []∧(((aa (aa s.ms i).cs c)).vs.length=1∨((aa (aa s.ms i).cs c)).vs.length=2)∧∀v,v<((aa (aa s.ms i).cs c)).vs.length→∃a,lA ((aa (aa (aa s.ms i).cs c).vs v)) (aa s.ms i).n.met.ln a:=by
 obtain⟨a,hm⟩:=h.me hi
 have rr:=hm.ce _ (aB hc)
 exact⟨rr.cl,rr.len,fun v hv=>rr.vs _ (aB hv)⟩
structure kT(s:aw):Prop where
 pl:s.ps.length≤3
 ps:∀p∈s.ps,p.st.length≤2
 ml:s.ms.length≤6
 cs:∀m∈s.ms,m.cs.length≤6
 tm:∀m∈s.ms,m.tm.length≤100
 vs:∀m∈s.ms,∀c∈m.cs,c.vs.length≤2∧c.cl.length≤100
 es:∀m∈s.ms,∀c∈m.cs,∀v∈c.vs,v.es.length≤56∧v.ts.length≤16∧∀x∈v.es,x.x.dX
 sl:s.sp.length≤6
 ll:s.bk.length≤100
theorem ahW{ps:List bw}(h:∀p∈ps,p.st.length≤2):bC ps≤2*ps.length:=by
 induction ps with
 |nil=>simp [bC]
 |cons p ps ih=>
  have h1:=ih fun x hx=>h x (by simp [hx])
  have h2:=h p sM
  have e:bC (p::ps)=p.st.length+bC ps:=by simp [bC]
  rw [e,fW]
  omega
theorem kT.sn{s:aw}(h:kT s):bC s.ps≤6:=by
 have:=ahW h.ps
 have:=h.pl
 omega
theorem cx.mN{s:aw}(h:cx s):kT s:=by
 have hs:=h.sn
 refine⟨h.pl.2,fun p hp=>by have:=(h.ps p hp).st;omega,h.ml.2,fun m hm=>by have:=(h.g m hm).cs;omega,fun m hm=>?_,fun m hm c hc=>?_,fun m hm c hc v hv=>?_,h.sl,by have:=h.ll;omega⟩
 ·rcases(h.g m hm).tm with e|⟨t,e,_⟩<;>rw [e]<;>simp
 ·have hc:=(h.g m hm).ce c hc
  exact⟨by have:=hc.len;omega,by rw [hc.cl];decide⟩
 ·obtain⟨a,ha⟩:=((h.g m hm).ce c hc).vs v hv
  exact⟨ha.len.2,ha.Lw,ha.dX⟩
def bA(s:aw)(aS:Int)(L:Value):List Value:=s.enc++ [.int .i64 aS,L]
def cI:List bw→Nat→Nat×Nat
 | [],c=>(0,0)
 |p::ps,c=>if c<p.st.length then(0,c)else((cI ps (c-p.st.length)).1+1,(cI ps (c-p.st.length)).2)
theorem ahX{ps:List bw}{k c:Nat}(hk:k<ps.length)(hc:c<(aa ps k).st.length):cI (ps.drop k) c=(0,c):=by
 have e:ps.drop k=aa ps k::ps.drop (k+1):=by
  rw [uG hk];simp [aa,hk]
 rw [e,cI,aG hc]
theorem ahY{ps:List bw}{k c:Nat}(hk:k<ps.length)(hc:¬c<(aa ps k).st.length):cI (ps.drop k) c=((cI (ps.drop (k+1)) (c-(aa ps k).st.length)).1+1,(cI (ps.drop (k+1)) (c-(aa ps k).st.length)).2):=by
 have e:ps.drop k=aa ps k::ps.drop (k+1):=by
  rw [uG hk];simp [aa,hk]
 rw [e,cI,ay hc]
theorem ahZ{ps:List bw}{k:Nat}(hk:k<ps.length):bC (ps.drop k)=(aa ps k).st.length+bC (ps.drop (k+1)):=by
 have e:ps.drop k=aa ps k::ps.drop (k+1):=by
  rw [uG hk];simp [aa,hk]
 rw [e];simp [bC]
theorem WX:∀{ps:List bw},(∀p∈ps,p.st.length≤2)→bC ps≤2*ps.length
 | [],h=>by simp [bC]
 |p::ps,h=>by
  have h1:=WX (ps:=ps) fun x hx=>h x (by simp [hx])
  have h2:=h p sM
  have e:bC (p::ps)=p.st.length+bC ps:=by simp [bC]
  rw [e,fW];omega
theorem EO:∀{ps:List bw} {c:Nat},c<bC ps→(cI ps c).1<ps.length∧(cI ps c).2<(aa ps (cI ps c).1).st.length
 | [],c,h=>by simp [bC]at h
 |p::ps,c,h=>by
  unfold cI
  have e:bC (p::ps)=p.st.length+bC ps:=by simp [bC]
  split
  ·rename_i h1;exact⟨by simp,h1⟩
  ·rename_i h1
   have:=EO (ps:=ps) (c:=c-p.st.length)  oM
   exact⟨by simpa using this.1,this.2⟩
theorem ah0{p:bw}(h:yA p): -12≤p.bF∧p.bF≤12:=h.Ao
theorem lA.WY{v:aW}{n a:Int}(hv:lA v n a){x:aN}(hx:x∈v.es):∀h∈x.x.hs,12≤h.aH∧h.aH≤115:=fun h hh=>by
 rcases hv.ev x hx with⟨st,id,e⟩|⟨id,lg,d,hw,_⟩
 ·rw [e]at hh;simp [oy]at hh
 ·by_cases hk:x.x.n.bh=1
  ·exact(hw.hs hk).r h hh
  ·rw [(hw.B0 hk).1]at hh;simp at hh
theorem lA.WZ{v:aW}{n a:Int}(hv:lA v n a){x:aN}(hx:x∈v.es):∀g∈x.x.gs,12≤g.aH∧g.aH≤115:=fun g hg=>by
 rcases hv.ev x hx with⟨st,id,e⟩|⟨id,lg,d,hw,_⟩
 ·rw [e]at hg;simp [oy]at hg
 ·rcases hw.gs with e|⟨g',e,h1,h2,_⟩
  ·rw [e]at hg;simp at hg
  ·rw [e]at hg
   rw [cS.1 hg]
   exact⟨h1,h2⟩
structure ql where
 bh:Int
 part:Int
 sX:Int
 sY:Int
 oA:Int
 PK:Int
 yD:Int
instance:Inhabited ql:=⟨⟨0,0,0,0,0,0,0⟩⟩
def ql.enc(p:ql):List Value:= [.int .i64 p.bh,.int .i64 p.part,.int .i64 p.sX,.int .i64 p.sY,.int .i64 p.oA,.int .i64 p.PK,.int .i64 p.yD]
structure dF where
 pl:ql
 A:Option Addr
 size:Nat
 q:Nat
 id:ba
instance:Inhabited dF:=⟨⟨default,none,0,0,default⟩⟩
def dF.ptr(x:dF):Value:= .pointer (some (((bI x.A).add (x.q*x.size)).add 0))
def dF.ok(W:World)(x:dF):Prop:=∃ET aQ,Rd W x.A x.size ET∧ET[x.q]?=some (.int .i64 x.id.bg:: .int .i64 x.id.aH::aQ)
section
variable(s:aw)
def Cl(k:Nat):dF:=⟨⟨1,k,0,0,0,0,0⟩,s.PA,6,k,⟨(aa s.ps k).bg,(aa s.ps k).aH⟩⟩
def Cm(k j:Nat):dF:=⟨⟨2,0,(bC (s.ps.take k):Int)+j,0,0,0,0⟩,(aa s.ps k).SA,3,j,⟨(aa (aa s.ps k).st j).bg,(aa (aa s.ps k).st j).aH⟩⟩
def w_(k:Nat):List dF:=Cl s k::(List.range (aa s.ps k).st.length).map (Cm s k)
def xa(i:Nat):dF:=⟨⟨3,0,0,i,0,0,0⟩,s.MA,22,i,⟨(aa s.ms i).n.bg,(aa s.ms i).n.aH⟩⟩
def oB(i c v x:Nat):dF:=⟨⟨4,0,c,i,v,x,0⟩,((aa (aa (aa s.ms i).cs c).vs v)).EA,13,x,⟨((aa (aa (aa (aa s.ms i).cs c).vs v).es x)).x.n.bg,((aa (aa (aa (aa s.ms i).cs c).vs v).es x)).x.n.aH⟩⟩
def ud(i c v:Nat):List dF:=(List.range ((aa (aa (aa s.ms i).cs c).vs v)).es.length).map (oB s i c v)
def s3(i c:Nat):List dF:=(List.range ((aa (aa s.ms i).cs c)).vs.length).flatMap (ud s i c)
def rO(i:Nat):List dF:=xa s i::(List.range (aa s.ms i).cs.length).flatMap (s3 s i)
def Cn(j:Nat):dF:=⟨⟨5,0,0,0,0,0,j⟩,s.SA,7,j,(aa s.sp j).id⟩
def px:List dF:=(List.range s.ps.length).flatMap (w_ s)
def yE:List dF:=(List.range s.ms.length).flatMap (rO s)
def EU:List dF:=(List.range s.sp.length).map (Cn s)
def dh:List dF:=px s++yE s++EU s
end
abbrev jE(s:aw):={x:dF//x∈dh s}
def LF{s:aw}(x:jE s):List Value:= [.agg x.1.pl.enc.toArray,x.1.ptr]
theorem LG{ps:List bw}{k:Nat}:bC (ps.take k)≤bC ps:=by
 have h:bC ps=bC (ps.take k)+bC (ps.drop k):=by
  conv=>lhs;rw [←rk k ps]
  unfold bC;rw [cB,List.sum_append]
 omega
theorem vp{α:Type}{f:Nat→List α}{k:Nat}:(List.range (k+1)).flatMap f=(List.range k).flatMap f++f k:=by simp [oU,ju]
theorem EV{α:Type}{f:Nat→α}{k:Nat}:(List.range (k+1)).map f=(List.range k).map f++ [f k]:=by simp [oU]
theorem Co{α:Type}{f:Nat→List α}{B:Nat}:∀{k:Nat},(∀i,i<k→(f i).length≤B)→((List.range k).flatMap f).length≤k*B
 |0,_=>by simp
 |k+1,h=>by
  rw [vp,aP]
  have h1:=Co (k:=k) fun i hi=>h i  oM
  have h2:=h k  oM
  rw [F9];omega
section
variable{s:aw}(hB:kT s)
include hB
theorem ah4{k:Nat}(hk:k<s.ps.length):(w_ s k).length≤3:=by
 have:=hB.ps _ (aB hk)
 simp only [w_,fW,bD,xX];omega
theorem W2{i c v:Nat}(hi:i<s.ms.length)(hc:c<(aa s.ms i).cs.length)(hv:v<((aa (aa s.ms i).cs c)).vs.length):(ud s i c v).length≤56:=by
 have:=(hB.es _ (aB hi) _ (aB hc) _ (aB hv)).1
 simp only [ud,bD,xX];omega
theorem W3{i c:Nat}(hi:i<s.ms.length)(hc:c<(aa s.ms i).cs.length):(s3 s i c).length≤112:=by
 have h:=Co (f:=ud s i c) (B:=56) (k:=((aa (aa s.ms i).cs c)).vs.length) fun v hv=>W2 hB hi hc hv
 have h2:=(hB.vs _ (aB hi) _ (aB hc)).1
 unfold s3;omega
theorem ah5{i:Nat}(hi:i<s.ms.length):(rO s i).length≤673:=by
 have h:=Co (f:=s3 s i) (B:=112) (k:=(aa s.ms i).cs.length) fun c hc=>W3 hB hi hc
 have:=hB.cs _ (aB hi)
 simp only [rO,fW];omega
theorem EW{k:Nat}(hk:k≤s.ps.length):((List.range k).flatMap (w_ s)).length≤9:=by
 have h:=Co (f:=w_ s) (B:=3) (k:=k) fun i hi=>ah4 hB  oM
 have:=hB.pl
 omega
theorem LH{i:Nat}(hi:i≤s.ms.length):((List.range i).flatMap (rO s)).length≤673*i:=by
 have h:=Co (f:=rO s) (B:=673) (k:=i) fun j hj=>ah5 hB  oM
 omega
theorem ah6{i c:Nat}(hi:i<s.ms.length)(hc:c≤(aa s.ms i).cs.length):((List.range c).flatMap (s3 s i)).length≤112*c:=by
 have h:=Co (f:=s3 s i) (B:=112) (k:=c) fun j hj=>W3 hB hi  oM
 omega
theorem ah7{i c v:Nat}(hi:i<s.ms.length)(hc:c<(aa s.ms i).cs.length)(hv:v≤((aa (aa s.ms i).cs c)).vs.length):((List.range v).flatMap (ud s i c)).length≤56*v:=by
 have h:=Co (f:=ud s i c) (B:=56) (k:=v) fun j hj=>W2 hB hi hc  oM
 omega
theorem ah8:(dh s).length≤5000:=by
 have h1:=EW hB (cm s.ps.length)
 have h2:=LH hB (cm s.ms.length)
 have h3:=hB.ml
 have h4:=hB.sl
 have e3:(EU s).length=s.sp.length:=by simp [EU]
 have e1:(px s).length≤9:=h1
 have e2:(yE s).length≤673*s.ms.length:=h2
 unfold dh
 rw [aP,aP,e3];omega
end
section
variable{s:aw}{W:World}(hs:s.rd W)
include hs
theorem ah9{k:Nat}(hk:k<s.ps.length):(Cl s k).ok W:=⟨_,_,hs.p,bX hk⟩
theorem ah_{k j:Nat}(hk:k<s.ps.length)(hj:j<(aa s.ps k).st.length):(Cm s k j).ok W:=⟨_,_,hs.pr _ (aB hk),bX hj⟩
theorem aia{i:Nat}(hi:i<s.ms.length):(xa s i).ok W:=⟨_,_,hs.m,bX hi⟩
theorem aib{i c v x:Nat}(hi:i<s.ms.length)(hc:c<(aa s.ms i).cs.length)(hv:v<((aa (aa s.ms i).cs c)).vs.length)(hx:x<((aa (aa (aa s.ms i).cs c).vs v)).es.length):(oB s i c v x).ok W:=⟨_,_,(ed.mk hs.m hs.mr).es hi hc hv,bX hx⟩
theorem aic{j:Nat}(hj:j<s.sp.length):(Cn s j).ok W:=⟨_,_,hs.s,bX hj⟩
end
theorem HE{s:aw}{p:List (jE s)}{l:List dF}(h:p.map (·.1)=l):p.length=l.length:=by rw [←h,bD]
theorem xb{s:aw}{p:List (jE s)}{l:List dF}(h:p.map (·.1)=l)(x:dF)(hx:x∈dh s):(p++ [(⟨x,hx⟩:jE s)]).map (·.1)=l++ [x]:=by rw [cB,h];rfl
theorem xc{x:dF}{l L:List dF}(h:l++ [x]<+:L):x∈L:=h.subset  sM 
theorem aw.rd.bn{s:aw}{W:World}(h:s.rd W):ed W s.ms s.MA:=⟨h.m,h.mr⟩
theorem LJ{s:aw}{W:World}(hs:s.rd W){x:dF}(h:x∈dh s):x.ok W:=by
 unfold dh at h
 rcases dJ.1 h with h|h
 ·rcases dJ.1 h with h|h
  ·obtain⟨k,hk,h⟩:=ja.1 h
   rcases ib.1 h with rfl|h
   ·exact ah9 hs (fY.1 hk)
   ·obtain⟨j,hj,rfl⟩:=cM.1 h
    exact ah_ hs (fY.1 hk) (fY.1 hj)
  ·obtain⟨i,hi,h⟩:=ja.1 h
   rcases ib.1 h with rfl|h
   ·exact aia hs (fY.1 hi)
   ·obtain⟨c,hc,h⟩:=ja.1 h
    obtain⟨v,hv,h⟩:=ja.1 h
    obtain⟨k,hk,rfl⟩:=cM.1 h
    exact aib hs (fY.1 hi) (fY.1 hc) (fY.1 hv) (fY.1 hk)
 ·obtain⟨j,hj,rfl⟩:=cM.1 h
  exact aic hs (fY.1 hj)
def PL(s:aw)(w:World)(rs:List ak):Prop:=∃(Y:Nat→Prop) (w2:World),Hr.yC Y w2 w rs∧s.rd w2∧∀v∈dh s,oh Y v.A
theorem W4{W w w':World}{rs l:List ak}(hk:aU nX W w)(hm:Mem nX W (rs++l) w)(h:aU (aX rs) w w'):aU nX W w':=hk.step h fun k bG _ hy=>by
 obtain⟨r,hr,hb⟩:=hy
 rcases hm.ae r (by simp [hr]) _ hb with h4|h4
 ·omega
 ·exact h4
theorem W5{s:aw}{W w:World}{rs l:List ak}(hs:s.rd W)(hm:Mem nX W (rs++l) w):∀v∈dh s,oh (aX rs) v.A:=fun v hv ad e ⟨r,hr,hb⟩=>by
 obtain⟨ET,aQ,h1,h2⟩:=LJ hs hv
 rw [e]at h1
 rcases h1 with h1|⟨ad',e',h1⟩
 ·rw [h1]at h2;simp at h2
 ·cases e'
  have h3:=NX (h1 v.q _ h2 0 _ rfl)
  rw [D4]at h3
  rcases hm.ae r (by simp [hr]) _ hb with h4|h4
  ·omega
  ·exact h4
theorem Cp{α:Type}{f:Nat→List α}{k:Nat}{l:List α}(hl:l<+:f k):∀{n:Nat},k<n→(List.range k).flatMap f++l<+:(List.range n).flatMap f
 |0,hk=>oM
 |n+1,hk=>by
  rw [vp]
  by_cases e:k=n
  ·subst e;exact(List.prefix_append_right_inj _).2 hl
  ·exact(Cp hl  oM).trans (List.prefix_append _ _)
theorem LK{α:Type}{f:Nat→α}{x:Nat}:∀{n:Nat},x<n→(List.range x).map f++ [f x]<+:(List.range n).map f
 |0,h=>oM
 |n+1,h=>by
  rw [EV]
  by_cases e:x=n
  ·subst e;exact List.prefix_refl _
  ·exact(LK  oM).trans (List.prefix_append _ _)
theorem W6{α:Type}{a:α}{l r:List α}(h:l<+:r):a::l<+:a::r:=(List.prefix_cons_inj a).2 h
section
variable{s:aw}
theorem W7{l:List dF}(h:l<+:px s):l<+:dh s:=h.trans ⟨yE s++EU s,by simp [dh]⟩
theorem W8{l:List dF}(h:l<+:yE s):px s++l<+:dh s:=((List.prefix_append_right_inj _).2 h).trans ⟨EU s,rfl⟩
theorem PM{k:Nat}(hk:k<s.ps.length):(List.range k).flatMap (w_ s)++ [Cl s k]<+:dh s:=W7 (Cp ⟨_,rfl⟩ hk)
theorem PN{k j:Nat}(hk:k<s.ps.length)(hj:j<(aa s.ps k).st.length):((List.range k).flatMap (w_ s)++Cl s k::(List.range j).map (Cm s k))++ [Cm s k j]<+:dh s:=by
 rw [bP]
 exact W7 (Cp (W6 (LK hj)) hk)
theorem PO{i:Nat}(hi:i<s.ms.length):(px s++(List.range i).flatMap (rO s))++ [xa s i]<+:dh s:=by
 rw [bP]
 exact W8 (Cp ⟨_,rfl⟩ hi)
theorem PQ{i c v x:Nat}(hi:i<s.ms.length)(hc:c<(aa s.ms i).cs.length)(hv:v<((aa (aa s.ms i).cs c)).vs.length)(hx:x<((aa (aa (aa s.ms i).cs c).vs v)).es.length):
  ((px s++(List.range i).flatMap (rO s))++xa s i::((List.range c).flatMap (s3 s i)++((List.range v).flatMap (ud s i c)++(List.range x).map (oB s i c v))))++ [oB s i c v x]<+:dh s:=by
 have h:xa s i::((List.range c).flatMap (s3 s i)++((List.range v).flatMap (ud s i c)++((List.range x).map (oB s i c v)++ [oB s i c v x])))<+:rO s i:=W6 (Cp (Cp (LK hx) hv) hc)
 have h2:=W8 (s:=s) (Cp h hi)
 simpa only [bP,Bt]using h2
theorem PR{z:Nat}(hz:z<s.sp.length):(px s++yE s++(List.range z).map (Cn s))++ [Cn s z]<+:dh s:=by
 rw [bP]
 exact(List.prefix_append_right_inj _).2 (LK hz)
theorem aid{x:dF}{l:List dF}{id:ba}(h:l++ [x]<+:dh s)(hn:∀y∈l,y.id≠id)(hx:x.id=id):(dh s).find? (fun y=>decide (y.id=id))=some x:=by
 obtain⟨r,hr⟩:=h
 rw [←hr,bP,List.find?_append,List.find?_eq_none.2 (fun y hy=>by simpa using hn y hy)]
 simp [hx]
theorem aie{id:ba}(hn:∀y∈dh s,y.id≠id):(dh s).find? (fun y=>decide (y.id=id))=none:=List.find?_eq_none.2 fun y hy=>by simpa using hn y hy
end
theorem Mem.rP{X:Nat→Prop}{W w:World}{rs aQ:List ak}(h:Mem X W (rs++aQ) w){q:ak}(hq:q∈aQ){b:Nat}(hb:q.at b):¬aX rs b:=by
 rintro⟨r,hr,zR⟩
 exact(rj.1 h.apart).2.2 r hr q hq b zR hb
theorem dG{α:Type} [Inhabited α]{l:List α}{j:Nat}(h:j<l.length):aa l j=l[j]:=by simp [aa,h]
structure oC(ms:List aD)(i c v:Nat):Prop where
 li:i<ms.length
 lc:c<(aa ms i).cs.length
 lv:v<((aa (aa ms i).cs c)).vs.length
instance{ms:List aD}{i c v:Nat}:Decidable (oC ms i c v):=
 if h:i<ms.length∧c<(aa ms i).cs.length∧v<((aa (aa ms i).cs c)).vs.length then isTrue ⟨h.1,h.2.1,h.2.2⟩else isFalse fun g=>h ⟨g.li,g.lc,g.lv⟩
def kf(ms:List aD)(i c v x:Nat):Option (Nat×Nat):=
 if x+1<((aa (aa (aa ms i).cs c).vs v)).es.length then some (i,x+1)else if oC ms (i+1) c v∧((aa (aa (aa ms (i+1)).cs c).vs v)).es.length≠0 then some (i+1,0)else none
def Au(i c v x:Nat):Value:= .agg #[.int .i64 4,.int .i64 0,.int .i64 (c:Int),.int .i64 (i:Int),.int .i64 (v:Int),.int .i64 (x:Int),.int .i64 0]
def PS:Value:= .agg #[.int .i64 0,.int .i64 0,.int .i64 0,.int .i64 0,.int .i64 0,.int .i64 0,.int .i64 0]
def vq(ms:List aD)(i c v x:Nat):Value:=match kf ms i c v x with
 |some (i',x')=> .tuple #[Au i' c v x',.bool true]
 |none=> .tuple #[PS,.bool false]
theorem PT{ms:List aD}{i c v x:Nat}:lS ms i c v x=(kf ms i c v x).map fun p=>(aa (aa (aa (aa ms p.1).cs c).vs v).es p.2):=by
 unfold lS kf
 by_cases h1:x+1<((aa (aa (aa ms i).cs c).vs v)).es.length
 ·rw [aG h1,aG h1];rfl
 ·rw [ay h1,ay h1]
  by_cases h2:i+1<ms.length∧c<(aa ms (i+1)).cs.length∧v<((aa (aa ms (i+1)).cs c)).vs.length∧((aa (aa (aa ms (i+1)).cs c).vs v)).es.length≠0
  ·rw [aG h2,aG ⟨⟨h2.1,h2.2.1,h2.2.2.1⟩,h2.2.2.2⟩];rfl
  ·rw [ay h2,ay (fun g=>h2 ⟨g.1.li,g.1.lc,g.1.lv,g.2⟩)];rfl
theorem LL{ms:List aD}{i c v x i' x':Nat}(hr:oC ms i c v)(h:kf ms i c v x=some (i',x')):oC ms i' c v∧x'<((aa (aa (aa ms i').cs c).vs v)).es.length:=by
 unfold kf at h
 split at h
 ·rename_i h1
  simp only [Option.some.injEq,Prod.mk.injEq]at h
  obtain⟨rfl,rfl⟩:=h
  exact⟨hr,h1⟩
 ·split at h
  ·rename_i h2
   simp only [Option.some.injEq,Prod.mk.injEq]at h
   obtain⟨rfl,rfl⟩:=h
   exact⟨h2.1,by have:=h2.2;omega⟩
  ·cases h
theorem W9{ms:List aD}{i c v x i' x':Nat}(h:kf ms i c v x=some (i',x')):vq ms i c v x= .tuple #[Au i' c v x',.bool true]:=by unfold vq;rw [h]
theorem aif{ms:List aD}{i c v x:Nat}(h:x+1<((aa (aa (aa ms i).cs c).vs v)).es.length):vq ms i c v x= .tuple #[Au i c v (x+1),.bool true]:=by unfold vq kf;rw [aG h]
theorem aih{ms:List aD}{i c v x:Nat}(h:¬x+1<((aa (aa (aa ms i).cs c).vs v)).es.length)(h1:oC ms (i+1) c v)(h2:((aa (aa (aa ms (i+1)).cs c).vs v)).es.length≠0):vq ms i c v x= .tuple #[Au (i+1) c v 0,.bool true]:=by unfold vq kf;rw [ay h,aG ⟨h1,h2⟩]
theorem W_{ms:List aD}{i c v x:Nat}(h:¬x+1<((aa (aa (aa ms i).cs c).vs v)).es.length)(h1:¬(oC ms (i+1) c v∧((aa (aa (aa ms (i+1)).cs c).vs v)).es.length≠0)):vq ms i c v x= .tuple #[PS,.bool false]:=by unfold vq kf;rw [ay h,ay h1]
theorem aii{ms:List aD}{i c v x:Nat}(hT:w8 ms)(hr:oC ms i c v)(hx:x<((aa (aa (aa ms i).cs c).vs v)).es.length)(ht:nk ((aa (aa (aa (aa ms i).cs c).vs v).es x)).x=true):
  ∃i' x',kf ms i c v x=some (i',x')∧oC ms i' c v∧x'<((aa (aa (aa ms i').cs c).vs v)).es.length∧BY ((aa (aa (aa (aa ms i).cs c).vs v).es x)).x ((aa (aa (aa (aa ms i').cs c).vs v).es x')).x=true:=by
 have hn:∀j,j<((aa (aa (aa (aa ms i).cs c).vs v).es x)).x.hs.length→(aa ((aa (aa (aa (aa ms i).cs c).vs v).es x)).x.hs j).ey=true→vi (jU ms) i c v x (aa ((aa (aa (aa (aa ms i).cs c).vs v).es x)).x.hs j).pt:=fun j hj h=>hT i c v x j ⟨hr.li,hr.lc,hr.lv,hx,hj⟩ h
 simp only [nk,ft,iK,lD]at ht
 obtain⟨_,h,hh,s4⟩:=ht
 obtain⟨j,hj,rfl⟩:=fX hh
 have e1:aa ((aa (aa (aa (aa ms i).cs c).vs v).es x)).x.hs j=((aa (aa (aa (aa ms i).cs c).vs v).es x)).x.hs[j]:=dG hj
 obtain⟨k,l,hs,hk,hp⟩:=hn j hj (by rw [e1];exact s4)
 rw [Lp hr.li hr.lc hr.lv,PT]at hs
 cases hq:kf ms i c v x with
 |none=>rw [hq]at hs;cases hs
 |some p=>
  obtain⟨i',x'⟩:=p
  rw [hq]at hs
  simp only [tz,Option.some.injEq]at hs
  obtain⟨g1,g2⟩:=LL hr hq
  refine⟨i',x',rfl,g1,g2,?_⟩
  have ct:((aa (aa (aa (aa ms i').cs c).vs v).es x')).x.n.bh=1:=by
   have:=aC Prod.fst hs
   simp only [lR]at this
   omega
  unfold BY
  rw [Bool.or_eq_true,zw]
  right
  intro q xd
  unfold yj
  rw [Bool.or_eq_true]
  by_cases Xa:q.ey=true
  ·right
   obtain⟨j',er,rfl⟩:=fX xd
   have e2:aa ((aa (aa (aa (aa ms i).cs c).vs v).es x)).x.hs j'=((aa (aa (aa (aa ms i).cs c).vs v).es x)).x.hs[j']:=dG er
   obtain⟨k2,l2,eR,qF,ue⟩:=hn j' er (by rw [e2];exact Xa)
   rw [Lp hr.li hr.lc hr.lv,PT,hq]at eR
   simp only [tz,Option.some.injEq]at eR
   have e3:((aa (aa (aa (aa ms i').cs c).vs v).es x')).x.hs.map Hd.pt=l2:=aC Prod.snd eR
   rw [←e3,e2]at ue
   obtain⟨z,hz,HG⟩:=cM.1 ue
   rw [ft,iK,lD]
   refine⟨ct,z,hz,?_⟩
   have h1:=aC aY.step HG
   have h2:=aC aY.bU HG
   have h3:=aC aY.bH HG
   simp only [Hd.pt]at h1 h2 h3
   simp [BX,h1,h2,h3]
  ·left;simpa using Xa
structure rQ where
 sY:Int
 cD:Int
 sX:Int
 oA:Int
instance:Inhabited rQ:=⟨⟨0,0,0,0⟩⟩
def rQ.enc(p:rQ):List Value:= [.int .i64 p.sY,.int .i64 p.cD,.int .i64 p.sX,.int .i64 p.oA]
def rQ.val(p:rQ):Value:= .agg p.enc.toArray
structure gP where
 bh:Int
 fr:rQ
 kz:rQ
instance:Inhabited gP:=⟨⟨0,default,default⟩⟩
def gP.enc(s:gP):List Value:= [.int .i64 s.bh,.int .i64 s.fr.sY,.int .i64 s.fr.cD,.int .i64 s.fr.sX,.int .i64 s.fr.oA,.int .i64 s.kz.sY,.int .i64 s.kz.cD,.int .i64 s.kz.sX,.int .i64 s.kz.oA]
def gP.val(s:gP):Value:= .agg s.enc.toArray
def gY(a b:Int):Int:=if a<b then-1 else if b<a then 1 else 0
def oD:List Int→Int
 | []=>0
 |a::l=>if a=0 then oD l else a
def Av(a b:rQ):Int:=oD [gY a.sY b.sY,gY a.cD b.cD]
def yF(n h:Int):Bool:=decide (0≤n)&&decide (n≤h)
def vr(p:rQ):Bool:=yF p.sY 1023&&(yF p.cD 4398046511104&&(yF p.sX 127&&yF p.oA 1))
def Cq(k:Int):Bool:=k==1||k==7
def xe(k:Int):Int:=if k<1∨7<k then 0 else aa [1,2,2,4,4,6,7] (k-1).toNat
def s5(s:gP):Int:=if s.bh<1∨7<s.bh then 11 else if(vr s.fr&&vr s.kz)=false then 2 else if s.fr.sX≠s.kz.sX∨(Cq s.bh=true∧s.fr.oA≠s.kz.oA)then 23 else if 0≤Av s.fr s.kz then 25 else 0
def mq(a b:gP):Bool:=decide (0<xe a.bh)&&(xe a.bh==xe b.bh&&(a.fr.sX==b.fr.sX&&(!Cq a.bh||a.fr.oA==b.fr.oA)))
def Aw(a b:gP):Bool:=decide (Av a.kz b.fr≤0)||decide (Av b.kz a.fr≤0)
def Cr(a b:gP):Bool:=decide (Av a.kz b.fr<0)||decide (Av b.kz a.fr<0)
def Cs(a b:gP):Bool:=decide (0≤Av a.fr b.fr)&&decide (Av a.kz b.kz≤0)
def EX(a b:gP):Bool:= !Aw a b&&(Cs a b==Cs b a)
def mO(a b:gP):Bool:=mq a b&&(if a.bh=1 then EX a b else if a.bh=2∨a.bh=3∨a.bh=6 then !Aw a b else !Cr a b)
def rR:ba:=⟨0,0⟩
def mP(s:aw)(id:ba):Option dF:=if id=rR then none else(dh s).find? fun x=>decide (x.id=id)
def Ct(s:aw)(i c v x:Nat):Int:=aa (mn (VL ((aa (aa (aa s.ms i).cs c).vs v)) (aa s.ms i).n.met.ln)) x
def kg(s:aw)(id:ba):Option rQ:=match mP s id with
 |some x=>if x.pl.bh=4 then some ⟨x.pl.sY,Ct s x.pl.sY.toNat x.pl.sX.toNat x.pl.oA.toNat x.pl.PK.toNat,x.pl.sX,x.pl.oA⟩else none
 |none=>none
theorem Xb{s:aw}{x:dF}(h:x∈dh s)(hk:x.pl.bh=4):∃i c v k,x=oB s i c v k∧i<s.ms.length∧c<(aa s.ms i).cs.length∧v<((aa (aa s.ms i).cs c)).vs.length∧k<((aa (aa (aa s.ms i).cs c).vs v)).es.length:=by
 unfold dh at h
 rcases dJ.1 h with h|h
 ·rcases dJ.1 h with h|h
  ·obtain⟨k,_,h⟩:=ja.1 h
   rcases ib.1 h with rfl|h
   ·exact absurd hk (show¬(1:Int)=4 by decide)
   ·obtain⟨j,_,rfl⟩:=cM.1 h
    exact absurd hk (show¬(2:Int)=4 by decide)
  ·obtain⟨i,hi,h⟩:=ja.1 h
   rcases ib.1 h with rfl|h
   ·exact absurd hk (show¬(3:Int)=4 by decide)
   ·obtain⟨c,hc,h⟩:=ja.1 h
    obtain⟨v,hv,h⟩:=ja.1 h
    obtain⟨k,vt,rfl⟩:=cM.1 h
    exact⟨i,c,v,k,rfl,fY.1 hi,fY.1 hc,fY.1 hv,fY.1 vt⟩
 ·obtain⟨j,_,rfl⟩:=cM.1 h
  exact absurd hk (show¬(5:Int)=4 by decide)
theorem PU{s:aw}{id:ba}{x:dF}(h:mP s id=some x):x∈dh s∧x.id=id∧id≠rR:=by
 unfold mP at h
 split at h
 ·cases h
 ·rename_i hz
  exact⟨List.mem_of_find?_eq_some h,by simpa using List.find?_some h,hz⟩
theorem PW(s:aw)(id:ba):(mP s id=none∧kg s id=none)∨(∃x,mP s id=some x∧x.pl.bh≠4∧kg s id=none)∨
  ∃i c v k,mP s id=some (oB s i c v k)∧kg s id=some ⟨i,Ct s i c v k,c,v⟩∧i<s.ms.length∧c<(aa s.ms i).cs.length∧v<((aa (aa s.ms i).cs c)).vs.length∧k<((aa (aa (aa s.ms i).cs c).vs v)).es.length:=by
 cases h:mP s id with
 |none=>exact .inl ⟨rfl,by unfold kg;rw [h]⟩
 |some x=>
  by_cases hk:x.pl.bh=4
  ·obtain⟨i,c,v,k,rfl,h1,h2,h3,h4⟩:=Xb (PU h).1 hk
   refine .inr (.inr ⟨i,c,v,k,rfl,?_,h1,h2,h3,h4⟩)
   unfold kg
   rw [h]
   show(if(4:Int)=4 then _ else _)=_
   rw [aG rfl]
   rfl
  ·exact .inr (.inl ⟨x,rfl,hk,by unfold kg;rw [h];show(if x.pl.bh=4 then _ else _)=_;rw [ay hk]⟩)
def lV(s:aw)(j:Nat):gP:=⟨(aa s.sp j).bh,(kg s (aa s.sp j).u7).getD default,(kg s (aa s.sp j).kz).getD default⟩
def iS(s:aw)(j:Nat):Bool:= !(kg s (aa s.sp j).u7).isSome||(!(kg s (aa s.sp j).kz).isSome||s5 (lV s j) !=0)
def qV(s:aw)(k:Nat):List gP:=(List.range k).map (lV s)
def mu(s:aw)(k:Nat):List Bool:=(List.range k).map (iS s)
def qm(b:Bool):List Value:= [.bool b]
theorem Xc{s:aw}{k:Nat}:(qV s k).length=k:=by simp [qV]
theorem PX{s:aw}{k:Nat}:(mu s k).length=k:=by simp [mu]
theorem Xd{s:aw}{k j:Nat}(h:j<k):aa (qV s k) j=lV s j:=by simp [qV,aa,h]
theorem PY{s:aw}{k j:Nat}(h:j<k):aa (mu s k) j=iS s j:=by simp [mu,aa,h]
theorem PZ{s:aw}{k:Nat}:qV s (k+1)=qV s k++ [lV s k]:=by simp [qV,oU]
theorem P0{s:aw}{k:Nat}:mu s (k+1)=mu s k++ [iS s k]:=by simp [mu,oU]
def mv(s:aw)(i k:Nat):Bool:= !iS s i&&(List.range k).any fun q=> !iS s q&&mO (lV s q) (lV s i)
theorem aij{s:aw}{i:Nat}:mv s i 0=false:=by simp [mv]
theorem Xe{s:aw}{i k:Nat}:mv s i (k+1)=(mv s i k||(!iS s i&&(!iS s k&&mO (lV s k) (lV s i)))):=by
 unfold mv
 rw [oU,List.any_append]
 simp [Bool.and_or_distrib_left]
theorem aik{s:aw}{i k n:Nat}(hk:k≤n)(h:mv s i k=true):mv s i n=true:=by
 unfold mv at*
 rw [ft,lD]at*
 obtain⟨h1,q,hq,h2⟩:=h
 exact⟨h1,q,fY.2 (by have:=fY.1 hq;omega),h2⟩
theorem Xf{s:aw}{i k:Nat}(h:iS s i=true):mv s i k=false:=by unfold mv;rw [h];rfl
def LM(s:aw):Prop:=∀j,j<s.sp.length→iS s j=false
def LN(s:aw):Prop:=∀i,i<s.sp.length→mv s i i=false
def kD:Bool→List aD→Option Bool
 |st, []=>some st
 |st,m::ms=>if m.n.start=true∧st=true then none else kD (if m.n.fv≠0 then false else(m.n.start||st)) ms
def vu(s:aw):Prop:=kD false s.ms=some false
theorem Xg{st:Bool}{m:aD}:∀{l:List aD},kD st (l++ [m])=(kD st l).bind fun b=>kD b [m]:=by
 intro l
 induction l generalizing st with
 |nil=>rfl
 |cons a l ih=>
  rw [Bt,kD,kD]
  split
  ·rfl
  ·exact ih
theorem ail{st:Bool}{l r:List aD}(h:kD st l=none):kD st (l++r)=none:=by
 induction l generalizing st with
 |nil=>cases h
 |cons a l ih=>
  rw [Bt,kD]
  rw [kD]at h
  split
  ·rfl
  ·rename_i hn;rw [ay hn]at h;exact ih h
def oE(s:aw)(i c v x:Nat):Bool:=match kf s.ms i c v x with
 |some (i',_)=>nk ((aa (aa (aa (aa s.ms i).cs c).vs v).es x)).x&&(decide (i'≠i)&&(decide ((aa s.ms i).n.fv≠0)||(aa s.ms i').n.start))
 |none=>false
def Cu(s:aw):Prop:=∀i c v x,i<s.ms.length→c<(aa s.ms i).cs.length→v<((aa (aa s.ms i).cs c)).vs.length→x<((aa (aa (aa s.ms i).cs c).vs v)).es.length→oE s i c v x=false
def mQ(s:aw):Prop:=LM s∧LN s∧vu s∧Cu s
theorem LO{α β:Type} [Inhabited α](l:List α)(f:α→β):(List.range l.length).map (fun k=>f (aa l k))=l.map f:=by
 apply xT
 intro i
 rw [jt,jt]
 by_cases h:i<l.length
 ·rw [List.getElem?_range h,j4 h];simp [aa,h]
 ·rw [tB (by simpa using h),tB (by simpa using h)];rfl
theorem EY{α β:Type} [Inhabited α](l:List α)(f:α→List β):(List.range l.length).flatMap (fun k=>f (aa l k))=l.flatMap f:=by
 rw [tC,tC,LO]
theorem LP(s:aw):(dh s).map dF.id=nu s:=by
 unfold dh nu
 rw [cB,cB]
 congr 1
 ·congr 1
  ·unfold px
   rw [←EY s.ps,sE]
   refine Aq fun k hk=>?_
   unfold w_ EN
   rw [sB,oV,←LO (aa s.ps k).st]
   rfl
  ·unfold yE
   rw [←EY s.ms,sE]
   refine Aq fun i hi=>?_
   unfold rO yB
   rw [sB]
   refine aC (_:: ·) ?_
   unfold dD
   rw [←EY (aa s.ms i).cs,sE,sE]
   refine Aq fun c hc=>?_
   unfold s3 gE
   rw [←EY (aa (aa s.ms i).cs c).vs,sE,sE]
   refine Aq fun v hv=>?_
   unfold ud
   rw [oV,←LO (aa (aa (aa s.ms i).cs c).vs v).es]
   rfl
 ·unfold EU
  rw [oV,←LO s.sp]
  rfl
theorem Xh(s:aw):(dh s).length=(nu s).length:=by rw [←LP s,bD]
theorem Xi{s:aw}{k:Nat}(hk:k<(dh s).length):(aa (dh s) k).id=aa (nu s) k:=by
 rw [←LP s]
 simp [aa,hk]
theorem P1{s:aw}(hB:cx s){j k:Nat}(hj:j<k)(hk:k<(nu s).length):aa (nu s) j≠aa (nu s) k:=by
 have er:j<(nu s).length:=oM
 rw [dG er,dG hk]
 exact zB.1 hB.nd j k er hk hj
theorem aim{l:List ba}{k:Nat}{st:Int}(hk:k<l.length)(h1:(aa l k).bg=st)(h2:∀j,j<k→(aa l j).bg≠st):rN l st=(aa l k).aH:=by
 induction l generalizing k with
 |nil=>simp at hk
 |cons a l ih=>
  cases k with
  |zero=>have HH:a.bg=st:=h1;simp [rN,HH,aa]
  |succ k=>
   have h0:a.bg≠st:=h2 0  oM
   have:=ih (k:=k) (by simpa using hk) (by simpa [aa]using h1) fun j hj=>by have:=h2 (j+1)  oM ;simpa [aa]using this
   rw [show rN (a::l) st=rN l st by simp [rN,h0],this]
   simp [aa]
theorem ain{l:List ba}{st:Int}(h:∀j,j<l.length→(aa l j).bg≠st):rN l st=0:=by
 have e:l.find? (fun x=>x.bg==st)=none:=List.find?_eq_none.2 fun x hx=>by
  obtain⟨j,hj,rfl⟩:=fX hx
  have:=h j hj
  simpa [aa,hj]using this
 rw [rN,e];rfl
namespace Hr
def ajk(K:Value→Prop)(f:Value→Option Value)(w:World):Option Nat→Prop
 |none=>∀k,f k=none
 |some b=>(ak.fR b K f).holds w
def ak.oG(q:Option Nat)(K:Value→Prop)(f:Value→Option Value):ak:=
 .any (fun k=>q=some k) (fun w=>ajk K f w q) (fun w h k hk=>by subst hk;exact(show(ak.fR k K f).holds w from h).lt k rfl)
  (fun w w' h hk=>by
   cases q with
   |none=>exact h
   |some b=>exact(show(ak.fR b K f).holds w from h).og fun k x3=>hk k (by rw [show b=k from x3]))
theorem cN.toO{b:Nat}{K:Value→Prop}{f:Value→Option Value}:cN (.fR b K f) (.oG (some b) K f):=
 ⟨fun k hk=>by
  have e:some b=some k:=hk
  injection e,fun w h=>h⟩
theorem ar.XK{K:Value→Prop}{m:List ak}:ar m (.oG none K (fun _=>none)::m):=fun X W w h=>by
 refine⟨h.cons (fun _=>rfl) (fun b hb=>?_) (fun s hs b hb=>?_),fun r' j6 b hb=>?_⟩
 ·cases(show none=some b from hb)
 ·cases(show none=some b from hb)
 ·rcases ib.1 j6 with rfl|j6
  ·cases(show none=some b from hb)
  ·exact⟨r',j6,hb⟩
section
variable{P:Program}{X:Nat→Prop}{W:World}{n:Nat}{S:St}{ah:List (Nat×Value)}{mem:List ak}{o:Oper}{a:Act}{w:World}{d:Tmp}{x y z:Operand}{t kt et:TypeId}{K:Value→Prop}{f:Value→Option Value}
theorem XL{q:Option Nat}{l:List ak}{k zv v:Value}{c:Bool}(ho:o.op= .lookup t x y true)(ht:P.underlying t=some (.map kt et))(hK:AF P kt K)(hx:ev S.ah x=some (.map q))(hy:ev S.ah y=some k)
  (hs:ag S.mem (ak.oG q K f) l)(hk:K k)(hz:∀w,(zeroValue et).run P w= .ok zv w)(hv:(f k).getD zv=v)(hc:(f k).isSome=c):Q1 P X W n S o (.tuple #[v,.bool c]):=by
 cases q with
 |some b=>exact ajg ho ht hK hx hy (fun w _ hm=>hs.holds hm) hk hz hv hc
 |none=>
  exact fun a w cF=> .inl (by
   have h0:∀k,f k=none:=hs.holds cF.mem
   rw [h0]at hv hc
   subst hv hc
   have hf:=hK.LS (es:= []) hk  sM  w
   simp [nY]at hf
   simp [execOp,ho,cF.eval hx,cF.eval hy,Instr.lookup,cL ht,hK.tS hk,hf,hz,Result.andThen])
end
end Hr
namespace aZ
section
variable{α:Type} [Inhabited α]
theorem Qr{L R:List α}{x:α}{i:Nat}(h:i=L.length):aa (L++x::R) i=x:=by
 subst h;simp [aa,uC]
theorem LY{α:Type}{L R:List α}{x y:α}{i:Nat}(h:i=L.length):(L++x::R).set i y=L++y::R:=by
 subst h;rw [zG _ _ (cm _),zH];rfl
theorem nO{L R:List α}{i j:Nat}(h:i=L.length+j):aa (L++R) i=aa R j:=by
 subst h;simp [aa,uC]
theorem XR{L R:List α}{i:Nat}(h:i<L.length):aa (L++R) i=aa L i:=by
 simp [aa,Bu h]
theorem Oq{L:List α}{i k:Nat}(h:i<k):aa (L.take k) i=aa L i:=by simp [aa,DT,h]
theorem Hg{L:List α}{i k:Nat}:aa (L.drop k) i=aa L (k+i):=by simp [aa]
def qq(p a m b s:List α)(k:Nat):List α:=p++(b.take k++(a.drop k++(m++(a.take k++(b.drop k++s)))))
theorem ajp{α:Type}{p a m b s:List α}:qq p a m b s 0=p++(a++(m++(b++s))):=by simp [qq]
theorem ajq{α:Type}{p a m b s:List α}{k:Nat}(ha:a.length=k)(hb:b.length=k):qq p a m b s k=p++(b++(m++(a++s))):=by
 rw [qq,gU  oM,gU  oM,sA  oM,sA  oM];simp
theorem E8{α:Type}{p a m b s:List α}{k:Nat}(ha:k≤a.length)(hb:k≤b.length):(qq p a m b s k).length=p.length+(a.length+(m.length+(b.length+s.length))):=by
 simp only [qq,aP,fL,pM];omega
theorem ajr{p a m b s:List α}{k i:Nat}(ha:k<a.length)(hb:k<b.length)(hi:i=p.length+k):aa (qq p a m b s k) i=aa a k:=by
 rw [qq,nD ha,←bP]
 exact Qr (by simp only [aP,fL];omega)
theorem ajs{p a m b s:List α}{k i:Nat}(ha:k<a.length)(hb:k<b.length)(hi:i=p.length+a.length+m.length+k):aa (qq p a m b s k) i=aa b k:=by
 rw [qq,nD hb]
 have e:p++(b.take k++(a.drop k++(m++(a.take k++(aa b k::b.drop (k+1)++s)))))=(p++(b.take k++(a.drop k++(m++a.take k))))++aa b k::(b.drop (k+1)++s):=by simp
 rw [e]
 exact Qr (by simp only [aP,fL,pM];omega)
theorem ajt{p a m b s:List α}{k i j:Nat}(ha:k<a.length)(hb:k<b.length)(hi:i=p.length+k)(hj:j=p.length+a.length+m.length+k):
  ((qq p a m b s k).set i (aa b k)).set j (aa a k)=qq p a m b s (k+1):=by
 have e1:qq p a m b s k=(p++b.take k)++aa a k::(a.drop (k+1)++(m++(a.take k++(b.drop k++s)))):=by rw [qq,nD ha];simp
 rw [e1,LY (by simp only [aP,fL];omega),nD hb]
 have e2:(p++b.take k)++aa b k::(a.drop (k+1)++(m++(a.take k++(aa b k::b.drop (k+1)++s))))=(p++(b.take k++([aa b k]++(a.drop (k+1)++(m++a.take k)))))++aa b k::(b.drop (k+1)++s):=by simp
 rw [e2,LY (by simp only [aP,fL,pM,fW,jq];omega),qq,o6 ha,o6 hb]
 simp
variable{lt:α→α→Bool}
theorem tN.refl{α:Type}{lt:α→α→Bool}(hw:tN lt)(a:α):lt a a=false:=by
 cases h:lt a a with
 |false=>rfl
 |true=>have:=hw.G1 h;rw [h]at this;cases this
theorem c6.le(hw:tN lt){l:List α}(h:c6 lt l){i j:Nat}(j7:i≤j)(hj:j<l.length):lt (Hr.aa l j) (Hr.aa l i)=false:=by
 by_cases e:i=j
 ·subst e;exact hw.refl _
 ·exact h.aa  oM hj
theorem XS(hw:tN lt){s:List α}{x:α}{t:Nat}(hs:c6 lt s)(ht:t≤s.length)(h1:t=0∨lt x (Hr.aa s (t-1))=false)(h2:t=s.length∨lt (Hr.aa s t) x=false):c6 lt (s.take t++x::s.drop t):=by
 refine rj.2 ⟨hs.take _,DS.2 ⟨fun y hy=>?_,hs.sublist (List.drop_sublist _ _)⟩,fun a ha b hb=>?_⟩
 ·obtain⟨j,h3,h4,rfl⟩:=Aa hy
  rcases h2 with h2|h2
  ·omega
  ·exact hw.trans h2 (hs.le hw h3 h4)
 ·obtain⟨i,h3,h4,rfl⟩:=Eg ha
  rcases ib.1 hb with rfl|hb
  ·rcases h1 with h1|h1
   ·omega
   ·exact hw.trans (hs.le hw (show i≤t-1 by omega)  oM) h1
  ·obtain⟨j,h5,h6,rfl⟩:=Aa hb
   exact hs.le hw  oM h6
theorem XT{α:Type}{s:List α}{x:α}{t:Nat}:(s.take t++x::s.drop t).Perm (x::s):=by
 refine(wk).trans (.cons _ ?_)
 rw [rk]
theorem aju(hw:tN lt){x y z1 z2:List α}{u v:Nat}(hx:c6 lt x)(hy:c6 lt y)(h1:z1.Perm (x.take u++y.take v))(h2:z2.Perm (x.drop u++y.drop v))(s1:c6 lt z1)(s2:c6 lt z2)
  (hu:u≤x.length)(hv:v≤y.length)(hA:u=0∨v=y.length∨lt (Hr.aa y v) (Hr.aa x (u-1))=false)(hB:v=0∨u=x.length∨lt (Hr.aa y (v-1)) (Hr.aa x u)=true):c6 lt (z1++z2):=by
 refine rj.2 ⟨s1,s2,fun a ha b hb=>?_⟩
 have xi:=h1.mem_iff.1 ha
 have nf:=h2.mem_iff.1 hb
 rcases dJ.1 xi with xi|xi<;>rcases dJ.1 nf with nf|nf
 ·obtain⟨i,h3,h4,rfl⟩:=Eg xi
  obtain⟨j,h5,h6,rfl⟩:=Aa nf
  exact hx.le hw  oM h6
 ·obtain⟨i,h3,h4,rfl⟩:=Eg xi
  obtain⟨j,h5,h6,rfl⟩:=Aa nf
  rcases hA with h|h|h
  ·omega
  ·omega
  ·exact hw.trans (hw.trans (hx.le hw (show i≤u-1 by omega)  oM) h) (hy.le hw h5 h6)
 ·obtain⟨i,h3,h4,rfl⟩:=Eg xi
  obtain⟨j,h5,h6,rfl⟩:=Aa nf
  rcases hB with h|h|h
  ·omega
  ·omega
  ·exact hw.trans (hw.trans (hy.le hw (show i≤v-1 by omega)  oM) (hw.G1 h)) (hx.le hw h5 h6)
 ·obtain⟨i,h3,h4,rfl⟩:=Eg xi
  obtain⟨j,h5,h6,rfl⟩:=Aa nf
  exact hy.le hw  oM h6
theorem ajv{α:Type}{x y z1 z2:List α}{u v:Nat}(h1:z1.Perm (x.take u++y.take v))(h2:z2.Perm (x.drop u++y.drop v)):(z1++z2).Perm (x++y):=by
 refine(h1.append h2).trans ?_
 have e:(x++y).Perm ((x.take u++x.drop u)++(y.take v++y.drop v)):=by rw [rk,rk]
 refine List.Perm.trans ?_ e.symm
 rw [bP,bP]
 refine List.Perm.append_left _ ?_
 rw [←bP,←bP]
 exact List.Perm.append_right _ NT
def xj(lt:α→α→Bool)(p x y s d:List α):Prop:=∃z,z.Perm (x++y)∧c6 lt z∧d=p++(z++s)
theorem xj.len{α:Type}{lt:α→α→Bool}{p x y s d:List α}(h:xj lt p x y s d):d.length=p.length+(x.length+(y.length+s.length)):=by
 obtain⟨z,h1,_,rfl⟩:=h
 have:=h1.length_eq
 simp only [aP]at this⊢;omega
theorem ajw{s:List α}{t:α}{r:List α}{j:Nat}(h:j<s.length):((gw s t r j).set j (aa s j)).set (j+1) t=gw s t r (j+1):=by
 have h1:(s.take j).length=j:=by rw [fL];omega
 unfold gw
 rw [LY  oM,nD h]
 have e:s.take j++aa s j::(aa s j::s.drop (j+1)++r)=(s.take j++ [aa s j])++aa s j::(s.drop (j+1)++r):=by simp
 rw [e,LY (by simp;omega),o6 h]
theorem ajx{s:List α}{t:α}{r:List α}{j:Nat}(h:j<s.length):aa (gw s t r j) (j+1)=aa s j:=by
 have h1:(s.take j).length=j:=by rw [fL];omega
 unfold gw
 rw [nD h]
 have e:s.take j++t::(aa s j::s.drop (j+1)++r)=(s.take j++ [t])++aa s j::(s.drop (j+1)++r):=by simp
 rw [e]
 exact Qr (by simp;omega)
theorem HU{α:Type}{p l:List α}{i j:Nat}{v:α}(h:i=p.length+j):(p++l).set i v=p++l.set j v:=by
 subst h;rw [zG _ _  oM,J2]
theorem CF{p x r:List α}{i k:Nat}(hi:i=p.length+k)(hk:k<x.length):aa (p++(x++r)) i=aa x k:=by
 rw [nO hi,XR hk]
theorem Qs{p x y r:List α}{i k:Nat}(hi:i=p.length+x.length+k)(hk:k<y.length):aa (p++(x++(y++r))) i=aa y k:=by
 rw [nO (j:=x.length+k)  oM,nO rfl,XR hk]
theorem XU{α:Type}{p x r:List α}{i k:Nat}{v:α}(hi:i=p.length+k)(hk:k<x.length):(p++(x++r)).set i v=p++(x.set k v++r):=by
 rw [HU hi,List.set_append_left _ _ hk]
theorem ajy{p s:List α}{t:α}{r:List α}{i i' j:Nat}(h:j<s.length)(hi:i=p.length+j)(eA:i'=p.length+(j+1)):((p++gw s t r j).set i (aa s j)).set i' t=p++gw s t r (j+1):=by
 rw [HU hi,HU eA,ajw h]
theorem ajz{p s:List α}{t:α}{r:List α}{i i' j:Nat}(h:j+1≤s.length)(hi:i=p.length+(j+1))(eA:i'=p.length+j):((p++gw s t r (j+1)).set i (aa s j)).set i' t=p++gw s t r j:=by
 rw [HU hi,HU eA,Vc h]
theorem XV{p s:List α}{t:α}{r:List α}{i j:Nat}(h:j≤s.length)(hi:i=p.length+j):aa (p++gw s t r j) i=t:=by
 rw [nO hi,OH h]
theorem ajA{p s:List α}{t:α}{r:List α}{i j:Nat}(h:j<s.length)(hi:i=p.length+(j+1)):aa (p++gw s t r j) i=aa s j:=by
 rw [nO hi,ajx h]
theorem ajB{p s:List α}{t:α}{r:List α}{i j:Nat}(h:j+1≤s.length)(hi:i=p.length+j):aa (p++gw s t r (j+1)) i=aa s j:=by
 rw [nO hi,OI h]
theorem ug{α:Type}{p s:List α}{t:α}{r:List α}{j:Nat}(h:j≤s.length):(p++gw s t r j).length=p.length+(s.length+(1+r.length)):=by
 rw [aP,KN h];omega
theorem XW{α:Type}{p s:List α}{t:α}{r:List α}{j:Nat}:p++gw s t r j=p++((s.take j++t::s.drop j)++r):=by simp [gw]
theorem ajC{p s:List α}{t:α}{r q:List α}{i i' j:Nat}(h:j+1≤s.length)(hi:i=p.length+(j+1))(eA:i'=p.length+j):((p++(gw s t r (j+1)++q)).set i (aa s j)).set i' t=p++(gw s t r j++q):=by
 rw [XU hi (by rw [KN h];omega),XU eA (by rw [eM,KN h];omega),Vc h]
theorem ajD(hw:tN lt){p y s:List α}{a:α}{i:Nat}(hy:c6 lt y)(hi:i≤y.length)(h1:i=0∨lt (Hr.aa y (i-1)) a=true)(h2:i=y.length∨lt (Hr.aa y i) a=false):xj lt p [a] y s (p++gw y a s i):=
 ⟨_,XT,XS hw hy hi (h1.imp_right fun h=>hw.G1 h) h2,XW⟩
theorem ajE(hw:tN lt){p x s:List α}{b:α}{i:Nat}(hx:c6 lt x)(hi:i≤x.length)(h1:i=0∨lt b (Hr.aa x (i-1))=false)(h2:i=x.length∨lt b (Hr.aa x i)=true):xj lt p x [b] s (p++gw x b s i):=
 ⟨_,XT.trans (NT (l₁:= [b])),XS hw hx hi h1 (h2.imp_right fun h=>hw.G1 h),XW⟩
theorem ki(hw:tN lt){p x y s z1 z2 d:List α}{u v:Nat}(hx:c6 lt x)(hy:c6 lt y)(h1:z1.Perm (x.take u++y.take v))(h2:z2.Perm (x.drop u++y.drop v))(s1:c6 lt z1)(s2:c6 lt z2)
  (hu:u≤x.length)(hv:v≤y.length)(hA:u=0∨v=y.length∨lt (Hr.aa y v) (Hr.aa x (u-1))=false)(hB:v=0∨u=x.length∨lt (Hr.aa y (v-1)) (Hr.aa x u)=true)(hd:d=p++(z1++(z2++s))):xj lt p x y s d:=
 ⟨z1++z2,ajv h1 h2,aju hw hx hy h1 h2 s1 s2 hu hv hA hB,by rw [hd,bP]⟩
theorem XX{α:Type}{x y r:List α}{u v:Nat}(h:u=x.length∨v=0):x++(y++r)=x.take u++(y.take v++(x.drop u++(y.drop v++r))):=by
 rcases h with h|h
 ·subst h;simp only [zC,List.drop_length,Bx];rw [←bP (y.take v),rk]
 ·subst h;simp only [List.take_zero,List.drop_zero,Bx];rw [←bP (x.take u),rk]
theorem ajF{α:Type}{x y r:List α}{u v:Nat}:x++(y++r)=x.take u++(x.drop u++(y.take v++(y.drop v++r))):=by
 rw [←bP (x.take u),rk,←bP (y.take v),rk]
theorem c6.drop{α:Type}{lt:α→α→Bool}{l:List α}(h:c6 lt l)(k:Nat):c6 lt (l.drop k):=h.sublist (List.drop_sublist _ _)
theorem E9{α:Type}{lt:α→α→Bool}{x y:List α}{u v:Nat}(hx:c6 lt x)(hy:c6 lt y)(h:u=0∨v=0):c6 lt (x.take u++y.take v):=by
 rcases h with h|h
 ·subst h;rw [List.take_zero,Bx];exact hy.take _
 ·subst h;rw [List.take_zero,gT];exact hx.take _
theorem oH{α:Type}{lt:α→α→Bool}{x y:List α}{u v:Nat}(hx:c6 lt x)(hy:c6 lt y)(h:u=x.length∨v=y.length):c6 lt (x.drop u++y.drop v):=by
 rcases h with h|h
 ·subst h;rw [List.drop_length,Bx];exact hy.drop _
 ·subst h;rw [List.drop_length,gT];exact hx.drop _
theorem yM(y:Int):y.fdiv (2^(min (1:Int).toNat IntKind.u64.bits))=y/2:=by
 show y.fdiv 2=y/2
 exact Int.fdiv_eq_ediv_of_nonneg _ (by decide)
theorem uw{y:Int}(h:0≤y∧y<18446744073709551616):IntKind.u64.wrap y=y:=by
 simp [IntKind.wrap,IntKind.bits,IntKind.signed];omega
end
end aZ
end Go.Proofs.YtdahjfmmndjcpaaGreat
