/- Part. -/
import Derived.Test.YtdahjfmmndjcpaaGreatQ10
set_option linter.unusedSimpArgs false
set_option linter.unusedVariables false
set_option maxHeartbeats 40000000
set_option maxRecDepth 100000
namespace Go.Proofs.YtdahjfmmndjcpaaGreat
open Go Go.RowKit Hr Go.Proofs.Tryz
structure qo where
 k:Int
 e:Int
 f:Int
 t:Int
instance:Inhabited qo:=⟨⟨0,0,0,0⟩⟩
def qo.enc(l:qo):List Value:= [.int .u8 l.k,.int .u8 l.e,.int .u8 l.f,.int .u8 l.t]
structure qo.ok(l:qo):Prop where
 k:0≤l.k∧l.k≤255
 e:0≤l.e∧l.e≤255
 f:0≤l.f∧l.f≤255
 t:0≤l.t∧l.t≤255
def ais(x:Int):List Value:= [.int .u8 x]
structure uf where
 HJ:List Int
 kh:List iR
 py:List qo
 wr:Bool
 PA:Option Addr
 pc:Nat
 BA:Option Addr
 bc:Nat
 LA:Option Addr
 lc:Nat
def uf.enc(o:uf):List Value:= [.slice o.PA o.HJ.length o.pc,.slice o.BA o.kh.length o.bc,.slice o.LA o.py.length o.lc,.bool o.wr]
def uf.val(o:uf):Value:= .agg o.enc.toArray
structure uf.rd(w:World)(o:uf):Prop where
 p:Rd w o.PA 1 (o.HJ.map ais)
 b:Rd w o.BA 5 (o.kh.map iR.enc)
 br:∀x∈o.kh,x.rd w
 l:Rd w o.LA 4 (o.py.map qo.enc)
structure uf.ok(o:uf):Prop where
 pl:o.HJ.length≤9223372036854775807
 p:∀x∈o.HJ,0≤x∧x≤255
 bl:o.kh.length≤9223372036854775807
 av1:o.kh.length≤o.bc
 b:∀x∈o.kh,x.ok
 ll:o.py.length≤9223372036854775807
 l:∀x∈o.py,x.ok
theorem iR.rd.az{b:iR}{w w':World}(h:b.rd w)(hk:aU nX w w'):b.rd w':=⟨h.v.az hk,fun x hx=>(h.r x hx).az hk⟩
def ait(w:World)(A:Option Addr)(kh:List iR):Prop:=Rd w A 5 (kh.map iR.enc)∧∀b∈kh,b.rd w
def HK:iR:=⟨0,0,0,0, [],none,0⟩
theorem aiu:HK.ok:=⟨by decide,by decide,by decide,by decide,by decide,fun x hx=>absurd hx (by simp [HK])⟩
theorem aiv{w:World}:HK.rd w:=⟨.inl rfl,fun x hx=>absurd hx (by simp [HK])⟩
theorem xg{q:Nat}(h:q<4):([[.string (ByteArray.mk #[70,108,117,116,101])], [.string (ByteArray.mk #[67,108,97,114,105,110,101,116])], [.string (ByteArray.mk #[80,105,97,110,111])], [.string (ByteArray.mk #[86,105,111,108,97])]]:List (List Value))[q]?=some [.string (aa pq q)]:=by
 have:q=0∨q=1∨q=2∨q=3:=oM
 rcases this with rfl|rfl|rfl|rfl<;>rfl
namespace Hr
theorem Xl{W w w':World}{rs l:List ak}(hk:aU nX W w)(hm:Mem nX W (rs++l) w)(h:aU (aX rs) w w'):aU nX W w':=hk.step h fun k bG _ hy=>by
 obtain⟨r,hr,hb⟩:=hy
 rcases hm.ae r (by simp [hr]) _ hb with h4|h4
 ·omega
 ·exact h4
theorem aiw{X:Nat→Prop}{W w w':World}{rs l:List ak}(hk:aU X W w)(hm:Mem X W (rs++l) w)(h:aU (aX rs) w w'):aU X W w':=hk.step h fun k bG hx hy=>by
 obtain⟨r,hr,hb⟩:=hy
 rcases hm.ae r (by simp [hr]) _ hb with h4|h4
 ·omega
 ·exact hx h4
theorem LQ{X:Nat→Prop}{W w:World}{r:ak}{rs l l':List ak}(hm:Mem X W (rs++l) w)(hs:ag l r l'):∀w',aU (aX rs) w w'→r.holds w':=by
 intro w' bO
 have wX:r∈l:=hs.aR.mem_iff.2 sM
 have hh:r.holds w:=hm.holds _ (J8 _ wX)
 refine hh.og fun b hb=>bO.block b (hh.lt b hb) ?_
 rintro⟨q,hq,nW⟩
 exact(rj.1 hm.apart).2.2 q hq _ wX _ nW hb
end Hr
theorem P4{ps:List bw}{p:bw}:b_ (ps++ [p])=b_ ps++(p.aH::p.st.map ig.aH):=by simp [b_]
theorem Xm{ps:List bw}{p:bw}:bC (ps++ [p])=bC ps+p.st.length:=by simp [bC]
theorem Xn{ps:List bw}{p:bw}(h:gQ 0 (b_ ps))(h1:p.aH=(b_ ps).length+1)(h2:gQ ((b_ ps).length+1) (p.st.map ig.aH)):gQ 0 (b_ (ps++ [p])):=by
 rw [P4]
 refine h.dY (gQ.dY (a:= [p.aH]) (gQ.one (by rw [h1];omega)) ?_)
 simpa using h2
theorem Xo{ps:List bw}(h:∀p∈ps,kS p):(b_ ps).length≤3*ps.length:=by
 induction ps with
 |nil=>simp [b_]
 |cons p ps ih=>
  have h1:=ih fun x hx=>h x (by simp [hx])
  have h2:=(h p sM).st
  have e:b_ (p::ps)=(p.aH::p.st.map ig.aH)++b_ ps:=by simp [b_]
  rw [e]
  simp
  omega
def P5(x:ig):Prop:=x.bg=1∧1≤x.wL∧x.wL≤4
theorem Xp{n q:Int}{st:List ig}{A:Option Addr}{c:Nat}(hq:0≤q∧q≤255)(hl:st.length=1∨st.length=2)(hs:∀x∈st,P5 x):kS ⟨1,n,aa pq (q%4).toNat,(aa gN ((q/4)%6).toNat).cp,(aa gN ((q/4)%6).toNat).bF,st,A,c⟩:=
 ⟨rfl,⟨_,oM,rfl⟩,⟨_,oM,rfl⟩,hl,hs⟩
theorem aix{ms:List aD}{m:aD}:eB (ms++ [m])=eB ms++(m.n.aH::(dD m.cs).map fun e=>e.x.n.aH):=by simp [eB]
theorem Gd.qR{k:Nat}:∀{ms:List aD} {m:aD} {n:Int},Gd k n ms→nU m k (n+(eB ms).length)→Gd k n (ms++ [m])
 | [],m,n,_,h=>⟨by simpa [eB]using h,trivial⟩
 |m0::ms,m,n,hg,h=>by
  refine⟨hg.1,Gd.qR hg.2 ?_⟩
  have e:eB (m0::ms)=(m0.n.aH::(dD m0.cs).map fun e=>e.x.n.aH)++eB ms:=by simp [eB]
  rw [e]at h
  simp only [aP,fW,bD]at h
  rwa [show n+1+((dD m0.cs).length:Int)+(eB ms).length=n+(((dD m0.cs).length+1+(eB ms).length:Nat):Int)from oM]
theorem Xq{k:Nat}:∀{ms:List aD} {n:Int},Gd k n ms→(eB ms).length≤(112*k+1)*ms.length
 | [],n,_=>by simp [eB]
 |m::ms,n,h=>by
  have h1:=Xq h.2
  have h2:=Ln h.1.ce
  rw [h.1.cs]at h2
  have e:eB (m::ms)=(m.n.aH::(dD m.cs).map fun e=>e.x.n.aH)++eB ms:=by simp [eB]
  rw [e]
  simp only [aP,fW,bD,Nat.mul_add,Nat.mul_one]
  omega
theorem aiy{ms fa:List aD}(h:ms.map aD.n=fa.map aD.n)(hl:ms.length=fa.length):∀m∈ms,∃m0∈fa,m.n=m0.n:=by
 intro m hm
 have:m.n∈fa.map aD.n:=by rw [←h];exact cM.2 ⟨m,hm,rfl⟩
 obtain⟨m0,h0,e⟩:=cM.1 this
 exact⟨m0,h0,e.symm⟩
def EZ(wr:Bool)(ps:List bw)(ms:List aD)(PA:Option Addr)(pc:Nat)(MA:Option Addr)(mc:Nat):aw:=⟨vn,wr,ps,ms, [], [],PA,pc,MA,mc,none,0,none,0⟩
def Ay(ps:List bw)(PA:Option Addr)(pc:Nat):List ak:= .ae 67 6 PA ps.length pc (ps.map bw.enc)::ps.flatMap bw.ae
theorem Xr{w:World}{wr:Bool}{ps:List bw}{ms:List aD}{PA:Option Addr}{pc:Nat}{MA:Option Addr}{mc:Nat}(h:gD w (Ay ps PA pc++jV ms MA mc)):(EZ wr ps ms PA pc MA mc).rd w:=by
 obtain⟨h1,h2⟩:=h.dY
 refine⟨Hr.bL (h1 _ (dH ..)),fun x hx=>bw.bL (gD.qJ (fun r hr=>h1 r (eT _ hr)) x hx),Hr.bL (h2 _ (dH ..)),fun x hx=>aD.bL (gD.qJ (fun r hr=>h2 r (eT _ hr)) x hx),.inl rfl,.inl rfl⟩
theorem aiz{wr:Bool}{ps:List bw}{ms:List aD}{PA:Option Addr}{pc:Nat}{MA:Option Addr}{mc:Nat}{n:Int}(hp:1≤ps.length∧ps.length≤3)(eH:∀p∈ps,kS p)(eJ:gQ 0 (b_ ps))(hm:1≤ms.length∧ms.length≤6)(hg:Gd (bC ps) (b_ ps).length ms)(cX:∀m∈ms,m.n.start=false)(ht:w8 ms)(hc:ms.length≤mc)(hn:n=(b_ ps).length+(eB ms).length)(hb:n≤1048576):qn (EZ wr ps ms PA pc MA mc) n:=by
 have Az:gQ 0 (b_ ps++eB ms):=eJ.dY (by simpa using Xj hg)
 have e0:b_ ps++eB ms++(([]:List dS).map fun x=>x.id.aH)=b_ ps++eB ms:=by simp
 refine⟨⟨rfl,hp,eH,aip eJ,hm,hg,cX _ (aB (by show 0<ms.length;omega)),ht,gA _,fun x hx=>absurd hx (by simp [EZ]),?_,n,rfl,oM,?_⟩,hc⟩
 ·show(b_ ps++eB ms++(([]:List dS).map fun x=>x.id.aH)).Pairwise (· < ·)
  rw [e0];exact Az.Ci
 ·show∀x∈b_ ps++eB ms++(([]:List dS).map fun x=>x.id.aH),1≤x∧x≤n
  rw [e0]
  intro x hx
  have:=Az.bd x hx
  rw [aP]at this
  omega
theorem aiA{l:List dS}{z:List Value}(h:z∈l.map dS.enc):z.length=7:=by
 obtain⟨p,_,rfl⟩:=cM.1 h;rfl
theorem aiB{l:List dS}{z:List Value}(h:z∈l.map dS.enc):iL z=true:=by
 obtain⟨p,_,rfl⟩:=cM.1 h;rfl
theorem LR{x:Int}{n:Nat}(hx:0≤x)(hn:0<n):∃k:Nat,x%(n:Int)=k∧k<n:=by
 have h1:=Int.emod_nonneg x (show(n:Int)≠0 by omega)
 have h2:=Int.emod_lt_of_pos x (show(0:Int)<n by omega)
 exact⟨(x%(n:Int)).toNat,oM,oM⟩
theorem Xs{ms:List aD}:(eB ms).length=((jU ms).map fun c=>(c.map fun v=>(v.map List.length).sum).sum+1).sum:=by
 induction ms with
 |nil=>rfl
 |cons m ms ih=>
  have e:eB (m::ms)=(m.n.aH::(dD m.cs).map fun e=>e.x.n.aH)++eB ms:=by simp [eB]
  have e2:(dD m.cs).length=((m.cs.map fun c=>c.vs.map fun v=>v.es.map lR).map fun v=>(v.map List.length).sum).sum:=by
   simp [dD,gE,List.length_flatMap,Function.comp_def]
  rw [e,aP,ih,fW,bD,e2]
  simp [jU]
theorem aiC{wr:Bool}{ps:List bw}{ms jl:List aD}{PA:Option Addr}{pc:Nat}{MA:Option Addr}{mc:Nat}(hp:1≤ps.length∧ps.length≤3)(eH:∀p∈ps,kS p)(eJ:gQ 0 (b_ ps))(hm:1≤ms.length∧ms.length≤6)(hu:vk (bC ps) (b_ ps).length ms jl)(cX:∀m∈ms,m.n.start=false∧m.n.fv=0)(ht:w8 jl)(hc:ms.length≤mc)(hb:((b_ ps).length:Int)+(eB ms).length≤1048576):
  qn (EZ wr ps jl PA pc MA mc) ((b_ ps).length+(eB ms).length)∧∀m∈jl,m.n.start=false∧m.n.fv=0:=by
 have Cv:∀m∈jl,m.n.start=false∧m.n.fv=0:=fun m h=>by
  obtain⟨m0,h0,e⟩:=aiy hu.n hu.l m h
  rw [e];exact cX m0 h0
 have hl:=hu.l
 exact⟨aiz hp eH eJ  oM hu.g (fun m h=>(Cv m h).1) ht  oM (by rw [Xs,Xs,hu.s]) hb,Cv⟩
def hQ(x:aI):Bool:=x.es !=8
def ee(l:List aI):List aI:=l.filter hQ
def gI(l:List aI)(k:Nat):Nat:=(ee (l.take k)).length
theorem yO{a b:List aI}:ee (a++b)=ee a++ee b:=by simp [ee]
theorem Yd{x:aI}(h:hQ x=true):ee [x]= [x]:=by simp [ee,h]
theorem Ye{x:aI}(h:hQ x=false):ee [x]= []:=by simp [ee,h]
theorem Yf{l r:List aI}{k:Nat}(h:k≤l.length):gI (l++r) k=gI l k:=by
 unfold gI;rw [Gi h]
theorem Yg{l:List aI}:gI l l.length=(ee l).length:=by unfold gI;rw [zC]
theorem Yh{l:List aI}{k:Nat}(hk:k<l.length)(h:hQ (aa l k)=true):gI l k<(ee l).length∧aa (ee l) (gI l k)=aa l k∧∀y,hQ y=true→ee (l.set k y)=(ee l).set (gI l k) y:=by
 induction l generalizing k with
 |nil=>simp at hk
 |cons a l ih=>
  cases k with
  |zero=>
   have ha:hQ a=true:=by simpa [aa]using h
   have e:ee (a::l)=a::ee l:=by simp [ee,ha]
   rw [e]
   refine⟨by simp [gI,ee],by simp [gI,ee,aa],fun y hy=>?_⟩
   simp [gI,ee,hy]
  |succ k=>
   have bO:k<l.length:=by simpa using hk
   obtain⟨h1,h2,h3⟩:=ih bO (by simpa [aa]using h)
   have e0:gI (a::l) (k+1)=(ee [a]).length+gI l k:=by
    unfold gI
    rw [Gg,show a::l.take k= [a]++l.take k from rfl,yO,aP]
   have e1:ee (a::l)=ee [a]++ee l:=by rw [←yO];rfl
   have e2:aa (a::l) (k+1)=aa l k:=by simp [aa]
   rw [e0,e1,e2]
   refine⟨by rw [aP];omega,?_,fun y hy=>?_⟩
   ·rw [←h2];simp [aa,uC]
   ·rw [F8,show a::l.set k y= [a]++l.set k y from rfl,yO,h3 y hy,zG _ _  oM,J2]
theorem Yi{l:List aI}{k j:Nat}{y:aI}(h:hQ y=hQ (aa l k)):gI (l.set k y) j=gI l j:=by
 induction l generalizing k j with
 |nil=>simp
 |cons a l ih=>
  cases j with
  |zero=>simp [gI,ee]
  |succ j=>
   cases k with
   |zero=>
    have h':hQ y=hQ a:=by simpa [aa]using h
    simp [gI,ee,DW,h']
    split<;>rfl
   |succ k=>
    have:=ih (k:=k) (j:=j) (by simpa [aa]using h)
    have e0:∀l':List aI,gI (a::l') (j+1)=(ee [a]).length+gI l' j:=fun l'=>by
     unfold gI
     rw [Gg,show a::l'.take j= [a]++l'.take j from rfl,yO,aP]
    rw [F8,e0,e0,this]
def lY(ns:List aI)(f g:HF):Prop:=∀p,f p=(g p).map (gI ns)∧∀k,g p=some k→k<ns.length∧hQ (aa ns k)=true
theorem lY.none{ns:List aI}:lY ns (fun _=>none) (fun _=>none):=fun p=>⟨rfl,fun k h=>by cases h⟩
theorem lY.dY{ns r:List aI}{f g:HF}(h:lY ns f g):lY (ns++r) f g:=fun p=>by
 obtain⟨h1,h2⟩:=h p
 refine⟨?_,fun k hk=>?_⟩
 ·rw [h1]
  cases hg:g p with
  |none=>rfl
  |some k=>simp [Yf (r:=r) (wm (h2 k hg).1)]
 ·obtain⟨a,b⟩:=h2 k hk
  exact⟨by simp;omega,by rw [vf a];exact b⟩
theorem lY.set{ns:List aI}{f g:HF}(h:lY ns f g){k:Nat}{y:aI}(hk:k<ns.length)(hy:hQ y=hQ (aa ns k)):lY (ns.set k y) f g:=fun p=>by
 obtain⟨h1,h2⟩:=h p
 refine⟨?_,fun j hj=>?_⟩
 ·rw [h1]
  cases hg:g p with
  |none=>rfl
  |some j=>simp [Yi hy]
 ·obtain⟨a,b⟩:=h2 j hj
  refine⟨by simpa using a,?_⟩
  rw [rS hk]
  split
  ·rename_i e;subst e;rw [hy];exact b
  ·exact b
theorem lY.ny{ns:List aI}{f g:HF}(h:lY ns f g){p:aY}{k:Nat}(hk:k<ns.length)(hq:hQ (aa ns k)=true):lY ns (mR f p (gI ns k)) (mR g p k):=fun q=>by
 unfold mR
 split
 ·exact⟨rfl,fun j hj=>by cases hj;exact⟨hk,hq⟩⟩
 ·exact h q
structure RQ(σ τ:HF×List aI):Prop where
 n:σ.2=ee τ.2
 f:lY τ.2 σ.1 τ.1
theorem RQ.hd{f g:HF}{c:iy}{e:bz}{on off:Int}{σ τ:HF×List aI}{i:Nat}(h:RQ σ τ)(hf:lY τ.2 f g)(he:e.n.bg≠8):
  RQ (iW c f e on off σ i) (iW c g e on off τ i)∧lY (iW c g e on off τ i).2 f g:=by
 obtain⟨a,ns⟩:=σ
 obtain⟨b,ms⟩:=τ
 obtain rfl:ns=ee ms:=h.n
 have Yj:lY ms a b:=h.f
 obtain⟨e1,e2⟩:=hf (gH (aa e.hs i))
 have ox:hQ (lX c e i on off)=true:=by simpa [hQ,lX]using he
 cases hg:g (gH (aa e.hs i))with
 |some k=>
  have QI:f (gH (aa e.hs i))=some (gI ms k):=by rw [e1,hg];rfl
  obtain⟨k1,k2⟩:=e2 k hg
  obtain⟨r1,r2,r3⟩:=Yh k1 k2
  have hy:hQ (nz (aa ms k) off)=hQ (aa ms k):=rfl
  rw [CI hg,CI QI]
  refine⟨⟨?_,?_⟩,hf.set k1 hy⟩
  ·show(ee ms).set (gI ms k) (nz (aa (ee ms) (gI ms k)) off)=ee (ms.set k _)
   rw [r2,r3 _ (by rw [hy];exact k2)]
  ·show lY (ms.set k _) (if _ then _ else _) (if _ then _ else _)
   have h3:=Yj.set k1 hy
   split
   ·have:=h3.ny (p:=gH (aa e.hs i)) (k:=k) (by simpa using k1) (by rw [rS k1,aG rfl,hy];exact k2)
    rwa [Yi hy]at this
   ·exact h3
 |none=>
  have QI:f (gH (aa e.hs i))=none:=by rw [e1,hg];rfl
  rw [CJ hg,CJ QI]
  refine⟨⟨?_,?_⟩,hf.dY⟩
  ·show ee ms++ [_]=ee (ms++ [_])
   rw [yO,Yd ox]
  ·show lY (ms++ [_]) (if _ then _ else _) (if _ then _ else _)
   have h3:lY (ms++ [lX c e i on off]) a b:=Yj.dY
   split
   ·have:=h3.ny (p:=gH (aa e.hs i)) (k:=ms.length)  sM  (by rw [show aa (ms++ [lX c e i on off]) ms.length=lX c e i on off by simp [aa]];exact ox)
    rwa [Yf (cm _),Yg]at this
   ·exact h3
theorem RQ.ev{c:iy}{σ τ:HF×List aI}(h:RQ σ τ):∀{t:gR},(∀e on off,t=some (e,on,off)→e.n.bg≠8)→RQ (iX c σ t) (iX c τ t)
 |none,_=>⟨h.n,lY.none⟩
 |some (e,on,off),ht=>by
  have he:=ht e on off rfl
  have key:∀(l:List Nat) (a b:HF×List aI),RQ a b→lY b.2 σ.1 τ.1→RQ (l.foldl (iW c σ.1 e on off) a) (l.foldl (iW c τ.1 e on off) b):=by
   intro l
   induction l with
   |nil=>intro a b pw _;exact pw
   |cons i l ih=>
    intro a b pw hf
    obtain⟨h1,h2⟩:=pw.hd (c:=c) (e:=e) (on:=on) (off:=off) (i:=i) hf he
    exact ih _ _ h1 h2
  exact key _ (fun _=>none,σ.2) (fun _=>none,τ.2) ⟨h.n,lY.none⟩ h.f
theorem RQ.tp{c:iy}:∀{l:List gR} {σ τ:HF×List aI},RQ σ τ→(∀t∈l,∀e on off,t=some (e,on,off)→e.n.bg≠8)→RQ (fz c σ l) (fz c τ l)
 | [],σ,τ,h,_=>h
 |t::l,σ,τ,h,hl=>RQ.tp (l:=l) (h.ev (hl t sM)) fun x hx=>hl x (by simp [hx])
def vw(ns:List aI)(g:HF):Prop:=∀p k,g p=some k→k<ns.length∧hQ (aa ns k)=false
structure RC(ns:List aI)(τ:HF×List aI):Prop where
 n:ns=ee τ.2
 f:vw τ.2 τ.1
theorem aj2{l:List aI}{k:Nat}{y:aI}(h1:hQ (aa l k)=false)(h2:hQ y=false):ee (l.set k y)=ee l:=by
 induction l generalizing k with
 |nil=>simp
 |cons a l ih=>
  cases k with
  |zero=>
   have ha:hQ a=false:=by simpa [aa]using h1
   simp [ee,ha,h2]
  |succ k=>
   have:=ih (k:=k) (by simpa [aa]using h1)
   rw [F8,show a::l.set k y= [a]++l.set k y from rfl,yO,this,←yO];rfl
theorem RC.hd{g:HF}{c:iy}{e:bz}{on off:Int}{ns:List aI}{τ:HF×List aI}{i:Nat}(h:RC ns τ)(hf:vw τ.2 g)(he:e.n.bg=8):
  RC ns (iW c g e on off τ i)∧vw (iW c g e on off τ i).2 g:=by
 obtain⟨b,ms⟩:=τ
 have hn:ns=ee ms:=h.n
 have L7:vw ms b:=h.f
 have ox:hQ (lX c e i on off)=false:=by simp [hQ,lX,he]
 cases hg:g (gH (aa e.hs i))with
 |some k=>
  obtain⟨k1,k2⟩:=hf _ _ hg
  have hy:hQ (nz (aa ms k) off)=false:=k2
  rw [CI hg]
  have hs:∀g':HF,vw ms g'→vw (ms.set k (nz (aa ms k) off)) g':=fun g' HP p j hj=>by
   obtain⟨a1,a2⟩:=HP p j hj
   refine⟨by simpa using a1,?_⟩
   rw [rS k1]
   split
   ·exact hy
   ·exact a2
  refine⟨⟨?_,?_⟩,hs g hf⟩
  ·show ns=ee (ms.set k _)
   rw [aj2 k2 hy];exact hn
  ·show vw (ms.set k _) (if _ then _ else _)
   split
   ·intro p j hj
    unfold mR at hj
    dsimp only at hj
    split at hj
    ·cases hj
     exact⟨by simpa using k1,by rw [rS k1,aG rfl];exact hy⟩
    ·exact hs b L7 p j hj
   ·exact hs b L7
 |none=>
  rw [CJ hg]
  have hs:∀g':HF,vw ms g'→vw (ms++ [lX c e i on off]) g':=fun g' HP p j hj=>by
   obtain⟨a1,a2⟩:=HP p j hj
   exact⟨by simp;omega,by rw [vf a1];exact a2⟩
  refine⟨⟨?_,?_⟩,hs g hf⟩
  ·show ns=ee (ms++ [_])
   rw [yO,Ye ox,gT];exact hn
  ·show vw (ms++ [_]) (if _ then _ else _)
   split
   ·intro p j hj
    unfold mR at hj
    dsimp only at hj
    split at hj
    ·cases hj
     exact⟨by simp,by rw [show aa (ms++ [lX c e i on off]) ms.length=lX c e i on off by simp [aa]];exact ox⟩
    ·exact hs b L7 p j hj
   ·exact hs b L7
theorem RC.ev{c:iy}{ns:List aI}{τ:HF×List aI}(h:RC ns τ):∀{t:gR},(∀e on off,t=some (e,on,off)→e.n.bg=8)→RC ns (iX c τ t)
 |none,_=>⟨h.n,fun p k e=>by cases e⟩
 |some (e,on,off),ht=>by
  have he:=ht e on off rfl
  have key:∀(l:List Nat) (b:HF×List aI),RC ns b→vw b.2 τ.1→RC ns (l.foldl (iW c τ.1 e on off) b):=by
   intro l
   induction l with
   |nil=>intro b pw _;exact pw
   |cons i l ih=>
    intro b pw hf
    obtain⟨h1,h2⟩:=pw.hd (c:=c) (e:=e) (on:=on) (off:=off) (i:=i) hf he
    exact ih _ h1 h2
  exact key _ (fun _=>none,τ.2) ⟨h.n,fun p k e=>by cases e⟩ h.f
theorem RC.tp{c:iy}{ns:List aI}:∀{l:List gR} {τ:HF×List aI},RC ns τ→(∀t∈l,∀e on off,t=some (e,on,off)→e.n.bg=8)→RC ns (fz c τ l)
 | [],τ,h,_=>h
 |t::l,τ,h,hl=>RC.tp (l:=l) (h.ev (hl t sM)) fun x hx=>hl x (by simp [hx])
def QJ:gR→Prop
 |none=>True
 |some t=>∀h∈t.1.hs,h.ey=false
theorem aj3{c:iy}{σ:HF×List aI}:∀{t:gR},QJ t→(iX c σ t).1=fun _=>none
 |none,_=>rfl
 |some (e,on,off),h=>by
  have key:∀(l:List Nat) (b:HF×List aI),(∀i∈l,i<e.hs.length)→b.1=(fun _=>none)→(l.foldl (iW c σ.1 e on off) b).1=fun _=>none:=by
   intro l
   induction l with
   |nil=>intro b _ hb;exact hb
   |cons i l ih=>
    intro b hl hb
    refine ih _ (fun j hj=>hl j (by simp [hj])) ?_
    have ht:(aa e.hs i).ey=false:=h _ (aB (hl i sM))
    unfold iW
    cases σ.1 (gH (aa e.hs i))<;>simp [ht,hb]
  exact key _ (fun _=>none,σ.2) (fun i hi=>fY.1 hi) rfl
theorem Yk{c:iy}{σ:HF×List aI}{l:List gR}(hl:l≠ [])(h:∀t,l.getLast?=some t→QJ t):(fz c σ l).1=fun _=>none:=by
 obtain⟨r,t,rfl⟩:∃r t,l=r++ [t]:=⟨l.dropLast,l.getLast hl,(List.dropLast_concat_getLast hl).symm⟩
 rw [CG]
 exact aj3 (h t sM)
structure QM where
 q:Bool
 a:List gR
 b:List gR
def QK(l:List gR):Prop:=l≠ []∧∀t,l.getLast?=some t→QJ t
def Fa:Bool→Bool→List QM→Prop
 |_,_, []=>True
 |p,z,m::r=>(p≠m.q→z=true)∧(m.q=true→m.a= [none]∧∀t∈m.b,∀e on off,t=some (e,on,off)→e.n.bg=8)∧(m.q=false→m.a=m.b∧∀t∈m.b,∀e on off,t=some (e,on,off)→e.n.bg≠8)∧
  ∃z',(z'=true→QK m.b)∧Fa m.q z' r
def L8(p z:Bool)(σ τ:HF×List aI):Prop:=(p=false→RQ σ τ)∧(p=true→RC σ.2 τ∧σ.1=fun _=>none)∧(z=true→σ.1=(fun _=>none)∧τ.1=fun _=>none)
theorem Fa.all{c:iy}:∀{l:List QM} {p z:Bool} {σ τ:HF×List aI},Fa p z l→L8 p z σ τ→(fz c σ (l.flatMap QM.a)).2=ee (fz c τ (l.flatMap QM.b)).2
 | [],p,z,σ,τ,_,h=>by
  cases p with
  |false=>exact(h.1 rfl).n
  |true=>exact(h.2.1 rfl).1.n
 |m::r,p,z,σ,τ,hl,h=>by
  rw [uJ,uJ,CG,CG]
  obtain⟨h1,h2,h3,z',h4,h5⟩:=hl
  refine Fa.all (p:=m.q) (z:=z') h5 ⟨fun hq=>?_,fun hq=>?_,fun hz=>?_⟩
  ·obtain⟨e,hs⟩:=h3 hq
   have h0:RQ σ τ:=by
    cases p with
    |false=>exact h.1 rfl
    |true=>
     obtain⟨a1,a2⟩:=h.2.2 (h1 (by rw [hq];decide))
     exact⟨(h.2.1 rfl).1.n,by rw [a1,a2];exact lY.none⟩
   rw [e]
   exact h0.tp hs
  ·obtain⟨e,hs⟩:=h2 hq
   have h0:RC σ.2 τ:=by
    cases p with
    |true=>exact(h.2.1 rfl).1
    |false=>
     obtain⟨a1,a2⟩:=h.2.2 (h1 (by rw [hq];decide))
     exact⟨(h.1 rfl).n,by rw [a2];intro p k e;cases e⟩
   rw [e]
   exact⟨h0.tp hs,rfl⟩
  ·obtain⟨g1,g2⟩:=h4 hz
   refine⟨?_,Yk g1 g2⟩
   cases hq:m.q with
   |true=>rw [(h2 hq).1];rfl
   |false=>rw [(h3 hq).1];exact Yk g1 g2
theorem L8.start{ns ms:List aI}(h:ns=ee ms):L8 false true ((fun _=>none),ns) ((fun _=>none),ms):=⟨fun _=>⟨h,lY.none⟩,fun e=>(by cases e),fun _=>⟨rfl,rfl⟩⟩
theorem aj4{ns ms r q:List aI}(h1:ns.Perm r)(h2:ms.Perm q)(hq:r=ee q)(s1:aZ.c6 (Ky.cU da) ns)(s2:aZ.c6 (Ky.cU da) ms):ns=ee ms:=
 aj1 (h1.trans (hq▸(h2.filter hQ).symm)) s1 (s2.sublist List.filter_sublist)
def aW.aJ(v:aW):List bz×List Tu.bb:=(v.es.map aN.x,v.ts)
def bu.aJ(c:bu):List nH×List (List bz×List Tu.bb):=(c.cl,c.vs.map aW.aJ)
structure kF where
 n:Er
 tm:List nJ
 cs:List (List nH×List (List bz×List Tu.bb))
def aD.aJ(m:aD):kF:=⟨m.n,m.tm,m.cs.map bu.aJ⟩
theorem qY{α β:Type} [Inhabited α]{f:α→β}{l r:List α}(h:l.map f=r.map f)(k:Nat):f (aa l k)=f (aa r k):=by
 have hl:l.length=r.length:=by simpa using aC List.length h
 have e:=aC (fun x=>x[k]?) h
 simp only [jt]at e
 unfold aa
 by_cases hk:k<l.length
 ·rw [j4 hk,j4  oM]at e
  simp only [tz,Option.some.injEq]at e
  simp only [zy,j4 hk,j4 (show k<r.length by omega),Gf]
  exact e
 ·simp only [zy,tB (show l.length≤k by omega),tB (show r.length≤k by omega)]
theorem iA{α β:Type}{f:α→β}{l r:List α}(h:l.map f=r.map f):l.length=r.length:=by simpa using aC List.length h
theorem aD.yP{m k:aD}(h:m.aJ=k.aJ)(c:Nat):(aa m.cs c).aJ=(aa k.cs c).aJ:=qY (aC kF.cs h) c
theorem bu.QL{a b:bu}(h:a.aJ=b.aJ)(v:Nat):(aa a.vs v).aJ=(aa b.vs v).aJ:=qY (aC Prod.snd h) v
theorem aW.vx{a b:aW}(h:a.aJ=b.aJ)(x:Nat):(aa a.es x).x=(aa b.es x).x:=qY (f:=aN.x) (aC Prod.fst h) x
theorem Yl{a b:aW}(h:a.aJ=b.aJ)(n:Int):VL a n=VL b n:=by
 unfold VL
 rw [aW.vx h 0,show a.es.map aN.x=b.es.map aN.x from aC Prod.fst h,show a.ts=b.ts from aC Prod.snd h]
theorem akc{l:List aN}{x:bz}(h:l.map aN.x= [x]):∃y,l= [y]∧y.x=x:=by
 cases l with
 |nil=>simp at h
 |cons y l=>
  cases l with
  |nil=>exact⟨y,rfl,by simpa using h⟩
  |cons _ _=>simp at h
theorem lA.aJ{v w:aW}{n a:Int}(h:lA v n a)(hd:w.aJ=v.aJ)(hc:w.ts.length≤w.tc):lA w n a:=by
 have h1:w.es.map aN.x=v.es.map aN.x:=aC Prod.fst hd
 have h2:w.ts=v.ts:=aC Prod.snd hd
 have hl:w.es.length=v.es.length:=iA (f:=aN.x) h1
 have hx:∀k,(aa w.es k).x=(aa v.es k).x:=fun k=>qY (f:=aN.x) h1 k
 have eO:∀P:bz→Prop,(∀x∈v.es,P x.x)→∀x∈w.es,P x.x:=fun P hP x hm=>by
  have:x.x∈v.es.map aN.x:=h1▸cM.2 ⟨x,hm,rfl⟩
  obtain⟨y,hy,e⟩:=cM.1 this
  rw [←e];exact hP y hy
 refine⟨?_,fun x hm=>eO (fun e=>e.n.bg=1∨e.n.bg=8) h.ids x hm,by rw [hl];exact h.len,eO (fun e=>(∃st id,e=(oy st id).x)∨∃id lg d,iQ e id lg d∧fp lg d) h.ev⟩
 ·rcases h.e with⟨x,e1,e2,e3,e4,e5⟩|⟨e1,e2,e3,e4,e5,e6⟩
  ·rw [e1]at h1
   obtain⟨y,g1,g2⟩:=akc h1
   exact .inl ⟨y,g1,by rw [h2];exact e2,by rw [g2];exact e3,by rw [g2];exact e4,by rw [g2];exact e5⟩
  ·exact .inr ⟨by rw [h1,h2];exact e1,eO (fun e=>gx e=0) e2,by rw [hl];exact e3,by rw [hl];exact e4,by rw [h2];exact e5,hc⟩
theorem uj{α β:Type}{f:α→β}{l r:List α}(h:l.map f=r.map f){x:α}(hx:x∈l):∃y∈r,f x=f y:=by
 have:f x∈r.map f:=h▸cM.2 ⟨x,hx,rfl⟩
 obtain⟨y,hy,e⟩:=cM.1 this
 exact⟨y,hy,e.symm⟩
def H3(c:bu):Prop:=∀v∈c.vs,v.ts.length≤v.tc
def xl(m:aD):Prop:=∀c∈m.cs,H3 c
theorem EM.aJ{c d:bu}{n:Int}(h:EM c n)(hd:d.aJ=c.aJ)(hc:H3 d):EM d n:=by
 have h1:d.cl=c.cl:=aC Prod.fst hd
 have h2:d.vs.map aW.aJ=c.vs.map aW.aJ:=aC Prod.snd hd
 refine⟨by rw [h1];exact h.cl,by rw [iA h2];exact h.len,fun v hv=>?_⟩
 obtain⟨w,hw,e⟩:=uj h2 hv
 obtain⟨a,ha⟩:=h.vs w hw
 exact⟨a,ha.aJ e (hc v hv)⟩
theorem lU.aJ{m k:aD}{K:Nat}{n:Int}(h:lU m K n)(hd:k.aJ=m.aJ)(hc:xl k):lU k K n:=by
 have h1:k.n=m.n:=aC kF.n hd
 have h2:k.tm=m.tm:=aC kF.tm hd
 have h3:k.cs.map bu.aJ=m.cs.map bu.aJ:=aC kF.cs hd
 refine⟨by rw [h1];exact h.met,by rw [h1];exact h.sU,by rw [h1];exact h.id,by rw [h1];exact h.ow,by rw [h1];exact h.eP,by rw [h2];exact h.tm,by rw [iA h3];exact h.cs,fun c rr=>?_⟩
 obtain⟨d,Gq,e⟩:=uj h3 rr
 rw [h1]
 exact(h.ce d Gq).aJ e (hc c rr)
def bw.aJ(p:bw):Int×Int×ByteArray×Int×Int×List ig:=(p.bg,p.aH,p.name,p.cp,p.bF,p.st)
theorem yA.aJ{p q:bw}(h:yA p)(hd:q.aJ=p.aJ):yA q:=by
 have e:q.bg=p.bg∧q.aH=p.aH∧q.name=p.name∧q.cp=p.cp∧q.bF=p.bF∧q.st=p.st:=by
  unfold bw.aJ at hd
  simpa only [Prod.mk.injEq]using hd
 obtain⟨e1,e2,e3,e4,e5,e6⟩:=e
 exact⟨by rw [e1];exact h.bg,by rw [e3];exact h.name,by rw [e4];exact h.WV,by rw [e5];exact h.Ao,by rw [e6];exact h.st,by rw [e6];exact h.cl⟩
theorem H4{l r:List bw}(h:l.map bw.aJ=r.map bw.aJ):bC l=bC r:=by
 have:∀l:List bw,bC l=((l.map bw.aJ).map fun d=>d.2.2.2.2.2.length).sum:=fun l=>by rw [oV];rfl
 rw [this,this,h]
theorem QP{c:aw}{i a v k:Nat}(hi:i<c.ms.length)(ha:a<(aa c.ms i).cs.length)(hv:v<(aa (aa c.ms i).cs a).vs.length)(hk:k<(aa (aa (aa c.ms i).cs a).vs v).es.length):oB c i a v k∈dh c:=by
 unfold dh
 refine dJ.2 (.inl (dJ.2 (.inr ?_)))
 refine ja.2 ⟨i,fY.2 hi,eT _ ?_⟩
 refine ja.2 ⟨a,fY.2 ha,?_⟩
 refine ja.2 ⟨v,fY.2 hv,?_⟩
 exact cM.2 ⟨k,fY.2 hk,rfl⟩
def Fb(c:aw)(i:ba):Bool:=c.ms.any fun m=>m.cs.any fun a=>a.vs.any fun v=>v.es.any fun e=>decide ((⟨e.x.n.bg,e.x.n.aH⟩:ba)=i)
theorem akd{c:aw}{id:ba}(h:Fb c id=true):∃i a v x,i<c.ms.length∧a<(aa c.ms i).cs.length∧v<(aa (aa c.ms i).cs a).vs.length∧x<(aa (aa (aa c.ms i).cs a).vs v).es.length∧(⟨(aa (aa (aa (aa c.ms i).cs a).vs v).es x).x.n.bg,(aa (aa (aa (aa c.ms i).cs a).vs v).es x).x.n.aH⟩:ba)=id:=by
 unfold Fb at h
 obtain⟨m,hm,h⟩:=lD.1 h
 obtain⟨y,hy,h⟩:=lD.1 h
 obtain⟨w,hw,h⟩:=lD.1 h
 obtain⟨e,he,h⟩:=lD.1 h
 obtain⟨i,hi,rfl⟩:=fX hm
 rw [←dG hi]at hy
 obtain⟨a,ha,rfl⟩:=fX hy
 rw [←dG ha]at hw
 obtain⟨v,hv,rfl⟩:=fX hw
 rw [←dG hv]at he
 obtain⟨x,hx,rfl⟩:=fX he
 rw [←dG hx]at h
 exact⟨i,a,v,x,hi,ha,hv,hx,by simpa using h⟩
def CQ(l:List kF)(i:ba):Bool:=l.any fun m=>m.cs.any fun a=>a.2.any fun v=>v.1.any fun e=>decide ((⟨e.n.bg,e.n.aH⟩:ba)=i)
theorem QQ{c:aw}{i:ba}:Fb c i=CQ (c.ms.map aD.aJ) i:=by
 unfold Fb CQ
 rw [List.any_map]
 refine List.any_congr rfl fun m=>?_
 show _=(m.cs.map bu.aJ).any _
 rw [List.any_map]
 refine List.any_congr rfl fun a=>?_
 show _=(a.vs.map aW.aJ).any _
 rw [List.any_map]
 refine List.any_congr rfl fun v=>?_
 show _=(v.es.map aN.x).any _
 rw [List.any_map]
 exact List.any_congr rfl fun e=>rfl
namespace Hr
section
variable{P:Program}{fn:Func}{R:Ending→World→Prop}{X:Nat→Prop}{W:World}{n:Nat}{k:List K}{S:St}
theorem ZO{c:Code}(m:Nat)(h:bj P fn R X W n (.stop (Code.rounds P c (post P fn R k) m)::k) S):bj P fn R X W n (.bq (.loop c)::k) S:=
 fun a w hs=>wp_loop_rounds m (h a w hs)
theorem h_{c:Code}{m:Nat}(h:bj P fn R X W n (.bq c:: .stop (Code.rounds P c (post P fn R k) m)::k) S):bj P fn R X W n (.stop (Code.rounds P c (post P fn R k) (m+1))::k) S:=fun a w hs=>by
 show Code.rounds P c (post P fn R k) (m+1) a w
 rw [rounds_succ]
 refine Bp ?_ (h a w hs)
 intro e a' w' q
 cases e with
 |normal=>exact q
 |_=>exact q
end
section
variable{P:Program}{X:Nat→Prop}{W:World}{n:Nat}{S:St}{o:Oper}{t e:TypeId}{x y:Operand}
theorem C8{len b q:Nat}{k:IntKind}{i:Int}(ho:o.op= .indexAddr t x y)(ht:P.underlying t=some (.array len e))(gr:Sz P e 1)(hx:ev S.ah x=some (.pointer (some ⟨b,0,none⟩)))(hy:ev S.ah y=some (.int k i))(hi:i=(q:Int))(hq:q<len):
  Q1 P X W n S o (.pointer (some ((bI (some ⟨b,0,none⟩)).add (q*1)))):=by
 have h:=afp (P:=P) (X:=X) (W:=W) (n:=n) (S:=S) (o:=o) (q:=q) (d:=0+q*1) ho ht gr hx hy hi hq rfl
 have e1:(bI (some ⟨b,0,none⟩)).add (q*1)=⟨b,0+q*1,none⟩:=by rw [bI,Gf,wg]
 rw [e1];exact h
theorem ie.C9{b:Nat}{tb:TypeId}{cs:List (Nat×Value)}{vs:List Value}{l:List ak}(h:ag S.mem (.ai b tb cs) l)(hc:lj cs 0 vs):ie X W S (Option.some ⟨b,0,none⟩) 1 (vs.map fun v=> [v]):=fun w hk hm=>
 .inr ⟨⟨b,0,none⟩,rfl,fun i c hi j v hj=>by
  rw [jt]at hi
  cases hv:vs[i]? with
  |none=>rw [hv]at hi;cases hi
  |some u=>
   rw [hv]at hi
   simp only [tz,Option.some.injEq]at hi
   subst hi
   match j,hj with
   |0,hj=>
    simp only [J3,Option.some.injEq]at hj
    subst hj
    have h1:=hc.get i u hv
    rw [wg]
    have h2:=D6 (h.holds hm) h1
    simpa using h2⟩
end
section
variable{P:Program}{X:Nat→Prop}{W:World}{n:Nat}{S:St}{o:Oper}{t e:TypeId}{x y:Operand}
theorem MJ{k:IntKind}{i:Int}{len q s:Nat}{cs ys:Array Value}(ho:o.op= .index t x y)(ht:P.underlying t=some (.array len e))(he:iE P e s)(hx:ev S.ah x=some (.agg cs))(hy:ev S.ah y=some (.int k i))
  (hi:i=(q:Int))(hq:q<len)(hv:cs.extract (q*s) (q*s+s)=ys):Q1 P X W n S o (.agg ys):=
 fun a w hs=> .inl (by
  subst hi
  have h1:(0:Int)≤(q:Int)∧(q:Int)<(len:Int):=oM
  simp [execOp,ho,hs.eval hx,hs.eval hy,Instr.index,asIntOf,cL ht,h1.2,he.2.run,part,he.1,hv,Nat.not_le.2 hq])
end
end Hr
theorem amz(l:List bu)(A:Option Addr)(ca:Nat)(g:Nat)(cap:List Value)(W:World)(hr:Rd W A 2 (l.map bu.enc))(hl:l.length≤1000000)(gm:Hr.eG prog g)(hw:∀k,k<l.length→∀w,aU nX W w→Calls prog g ([Value.agg (bu.enc (aa l k)).toArray]++cap).toArray w (aK w (.bool false))):Calls prog 269 #[.slice A l.length ca,.func (.func g) #[] cap.toArray] W (Hr.aK W (Iv (-1))):=by
 apply Ej 12 func269 ntmps269;apply Ks 0 [8,0,1,4,7] [];refine dI (ι:=Nat) (fun k=>k≤l.length) (fun k=>Iv k) (fun k=>l.length-k) 0 dO rfl ?_;rintro k bx;(try dsimp only at bx);apply Cd 5;intros;apply ab 13;refine Qq 0 (Qi k rfl (.aq hr .no)) ?_;refine Qq 0 (Qe rfl (.aq hr .no)) ?_;refine Qq 8 (eU rfl rfl gm (bf rfl) (fun w hk hm=>hw k  oM w hk)) ?_;apply kp 0 [0,1,4,7,8];refine Ag (k+1) ?_;omega;intros;apply ab 1;apply kp 5 [4];exact ax rfl rfl rfl
theorem amA(l:List bu)(A:Option Addr)(ca:Nat)(g:Nat)(cap:List Value)(W:World)(hr:Rd W A 2 (l.map bu.enc))(hl:l.length≤1000000)(gm:Hr.eG prog g)(hw:∀k,k<l.length→∀w,aU nX W w→Calls prog g ([Value.agg (bu.enc (aa l k)).toArray]++cap).toArray w (aK w (.bool false))):Calls prog 222 #[.slice A l.length ca,.func (.func g) #[] cap.toArray] W (Hr.aK W (.bool false)):=by
 apply Ej 8 func222 ntmps222;refine Qq 3 (Qc rfl fun w hk _=>amz l A ca g cap w (hr.az hk) hl gm (fun k h w' bO=>hw k h w' (hk.fu bO))) ?_;apply kp 1 [4];exact ax rfl rfl rfl
theorem amB(l:List aW)(A:Option Addr)(ca:Nat)(g:Nat)(cap:List Value)(W:World)(hr:Rd W A 2 (l.map aW.enc))(hl:l.length≤1000000)(gm:Hr.eG prog g)(hw:∀k,k<l.length→∀w,aU nX W w→Calls prog g ([Value.agg (aW.enc (aa l k)).toArray]++cap).toArray w (aK w (.bool false))):Calls prog 192 #[.slice A l.length ca,.func (.func g) #[] cap.toArray] W (Hr.aK W (Iv (-1))):=by
 apply Ej 12 func192 ntmps192;apply Ks 0 [8,0,1,4,7] [];refine dI (ι:=Nat) (fun k=>k≤l.length) (fun k=>Iv k) (fun k=>l.length-k) 0 dO rfl ?_;rintro k bx;(try dsimp only at bx);apply Cd 5;intros;apply ab 13;refine Qq 0 (Qi k rfl (.aq hr .no)) ?_;refine Qq 0 (Qe rfl (.aq hr .no)) ?_;refine Qq 8 (eU rfl rfl gm (bf rfl) (fun w hk hm=>hw k  oM w hk)) ?_;apply kp 0 [0,1,4,7,8];refine Ag (k+1) ?_;omega;intros;apply ab 1;apply kp 5 [4];exact ax rfl rfl rfl
theorem amC(l:List aW)(A:Option Addr)(ca:Nat)(g:Nat)(cap:List Value)(W:World)(hr:Rd W A 2 (l.map aW.enc))(hl:l.length≤1000000)(gm:Hr.eG prog g)(hw:∀k,k<l.length→∀w,aU nX W w→Calls prog g ([Value.agg (aW.enc (aa l k)).toArray]++cap).toArray w (aK w (.bool false))):Calls prog 113 #[.slice A l.length ca,.func (.func g) #[] cap.toArray] W (Hr.aK W (.bool false)):=by
 apply Ej 8 func113 ntmps113;refine Qq 3 (Qc rfl fun w hk _=>amB l A ca g cap w (hr.az hk) hl gm (fun k h w' bO=>hw k h w' (hk.fu bO))) ?_;apply kp 1 [4];exact ax rfl rfl rfl
theorem amD(l:List aN)(A:Option Addr)(ca:Nat)(g:Nat)(cap:List Value)(W:World)(hr:Rd W A 13 (l.map aN.enc))(hl:l.length≤1000000)(gm:Hr.eG prog g)(hw:∀k,k<l.length→∀w,aU nX W w→Calls prog g ([Value.agg (aN.enc (aa l k)).toArray]++cap).toArray w (aK w (.bool false))):Calls prog 193 #[.slice A l.length ca,.func (.func g) #[] cap.toArray] W (Hr.aK W (Iv (-1))):=by
 apply Ej 12 func193 ntmps193;apply Ks 0 [8,0,1,4,7] [];refine dI (ι:=Nat) (fun k=>k≤l.length) (fun k=>Iv k) (fun k=>l.length-k) 0 dO rfl ?_;rintro k bx;(try dsimp only at bx);apply Cd 5;intros;apply ab 13;refine Qq 0 (Qi k rfl (.aq hr .no)) ?_;refine Qq 0 (Qe rfl (.aq hr .no)) ?_;refine Qq 8 (eU rfl rfl gm (bf rfl) (fun w hk hm=>hw k  oM w hk)) ?_;apply kp 0 [0,1,4,7,8];refine Ag (k+1) ?_;omega;intros;apply ab 1;apply kp 5 [4];exact ax rfl rfl rfl
theorem amE(l:List aN)(A:Option Addr)(ca:Nat)(g:Nat)(cap:List Value)(W:World)(hr:Rd W A 13 (l.map aN.enc))(hl:l.length≤1000000)(gm:Hr.eG prog g)(hw:∀k,k<l.length→∀w,aU nX W w→Calls prog g ([Value.agg (aN.enc (aa l k)).toArray]++cap).toArray w (aK w (.bool false))):Calls prog 115 #[.slice A l.length ca,.func (.func g) #[] cap.toArray] W (Hr.aK W (.bool false)):=by
 apply Ej 8 func115 ntmps115;refine Qq 3 (Qc rfl fun w hk _=>amD l A ca g cap w (hr.az hk) hl gm (fun k h w' bO=>hw k h w' (hk.fu bO))) ?_;apply kp 1 [4];exact ax rfl rfl rfl
theorem amF(l:List Hd)(A:Option Addr)(ca:Nat)(g:Nat)(cap:List Value)(W:World)(hr:Rd W A 5 (l.map Hd.enc))(hl:l.length≤1000000)(gm:Hr.eG prog g)(hw:∀k,k<l.length→∀w,aU nX W w→Calls prog g ([Value.agg (Hd.enc (aa l k)).toArray]++cap).toArray w (aK w (.bool false))):Calls prog 234 #[.slice A l.length ca,.func (.func g) #[] cap.toArray] W (Hr.aK W (Iv (-1))):=by
 apply Ej 12 func234 ntmps234;apply Ks 0 [8,0,1,4,7] [];refine dI (ι:=Nat) (fun k=>k≤l.length) (fun k=>Iv k) (fun k=>l.length-k) 0 dO rfl ?_;rintro k bx;(try dsimp only at bx);apply Cd 5;intros;apply ab 13;refine Qq 0 (Qi k rfl (.aq hr .no)) ?_;refine Qq 0 (Qe rfl (.aq hr .no)) ?_;refine Qq 8 (eU rfl rfl gm (bf rfl) (fun w hk hm=>hw k  oM w hk)) ?_;apply kp 0 [0,1,4,7,8];refine Ag (k+1) ?_;omega;intros;apply ab 1;apply kp 5 [4];exact ax rfl rfl rfl
theorem aaC(l:List Hd)(A:Option Addr)(ca:Nat)(g:Nat)(cap:List Value)(W:World)(hr:Rd W A 5 (l.map Hd.enc))(hl:l.length≤1000000)(gm:Hr.eG prog g)(hw:∀k,k<l.length→∀w,aU nX W w→Calls prog g ([Value.agg (Hd.enc (aa l k)).toArray]++cap).toArray w (aK w (.bool false))):Calls prog 170 #[.slice A l.length ca,.func (.func g) #[] cap.toArray] W (Hr.aK W (.bool false)):=by
 apply Ej 8 func170 ntmps170;refine Qq 3 (Qc rfl fun w hk _=>amF l A ca g cap w (hr.az hk) hl gm (fun k h w' bO=>hw k h w' (hk.fu bO))) ?_;apply kp 1 [4];exact ax rfl rfl rfl
theorem amG(l:List Gr)(A:Option Addr)(ca:Nat)(g:Nat)(cap:List Value)(W:World)(hr:Rd W A 5 (l.map Gr.enc))(hl:l.length≤1000000)(gm:Hr.eG prog g)(hw:∀k,k<l.length→∀w,aU nX W w→Calls prog g ([Value.agg (Gr.enc (aa l k)).toArray]++cap).toArray w (aK w (.bool false))):Calls prog 235 #[.slice A l.length ca,.func (.func g) #[] cap.toArray] W (Hr.aK W (Iv (-1))):=by
 apply Ej 12 func235 ntmps235;apply Ks 0 [8,0,1,4,7] [];refine dI (ι:=Nat) (fun k=>k≤l.length) (fun k=>Iv k) (fun k=>l.length-k) 0 dO rfl ?_;rintro k bx;(try dsimp only at bx);apply Cd 5;intros;apply ab 13;refine Qq 0 (Qi k rfl (.aq hr .no)) ?_;refine Qq 0 (Qe rfl (.aq hr .no)) ?_;refine Qq 8 (eU rfl rfl gm (bf rfl) (fun w hk hm=>hw k  oM w hk)) ?_;apply kp 0 [0,1,4,7,8];refine Ag (k+1) ?_;omega;intros;apply ab 1;apply kp 5 [4];exact ax rfl rfl rfl
theorem aaD(l:List Gr)(A:Option Addr)(ca:Nat)(g:Nat)(cap:List Value)(W:World)(hr:Rd W A 5 (l.map Gr.enc))(hl:l.length≤1000000)(gm:Hr.eG prog g)(hw:∀k,k<l.length→∀w,aU nX W w→Calls prog g ([Value.agg (Gr.enc (aa l k)).toArray]++cap).toArray w (aK w (.bool false))):Calls prog 172 #[.slice A l.length ca,.func (.func g) #[] cap.toArray] W (Hr.aK W (.bool false)):=by
 apply Ej 8 func172 ntmps172;refine Qq 3 (Qc rfl fun w hk _=>amG l A ca g cap w (hr.az hk) hl gm (fun k h w' bO=>hw k h w' (hk.fu bO))) ?_;apply kp 1 [4];exact ax rfl rfl rfl
theorem amH(l:List aD)(A:Option Addr)(ca:Nat)(g:Nat)(cap:List Value)(W:World)(hr:Rd W A 22 (l.map aD.enc))(hl:l.length≤1000000)(gm:Hr.eG prog g)(hw:∀k,k<l.length→∀w,aU nX W w→Calls prog g ([Value.agg (aD.enc (aa l k)).toArray]++cap).toArray w (aK w (.bool false))):Calls prog 251 #[.slice A l.length ca,.func (.func g) #[] cap.toArray] W (Hr.aK W (Iv (-1))):=by
 apply Ej 12 func251 ntmps251;apply Ks 0 [8,0,1,4,7] [];refine dI (ι:=Nat) (fun k=>k≤l.length) (fun k=>Iv k) (fun k=>l.length-k) 0 dO rfl ?_;rintro k bx;(try dsimp only at bx);apply Cd 5;intros;apply ab 13;refine Qq 0 (Qi k rfl (.aq hr .no)) ?_;refine Qq 0 (Qe rfl (.aq hr .no)) ?_;refine Qq 8 (eU rfl rfl gm (bf rfl) (fun w hk hm=>hw k  oM w hk)) ?_;apply kp 0 [0,1,4,7,8];refine Ag (k+1) ?_;omega;intros;apply ab 1;apply kp 5 [4];exact ax rfl rfl rfl
theorem amI(l:List aD)(A:Option Addr)(ca:Nat)(g:Nat)(cap:List Value)(W:World)(hr:Rd W A 22 (l.map aD.enc))(hl:l.length≤1000000)(gm:Hr.eG prog g)(hw:∀k,k<l.length→∀w,aU nX W w→Calls prog g ([Value.agg (aD.enc (aa l k)).toArray]++cap).toArray w (aK w (.bool false))):Calls prog 188 #[.slice A l.length ca,.func (.func g) #[] cap.toArray] W (Hr.aK W (.bool false)):=by
 apply Ej 8 func188 ntmps188;refine Qq 3 (Qc rfl fun w hk _=>amH l A ca g cap w (hr.az hk) hl gm (fun k h w' bO=>hw k h w' (hk.fu bO))) ?_;apply kp 1 [4];exact ax rfl rfl rfl
namespace Hr
theorem ar.qR{r:ak}{rs l:List ak}:ar (r:: .aT rs::l) (.aT (rs++ [r])::l):= .trans .fM (.Ev (NT (l₁:= [r])))
end Hr
theorem apx(s:aw)(n:Int)(W:World)(hs:s.rd W)(hb:qn s n):Calls prog 16 #[s.val] W (bK W nX fun v m=>∃(ls:List oF) (O:Option Addr) (co:Nat),v= .slice O ls.length co∧m= [.ae 30 1 O ls.length co (ls.map oF.enc),.aT (ls.map oF.ae)]∧1≤ls.length∧ls.length≤12∧∀l∈ls,l.ids.length≤400):=by
 obtain⟨hB,-⟩:=hb;have bn:ed W s.ms s.MA:=⟨hs.m,hs.mr⟩;have dx:1≤s.ms.length∧s.ms.length≤6:=hB.ml;have hZ:1≤bC s.ps∧bC s.ps≤6:=hB.sn;have gK:0<s.ms.length:=oM
 have ab_:(aa s.ms 0).cs.length=bC s.ps:=(hB.me gK).elim fun a h=>h.cs;apply En 2 func16 ntmps16;refine Nw 12 fun b1=>?_;refine rM (ar.cG 30 1) ?_;refine rM ar.oq ?_;apply Ks 0 [4,3,1,2] [1,0,0];refine BK (ι:=Nat×(List oF)×(Option Addr)×Nat) (fun gg=>gg.1≤bC s.ps∧gg.2.1.length=2*gg.1∧(∀l∈gg.2.1,l.ids.length≤400)) (fun gg=>Iv (gg.1:Int)) (fun gg=> .slice gg.2.2.1 gg.2.1.length gg.2.2.2) (fun gg=> .ae 30 1 gg.2.2.1 gg.2.1.length gg.2.2.2 (gg.2.1.map oF.enc)) (fun gg=> .aT (gg.2.1.map oF.ae)) (fun gg=>bC s.ps-gg.1) (0, [],none,0) (by(try dsimp only);exact⟨oM,rfl,by simp⟩) rfl rfl .refl .refl ?_;rintro⟨c,ls,O,co⟩ hq;(try dsimp only at hq);obtain⟨yX,jL,je⟩:=hq;refine sW ⟨(4,Iv c)::(3,.slice O ls.length co)::_,.ae 30 1 O ls.length co (ls.map oF.enc):: .aT (ls.map oF.ae)::_⟩ ?_;have Kq:c≤6:=oM
 apply ab 6;refine Qq 1 (Qi 0 rfl (.aq hs.m .no)) ?_;refine Qq 3 (Qf rfl (.aq hs.m .no)) ?_;apply kp 0 [1,2,3,4,17];apply Cd 0;intros;apply ab 8;apply Ks 0 [5,3,1,2,4] [0,0,0];refine BK (ι:=Nat×(List oF)×(Option Addr)×Nat) (fun gg=>gg.1≤2∧gg.2.1.length=2*c+gg.1∧(∀l∈gg.2.1,l.ids.length≤400)) (fun gg=>Iv (gg.1:Int)) (fun gg=> .slice gg.2.2.1 gg.2.1.length gg.2.2.2) (fun gg=> .ae 30 1 gg.2.2.1 gg.2.1.length gg.2.2.2 (gg.2.1.map oF.enc)) (fun gg=> .aT (gg.2.1.map oF.ae)) (fun gg=>2-gg.1) (0,ls,O,co) (by(try dsimp only);exact⟨oM,oM,je⟩) rfl rfl .refl .refl ?_;rintro⟨v,ls,O,co⟩ hq;(try dsimp only at hq);obtain⟨vz,jL,je⟩:=hq;refine sW ⟨(5,Iv v)::(3,.slice O ls.length co)::_,.ae 30 1 O ls.length co (ls.map oF.enc):: .aT (ls.map oF.ae)::_⟩ ?_;apply Cd 6;intros;apply ab 13;refine rM (ar.cG 43 2) ?_;apply Ks 0 [7,6,1,2,3,4,5] [0,0,0,0];refine pU (ι:=Nat×(List ba)×(Option Addr)×Nat) (fun gg=>gg.1≤s.ms.length∧gg.2.1.length≤56*gg.1) (fun gg=>Iv (gg.1:Int)) (fun gg=> .slice gg.2.2.1 gg.2.1.length gg.2.2.2) (fun gg=> .ae 43 2 gg.2.2.1 (gg.2.1).length gg.2.2.2 ((gg.2.1).map ba.enc)) (fun gg=>s.ms.length-gg.1) (0, [],none,0) (by(try dsimp only);exact⟨oM,by simp⟩) rfl rfl .refl ?_;rintro⟨i,l,A,ca⟩ hq;(try dsimp only at hq);obtain⟨jd,ym⟩:=hq;refine sW ⟨(7,Iv i)::(6,.slice A l.length ca)::_,.ae 43 2 A (l).length ca ((l).map ba.enc)::_⟩ ?_;apply ab 9;apply kp 0 [1,2,3,4,5,6,7,28];apply Cd 0;intros;have bp:i<s.ms.length:=oM
 apply ab 10;refine Qq 1 (Qi i rfl (.aq hs.m .no)) ?_;refine Qq 3 (Qf rfl (.aq hs.m .no)) ?_;apply Sd 0 40;intro _ C_;apply ab 22;apply kp 0 [1,2,3,4,5,6,7];refine Ag (i+1,l,A,ca) ?_;exact⟨oM,oM⟩;intro _ C_;apply ab 4;refine Qq 1 (Qi i rfl (.aq hs.m .no)) ?_;refine Qq 1 (Qf rfl (.aq hs.m .no)) ?_;refine Qq 1 (Qi c rfl (.aq (bn.cs bp) .no)) ?_;refine Qq 4 (Qf rfl (.aq (bn.cs bp) .no)) ?_;apply kp 0 [1,2,3,4,5,6,7,54];apply Cd 0;intros;apply ab 6;apply kp 0 [1,2,3,4,5,6,7];refine Ag (i+1,l,A,ca) ?_;exact⟨oM,oM⟩;intros;have dT:c<(aa s.ms i).cs.length:=oM
 have eC:v<((aa (aa s.ms i).cs c)).vs.length:=oM
 have gM:((aa (aa (aa s.ms i).cs c).vs v)).es.length≤56:=((hB.cell bp dT).2.2 v eC).elim fun a h=>h.len.2;apply ab 6;refine Qq 1 (Qi i rfl (.aq hs.m .no)) ?_;refine Qq 1 (Qf rfl (.aq hs.m .no)) ?_;refine Qq 1 (Qi c rfl (.aq (bn.cs bp) .no)) ?_;refine Qq 1 (Qf rfl (.aq (bn.cs bp) .no)) ?_;refine Qq 1 (Qi v rfl (.aq (bn.vs bp dT) .no)) ?_;refine Qq 2 (Qf rfl (.aq (bn.vs bp dT) .no)) ?_;apply kp 5 [1,2,3,4,5,6,7,8];apply Ks 0 [9,6,1,2,3,4,5,7,8] [0,0,0,0];refine pU (ι:=Nat×(List ba)×(Option Addr)×Nat) (fun gg=>gg.1≤((aa (aa (aa s.ms i).cs c).vs v)).es.length∧gg.2.1.length≤56*i+gg.1) (fun gg=>Iv (gg.1:Int)) (fun gg=> .slice gg.2.2.1 gg.2.1.length gg.2.2.2) (fun gg=> .ae 43 2 gg.2.2.1 (gg.2.1).length gg.2.2.2 ((gg.2.1).map ba.enc)) (fun gg=>((aa (aa (aa s.ms i).cs c).vs v)).es.length-gg.1) (0,l,A,ca) (by(try dsimp only);exact⟨oM,oM⟩) rfl rfl .refl ?_;rintro⟨x,l,A,ca⟩ hq;(try dsimp only at hq);obtain⟨pA,ym⟩:=hq;refine sW ⟨(9,Iv x)::(6,.slice A l.length ca)::_,.ae 43 2 A (l).length ca ((l).map ba.enc)::_⟩ ?_;apply ab 8;apply kp 0 [1,2,3,4,5,6,7,8,9,72];apply Cd 0;intros;have gG:x<((aa (aa (aa s.ms i).cs c).vs v)).es.length:=oM
 apply ab 7;refine Qq 1 (Qi x rfl (.aq (bn.es bp dT eC) .no)) ?_;refine Qq 0 (jO rfl zA rfl (.aq (bn.es bp dT eC) .no) (bX  oM) rfl rfl) ?_;refine Nw 0 fun b81=>?_;refine Hh (cY rfl rfl rfl zU zI rfl rfl sZ rfl (.ae sZ)  sM  (bQ rfl) (bQ rfl)  oM oM) ?_;rintro⟨A82,c82⟩-;apply ab 2;apply kp 6 [1,2,3,4,5,6,7,8,9];refine Ag (x+1,l++ [⟨((aa (aa (aa (aa s.ms i).cs c).vs v).es x)).x.n.bg,((aa (aa (aa (aa s.ms i).cs c).vs v).es x)).x.n.aH⟩],A82,c82) ?_ (hs:=au (.aF rfl (aO  oM) (.aF rfl (by congr 1;simp) nZ)) (.cons (iZ 0) (.ae rfl  sM  rfl (by rw [cB];rfl)) mZ));exact⟨oM,by simp;omega⟩;intros;apply ab 1;apply kp 6 [1,2,3,4,5,6,7];refine Ag (i+1,l,A,ca) ?_;exact⟨oM,oM⟩;intros;apply ab 4;refine Nw 0 fun b85=>?_;refine Hh (cY rfl rfl rfl zU zI rfl rfl sZ rfl (.ae sZ)  sM  (bQ rfl) (bQ rfl)  oM oM) ?_;rintro⟨A86,c86⟩-;apply ab 2;apply kp 1 [1,2,3,4,5];refine rM (ar.trans (dZ [3,2,0,0,0]) (ar.trans (ar.aR (List.Perm.swap _ _ _)) ar.qR)) ?_;apply ab 5;refine Ag (v+1,ls++ [⟨l,A,ca⟩],A86,c86) ?_ (hs:=au (.aF rfl (aO  oM) (.aF rfl (by congr 1;simp) nZ)) (.cons (iZ 1) (.ae rfl  sM  rfl (by rw [cB];rfl)) (.cons (iZ 0) (.eq (aC ak.aT (by rw [cB];rfl))) mZ)));exact⟨oM,by simp;omega,fun y hy=>by rcases dJ.1 hy with h|h;(· exact je y h);(· rw [cS.1 h];show l.length≤400;omega)⟩;intros;apply ab 1;apply kp 6 [1,2,3,4];refine Ag (c+1,ls,O,co) ?_;exact⟨oM,oM,je⟩;intros;apply ab 1;apply kp 6 [2,3];apply Km 0 [0,0];exact ax rfl rfl ⟨ls,O,co,rfl,rfl,oM,oM,je⟩
end Go.Proofs.YtdahjfmmndjcpaaGreat
