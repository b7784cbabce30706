/- Part. -/
import Derived.Test.YtjpbickffffgkaaGreatQ14
set_option linter.unusedSimpArgs false
set_option linter.unusedVariables false
set_option maxHeartbeats 40000000
set_option maxRecDepth 100000
namespace Go.Proofs.YtjpbickffffgkaaGreat
open Go Go.RowKit Hr Go.Proofs.Tryz
def zu(f:aZ→aZ)(h:Hd):Hd:={h with step:=(f h.pt).step,cd:=(f h.pt).cd,bR:=(f h.pt).bR}
def De(f:aZ→aZ)(g:Gr):Gr:={g with step:=(f ⟨g.step,g.cd,g.bR⟩).step,cd:=(f ⟨g.step,g.cd,g.bR⟩).cd,bR:=(f ⟨g.step,g.cd,g.bR⟩).bR}
def ks(f:aZ→aZ)(e:bn):bn:={e with hs:=e.hs.map (zu f),gs:=e.gs.map (De f)}
theorem ZK{e:bn}:ks id e=e:=by
 have h1:zu id=id:=funext fun h=>rfl
 have h2:De id=id:=funext fun h=>rfl
 unfold ks
 rw [h1,h2,List.map_id,List.map_id]
def zw(f:aZ→aZ)(v:bF):List bn×List Tu.bj:=(v.es.map fun e=>ks f e.x,v.ts)
def Df(f:aZ→aZ)(c:bA):List jX×List (List bn×List Tu.bj):=(c.cl,c.vs.map (zw f))
def xR(lo n:Nat)(f:aZ→aZ)(m:ao):fO:=⟨m.n,m.tm,((m.cs.drop lo).take n).map (Df f)⟩
def uT(c:ax)(i:bu):Bool:=c.ms.any fun m=>m.cs.any fun a=>a.vs.any fun v=>v.es.any fun e=>decide ((⟨e.x.n.bU,e.x.n.aL⟩:bu)=i)
theorem alE{α:Type} [Inhabited α]{l:List α}{lo n a:Nat}(h:a<n):aa ((l.drop lo).take n) a=aa l (lo+a):=by
 simp [aa,Eo,GO,h]
theorem ZL{α:Type} [Inhabited α]{l:List α}{k:Nat}(h:l.length≤k):aa l k=default:=by simp [aa,h]
theorem MI{ps:List bp}{k:Nat}(h:k<ps.length):aR (ps.take k)+(aa ps k).st.length≤aR ps:=by
 have h1:=Fl h
 have h2:aR ps=aR (ps.take (k+1))+aR (ps.drop (k+1)):=by
  conv=>lhs;rw [←mR (k+1) ps]
  unfold aR;rw [cn,List.sum_append]
 omega
structure gq(s c:ax)(k:Nat)(f:aZ→aZ)(st se:Int):Prop where
 eD:c.eD=s.eD
 ps:∃p,c.ps= [p]∧p.aF=((aa s.ps k).bU,(aa s.ps k).aL,(aa s.ps k).name,st,se,(aa s.ps k).st)
 ms:c.ms.map ao.aF=s.ms.map (xR (aR (s.ps.take k)) (aa s.ps k).st.length f)
 sp:c.sp=s.sp.filter fun x=>uT c x.lG&&uT c x.di
 cN:c.cN=s.cN
 cap:∀m∈c.ms,zp m
section
variable{s c:ax}{k:Nat}{f:aZ→aZ}{st se:Int}
theorem gq.len(h:gq s c k f st se):c.ms.length=s.ms.length:=by simpa using ay List.length h.ms
theorem gq.at(h:gq s c k f st se){i:Nat}(hi:i<s.ms.length):(aa c.ms i).aF=xR (aR (s.ps.take k)) (aa s.ps k).st.length f (aa s.ms i):=by
 have hc:i<c.ms.length:=by rw [h.len];exact hi
 have e:=ay (fun l=>l[i]?) h.ms
 simp only [mx]at e
 rw [fi hi,fi hc]at e
 simp only [rW,Option.some.injEq]at e
 rw [dP hi,dP hc];exact e
theorem gq.n(h:gq s c k f st se){i:Nat}(hi:i<s.ms.length):(aa c.ms i).n=(aa s.ms i).n:=ay fO.n (h.at hi)
structure p9(s:ax)(k i a:Nat):Prop where
 li:i<s.ms.length
 la:a<(aa s.ps k).st.length
 lc:aR (s.ps.take k)+a<(aa s.ms i).cs.length
theorem gq.cs(h:gq s c k f st se)(hB:jO s)(hk:k<s.ps.length){i:Nat}(hi:i<s.ms.length):(aa c.ms i).cs.length=(aa s.ps k).st.length:=by
 have e:=ay (fun d=>d.cs.length) (h.at hi)
 have hc:=(hB.me hi).elim fun a ha=>ha.cs
 have hp:=MI hk
 simp only [ao.aF,xR,bE,eM,kQ]at e
 omega
theorem p9.of(hB:jO s)(hk:k<s.ps.length){i a:Nat}(hi:i<s.ms.length)(ha:a<(aa s.ps k).st.length):p9 s k i a:=by
 have hc:=(hB.me hi).elim fun a ha=>ha.cs
 have hp:=MI hk
 exact⟨hi,ha,oM⟩
theorem gq.cell(h:gq s c k f st se){i a:Nat}(hp:p9 s k i a):(aa (aa c.ms i).cs a).aF=Df f (aa (aa s.ms i).cs (aR (s.ps.take k)+a)):=by
 have e:=ay fO.cs (h.at hp.li)
 have hl:a<(((aa s.ms i).cs.drop (aR (s.ps.take k))).take (aa s.ps k).st.length).length:=by
  have:=hp.la
  have:=hp.lc
  rw [eM,kQ];omega
 have e':(aa c.ms i).cs.map bA.aF=(((aa s.ms i).cs.drop (aR (s.ps.take k))).take (aa s.ps k).st.length).map (Df f):=e
 have hc:a<(aa c.ms i).cs.length:=by
  have:=ay List.length e'
  rw [bE,bE]at this
  omega
 have e2:=ay (fun l=>l[a]?) e'
 simp only [mx]at e2
 rw [fi hl,fi hc]at e2
 simp only [rW,Option.some.injEq]at e2
 rw [dP hc,e2,←dP hl,alE hp.la]
theorem gq.vs(h:gq s c k f st se){i a:Nat}(hp:p9 s k i a):(aa (aa c.ms i).cs a).vs.length=(aa (aa s.ms i).cs (aR (s.ps.take k)+a)).vs.length:=by
 have e:=ay (fun d=>d.2.length) (h.cell hp)
 simpa [bA.aF,Df]using e
theorem gq.MJ(h:gq s c k f st se){i a v:Nat}(hp:p9 s k i a)(hv:v<(aa (aa s.ms i).cs (aR (s.ps.take k)+a)).vs.length):(aa (aa (aa c.ms i).cs a).vs v).aF=zw f (aa (aa (aa s.ms i).cs (aR (s.ps.take k)+a)).vs v):=by
 have h_:v<(aa (aa c.ms i).cs a).vs.length:=by rw [h.vs hp];exact hv
 have e2:=ay (fun d=>d.2[v]?) (h.cell hp)
 simp only [bA.aF,Df,mx]at e2
 rw [fi hv,fi h_]at e2
 simp only [rW,Option.some.injEq]at e2
 rw [dP hv,dP h_];exact e2
theorem gq.es(h:gq s c k f st se){i a v:Nat}(hp:p9 s k i a)(hv:v<(aa (aa s.ms i).cs (aR (s.ps.take k)+a)).vs.length):(aa (aa (aa c.ms i).cs a).vs v).es.length=(aa (aa (aa s.ms i).cs (aR (s.ps.take k)+a)).vs v).es.length:=by
 have e:=ay (fun d=>d.1.length) (h.MJ hp hv)
 simpa [bF.aF,zw]using e
theorem gq.ev(h:gq s c k f st se){i a v x:Nat}(hp:p9 s k i a)(hv:v<(aa (aa s.ms i).cs (aR (s.ps.take k)+a)).vs.length)(hx:x<(aa (aa (aa s.ms i).cs (aR (s.ps.take k)+a)).vs v).es.length):
  (aa (aa (aa (aa c.ms i).cs a).vs v).es x).x=ks f (aa (aa (aa (aa s.ms i).cs (aR (s.ps.take k)+a)).vs v).es x).x:=by
 have mK:x<(aa (aa (aa c.ms i).cs a).vs v).es.length:=by rw [h.es hp hv];exact hx
 have e2:=ay (fun d=>d.1[x]?) (h.MJ hp hv)
 simp only [bF.aF,zw,mx]at e2
 rw [fi hx,fi mK]at e2
 simp only [rW,Option.some.injEq]at e2
 rw [dP hx,dP mK];exact e2
end
def MK(f:aZ→aZ)(x:bn):Prop:=∀id lg d,iT x id lg d→iT (ks f x) id lg d
theorem alF{x:bn}:MK id x:=fun i lg d h=>by rw [ZK];exact h
theorem alG{x:bn}{st se:Int}(hr:Rg x)(hs: -12≤se∧se≤12):MK (k_ st se) x:=fun i lg d h=>h.RG (hr.rng hs)
theorem alH{x:bn}(h:gH x=0):lF x.n:=by
 by_cases hi:lF x.n
 ·exact hi
 ·rw [WD hi]at h;cases h
theorem ZM{f:aZ→aZ}{x:bn}(h1:x.hs= [])(h2:x.gs= []):ks f x=x:=by
 unfold ks
 rw [h1,h2]
 cases x
 simp only at h1 h2
 subst h1;subst h2;rfl
theorem lJ.part{v w:bF}{n a:Int}{f:aZ→aZ}(h:lJ v n a)(hf:∀x∈v.es,MK f x.x)(hd:w.aF=zw f v)(hc:w.ts.length≤w.tc):lL w n a:=by
 have h1:w.es.map aW.x=v.es.map fun e=>ks f e.x:=ay Prod.fst hd
 have h2:w.ts=v.ts:=ay Prod.snd hd
 have hl:w.es.length=v.es.length:=by simpa using ay List.length h1
 have hx:∀j,j<v.es.length→(aa w.es j).x=ks f (aa v.es j).x:=fun j hj=>by
  have e2:=ay (fun l=>l[j]?) h1
  simp only [mx]at e2
  rw [fi hj,fi  oM]at e2
  simp only [rW,Option.some.injEq]at e2
  rw [dP hj,dP  oM];exact e2
 have pe:∀x∈w.es,∃y∈v.es,x.x=ks f y.x:=fun x hm=>by
  obtain⟨j,hj,rfl⟩:=gS hm
  rw [←dP hj]
  exact⟨_,aI  oM,hx j  oM⟩
 have uE:∀x∈w.es,(∃id,x.x=(nW id).x)∨∃id lg d,iT x.x id lg d∧fU lg d:=fun x hm=>by
  obtain⟨y,hy,e⟩:=pe x hm
  rcases h.ev y hy with⟨id,e2⟩|⟨id,lg,d,g1,g2⟩
  ·refine .inl ⟨id,?_⟩
   rw [e,e2,ZM rfl rfl]
  ·refine .inr ⟨id,lg,d,?_,g2⟩
   rw [e];exact hf y hy _ _ _ g1
 have ZN:∀x∈w.es,gH x.x=0:=fun x hm=>by
  obtain⟨y,hy,e⟩:=pe x hm
  have h0:gH y.x=0:=lL.CJ h.g y hy
  rcases h.ev y hy with⟨id,e2⟩|⟨id,lg,d,g1,g2⟩
  ·rw [e,e2,ZM rfl rfl,←e2];exact h0
  ·have hi:=alH h0
   unfold lF at hi
   rw [e]
   exact(hf y hy _ _ _ g1).uA (by have:=g1.aL;omega) g2
 refine⟨?_,fun j hj=>⟨?_,trivial⟩,by rw [hl];exact h.len,uE⟩
 ·rcases h.e with⟨x,e1,e2,e3,e4,e5⟩|⟨e1,e2,e3,e4,e5,e6⟩
  ·have yN:w.es.length=1:=by rw [hl,e1];rfl
   obtain⟨y,hy⟩:=EB.1 yN
   have FH:y.x=ks f x.x:=by
    have:=hx 0 (by rw [e1];exact Nat.one_pos)
    rw [hy,e1]at this;exact this
   refine .inl ⟨y,hy,by rw [h2];exact e2,by rw [FH];exact e3,ZN y (by rw [hy];exact c_.2 rfl),?_⟩
   rw [FH]
   exact⟨by show(x.x.hs.map _).length≤_;rw [bE];exact e5.1,by show(x.x.gs.map _).length≤_;rw [bE];exact e5.2.1,e5.2.2⟩
  ·refine .inr ⟨?_,ZN,oM,oM,by rw [h2];exact e5,hc⟩
   rw [h2]
   have hn:∀j,j<v.es.length→aa (w.es.map aW.x) j=ks f (aa (v.es.map aW.x) j):=fun j hj=>by
    rw [pb (f:=aW.x)  oM,pb (f:=aW.x) hj];exact hx j hj
   refine e1.same (by simp [hl]) (fun j hj=>?_) (fun j hj id lg d hw=>?_)
   ·rw [bE]at hj
    rw [hn j hj];rfl
   ·rw [bE]at hj
    rw [hn j hj]
    rw [pb (f:=aW.x) hj]at hw⊢
    exact hf _ (aI hj) _ _ _ hw
 ·rw [hx j  oM]
  exact(h.ee j  oM).1
section
variable{s c:ax}{k:Nat}{f:aZ→aZ}{st se:Int}
def ML(f:aZ→aZ)(p:Int×List aZ):Int×List aZ:=(p.1,p.2.map f)
def Dg(c:bA):List (List (Int×List aZ)):=c.vs.map fun v=>v.es.map kb
theorem alI{x y:bA}(h:x.aF=Df f y):Dg x=(Dg y).map (List.map (ML f)):=by
 have e:x.vs.map bF.aF=y.vs.map (zw f):=ay Prod.snd h
 have h1:Dg x=(x.vs.map bF.aF).map fun v=>v.1.map fun e=>(e.n.bo,e.hs.map Hd.pt):=by
  unfold Dg
  rw [fu]
  refine iO fun v _=>?_
  show v.es.map kb=(v.es.map aW.x).map _
  rw [fu];rfl
 rw [h1,e,Dg,fu,fu]
 refine iO fun v _=>?_
 show(v.es.map fun e=>ks f e.x).map _=(v.es.map kb).map _
 rw [fu,fu]
 refine iO fun e _=>?_
 show(e.x.n.bo,(e.x.hs.map (zu f)).map Hd.pt)=(e.x.n.bo,(e.x.hs.map Hd.pt).map f)
 rw [fu,fu];rfl
theorem ZO{α β:Type} [Inhabited α] [Inhabited β]{g:α→β}{l:List α}{k:Nat}(h:g default=default):aa (l.map g) k=g (aa l k):=by
 by_cases hk:k<l.length
 ·exact jz hk
 ·rw [ZL (by rw [bE];omega),ZL  oM,h]
theorem gq.sk(h:gq s c k f st se)(hB:jO s)(hk:k<s.ps.length){i a:Nat}(hp:p9 s k i a):aa (aa (er c.ms) i) a=(aa (aa (er s.ms) i) (aR (s.ps.take k)+a)).map (List.map (ML f)):=by
 have hc:i<c.ms.length:=by rw [h.len];exact hp.li
 rw [Da,Da,aG hc,aG hp.li]
 show aa ((aa c.ms i).cs.map Dg) a=(aa ((aa s.ms i).cs.map Dg) _).map _
 rw [jz (by rw [h.cs hB hk hp.li];exact hp.la),jz hp.lc]
 exact alI (h.cell hp)
theorem gq.next(h:gq s c k f st se)(hB:jO s)(hk:k<s.ps.length){i a v x:Nat}(hp:p9 s k i a){kd:Int}{l:List aZ}(hn:yX (er s.ms) i (aR (s.ps.take k)+a) v x=some (kd,l)):yX (er c.ms) i a v x=some (kd,l.map f):=by
 have hl:(er c.ms).length=(er s.ms).length:=by simp [er,h.len]
 have Hk:(er s.ms).length=s.ms.length:=by simp [er]
 unfold yX at hn⊢
 rw [h.sk hB hk hp,ZO (g:=List.map (ML f)) rfl,bE,hl]
 by_cases h1:x+1<(aa (aa (aa (er s.ms) i) (aR (s.ps.take k)+a)) v).length
 ·rw [aG h1]at hn⊢
  rw [jz h1,Option.some.inj hn];rfl
 ·rw [aD h1]at hn⊢
  by_cases h2:i+1<(er s.ms).length∧(aR (s.ps.take k)+a)<(aa (er s.ms) (i+1)).length∧v<(aa (aa (er s.ms) (i+1)) (aR (s.ps.take k)+a)).length∧(aa (aa (aa (er s.ms) (i+1)) (aR (s.ps.take k)+a)) v).length≠0
  ·rw [aG h2]at hn
   have nY:p9 s k (i+1) a:=p9.of hB hk (by rw [←Hk];exact h2.1) hp.la
   have hc:i+1<c.ms.length:=by rw [h.len];exact nY.li
   have b_:a<(aa (er c.ms) (i+1)).length:=by
    rw [Da,aG hc]
    show a<((aa c.ms (i+1)).cs.map _).length
    rw [bE,h.cs hB hk nY.li];exact hp.la
   have h3:0<(aa (aa (aa (er s.ms) (i+1)) (aR (s.ps.take k)+a)) v).length:=Nat.pos_of_ne_zero h2.2.2.2
   rw [h.sk hB hk nY,ZO (g:=List.map (ML f)) rfl,bE,bE,aG ⟨h2.1,b_,h2.2.2.1,h2.2.2.2⟩,jz h3,Option.some.inj hn];rfl
  ·rw [aD h2]at hn;cases hn
theorem gq.rA(h:gq s c k f st se)(hB:jO s)(hk:k<s.ps.length):uJ c.ms:=fun i a v x q hr ht=>by
 have hi:i<s.ms.length:=by rw [←h.len];exact hr.li
 have ha:a<(aa s.ps k).st.length:=by rw [←h.cs hB hk hi];exact hr.lc
 have hp:=p9.of hB hk hi ha
 have hv:v<(aa (aa s.ms i).cs (aR (s.ps.take k)+a)).vs.length:=by rw [←h.vs hp];exact hr.lv
 have hx:x<(aa (aa (aa s.ms i).cs (aR (s.ps.take k)+a)).vs v).es.length:=by rw [←h.es hp hv];exact hr.lx
 have e:=h.ev hp hv hx
 have hq:q<(aa (aa (aa (aa s.ms i).cs (aR (s.ps.take k)+a)).vs v).es x).x.hs.length:=by
  have:=hr.lh
  rw [e]at this
  simpa [ks]using this
 have RI:aa (aa (aa (aa (aa c.ms i).cs a).vs v).es x).x.hs q=zu f (aa (aa (aa (aa (aa s.ms i).cs (aR (s.ps.take k)+a)).vs v).es x).x.hs q):=by
  rw [e];exact jz hq
 have mY:Fj s.ms i (aR (s.ps.take k)+a) v x q=true:=by
  have t1:(aa (aa (aa (aa (aa c.ms i).cs a).vs v).es x).x.hs q).jJ=true:=ht
  rw [RI]at t1;exact t1
 obtain⟨kd,l,h1,h2,h3⟩:=hB.rA i (aR (s.ps.take k)+a) v x q ⟨hi,hp.lc,hv,hx,hq⟩ mY
 refine⟨kd,l.map f,h.next hB hk hp h1,h2,?_⟩
 rw [RI]
 exact cL.2 ⟨_,h3,rfl⟩
def FO(c:bA):List Int:=c.vs.flatMap fun v=>v.es.map fun e=>e.x.n.aL
theorem alJ{lo n:Nat}{m:ao}:RD (xR lo n f m)=m.n.aL::((m.cs.drop lo).take n).flatMap FO:=by
 show m.n.aL::_=_
 congr 1
 show((((m.cs.drop lo).take n).map (Df f)).flatMap fun c=>c.2.flatMap fun v=>v.1).map _=_
 rw [wX,o0]
 unfold List.flatMap
 refine ay List.flatten (iO fun c _=>?_)
 show((c.vs.map (zw f)).flatMap fun v=>v.1).map _=FO c
 rw [wX,o0]
 unfold FO List.flatMap
 refine ay List.flatten (iO fun v _=>?_)
 show(v.es.map fun e=>ks f e.x).map _=_
 rw [fu];rfl
theorem alK{m:ao}:RD m.aF=m.n.aL::m.cs.flatMap FO:=by
 show m.n.aL::_=_
 congr 1
 show((m.cs.map bA.aF).flatMap fun c=>c.2.flatMap fun v=>v.1).map _=_
 rw [wX,o0]
 unfold List.flatMap
 refine ay List.flatten (iO fun c _=>?_)
 show((c.vs.map bF.aF).flatMap fun v=>v.1).map _=FO c
 rw [wX,o0]
 unfold FO List.flatMap
 refine ay List.flatten (iO fun v _=>?_)
 show(v.es.map aW.x).map _=_
 rw [fu];rfl
theorem ZP{α β:Type}{f g:α→List β}:∀{l:List α},(∀x∈l,(f x).Sublist (g x))→(l.flatMap f).Sublist (l.flatMap g)
 | [],_=>List.Sublist.refl _
 |a::l,h=>by
  rw [B7,B7]
  exact(h a sM).append (ZP fun x hx=>h x (by simp [hx]))
theorem alL{α:Type} [Inhabited α]{l:List α}{k:Nat}(h:k<l.length): [aa l k].Sublist l:=List.singleton_sublist.2 (aI h)
theorem gq.ee(h:gq s c k f st se)(hk:k<s.ps.length):(bV c.ps++dU c.ms++c.sp.map fun x=>x.id.aL).Sublist (bV s.ps++dU s.ms++s.sp.map fun x=>x.id.aL):=by
 obtain⟨p,hp,hd⟩:=h.ps
 refine List.Sublist.append (List.Sublist.append ?_ ?_) ?_
 ·have e:bV c.ps=bV [aa s.ps k]:=by
   rw [hp]
   have e1:p.aL=(aa s.ps k).aL:=ay (fun d=>d.2.1) hd
   have e2:p.st=(aa s.ps k).st:=ay (fun d=>d.2.2.2.2.2) hd
   simp [bV,e1,e2]
  rw [e]
  exact FM (alL hk)
 ·rw [MB,MB,h.ms,wX,wX]
  refine ZP fun m _=>?_
  rw [alJ,alK]
  exact(FM ((KA _ _).trans (G1 _ _))).cons_cons _
 ·rw [h.sp]
  exact List.filter_sublist.map _
def ZQ(s:ax)(k:Nat)(f:aZ→aZ):Prop:=∀i a,p9 s k i a→∀v∈(aa (aa s.ms i).cs (aR (s.ps.take k)+a)).vs,∀x∈v.es,MK f x.x
theorem gq.base(h:gq s c k f st se)(hB:jO s)(hk:k<s.ps.length)(hf:ZQ s k f)(cG: -77≤st∧st≤77)(zx: -12≤se∧se≤12):bX c:=by
 obtain⟨p,hp,hd⟩:=id h.ps
 have dj:=hB.ml
 have hM:=hB.ps _ (aI hk)
 have alM:aR c.ps=(aa s.ps k).st.length:=by
  rw [hp]
  have e2:p.st=(aa s.ps k).st:=ay (fun d=>d.2.2.2.2.2) hd
  simp [aR,e2]
 have IS:=h.ee hk
 refine⟨by rw [h.eD];exact hB.eD,by rw [hp];exact⟨cE _,by show 1≤3;omega⟩,fun q hq=>?_,by rw [h.len];exact dj,fun m hm=>?_,?_,h.rA hB hk,?_,fun x hx=>?_,hB.vP.sublist IS,?_⟩
 ·rw [hp]at hq
  rw [c_.1 hq]
  have e1:p.bU=(aa s.ps k).bU:=ay (fun d=>d.1) hd
  have e3:p.name=(aa s.ps k).name:=ay (fun d=>d.2.2.1) hd
  have e4:p.steps=st:=ay (fun d=>d.2.2.2.1) hd
  have e5:p.semis=se:=ay (fun d=>d.2.2.2.2.1) hd
  have e6:p.st=(aa s.ps k).st:=ay (fun d=>d.2.2.2.2.2) hd
  exact⟨by rw [e1];exact hM.bU,by rw [e3];exact hM.name,by rw [e4];exact cG,by rw [e5];exact zx,by rw [e6];exact hM.st,by rw [e6];exact hM.cl⟩
 ·obtain⟨i,hi,rfl⟩:=gS hm
  have da:i<s.ms.length:=by rw [←h.len];exact hi
  obtain⟨z,hz⟩:=hB.me da
  have e1:=h.n da
  have e2:(aa c.ms i).tm=(aa s.ms i).tm:=ay fO.tm (h.at da)
  have eU:=h.cap _ hm
  rw [←dP hi]at eU⊢
  refine⟨by rw [e1];exact hz.met,by rw [e1];exact hz.tl,⟨by rw [e1];exact hz.id.1,trivial⟩,by rw [e1];exact hz.fg,by rw [e1];exact hz.ff,by rw [e2];exact hz.tm,by rw [alM];exact h.cs hB hk da,fun y hy=>?_⟩
  have ZR:=eU y hy
  obtain⟨a,ha,rfl⟩:=gS hy
  have uP:a<(aa s.ps k).st.length:=by rw [←h.cs hB hk da];exact ha
  have hP:=p9.of hB hk da uP
  have hcd:=h.cell hP
  have hC:=hz.ce _ (aI hP.lc)
  rw [←dP ha]at ZR⊢
  refine⟨(ay Prod.fst hcd).trans hC.cl,by rw [h.vs hP];exact hC.len,fun v hv=>?_⟩
  have Bm:=ZR v hv
  obtain⟨j,hj,rfl⟩:=gS hv
  have fK:j<(aa (aa s.ms i).cs (aR (s.ps.take k)+a)).vs.length:=by rw [←h.vs hP];exact hj
  obtain⟨b,hV⟩:=hC.vs _ (aI fK)
  rw [←dP hj]at Bm⊢
  exact⟨b,by rw [e1];exact hV.part (fun x hx=>hf i a hP _ (aI fK) x hx) (h.MJ hP fK) Bm⟩
 ·rw [h.n  oM];exact hB.AX
 ·rw [h.sp]
  exact j3 (Ow _ _) hB.sl
 ·rw [h.sp]at hx
  exact hB.y7 x (wR.1 hx).1
 ·obtain⟨N,e1,e2,e3⟩:=hB.xE
  exact⟨N,by rw [h.cN];exact e1,e2,fun x hx=>e3 x (IS.subset hx)⟩
end
section
variable{s c:ax}{k:Nat}{f:aZ→aZ}{st se:Int}
theorem ZS:∀{l r:List ao} {st:Bool},l.map ao.n=r.map ao.n→gL st l=gL st r
 | [], [],_,_=>rfl
 | [],_::_,_,h=>by cases h
 |_::_, [],_,h=>by cases h
 |a::l,b::r,st,h=>by
  rw [mQ,mQ,List.cons.injEq]at h
  rw [gL,gL,h.1]
  split
  ·rfl
  ·exact ZS h.2
theorem gq.Ru(h:gq s c k f st se)(hR:qE s):qE c:=by
 unfold qE at*
 rw [←hR]
 refine ZS ?_
 have e:∀l:List ao,l.map ao.n=(l.map ao.aF).map fO.n:=fun l=>by rw [fu];rfl
 rw [e,h.ms,fu];rfl
theorem alO{e:bn}:nS (ks f e)=nS e:=by
 unfold nS ks
 rw [Ak];rfl
theorem gq.Rv(h:gq s c k f st se)(hB:jO s)(hk:k<s.ps.length)(hM:zf s):zf c:=fun i a v x hi hc hv hx=>by
 have da:i<s.ms.length:=by rw [←h.len];exact hi
 have hp:=p9.of hB hk da (by rw [←h.cs hB hk da];exact hc)
 have h_:v<(aa (aa s.ms i).cs (aR (s.ps.take k)+a)).vs.length:=by rw [←h.vs hp];exact hv
 have mK:x<(aa (aa (aa s.ms i).cs (aR (s.ps.take k)+a)).vs v).es.length:=by rw [←h.es hp h_];exact hx
 have hm:=hM i (aR (s.ps.take k)+a) v x da hp.lc h_ mK
 have e:=h.ev hp h_ mK
 have e3:=h.es hp h_
 unfold oN oK at hm⊢
 by_cases h1:x+1<((aa (aa (aa c.ms i).cs a).vs v)).es.length
 ·rw [aG h1];simp
 ·have zg:¬x+1<((aa (aa (aa s.ms i).cs (aR (s.ps.take k)+a)).vs v)).es.length:=fun hn=>h1 (by rw [e3];exact hn)
  rw [aD h1]
  rw [aD zg]at hm
  by_cases h2:pf c.ms (i+1) a v∧((aa (aa (aa c.ms (i+1)).cs a).vs v)).es.length≠0
  ·have pE:i+1<s.ms.length:=by rw [←h.len];exact h2.1.li
   have nY:=p9.of hB hk pE hp.la
   have MM:v<(aa (aa s.ms (i+1)).cs (aR (s.ps.take k)+a)).vs.length:=by rw [←h.vs nY];exact h2.1.lv
   have f3:=h.es nY MM
   have C9:pf s.ms (i+1) (aR (s.ps.take k)+a) v∧((aa (aa (aa s.ms (i+1)).cs (aR (s.ps.take k)+a)).vs v)).es.length≠0:=⟨⟨pE,nY.lc,MM⟩,by rw [←f3];exact h2.2⟩
   rw [aG h2]
   rw [aG C9]at hm
   dsimp only at hm⊢
   rw [e,alO,h.n da,h.n pE]
   exact hm
  ·rw [aD h2]
theorem alP{w v:bF}(h:w.aF=zw f v)(n:Int):VL w n=VL v n:=by
 have h1:w.es.map aW.x=v.es.map fun e=>ks f e.x:=ay Prod.fst h
 have h2:w.ts=v.ts:=ay Prod.snd h
 have hl:w.es.length=v.es.length:=by simpa using ay List.length h1
 have Cy:jw (w.es.map aW.x)=jw (v.es.map aW.x):=by
  rw [h1]
  unfold jw
  rw [fu,fu]
  exact iO fun e _=>rfl
 have h0:(aa w.es 0).x.n.bo=(aa v.es 0).x.n.bo:=by
  cases hv:v.es with
  |nil=>
   rw [hv]at h1
   rw [List.map_eq_nil_iff.1 h1]
  |cons y l=>
   rw [hv]at h1
   cases hw:w.es with
   |nil=>rw [hw]at h1;cases h1
   |cons z r=>
    rw [hw,mQ,mQ,List.cons.injEq]at h1
    show z.x.n.bo=y.x.n.bo
    rw [h1.1];rfl
 unfold VL jg
 rw [h0,Cy,h2,bE,bE,hl]
structure Bn(lo:Nat)(p q:oL):Prop where
 k7:q.k7=p.k7
 cA:q.cA=p.cA
 iC:p.iC=lo+q.iC
 nn:0≤q.iC
 jQ:q.jQ=p.jQ
theorem Bn.rI{lo:Nat}{p q p' q':oL}(h:Bn lo p q)(h':Bn lo p' q'):su q q'=su p p':=by
 unfold su
 rw [h.k7,h.cA,h'.k7,h'.cA]
theorem Bn.aK{lo:Nat}{p q:oL}(h:Bn lo p q)(hp:nu p=true):nu q=true:=by
 have h1:=h.iC
 have h2:=h.nn
 unfold nu vT at*
 rw [h.k7,h.cA,h.jQ]
 simp only [eN,jl]at hp⊢
 exact⟨hp.1,hp.2.1,oM,hp.2.2.2⟩
structure Di(lo:Nat)(a b:fD):Prop where
 bo:b.bo=a.bo
 fr:Bn lo a.fr b.fr
 di:Bn lo a.di b.di
theorem Di.RA{lo:Nat}{a b:fD}(h:Di lo a b)(hp:mI a=0):mI b=0:=by
 have h1:=h.fr.iC
 have h2:=h.di.iC
 unfold mI at*
 rw [h.bo,h.fr.jQ,h.di.jQ,h.fr.rI h.di]
 split at hp
 ·cases hp
 ·rename_i k1
  rw [aD k1]
  split at hp
  ·cases hp
  ·rename_i k2
   have k3:(nu a.fr&&nu a.di)=true:=by simpa using k2
   rw [eN]at k3
   rw [aD (by rw [h.fr.aK k3.1,h.di.aK k3.2];decide)]
   split at hp
   ·cases hp
   ·rename_i k4
    rw [aD (fun g=>k4 (by
     rcases g with g|g
     ·exact .inl  oM
     ·exact .inr g))]
    exact hp
theorem Di.RB{lo:Nat}{a b a' b':fD}(h:Di lo a b)(h':Di lo a' b'):iV b b'=iV a a':=by
 have e:(b.fr.iC==b'.fr.iC)=(a.fr.iC==a'.fr.iC):=by
  have h1:=h.fr.iC
  have h2:=h'.fr.iC
  rw [ug,g_,g_];omega
 unfold iV lM A2 xL zb zc
 rw [e,h.bo,h'.bo,h.fr.jQ,h'.fr.jQ,h.di.rI h'.fr,h'.di.rI h.fr,h.fr.rI h'.fr,h.di.rI h'.di,h'.fr.rI h.fr,h'.di.rI h.di]
theorem ZT{id:bu}(h:uT c id=true):∃i a v x,i<c.ms.length∧a<(aa c.ms i).cs.length∧v<(aa (aa c.ms i).cs a).vs.length∧x<(aa (aa (aa c.ms i).cs a).vs v).es.length∧(⟨(aa (aa (aa (aa c.ms i).cs a).vs v).es x).x.n.bU,(aa (aa (aa (aa c.ms i).cs a).vs v).es x).x.n.aL⟩:bu)=id:=by
 unfold uT at h
 obtain⟨m,hm,h⟩:=kR.1 h
 obtain⟨y,hy,h⟩:=kR.1 h
 obtain⟨w,hw,h⟩:=kR.1 h
 obtain⟨e,he,h⟩:=kR.1 h
 obtain⟨i,hi,rfl⟩:=gS hm
 rw [←dP hi]at hy
 obtain⟨a,ha,rfl⟩:=gS hy
 rw [←dP ha]at hw
 obtain⟨v,hv,rfl⟩:=gS hw
 rw [←dP hv]at he
 obtain⟨x,hx,rfl⟩:=gS he
 rw [←dP hx]at h
 exact⟨i,a,v,x,hi,ha,hv,hx,by simpa using h⟩
theorem gq.IP(h:gq s c k f st se)(hB:jO s)(hk:k<s.ps.length)(gY:bX c){id:bu}(he:uT c id=true):∃p q,il s id=some p∧il c id=some q∧Bn (aR (s.ps.take k)) p q:=by
 obtain⟨i,a,v,x,hi,ha,hv,hx,hid⟩:=ZT he
 have da:i<s.ms.length:=by rw [←h.len];exact hi
 have hp:=p9.of hB hk da (by rw [←h.cs hB hk da];exact ha)
 have h_:v<(aa (aa s.ms i).cs (aR (s.ps.take k)+a)).vs.length:=by rw [←h.vs hp];exact hv
 have mK:x<(aa (aa (aa s.ms i).cs (aR (s.ps.take k)+a)).vs v).es.length:=by rw [←h.es hp h_];exact hx
 have e:=h.ev hp h_ mK
 have IQ:(⟨(aa (aa (aa (aa s.ms i).cs (aR (s.ps.take k)+a)).vs v).es x).x.n.bU,(aa (aa (aa (aa s.ms i).cs (aR (s.ps.take k)+a)).vs v).es x).x.n.aL⟩:bu)=id:=by
  rw [e]at hid;exact hid
 have hz:id≠A3:=by
  obtain⟨b,hV⟩:=(hB.cell da hp.lc).2.2 v h_
  have:=(hV.g.ee x mK).1
  intro h0
  rw [←IQ]at h0
  have e0:=ay bu.bU h0
  have e1:(aa (aa (aa (aa s.ms i).cs (aR (s.ps.take k)+a)).vs v).es x).x.n.bU=0:=e0
  omega
 have f1:=RC hB.w hz (Mx da hp.lc h_ mK) IQ
 have f2:=RC gY hz (Mx hi ha hv hx) hid
 refine⟨⟨i,uL s i (aR (s.ps.take k)+a) v x,((aR (s.ps.take k)+a:Nat):Int),v⟩,⟨i,uL c i a v x,(a:Int),v⟩,?_,?_,rfl,?_,by show(((aR (s.ps.take k)+a:Nat)):Int)=_+(a:Int);omega,by show(0:Int)≤(a:Int);omega,rfl⟩
 ·unfold il
  rw [f1]
  show(if(4:Int)=4 then _ else _)=_
  rw [aG rfl];rfl
 ·unfold il
  rw [f2]
  show(if(4:Int)=4 then _ else _)=_
  rw [aG rfl];rfl
 ·show uL c i a v x=uL s i _ v x
  unfold uL
  rw [show VL ((aa (aa (aa c.ms i).cs a).vs v)) (aa c.ms i).n.met.ln=VL ((aa (aa (aa s.ms i).cs (aR (s.ps.take k)+a)).vs v)) (aa s.ms i).n.met.ln from by
   rw [h.n da];exact alP (h.MJ hp h_) _]
def uU(s:ax)(x:d_):fD:=⟨x.bo,(il s x.lG).getD default,(il s x.di).getD default⟩
def FP(s:ax)(x:d_):Bool:= !(il s x.lG).isSome||(!(il s x.di).isSome||mI (uU s x) !=0)
theorem MN{s:ax}{j:Nat}:ji s j=uU s (aa s.sp j):=rfl
theorem ZU{s:ax}{j:Nat}:iL s j=FP s (aa s.sp j):=rfl
theorem RJ{s:ax}:ze s↔∀x∈s.sp,FP s x=false:=by
 constructor
 ·intro h x hx
  obtain⟨j,hj,rfl⟩:=gS hx
  have:=h j hj
  rw [ZU,dP hj]at this;exact this
 ·intro h j hj
  rw [ZU];exact h _ (aI hj)
theorem ZV{s:ax}(he:ze s):Ip s↔s.sp.Pairwise fun a b=>iV (uU s a) (uU s b)=false:=by
 rw [B2]
 constructor
 ·intro h i j hi hj lD
  have h1:=h j hj
  unfold lN at h1
  rw [he j hj]at h1
  have h2:((List.range j).any fun q=> !iL s q&&iV (ji s q) (ji s j))=false:=by simpa using h1
  have h3:=List.any_eq_false.1 h2 i (e_.2 lD)
  rw [he i hi]at h3
  have h4:iV (ji s i) (ji s j)=false:=by simpa using h3
  rw [MN,MN,dP hi,dP hj]at h4;exact h4
 ·intro h j hj
  unfold lN
  rw [he j hj]
  have h2:((List.range j).any fun q=> !iL s q&&iV (ji s q) (ji s j))=false:=by
   rw [List.any_eq_false]
   intro i hi
   have lD:=e_.1 hi
   have da:i<s.sp.length:=oM
   have h4:=h i j da hj lD
   rw [←dP da,←dP hj,←MN,←MN]at h4
   rw [h4];simp
  rw [h2];rfl
theorem gq.uK(h:gq s c k f st se)(hB:jO s)(hk:k<s.ps.length)(gY:bX c){x:d_}(hx:x∈c.sp)(hw:∀x∈s.sp,FP s x=false):FP c x=false∧Di (aR (s.ps.take k)) (uU s x) (uU c x):=by
 rw [h.sp]at hx
 obtain⟨hm,hf⟩:=wR.1 hx
 rw [eN]at hf
 obtain⟨p,q,p1,p2,p3⟩:=h.IP hB hk gY hf.1
 obtain⟨p',q',q1,q2,q3⟩:=h.IP hB hk gY hf.2
 have hR:Di (aR (s.ps.take k)) (uU s x) (uU c x):=by
  unfold uU
  rw [p1,p2,q1,q2]
  exact⟨rfl,p3,q3⟩
 refine⟨?_,hR⟩
 have w0:=hw x hm
 unfold FP at w0⊢
 rw [Ez,Ez]at w0
 have w4:mI (uU s x)=0:=by simpa using w0.2.2
 rw [hR.RA w4,p2,q2];rfl
theorem gq.ok(h:gq s c k f st se)(hB:jO s)(hk:k<s.ps.length)(gY:bX c)(hO:jx s):jx c:=by
 obtain⟨o1,o2,o3,o4⟩:=hO
 have w1:=RJ.1 o1
 have e1:ze c:=RJ.2 fun x hx=>(h.uK hB hk gY hx w1).1
 refine⟨e1,(ZV e1).2 ?_,h.Ru o3,h.Rv hB hk o4⟩
 have n1:=(ZV o1).1 o2
 have n2:c.sp.Pairwise fun a b=>iV (uU s a) (uU s b)=false:=by rw [h.sp];exact n1.filter _
 refine n2.imp_of_mem fun{a b} ha hb Bc=>?_
 rw [(h.uK hB hk gY ha w1).2.RB (h.uK hB hk gY hb w1).2];exact Bc
end
def bD(hid:List Bool)(q:Nat):Nat:=if q<(aQ 0 hid).length then aa (aQ 0 hid) q else hid.length
theorem ZW{r:List Bool}:aQ 0 (true::r)=(aQ 0 r).map (· +1):=tC (r:=r) (k:=0)
theorem RK{r:List Bool}:aQ 0 (false::r)=0::(aQ 0 r).map (· +1):=ay (List.cons 0) (tC (r:=r) (k:=0))
theorem Dj{r:List Bool}{q:Nat}:bD (true::r) q=bD r q+1:=by
 unfold bD
 rw [ZW,bE]
 split
 ·rename_i h;rw [jz h]
 ·rfl
theorem MO{r:List Bool}:bD (false::r) 0=0:=by
 unfold bD
 rw [RK,aG sM];rfl
theorem zy{r:List Bool}{q:Nat}:bD (false::r) (q+1)=bD r q+1:=by
 unfold bD
 rw [RK,ga,bE]
 by_cases h:q<(aQ 0 r).length
 ·rw [aG h,aG  oM]
  have e3:aa (0::(aQ 0 r).map (· +1)) (q+1)=aa ((aQ 0 r).map (· +1)) q:=by simp [aa]
  rw [e3,jz h]
 ·rw [aD h,aD  oM];rfl
theorem Dm:∀{r:List Bool},bD r 0=n5 r
 | []=>rfl
 |true::r=>by rw [Dj,Dm (r:=r)];rfl
 |false::r=>by rw [MO];rfl
theorem IT{r:List Bool}:(aQ 0 (true::r)).length=(aQ 0 r).length:=by rw [ZW,bE]
theorem IU{r:List Bool}:(aQ 0 (false::r)).length=(aQ 0 r).length+1:=by rw [RK,ga,bE]
theorem pq:∀{r:List Bool} {q:Nat},q<(aQ 0 r).length→bD r (q+1)=bD r q+aa (cT r) q
 | [],q,h=>by cases h
 |true::r,q,h=>by
  rw [IT]at h
  rw [Dj,Dj,pq h]
  show _=_+aa (cT r) q
  omega
 |false::r,0,h=>by
  rw [zy,MO,Dm]
  show n5 r+1=0+(n5 r+1)
  omega
 |false::r,q+1,h=>by
  rw [IU]at h
  rw [zy,zy,pq (show q<(aQ 0 r).length by omega)]
  have e:aa (cT (false::r)) (q+1)=aa (cT r) q:=by show aa ((n5 r+1)::cT r) (q+1)=_;simp [aa]
  rw [e];omega
theorem uW:∀{r:List Bool} {q:Nat},q<(aQ 0 r).length→1≤aa (cT r) q
 | [],q,h=>by cases h
 |true::r,q,h=>by rw [IT]at h;exact uW (r:=r) h
 |false::r,0,h=>Nat.le_add_left _ _
 |false::r,q+1,h=>by
  rw [IU]at h
  have e:aa (cT (false::r)) (q+1)=aa (cT r) q:=by show aa ((n5 r+1)::cT r) (q+1)=_;simp [aa]
  rw [e];exact uW  oM
theorem MP{r:List Bool}{q:Nat}(h:(aQ 0 r).length≤q):bD r q=r.length:=aD  oM
theorem MQ{r:List Bool}{q:Nat}(h:q<(aQ 0 r).length):bD r q=aa (aQ 0 r) q:=aG h
theorem Bo:∀{r:List Bool} {q:Nat},q<(aQ 0 r).length→bD r q<r.length∧aa r (bD r q)=false
 | [],q,h=>by cases h
 |true::r,q,h=>by
  rw [IT]at h
  obtain⟨h1,h2⟩:=Bo h
  rw [Dj,ga]
  exact⟨oM,by rw [show aa (true::r) (bD r q+1)=aa r (bD r q)from by simp [aa]];exact h2⟩
 |false::r,0,h=>by rw [MO];exact⟨by simp,rfl⟩
 |false::r,q+1,h=>by
  rw [IU]at h
  obtain⟨h1,h2⟩:=Bo (show q<(aQ 0 r).length by omega)
  rw [zy,ga]
  exact⟨oM,by rw [show aa (false::r) (bD r q+1)=aa r (bD r q)from by simp [aa]];exact h2⟩
theorem MR:∀{r:List Bool} {q j:Nat},q<(aQ 0 r).length→bD r q<j→j<bD r (q+1)→aa r j=true
 | [],q,j,h,_,_=>by cases h
 |true::r,q,0,h,h1,_=>oM
 |true::r,q,j+1,h,h1,h2=>by
  rw [IT]at h
  rw [Dj]at h1 h2
  rw [show aa (true::r) (j+1)=aa r j from by simp [aa]]
  exact MR h  oM oM
 |false::r,q,0,h,h1,_=>oM
 |false::r,0,j+1,h,h1,h2=>by
  rw [zy,Dm]at h2
  rw [show aa (false::r) (j+1)=aa r j from by simp [aa]]
  have key:∀{r:List Bool} {j:Nat},j<n5 r→aa r j=true:=by
   intro r
   induction r with
   |nil=>intro j h;simp [n5]at h
   |cons b r ih=>
    intro j h
    cases b with
    |false=>simp [n5]at h
    |true=>
     cases j with
     |zero=>rfl
     |succ j=>
      rw [show aa (true::r) (j+1)=aa r j from by simp [aa]]
      exact ih (by have h':j+1<n5 r+1:=h;omega)
  exact key  oM
 |false::r,q+1,j+1,h,h1,h2=>by
  rw [IU]at h
  rw [zy]at h1 h2
  rw [show aa (false::r) (j+1)=aa r j from by simp [aa]]
  exact MR (show q<(aQ 0 r).length by omega)  oM oM
theorem ta{r:List Bool}{q:Nat}:bD r q≤r.length:=by
 by_cases h:q<(aQ 0 r).length
 ·exact ox (Bo h).1
 ·rw [MP  oM];exact cE _
theorem ZX{r:List Bool}{q p:Nat}(h:q≤p)(hp:p≤(aQ 0 r).length):bD r q+(p-q)≤bD r p:=by
 induction p with
 |zero=>
  have:q=0:=oM
  subst this;omega
 |succ p ih=>
  by_cases he:q=p+1
  ·subst he;omega
  ·have h1:=ih  oM oM
   have h2:=pq (r:=r) (q:=p)  oM
   have h3:=uW (r:=r) (q:=p)  oM
   omega
structure j1 where
 fst:Nat
 ju:Nat
instance:Inhabited j1:=⟨⟨0,0⟩⟩
def j1.enc(r:j1):List Value:= [.int .i64 (r.fst:Int),.int .i64 (r.ju:Int)]
def uX(r:List Bool)(q:Nat):List j1:=if 2≤aa (cT r) q then [⟨bD r q,aa (cT r) q⟩]else []
def rJ(r:List Bool)(q:Nat):List j1:=(List.range q).flatMap (uX r)
def fP(r:List Bool):List j1:=rJ r (aQ 0 r).length
theorem MS{r:List Bool}{q:Nat}:rJ r (q+1)=rJ r q++uX r q:=by unfold rJ;rw [qY,j5,List.flatMap_singleton]
theorem Dp{r:List Bool}:∀{q:Nat},(rJ r q).length≤q
 |0=>cE _
 |q+1=>by
  have:=Dp (r:=r) (q:=q)
  rw [MS,aT]
  have:(uX r q).length≤1:=by unfold uX;split<;>simp
  omega
def sG(i:Int)(r:j1):Bool:=decide ((r.fst:Int)≤i)&&decide (i-r.fst<r.ju)
def zB(l:List j1)(i:Int):Option j1:=l.find? (sG i)
theorem ZY{r:List Bool}{q p:Nat}(hq:q<(aQ 0 r).length)(hp:p<(aQ 0 r).length)(iU:p≠q):zB (uX r p) (bD r q:Nat)=none:=by
 unfold uX
 split
 ·have key:sG (bD r q:Nat) ⟨bD r p,aa (cT r) p⟩=false:=by
   have h1:=pq hp
   unfold sG
   rcases jH p q with h|h
   ·have h2:=ZX (r:=r) (show p+1≤q by omega)  oM
    rw [Bool.and_eq_false_iff,sT,sT]
    exact .inr (by show¬((bD r q:Nat):Int)-(bD r p:Nat)<(aa (cT r) p:Nat);omega)
   ·have h2:=ZX (r:=r) (show q≤p by omega)  oM
    rw [Bool.and_eq_false_iff,sT,sT]
    exact .inl (by show¬((bD r p:Nat):Int)≤(bD r q:Nat);omega)
  unfold zB
  rw [List.find?_cons,key];rfl
 ·rfl
theorem RL{α β:Type}{p:β→Bool}{f:α→List β}:∀{l:List α},(∀x∈l,(f x).find? p=none)→(l.flatMap f).find? p=none
 | [],_=>rfl
 |a::l,h=>by
  rw [B7,KD,h a sM,RL fun x hx=>h x (by simp [hx])];rfl
theorem alQ{r:List Bool}{q:Nat}(hq:q<(aQ 0 r).length):zB (fP r) (bD r q:Nat)=if 2≤aa (cT r) q then some ⟨bD r q,aa (cT r) q⟩else none:=by
 have e:List.range (aQ 0 r).length=List.range q++q::(List.range' (q+1) ((aQ 0 r).length-(q+1))):=by
  have h1:List.range' 0 q++List.range' q ((aQ 0 r).length-q)=List.range' 0 (aQ 0 r).length:=by
   have h2:=List.range'_append_1 (s:=0) (m:=q) (n:=(aQ 0 r).length-q)
   rw [ub]at h2
   rw [h2];congr 1;omega
  rw [List.range_eq_range',List.range_eq_range',←h1]
  congr 1
  rw [show(aQ 0 r).length-q=((aQ 0 r).length-(q+1))+1 by omega,List.range'_succ]
 have hh:sG (bD r q:Nat) ⟨bD r q,aa (cT r) q⟩=true:=by
  have:=uW hq
  unfold sG
  rw [eN,jl,jl]
  exact⟨uf _,by show((bD r q:Nat):Int)-(bD r q:Nat)<(aa (cT r) q:Nat);omega⟩
 unfold zB fP rJ
 rw [e,j5,B7,KD,KD,RL fun p hp=>ZY hq (by have:=e_.1 hp;omega) (by have:=e_.1 hp;omega),
  RL (l:=List.range' _ _) fun p hp=>ZY hq (by have:=List.mem_range'_1.1 hp;omega) (by have:=List.mem_range'_1.1 hp;omega)]
 unfold uX
 split
 ·rw [List.find?_cons,hh];rfl
 ·rfl
def E_(s:ax)(k:Nat):Bool:=lP (mi s) (aa s.ms k)
theorem RM{s:ax}{k:Nat}(h:k+1<s.ms.length):aa (aB s) (k+1)=(E_ s k&&(E_ s (k+1)&&wa (aa s.ms k) (aa s.ms (k+1)))):=Mv (p:=none) h
theorem ZZ{s:ax}{q:Nat}(hq:q<(aQ 0 (aB s)).length)(hE:E_ s (bD (aB s) q)=false):aa (cT (aB s)) q=1:=by
 have h1:=uW hq
 have h2:=pq hq
 have h3:=ta (r:=aB s) (q:=q+1)
 rw [jZ]at h3
 by_cases hc:aa (cT (aB s)) q=1
 ·exact hc
 ·have h4:=MR (j:=bD (aB s) q+1) hq  oM oM
  rw [RM  oM,hE]at h4
  cases h4
theorem RN{s:ax}{q j:Nat}(hq:q<(aQ 0 (aB s)).length)(hj:1≤j)(hjc:j<aa (cT (aB s)) q):bD (aB s) q+j<s.ms.length∧E_ s (bD (aB s) q+j)=true∧wa (aa s.ms (bD (aB s) q+j-1)) (aa s.ms (bD (aB s) q+j))=true:=by
 have h2:=pq hq
 have h3:=ta (r:=aB s) (q:=q+1)
 rw [jZ]at h3
 have h4:=MR (j:=bD (aB s) q+j) hq  oM oM
 have e:bD (aB s) q+j=(bD (aB s) q+j-1)+1:=oM
 rw [e,RM  oM,←e,eN,eN]at h4
 exact⟨oM,h4.2.1,h4.2.2⟩
theorem alS{s:ax}{q j:Nat}(hq:q<(aQ 0 (aB s)).length)(hj:1≤j)(hjc:j≤aa (cT (aB s)) q)(hl:bD (aB s) q+j<s.ms.length)(hp:E_ s (bD (aB s) q+j-1)=true)(hE:E_ s (bD (aB s) q+j)=true)(hJ:wa (aa s.ms (bD (aB s) q+j-1)) (aa s.ms (bD (aB s) q+j))=true):j<aa (cT (aB s)) q:=by
 by_cases he:j=aa (cT (aB s)) q
 ·have h2:=pq hq
  have e:bD (aB s) q+j=(bD (aB s) q+j-1)+1:=oM
  have h5:aa (aB s) (bD (aB s) q+j)=true:=by rw [e,RM  oM,←e,hp,hE,hJ];rfl
  have e2:bD (aB s) q+j=bD (aB s) (q+1):=oM
  by_cases xS:q+1<(aQ 0 (aB s)).length
  ·rw [e2,(Bo xS).2]at h5;cases h5
  ·rw [MP (r:=aB s) (q:=q+1)  oM,jZ]at e2;omega
 ·omega
theorem alT{s:ax}{q j:Nat}(hq:q<(aQ 0 (aB s)).length)(h2:2≤aa (cT (aB s)) q)(hj:j<aa (cT (aB s)) q):E_ s (bD (aB s) q+j)=true:=by
 cases j with
 |zero=>
  show E_ s (bD (aB s) q)=true
  cases hE:E_ s (bD (aB s) q)with
  |true=>rfl
  |false=>rw [ZZ hq hE]at h2;omega
 |succ j=>exact(RN hq  oM hj).2.1
def n9(ms:List ao)(r:List Bool)(q:Nat):List ao:=ms.take (bD r q)++eJ (ms.drop (bD r q)) (r.drop (bD r q))
theorem RO:∀{ms:List ao} {r:List Bool} {q:Nat},r.length=ms.length→q<(aQ 0 r).length→eJ (ms.drop (bD r q)) (r.drop (bD r q))=aa ms (bD r q)::eJ (ms.drop (bD r (q+1))) (r.drop (bD r (q+1)))
 |_, [],q,_,h=>by cases h
 | [],_::_,q,h,_=>by cases h
 |m::ms,true::r,q,hl,h=>by
  rw [IT]at h
  rw [Dj,Dj]
  have:=RO (ms:=ms) (r:=r) (by simpa using hl) h
  rw [sU,sU,sU,sU,this]
  simp [aa]
 |m::ms,false::r,0,hl,h=>by
  rw [MO,zy,Dm,G7,G7,FI]
  rw [sU,sU]
  have key:∀{r:List Bool} {ms:List ao},r.length=ms.length→eJ ms r=eJ (ms.drop (n5 r)) (r.drop (n5 r)):=by
   intro r
   induction r with
   |nil=>intro ms _;cases ms<;>rfl
   |cons b r ih=>
    intro ms hl
    cases b with
    |false=>rfl
    |true=>
     cases ms with
     |nil=>cases hl
     |cons m ms=>
      rw [FJ]
      show _=eJ ((m::ms).drop (n5 r+1)) ((true::r).drop (n5 r+1))
      rw [sU,sU]
      exact ih (by simpa using hl)
  rw [key (by simpa using hl)];rfl
 |m::ms,false::r,q+1,hl,h=>by
  rw [IU]at h
  rw [zy,zy]
  have:=RO (ms:=ms) (r:=r) (by simpa using hl) (show q<(aQ 0 r).length by omega)
  rw [sU,sU,sU,sU,this]
  simp [aa]
theorem alU{ms:List ao}{r:List Bool}(hl:r.length=ms.length):n9 ms r (aQ 0 r).length=ms:=by
 unfold n9
 rw [MP (cE _),hl,eS (cE _),OA (cE _)]
 simp [eJ]
theorem alV{ms:List ao}{r:List Bool}(h0:n5 r=0):n9 ms r 0=eJ ms r:=by
 unfold n9
 rw [Dm,h0];rfl
theorem RP{ms:List ao}{r:List Bool}{q:Nat}(hl:r.length=ms.length)(hq:q<(aQ 0 r).length):
  (n9 ms r (q+1)).take (bD r q+1)++(n9 ms r (q+1)).drop (bD r (q+1))=n9 ms r q∧bD r (q+1)≤(n9 ms r (q+1)).length:=by
 have h1:=pq hq
 have h2:=uW hq
 have h3:=ta (r:=r) (q:=q+1)
 have hp:bD r q<ms.length:=oM
 have fe:(ms.take (bD r (q+1))).length=bD r (q+1):=by rw [eM];omega
 refine⟨?_,by unfold n9;rw [aT,fe];omega⟩
 unfold n9
 rw [Kz  oM,GY,vh  oM,List.drop_append,OA  oM,fe,wT,G7,RO hl hq,List.take_add_one,Er,cj]
 congr 1
 rw [fi hp,dP hp];rfl
theorem alW{ms:List ao}{r:List Bool}{q:Nat}:(eJ ms r).Sublist (n9 ms r q):=by
 have key:∀(n:Nat) (ms:List ao) (r:List Bool),eJ ms r=eJ (ms.take n) (r.take n)++eJ (ms.drop n) (r.drop n):=by
  intro n
  induction n with
  |zero=>intro ms r;simp [eJ]
  |succ n ih=>
   intro ms r
   cases ms with
   |nil=>simp [eJ]
   |cons m ms=>
    cases r with
    |nil=>simp [eJ]
    |cons b r=>
     rw [sS,sS,sU,sU]
     cases b with
     |true=>rw [FJ,FJ];exact ih ms r
     |false=>rw [FI,FI,ih ms r];rfl
 rw [key (bD r q) ms r]
 exact Bk.append (List.Sublist.refl _)
def oR(l:List fO)(i:bu):Bool:=l.any fun m=>m.cs.any fun a=>a.2.any fun v=>v.1.any fun e=>decide ((⟨e.n.bU,e.n.aL⟩:bu)=i)
theorem RR{c:ax}{i:bu}:uT c i=oR (c.ms.map ao.aF) i:=by
 unfold uT oR
 rw [Ak]
 refine B8 rfl fun m=>?_
 show _=(m.cs.map bA.aF).any _
 rw [Ak]
 refine B8 rfl fun a=>?_
 show _=(a.vs.map bF.aF).any _
 rw [Ak]
 refine B8 rfl fun v=>?_
 show _=(v.es.map aW.x).any _
 rw [Ak]
 exact B8 rfl fun e=>rfl
theorem alX{s:ax}(hO:ze s){q:Nat}{x:d_}(hx:x∈s.sp):oR ((n9 s.ms (aB s) q).map ao.aF) x.lG=true∧oR ((n9 s.ms (aB s) q).map ao.aF) x.di=true:=by
 have w0:=RJ.1 hO x hx
 unfold FP at w0
 rw [Ez,Ez]at w0
 have key:∀id,(il s id).isSome=true→mi s id=true→oR ((n9 s.ms (aB s) q).map ao.aF) id=true:=fun id hp he=>by
  rcases QH s id with⟨_,h2⟩|⟨_,_,_,h2⟩|⟨i,a,v,k,h1,h2,hi,ha,hv,hk⟩
  ·rw [h2]at hp;cases hp
  ·rw [h2]at hp;cases hp
  ·have hid:(⟨(aa (aa (aa (aa s.ms i).cs a).vs v).es k).x.n.bU,(aa (aa (aa (aa s.ms i).cs a).vs v).es k).x.n.aL⟩:bu)=id:=(QG h1).2.1
   have hE:lP (mi s) (aa s.ms i)=false:=Mw ha hv hk (by unfold mh;rw [hid,he];simp)
   have hm:=Rz (k:=0) (by rw [jZ];exact hi) (Zs hi hE)
   rw [ub]at hm
   obtain⟨j,hj,e⟩:=gS hm
   have dN:aa s.ms i∈eJ s.ms (aB s):=by
    have e2:=Zl (ms:=s.ms) (hid:=aB s) jZ hj
    rw [dP hj,e]at e2
    rw [←e2]
    exact aI (by rw [←zo (ms:=s.ms) (hid:=aB s) (k:=0) jZ];exact hj)
   have Dr:=alW (q:=q)|>.subset dN
   unfold oR
   refine kR.2 ⟨_,cL.2 ⟨_,Dr,rfl⟩,?_⟩
   refine kR.2 ⟨_,cL.2 ⟨_,aI ha,rfl⟩,?_⟩
   refine kR.2 ⟨_,cL.2 ⟨_,aI hv,rfl⟩,?_⟩
   exact kR.2 ⟨_,cL.2 ⟨_,aI hk,rfl⟩,dC hid⟩
 exact⟨key _ (by simpa using w0.1) (kR.2 ⟨x,hx,by simp⟩),key _ (by simpa using w0.2.1) (kR.2 ⟨x,hx,by simp⟩)⟩
structure dW where
 eD:ByteArray
 wr:Bool
 ps:List (Int×Int×ByteArray×Int×Int×List eP)
 ms:List fO
 sp:List d_
 cN:List bu
def ax.aF(s:ax):dW:=⟨s.eD,s.iK,s.ps.map bp.aF,s.ms.map ao.aF,s.sp,s.cN⟩
def tE(s:ax):Prop:=∀m∈s.ms,zp m
def xT(d:dW):dW:={d with sp:=d.sp.filter fun x=>oR d.ms x.lG&&oR d.ms x.di}
def ax.ag(s:ax):List an:=uO s.ps s.PA s.pc++(jM s.ms s.MA s.mc++ [.ag 92 7 s.SA s.sp.length s.sc (s.sp.map d_.enc),.ag 48 2 s.LA s.cN.length s.lc (s.cN.map bu.enc)])
theorem alY{w:World}{ps:List bp}{A:Option Addr}{c:Nat}(h:fq w (uO ps A c)):Rd w A 6 (ps.map bp.enc)∧∀x∈ps,x.rd w:=
 ⟨bQ (h _ (eA ..)),fun x hx=>bp.bQ (fq.pL (fun r hr=>h r (gR _ hr)) x hx)⟩
theorem alZ{w:World}{ms:List ao}{A:Option Addr}{c:Nat}(h:fq w (jM ms A c)):Rd w A 22 (ms.map ao.enc)∧∀x∈ms,x.rd w:=
 ⟨bQ (h _ (eA ..)),fun x hx=>ao.bQ (fq.pL (fun r hr=>h r (gR _ hr)) x hx)⟩
theorem ax.bQ{w:World}{s:ax}(h:fq w s.ag):s.rd w:=by
 obtain⟨h1,h2⟩:=alY h.eY.1
 obtain⟨h3,h4⟩:=alZ h.eY.2.eY.1
 exact⟨h1,h2,h3,h4,Hr.bQ (h.eY.2.eY.2 _ (eA ..)),Hr.bQ (h.eY.2.eY.2 _ (gR _ (eA ..)))⟩
structure IV(v:bF):Prop where
 es:v.es.length≤56
 ts:v.ts.length≤16
 eT:∀x∈v.es,x.x.eT
structure IW(c:bA):Prop where
 vs:c.vs.length≤2
 cl:c.cl.length≤100
 v:∀v∈c.vs,IV v
structure n_(m:ao):Prop where
 cs:m.cs.length≤6
 tm:m.tm.length≤100
 c:∀c∈m.cs,IW c
theorem gK.sm{s:ax}(h:gK s):∀m∈s.ms,n_ m:=fun m hm=>⟨h.cs m hm,h.tm m hm,fun c hc=>⟨(h.vs m hm c hc).1,(h.vs m hm c hc).2,fun v hv=>⟨(h.es m hm c hc v hv).1,(h.es m hm c hc v hv).2.1,(h.es m hm c hc v hv).2.2⟩⟩⟩
theorem IV.aF{v w:bF}(h:IV v)(hd:w.aF=v.aF):IV w:=by
 have h1:w.es.map aW.x=v.es.map aW.x:=ay Prod.fst hd
 have h2:w.ts=v.ts:=ay Prod.snd hd
 refine⟨by rw [kr h1];exact h.es,by rw [h2];exact h.ts,fun x hx=>?_⟩
 obtain⟨y,hy,e⟩:=pY h1 hx
 rw [e];exact h.eT y hy
theorem IW.aF{c d:bA}(h:IW c)(hd:d.aF=c.aF):IW d:=by
 have h2:d.vs.map bF.aF=c.vs.map bF.aF:=ay Prod.snd hd
 refine⟨by rw [kr h2];exact h.vs,by rw [show d.cl=c.cl from ay Prod.fst hd];exact h.cl,fun v hv=>?_⟩
 obtain⟨w,hw,e⟩:=pY h2 hv
 exact(h.v w hw).aF e
theorem n_.aF{m k:ao}(h:n_ m)(hd:k.aF=m.aF):n_ k:=by
 have h3:k.cs.map bA.aF=m.cs.map bA.aF:=ay fO.cs hd
 refine⟨by rw [kr h3];exact h.cs,by rw [show k.tm=m.tm from ay fO.tm hd];exact h.tm,fun c hc=>?_⟩
 obtain⟨d,vk,e⟩:=pY h3 hc
 exact(h.c d vk).aF e
theorem gK.of{s:ax}(pl:s.ps.length≤3)(ps:∀p∈s.ps,p.st.length≤2)(ml:s.ms.length≤6)(sm:∀m∈s.ms,n_ m)(sl:s.sp.length≤6)(ll:s.cN.length≤100):gK s:=
 ⟨pl,ps,ml,fun m hm=>(sm m hm).cs,fun m hm=>(sm m hm).tm,fun m hm c hc=>⟨((sm m hm).c c hc).vs,((sm m hm).c c hc).cl⟩,fun m hm c hc v hv=>⟨(((sm m hm).c c hc).v v hv).es,(((sm m hm).c c hc).v v hv).ts,(((sm m hm).c c hc).v v hv).eT⟩,sl,ll⟩
theorem gK.aF{s c:ax}(h:gK s)(hd:c.aF=s.aF):gK c:=by
 have h1:c.ps.map bp.aF=s.ps.map bp.aF:=ay dW.ps hd
 have h2:c.ms.map ao.aF=s.ms.map ao.aF:=ay dW.ms hd
 have h3:c.sp=s.sp:=ay dW.sp hd
 have h4:c.cN=s.cN:=ay dW.cN hd
 refine gK.of (by rw [kr h1];exact h.pl) (fun p hp=>?_) (by rw [kr h2];exact h.ml) (fun m hm=>?_) (by rw [h3];exact h.sl) (by rw [h4];exact h.ll)
 ·obtain⟨q,hq,e⟩:=pY h1 hp
  have e6:p.st=q.st:=ay (fun d=>d.2.2.2.2.2) e
  rw [e6];exact h.ps q hq
 ·obtain⟨k,hk,e⟩:=pY h2 hm
  exact(h.sm k hk).aF e
theorem IX{α β:Type} [Inhabited α]{f:α→β}{l r:List α}{k:Nat}{y:α}(hk:k<l.length)(h:r.map f=(l.take k).map f)(hy:f y=f (aa l k)):(r++ [y]).map f=(l.take (k+1)).map f:=by
 rw [gz hk,cn,cn,h]
 show _++ [f y]=_++ [f (aa l k)]
 rw [hy]
theorem IY{α β:Type}{f:α→β}{l r:List α}{k:Nat}(hk:l.length≤k)(h:r.map f=(l.take k).map f):r.map f=l.map f:=by
 rw [h,eS hk]
theorem MT{α:Type}{P:α→Prop}{l:List α}{y:α}(h:∀x∈l,P x)(hy:P y):∀x∈l++ [y],P x:=fun x hx=>by
 rcases ep.1 hx with h1|h1
 ·exact h x h1
 ·rw [c_.1 h1];exact hy
theorem al0{l:List Tu.bj}{z:List Value}(h:z∈l.map Tu.bj.enc):z.length=4:=by
 obtain⟨p,_,rfl⟩:=cL.1 h;rfl
theorem al1{l:List Tu.bj}{z:List Value}(h:z∈l.map Tu.bj.enc):ja z=true:=by
 obtain⟨p,_,rfl⟩:=cL.1 h;rfl
def bA.val(c:bA):Value:= .agg c.enc.toArray
def bp.val(p:bp):Value:= .agg p.enc.toArray
theorem IZ{t:TypeId}{k n c:Nat}{A:Option Addr}{ls:List (List Value)}{ad:Addr}(e:A=some ad):(an.ag t k A n c ls).at ad.block:=by
 subst e;rfl
theorem Z0{s:ax}{r:an}(h:r∈uO s.ps s.PA s.pc):r∈s.ag:=B6 _ h
theorem Z1{s:ax}{r:an}(h:r∈jM s.ms s.MA s.mc):r∈s.ag:=Oz _ (B6 _ h)
theorem al2{s:ax}{x:dG}(h:x∈dc s){ad:Addr}(e:x.A=some ad):(an.aY s.ag).at ad.block:=by
 have key:∀r∈s.ag,r.at ad.block→(an.aY s.ag).at ad.block:=fun r hr hb=>⟨r,hr,hb⟩
 unfold dc at h
 rcases ep.1 h with h|h
 ·rcases ep.1 h with h|h
  ·obtain⟨k,hk,h⟩:=j4.1 h
   have cu:=e_.1 hk
   rcases gP.1 h with rfl|h
   ·exact key _ (Z0 (eA ..)) (IZ e)
   ·obtain⟨j,hj,rfl⟩:=cL.1 h
    exact key _ (Z0 (gR _ (j4.2 ⟨_,aI cu,eA ..⟩))) (IZ e)
  ·obtain⟨i,hi,h⟩:=j4.1 h
   have da:=e_.1 hi
   rcases gP.1 h with rfl|h
   ·exact key _ (Z1 (eA ..)) (IZ e)
   ·obtain⟨c,hc,h⟩:=j4.1 h
    obtain⟨v,hv,h⟩:=j4.1 h
    obtain⟨k,hk,rfl⟩:=cL.1 h
    have oy:=e_.1 hc
    have h_:=e_.1 hv
    refine key _ (Z1 (gR _ (j4.2 ⟨_,aI da,gR _ (gR _ (j4.2 ⟨_,aI oy,gR _ (gR _ (j4.2 ⟨_,aI h_,eA ..⟩))⟩))⟩))) (IZ e)
 ·obtain⟨j,hj,rfl⟩:=cL.1 h
  exact key _ (Oz _ (Oz _ (eA ..))) (IZ e)
theorem al3{X:Nat→Prop}{W w:World}{rs l l':List an}{y:ax}(hm:Mem X W (rs++l) w)(hs:ae l (.aY y.ag) l'):∀v∈dc y,sY (bg rs) v.A:=fun v hv ad e ⟨r,hr,hb⟩=>
 (ua.1 hm.apart).2.2 r hr _ (hs.aK.mem_iff.2 sM) _ hb (al2 hv e)
def qO(l:List dG):List bu:=(l.filter fun x=>x.pl.bo==4).map dG.id
theorem al4{l:List dG}{x:dG}(h:x.pl.bo=4):qO (l++ [x])=qO l++ [x.id]:=by
 unfold qO
 rw [vi,cn,Ev,aG (by rw [h];rfl)];rfl
theorem al5{l:List dG}{x:dG}(h:x.pl.bo≠4):qO (l++ [x])=qO l:=by
 unfold qO
 rw [vi,cn,Ev,aD (by simpa using h)];simp
theorem Z2{s:ax}{i:bu}:decide (i∈qO (dc s))=uT s i:=by
 rw [ug,jl]
 unfold qO
 constructor
 ·intro h
  obtain⟨x,hx,rfl⟩:=cL.1 h
  obtain⟨h1,h2⟩:=wR.1 hx
  obtain⟨i,c,v,k,rfl,hi,hc,hv,hk⟩:=XZ h1 (by simpa using h2)
  unfold uT
  refine kR.2 ⟨_,aI hi,kR.2 ⟨_,aI hc,kR.2 ⟨_,aI hv,kR.2 ⟨_,aI hk,dC rfl⟩⟩⟩⟩
 ·intro h
  obtain⟨j,a,v,x,h1,h2,h3,h4,h5⟩:=ZT h
  exact cL.2 ⟨pT s j a v x,wR.2 ⟨Mx h1 h2 h3 h4,rfl⟩,h5⟩
def lf(l:List bu)(x:d_):Bool:= !decide (x.lG∈l)|| !decide (x.di∈l)
theorem al6{s y:ax}(h:y.aF=s.aF):({y with sp:=ba.aS (lf (qO (dc y))) y.sp}:ax).aF=xT s.aF:=by
 have e1:y.ms.map ao.aF=s.aF.ms:=ay dW.ms h
 rw [←h]
 unfold xT ax.aF ba.aS
 simp only
 congr 1
 refine List.filter_congr fun x _=>?_
 unfold lf
 rw [Z2,Z2,RR,RR]
 simp
theorem Z3(y:ax):y.ag.Perm (.ag 92 7 y.SA y.sp.length y.sc (y.sp.map d_.enc)::(uO y.ps y.PA y.pc++(jM y.ms y.MA y.mc++ [.ag 48 2 y.LA y.cN.length y.lc (y.cN.map bu.enc)]))):=by
 unfold ax.ag
 refine(List.Perm.append_left _ (yt (l₁:=jM y.ms y.MA y.mc))).trans yt
end Go.Proofs.YtjpbickffffgkaaGreat
