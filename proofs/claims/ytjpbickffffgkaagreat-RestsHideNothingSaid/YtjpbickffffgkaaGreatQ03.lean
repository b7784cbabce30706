/- Part. -/
import Derived.Test.YtjpbickffffgkaaGreatQ02
set_option linter.unusedSimpArgs false
set_option linter.unusedVariables false
set_option maxHeartbeats 40000000
set_option maxRecDepth 100000
namespace Go.Proofs.YtjpbickffffgkaaGreat
open Go Go.RowKit Hr Go.Proofs.Tryz
namespace Hr
section
variable{P:Program}{fn:Func}{R:Ending→World→Prop}{X:Nat→Prop}{W:World}{n:Nat}{k:List K}{S:St}{ai:List (Nat×Value)}{mem:List an}{M0:List an}{aq:Array Oper}{aO:Array Bool}{m:Nat}{dz:List Nat}{c:Bool}
def yY(aq:Array Oper):Nat→Nat→Nat→Bool
 |0,j,i=>waits aq j i
 |f+1,j,i=>waits aq j i||(match aq[j]? with
  |some o=>o.after.any fun e=>Region.binds .any e&&yY aq f e.on i
  |none=>false)
theorem Xx{L:Array Bool}{j i:Nat}(h:waits aq j i=true)(fI:∀o,aq[j]?=some o→∀e∈o.after,Region.binds .any e=true→L.getD e.on false=true):L.getD i false=true:=by
 obtain⟨o',P_,e,he,hb,nK⟩:=OR h
 have:=fI o' P_ e he hb
 rw [nK]at this;exact this
theorem Xy{L:Array Bool}(b_:jW aq L){i:Nat}:∀(f j:Nat),yY aq f j i=true→(∀o,aq[j]?=some o→∀e∈o.after,Region.binds .any e=true→L.getD e.on false=true)→L.getD i false=true
 |0,j,h,fI=>Xx h fI
 |f+1,j,h,fI=>by
  rw [yY,Bool.or_eq_true]at h
  rcases h with h|h
  ·exact Xx h fI
  ·cases ho:aq[j]? with
   |none=>rw [ho]at h;cases h
   |some o=>
    rw [ho]at h
    obtain⟨e,he,h2⟩:=Array.any_eq_true'.1 h
    rw [eN]at h2
    have h3:=fI o ho e he h2.1
    exact Xy b_ f e.on h2.2 fun o' P_ e' yT lW=>b_ e.on o' P_ h3 e' yT lW
def Dl(X:Nat→Prop)(W:World)(M0:List an)(dz:List Nat)(j:Nat)(w1 w':World):Prop:=dz.contains j=false→gb X W M0 w1→gb X W M0 w'
def fV(P:Program)(fn:Func)(R:Ending→World→Prop)(X:Nat→Prop)(W:World)(n:Nat)(k:List K)(M0:List an)(dz:List Nat)(c:Bool)(aq:Array Oper)(m:Nat)(aO:Array Bool)(S:St):Prop:=
 Region.noSelect aq=true→jW aq aO→∀a w,cB X W n S a w→(c=true→gb X W M0 w)→
  fJ P aq (Dl X W M0 dz) (fun a w=>post P fn R k .normal a w) (jo fun a w=>post P fn R k .normal a w) m aO a w
theorem mf{id:Nat}{l:List Oper}(dz:List Nat)(hm:P.follows .mixedOrders=true)(cy:Region.noSelect l.toArray=true)(hM:ar S.mem M0)(h:fV P fn R X W n k M0 dz true l.toArray l.toArray.size (Array.replicate l.toArray.size false) S):
  bt P fn R X W n (.bC (.region id l.toArray true)::k) S:=by
 intro a w hs
 have cO:cB X W n S a {w with drawn:=w.drawn+1}:=hs.world (bb.refl nX w).drew
 have b_:jW l.toArray (Array.replicate l.toArray.size false):=by
  intro j o hj hl
  rcases jH j l.toArray.size with h'|h'
  ·simp at h';simp [h']at hl
  ·simp at h';simp [h']at hl
 have hd:=h cy b_ a _ cO fun _=>⟨cO.dx,(hM _ _ _ cO.mem).1⟩
 have:=wp_region_any (P:=P) (id:=id) hm (fJ.any (E:=jo fun a w=>post P fn R k .normal a w) (fun a w h=>⟨rfl,h⟩) hd)
 exact BW (fun e a w ⟨he,hq⟩=>by subst he;exact hq) this
theorem aiR(h0:Region.ready .any aq aO= [])(h:bt P fn R X W n k S):fV P fn R X W n k M0 dz c aq 0 aO S:=by
 intro _ _ a w hs _ w1 cC
 exact⟨h0,h a w1 (hs.world cC)⟩
theorem Xz{i:Nat}{o:Oper}{v:Value}{a:Act}{w:World}(hi:aq[i]?=some o)(hr:((Region.ready .any aq aO).contains i&&Region.free .any aq aO i&&dz.all fun j=>yY aq 4 j i)=true)(cU:Region.noSelect aq=true)(b_:jW aq aO)
  (hy:o7 P aq (gb X W M0) o v a)(hC:gb X W M0 w)
  (hk:jW aq (aO.setIfInBounds i true)→fJ P aq (Dl X W M0 dz) (fun a w=>post P fn R k .normal a w) (jo fun a w=>post P fn R k .normal a w) m (aO.setIfInBounds i true) (a.put o.dst v) w):
  fJ P aq (Dl X W M0 dz) (fun a w=>post P fn R k .normal a w) (jo fun a w=>post P fn R k .normal a w) (m+1) aO a w:=by
 simp only [eN]at hr
 have jn:i∈Region.ready .any aq aO:=by simpa using hr.1.1
 refine fJ.first (C:=gb X W M0) (v:=v) hi (GV cU) (fun _ _=>gb.up) (fun w1 w' hk _ h=>h.up hk) (fun L j w1 w' aiS XA hj pF hD=>?_) _ _ _ _ b_ (GW hi hr.1.2) jn hy hC (hk (b_.step jn))
 cases fK:dz.contains j
 ·exact hD fK pF
 ·exfalso
  have hw:=(sR.1 hr.2) j (by simpa using fK)
  obtain⟨_,oj,s6,fI⟩:=mem_ready.1 hj
  have h1:=Xy aiS 4 j hw fun o ho=>by rw [s6]at ho;cases ho;exact fI
  rcases jH i L.size with h'|h'
  ·simp [h']at XA h1;rw [XA]at h1;cases h1
  ·simp [Ek h']at h1
theorem Qa{i d:Nat}{o:Oper}{v:Value}(hi:aq[i]?=some o)(hr:((Region.ready .any aq aO).contains i&&Region.free .any aq aO i&&dz.all fun j=>yY aq 4 j i)=true)(hw:dd aq ai o true)(hd:o.dst=some d)(hdn:Nat.blt d n=true)(h:Q1 P X W n ⟨ai,M0⟩ o v)
  (hk:fV P fn R X W n k M0 dz true aq m (aO.setIfInBounds i true) ⟨(d,v)::ai,mem⟩):fV P fn R X W n k M0 dz true aq (m+1) aO ⟨ai,mem⟩:=by
 intro cU b_ a w hs hC
 refine Xz hi hr cU b_ (v:=v) (.inl ⟨hw.eq hs,fun w' lA=>h a w' ⟨hs.size,hs.defers,hs.ai,lA.1,lA.2⟩⟩) (hC rfl) fun nf=>?_
 have:=hk cU nf (a.put (some d) v) w (hs.put hdn v) hC
 rw [hd]
 exact this
theorem aiT{i d:Nat}{o:Oper}(hi:aq[i]?=some o)(hr:((Region.ready .any aq aO).contains i&&Region.free .any aq aO i&&dz.all fun j=>yY aq 4 j i)=true)(hw:dd aq ai o false)(hd:o.dst=some d)(hdn:Nat.blt d n=true)
  (hk:fV P fn R X W n k M0 dz true aq m (aO.setIfInBounds i true) ⟨(d,undef)::ai,mem⟩):fV P fn R X W n k M0 dz true aq (m+1) aO ⟨ai,mem⟩:=by
 intro cU b_ a w hs hC
 refine Xz hi hr cU b_ (v:=undef) (.inr ⟨hw.eq hs,rfl⟩) (hC rfl) fun nf=>?_
 have:=hk cU nf (a.put (some d) undef) w (hs.put hdn undef) hC
 rw [hd]
 exact this
theorem XB{S:St}(t:Tmp){b:Bool}(OC:dw S.ai t=some (.bool b))(h1:b=true→fV P fn R X W n k M0 dz c aq m aO S)(h2:b=false→fV P fn R X W n k M0 dz c aq m aO S):fV P fn R X W n k M0 dz c aq m aO S:=by
 cases b
 ·exact h2 rfl
 ·exact h1 rfl
def xD(P:Program)(fn:Func)(R:Ending→World→Prop)(X:Nat→Prop)(W:World)(n:Nat)(k:List K)(M0:List an)(dz:List Nat)(c:Bool)(aq:Array Oper)(m:Nat)(aO:Array Bool)(i:Nat)(S:St):Prop:=
 Region.noSelect aq=true→jW aq aO→jW aq (aO.setIfInBounds i true)→∀a w,cB X W n S a w→(c=true→gb X W M0 w)→
  wpOp P aq (jo fun a w=>post P fn R k .normal a w) i (fun a' w'=>Dl X W M0 dz i w w'∧fJ P aq (Dl X W M0 dz) (fun a w=>post P fn R k .normal a w) (jo fun a w=>post P fn R k .normal a w) m (aO.setIfInBounds i true) a' w') a w
theorem XC{i:Nat}{o:Oper}{ι:Type}{φ:ι→Prop}{next:ι→St}(hi:aq[i]?=some o)(hw:dd aq ai o true)(h:H1 P X W n ⟨ai,mem⟩ o φ next)(hM:∀j,φ j→ar (next j).mem M0)
  (hk:∀j,φ j→fV P fn R X W n k M0 dz true aq m (aO.setIfInBounds i true) (next j)):xD P fn R X W n k M0 dz true aq m aO i ⟨ai,mem⟩:=by
 intro cU b_ nf a w hs hC
 unfold wpOp
 simp only [hi]
 rw [aG (hw.eq hs)]
 refine .inl (h a w hs _ _ fun i' a' w' hφ cO=>?_)
 have nL:gb X W M0 w':=⟨cO.dx,(hM i' hφ _ _ _ cO.mem).1⟩
 exact⟨fun _ _=>nL,hk i' hφ cU nf a' w' cO fun _=>nL⟩
theorem Ii{i:Nat}{o:Oper}{ι:Type}{φ:ι→Prop}{next:ι→St}(hi:aq[i]?=some o)(hl:dz.contains i=true)(hw:dd aq ai o true)(h:H1 P X W n ⟨ai,mem⟩ o φ next)
  (hk:∀j,φ j→fV P fn R X W n k M0 dz false aq m (aO.setIfInBounds i true) (next j)):xD P fn R X W n k M0 dz c aq m aO i ⟨ai,mem⟩:=by
 intro cU b_ nf a w hs hC
 unfold wpOp
 simp only [hi]
 rw [aG (hw.eq hs)]
 refine .inl (h a w hs _ _ fun i' a' w' hφ cO=>?_)
 exact⟨fun h0=>(by rw [hl]at h0;cases h0),hk i' hφ cU nf a' w' cO fun h0=>(by cases h0)⟩
theorem XD(i:Nat)(hr:Region.ready .any aq aO= [i])(h:xD P fn R X W n k M0 dz c aq m aO i S):fV P fn R X W n k M0 dz c aq (m+1) aO S:=by
 intro cU b_ a w hs hC w1 cC
 refine⟨fun h0=>(by rw [hr]at h0;cases h0),fun j hj=>?_⟩
 have cG:=b_.step hj
 rw [hr]at hj
 simp only [c_]at hj
 subst hj
 exact h cU b_ cG a w1 (hs.world cC) fun h=>(hC h).up cC
theorem aiU(i j:Nat)(hr:Region.ready .any aq aO= [i,j])(h:xD P fn R X W n k M0 dz c aq m aO i S)(h':xD P fn R X W n k M0 dz c aq m aO j S):fV P fn R X W n k M0 dz c aq (m+1) aO S:=by
 intro cU b_ a w hs hC w1 cC
 refine⟨fun h0=>(by rw [hr]at h0;cases h0),fun q hq=>?_⟩
 have cG:=b_.step hq
 rw [hr]at hq
 simp only [gP,yp,yq]at hq
 rcases hq with rfl|rfl
 ·exact h cU b_ cG a w1 (hs.world cC) fun h=>(hC h).up cC
 ·exact h' cU b_ cG a w1 (hs.world cC) fun h=>(hC h).up cC
end
theorem Qd{P:Program}{fn:Func}{R:Ending→World→Prop}{X:Nat→Prop}{W:World}{n:Nat}{k:List K}{ι:Type}{c:Code}{S:St}{bS:List (Nat×Value)}{bT:List an}(ms:List an)(φ:ι→Prop)(F:ι→List (Nat×Value))(G:ι→List an)(_he:eo S.ai bS)(_hm:S.mem=ms++bT)
  (h:bt P fn R X W n (.bC c:: .stop (yx X W n φ (fun i=>⟨F i++bS,G i++bT⟩))::k) S)(h':∀i,φ i→bt P fn R X W n k ⟨F i++bS,G i++bT⟩):bt P fn R X W n (.bC c::k) S:=
 EC φ (fun i=>⟨F i++bS,G i++bT⟩) h h'
inductive Fq(P:Program):List Oper→Prop where
 |nil:Fq P []
 |cons {o:Oper} {l:List Oper} (h:o_ P o) (t:Fq P l):Fq P (o::l)
theorem Fq.all{P:Program}{l:List Oper}(h:Fq P l):∀o∈l,o_ P o:=by
 induction h with
 |nil=>simp
 |cons h _ ih=>
  intro o ho
  rcases gP.1 ho with rfl|ho
  ·exact h
  ·exact ih o ho
def xF(r:Result Next):Prop:=match r with
 | .ok (.value _) _=>True
 | .ok .skip _=>True
 | .halt _ _=>True
 |_=>False
theorem L1{P:Program}{α:Type}{s:Sem α}{f:α→Sem Next}{w:World}(h:∀v w',xF ((f v).run P w')):xF ((s>>=f).run P w):=by
 rw [wO]
 cases hr:s.run P w with
 |ok v w'=>exact h v w'
 |halt x w'=>simp [Result.andThen,xF]
theorem Ij{P:Program}{v:Value}{w:World}:xF ((Sem.pure (.value v):Sem Next).run P w):=by simp [Sem.run,xF]
theorem L2{P:Program}{w:World}:xF ((runtimePanic .nilDeref:Sem Next).run P w):=by
 simp [runtimePanic,goPanic,Sem.run,xF]
theorem Qo{P:Program}{o:Oper}{x:Operand}(ho:o.op= .nilCheck x):o_ P o:=⟨(by rw [ho];intro c h;cases h),fun ρ w=>by
 show xF _
 simp only [execOp,ho]
 split
 ·exact L2
 ·exact L2
 ·exact L2
 ·split
  ·exact L2
  ·refine L1 fun v w'=>L1 fun v' Hu=>?_
   split
   ·exact L1 fun _ _=>Ij
   ·exact Ij
  ·exact Ij
 ·exact Ij⟩
theorem CK(a:Act)(d:Option Tmp)(v:Value):({a with defers:= []}:Act).put d v={a.put d v with defers:= []}:=by cases d<;>rfl
def QD(ds:List Deferred)(T:Act→World→Prop):Exit→Act→World→Prop:=fun e a w=>e= .normal∧a.defers=ds∧T {a with defers:= []} w
theorem Ik{ρ:Option Nat}{P:Program}{aq:Array Oper}{ds:List Deferred}{T:Act→World→Prop}(hc:∀(i:Nat) (o:Oper),aq[i]?=some o→o_ P o):∀(dh:Nat) (aO:Array Bool) (a:Act) (w:World),a.defers=ds→
  wpAny P .any aq (jo T) dh aO {a with defers:= []} w→wpAnyIn (Fr ρ) 0 P .any aq (QD ds T) dh aO a w
 |0,aO,a,w,hd,h=>⟨h.1,rfl,hd,h.2.2⟩
 |dh+1,aO,a,w,hd,h=>⟨fun h0=>⟨rfl,hd,(h.1 h0).2⟩,fun i hi=>by
   have h2:=h.2 i hi
   unfold wpOp at h2
   unfold wpOpIn
   cases ho:aq[i]? with
   |none=>
    simp only [ho]at h2⊢
    exact Ik hc dh _ a w hd h2
   |some o=>
    simp only [ho]at h2⊢
    have AY:=hc i o ho
    by_cases hw:Region.wanted o (yielded aq a.tmps)=true
    ·rw [aG hw]at h2⊢
     rcases h2 with h2|⟨_,⟨_,_,h3⟩⟩
     ·unfold Oper.wpIn
      refine⟨fun f _=>trivial,?_⟩
      rw [B5 (Fr ρ) _ _ AY.1]
      unfold Oper.wp at h2
      rw [yR]at h2
      have h4:=AY.2 a.eval w
      cases hr:(execOp a.eval o).run P w with
      |ok nx w'=>
       rw [hr]at h2 h4
       cases nx with
       |value v=>
        refine Ik hc dh _ (a.put o.dst v) w' (by rw [rq];exact hd) ?_
        rw [←CK];exact h2
       |skip=>
        refine Ik hc dh _ (a.put o.dst undef) w' (by rw [rq];exact hd) ?_
        rw [←CK];exact h2
       |_=>exact h4.elim
      |halt x w'=>
       rw [hr]at h2
       cases x with
       |panic v=>cases h2.1
       |_=>exact h2.elim
     ·cases h3.1
    ·rw [aD hw]at h2⊢
     refine⟨fun f _=>trivial,Ik hc dh _ (a.put o.dst undef) w (by rw [rq];exact hd) ?_⟩
     rw [←CK];exact h2⟩
def AZ:Func:={name:= "",origin:= "",params:= #[],resultTypes:= #[],nfree:=0,ntmps:=0,results:= #[],body:=none,norace:=false,tmpNames:= #[]}
abbrev A0:Ending→World→Prop:=fun _ _=>False
def Il(P:Program)(X:Nat→Prop)(W:World)(n:Nat)(k:List K)(l:List Oper)(S:St):Prop:=
 ∀a w,cB X W n S a w→wpAny P .any l.toArray (jo fun a w=>post P AZ A0 k .normal a w) l.toArray.size (Array.replicate l.toArray.size false) a {w with drawn:=w.drawn+1}
def JF(ρ:Option Nat)(P:Program)(Qb:Exit→Act→World→Prop)(ds:List Deferred)(k:List K)(a:Act)(w:World):Prop:=a.defers= []→uC ρ P Qb k .normal {a with defers:=ds} w
section
variable{ρ:Option Nat}{P:Program}{Qb:Exit→Act→World→Prop}{ds:List Deferred}{X:Nat→Prop}{W:World}{n:Nat}{k:List K}{S:St}{M0:List an}
theorem Qp(l:List Oper):jW l.toArray (Array.replicate l.toArray.size false):=by
 intro j o hj hl
 rcases jH j l.toArray.size with h'|h'
 ·simp at h';simp [h']at hl
 ·simp at h';simp [h']at hl
theorem XL{l:List Oper}(order:List (Nat×Nat))(cy:Hy l.toArray order=true)(hM:ar S.mem M0)(h:jb P AZ A0 X W n k M0 l.toArray order order S):Il P X W n k l S:=by
 intro a w hs
 simp only [Hy,eN]at cy
 obtain⟨⟨⟨h1,h2⟩,h3⟩,h4⟩:=cy
 have fe:order.length=l.toArray.size:=yh h2
 have cO:cB X W n S a {w with drawn:=w.drawn+1}:=hs.world (bb.refl nX w).drew
 have hd:=h _ h1 h4 h3 (Qp l) a _ cO (fun _=>⟨cO.dx,(hM _ _ _ cO.mem).1⟩)
 rw [fe]at hd
 exact fJ.any (E:=jo fun a w=>post P AZ A0 k .normal a w) (fun a w h=>⟨rfl,h⟩) hd
theorem ajf{l:List Oper}(cy:Region.noSelect l.toArray=true)(hM:ar S.mem M0)(h:gx P AZ A0 X W n k M0 l.toArray l.toArray.size (Array.replicate l.toArray.size false) S):Il P X W n k l S:=by
 intro a w hs
 have cO:cB X W n S a {w with drawn:=w.drawn+1}:=hs.world (bb.refl nX w).drew
 have hd:=h cy (Qp l) a _ cO ⟨cO.dx,(hM _ _ _ cO.mem).1⟩
 exact fJ.any (E:=jo fun a w=>post P AZ A0 k .normal a w) (fun a w h=>⟨rfl,h⟩) hd
theorem XM{l:List Oper}(dz:List Nat)(cy:Region.noSelect l.toArray=true)(hM:ar S.mem M0)(h:fV P AZ A0 X W n k M0 dz true l.toArray l.toArray.size (Array.replicate l.toArray.size false) S):Il P X W n k l S:=by
 intro a w hs
 have cO:cB X W n S a {w with drawn:=w.drawn+1}:=hs.world (bb.refl nX w).drew
 have hd:=h cy (Qp l) a _ cO fun _=>⟨cO.dx,(hM _ _ _ cO.mem).1⟩
 exact fJ.any (E:=jo fun a w=>post P AZ A0 k .normal a w) (fun a w h=>⟨rfl,h⟩) hd
theorem L3{id:Nat}{l:List Oper}(hm:P.follows .mixedOrders=true)(hc:Fq P l)(h:Il P X W n [.stop (JF ρ P Qb ds k)] l S):RF ρ P Qb ds X W n (.bC (.region id l.toArray true)::k) S:=by
 intro a w hs
 have h1:=h _ w hs.1
 have h2:=Ik (ρ:=ρ) (ds:=ds) (fun i o ho=>hc.all o (by rw [Oo]at ho;exact B3 ho)) _ _ a _ hs.2 h1
 refine wpIn_mono (wpIn_region_any hm h2) ?_
 rintro e a' w' ⟨rfl,hd,hT⟩
 have h3:JF ρ P Qb ds k {a' with defers:= []} w':=hT
 have h4:=h3 rfl
 rw [←hd]at h4
 exact h4
theorem CL(h:RF ρ P Qb ds X W n k S):bt P AZ A0 X W n [.stop (JF ρ P Qb ds k)] S:=by
 intro a w hs hd
 refine h _ w ⟨?_,rfl⟩
 have e:({({a with defers:=ds}:Act)with defers:= []}:Act)=a:=by cases a;subst hd;rfl
 rw [e];exact hs
end
def Qr{α:Type}(P:Program)(l:Nat)(encs:α→List Value)(J Jx:List α→List an→Prop)(N:Nat)(Ho:World→List an→Prop):Prop:=
 ∀bL x rs w,J bL rs→Mem (bg rs) w rs w→bL.length<N→Ho w rs→
  YieldAt Fence.wide 0 P l (encs x).toArray w fun e w'=>∃cm,Ff rs cm w w'∧((e= .returned (.bool true)∧J (bL++ [x]) cm)∨(e= .returned (.bool false)∧Jx (bL++ [x]) cm))
def ajg{α:Type}(P:Program)(f:Nat)(H3:List Value)(encs:α→List Value)(S Sp:List α→Prop)(N:Nat)(Ho:World→List an→Prop)(bP:List an)(w:World):Prop:=
 ∀(l:Nat) (J Jx:List α→List an→Prop),J [] bP→Qr P l encs J Jx N Ho→CallsIn Fence.wide 0 P f (.func (.yield l) #[] #[]::H3).toArray w (yS J Jx S Sp bP w)
abbrev Fs(X:Nat→Prop)(W:World)(w:World)(rs:List an):Prop:=bb X W w∧∀r∈rs,∀b,r.at b→W.heap.size≤b∨X b
theorem Fs.rd{X:Nat→Prop}{W w:World}{rs:List an}{S:St}{A:Option Addr}{size:Nat}{ls:List (List Value)}(hr:Rd W A size ls)(hs:sY X A)(h:Fs X W w rs):iH (bg rs) w S A size ls:=by
 intro w' hk _
 rcases hr with hr|⟨ad,rfl,hr⟩
 ·exact .inl hr
 ·refine .inr ⟨ad,rfl,fun i c hi j v hj=>?_⟩
  have h1:=hr i c hi j v hj
  have h2:=OF h1
  rw [ED]at h2
  have hx:=hs ad rfl
  have hn:¬bg rs ad.block:=by
   rintro⟨q,hq,hb⟩
   rcases h.2 q hq _ hb with h3|h3
   ·omega
   ·exact hx h3
  rw [←h1]
  exact World.cell?_of_block (by rw [ED];exact(hk.block _ (yi h2 h.1.size) hn).trans (h.1.block _ h2 hx))
section
variable{P:Program}{fn:Func}{ρ:Option Nat}{Qb:Exit→Act→World→Prop}{ds:List Deferred}{X:Nat→Prop}{W:World}{n:Nat}{k:List K}{S:St}{ai:List (Nat×Value)}{mem:List an}{all:Array Oper}{aS:List Oper}{o:Oper}
theorem Im{α:Type}{l d N:Nat}{encs:α→List Value}{J Jx:List α→List an→Prop}{bL:List α}{rs ls:List an}(x:α){y:Operand}{xs:Array Operand}{ts:Array TypeId}{vs:List Value}(hg:o.guard=Option.none)(ho:o.op= .call {callee:= .value y,args:=xs,argTypes:=ts})(hd:o.dst=some d)(hdn:Nat.blt d n=true)
  (hy:ev ai y=some (.func (.yield l) #[] #[]))(hx:lB ai xs.toList vs)(he:vs=encs x)(cU:ae mem (.aY rs) ls){Ho:World→List an→Prop}(hF:∀w rs,bb X W w→(∀r∈rs,∀b,r.at b→W.heap.size≤b∨X b)→Ho w rs)(hY:Qr P l encs J Jx N Ho)(hJ:J bL rs)(hN:bL.length<N)
  (h1:∀cm,J (bL++ [x]) cm→RF ρ P Qb ds X W n (.aq all aS::k) ⟨(d,.bool true)::ai,.aY cm::ls⟩)
  (h2:∀cm,Jx (bL++ [x]) cm→RF ρ P Qb ds X W n (.aq all aS::k) ⟨(d,.bool false)::ai,.aY cm::ls⟩):RF ρ P Qb ds X W n (.aq all (o::aS)::k) ⟨ai,mem⟩:=by
 intro a w hs
 refine wpListIn_plain hg fun K hK=>?_
 have hm:=(ar.sX _ _ _ (hs.1.mem.aK cU.aK)).1
 obtain⟨f,tmps,jL,body,uD,hR⟩:=hY bL x rs w hJ hm.eW hN (hF _ _ hs.1.dx (fun r hr=>hm.ag r (B6 _ hr)))
 unfold Oper.wpIn
 refine⟨fun f _=>trivial,?_⟩
 rw [B5 (Fr ρ) _ _ (by rw [ho];intro c h;cases h)]
 have xg:xs.map a.eval=(encs x).toArray:=G3.1 (by have:=hx.map hs.1;rw [yR]at this;rw [KB,this,←he])
 have fG:(execOp a.eval o).run P w= .ok (.round l f tmps jL body) w:=by
  simp [execOp,ho,resolve,invoke,Deferred.ofValue,hs.eval hy,xg,uD]
 rw [fG,Oper.uponIn_round]
 refine⟨(fun h=>by cases h),RoundIn.mono hR fun e w' yT=>?_⟩
 obtain⟨cm,⟨hk,ij⟩,hj⟩:=yT
 have eE:=(hs.1.change (cs:= [.aY rs]) (ls:=ls) (m:= [.aY cm]) (Y:=bg rs) cU.aK hk (fun b hb=>⟨.aY rs,by simp,hb⟩) ((ar.close_ (rs:=cm) (l:= []) _ _ _ (by rw [iF];exact ij)).1))
 rcases hj with⟨rfl,hj⟩|⟨rfl,hj⟩
 ·refine hK _ _ (h1 cm hj _ _ ⟨?_,?_⟩)
  ·rw [hd];exact eE.put hdn _
  ·rw [rq];exact hs.2
 ·refine hK _ _ (h2 cm hj _ _ ⟨?_,?_⟩)
  ·rw [hd];exact eE.put hdn _
  ·rw [rq];exact hs.2
theorem Qs{α:Type}{g:Operand}{ps:Array Tmp}{jL body:Code}{gf N:Nat}{lb:List Value}{encs:α→List Value}{Sd Sp:List α→Prop}(J:List α→List an→Prop)(Jx:Code→List α→List an→Prop)(bP aS:List an)(Ho:World→List an→Prop)
  (hg:ev ai g=some (.func (.func gf) #[] lb.toArray))(oG:fw P gf)(fz:∀x,(encs x).length=ps.size)(vG:∀p∈ps.toList,Nat.blt p n=true)(hp:ar mem (bP++aS))(h0:J [] bP)
  (H7:∀r w,bb X W w→Mem X W (r::(bP++aS)) w→ajg P gf lb encs Sd Sp N Ho (r::bP) w)
  (H8:∀l r w bL x rs,r.state= .ready→r.pending=none→J bL rs→bL.length<N→Mem (bg (de l r::rs)) w (de l r::rs) w→Ho w (de l r::rs)→
   RF (some l) P QF [] (bg (de l r::rs)) w n [.bC jL,.stop (LL P l body (RQ P l r J Jx (bL++ [x]) (de l r::rs) w))] ⟨(ps.toList.zip (encs x)).foldl (fun e p=>p::e) ai,de l r::rs⟩)
  (H9:∀D xs rs,Sd xs→J xs rs→RF none P Qb (qx D::ds) X W n k ⟨ai,du [D]::(rs++aS)⟩)
  (H_:∀D c xs rs,Sp xs→Jx c xs rs→RF none P Qb (qx D::ds) X W n (.bC c::k) ⟨ai,du [D]::(rs++aS)⟩):
  RF none P Qb ds X W n (.bC (.rangeFunc g ps jL body)::k) ⟨ai,mem⟩:=by
 intro a w lI
 have fb:cB X W n ⟨ai,bP++aS⟩ {a with defers:= []} w:=az eo.refl hp _ _ lI.1
 refine P3 (lI.eval hg) oG fun ti=>?_
 generalize cp:({state:= .ready,pending:=none,fn:=ti,tmps:=a.tmps,params:=ps,assign:=jL,body,defers:=w.heap.size}:Loop)=cW
 have cG:cW.state= .ready:=by rw [←cp]
 have jY:cW.pending=none:=by rw [←cp]
 have k1:bb nX w (w.alloc (.deferred (some []))):=bb.alloc _ _
 have k2:bb nX (w.alloc (.deferred (some []))) ((w.alloc (.deferred (some []))).alloc (.loop cW)):=bb.alloc _ _
 have e1:(w.alloc (.deferred (some []))).heap.size=w.heap.size+1:=World.size_alloc ..
 have g1:(w.alloc (.deferred (some []))).heap[w.heap.size]?=some (.deferred (some [])):=G4 _ _
 have g2:((w.alloc (.deferred (some []))).alloc (.loop cW)).heap[w.heap.size+1]?=some (.loop cW):=by rw [←e1];exact G4 _ _
 have Ia:=fb.dx.size
 have m1:Mem X W (du [w.heap.size]::(bP++aS)) (w.alloc (.deferred (some []))):=by
  refine(fb.mem.w_ k1).cons ⟨by simp,fun D hD=>?_⟩ (fun b hb=>?_) (fun s hs b hb jm=>?_)
  ·obtain rfl:=c_.1 hD;exact g1
  ·obtain rfl:=c_.1 hb;exact .inl Ia
  ·obtain rfl:=c_.1 hb;exact absurd (fb.mem.lt s hs _ jm) (Ep _)
 have m2:Mem X W (de (w.heap.size+1) cW::du [w.heap.size]::(bP++aS)) ((w.alloc (.deferred (some []))).alloc (.loop cW)):=by
  refine(m1.w_ k2).cons g2 (fun b hb=>?_) (fun s hs b hb jm=>?_)
  ·obtain rfl:w.heap.size+1=b:=hb;exact .inl  oM
  ·obtain rfl:w.heap.size+1=b:=hb
   have:=m1.lt s hs _ jm
   rw [e1]at this
   exact absurd this (Ep _)
 have eE:cB X W n ⟨ai,de (w.heap.size+1) cW::du [w.heap.size]::(bP++aS)⟩ {a with defers:= []} ((w.alloc (.deferred (some []))).alloc (.loop cW)):=fb.Ha ((fb.dx.fS k1).fS k2) m2
 generalize (w.alloc (.deferred (some []))).alloc (.loop cW)=w2 at*
 have oH:cB X W n ⟨ai,de (w.heap.size+1) cW::(bP++du [w.heap.size]::aS)⟩ {a with defers:= []} w2:=az eo.refl (ar.aK (.cons _ (List.perm_middle.symm))) _ _ eE
 have hc:=H7 (de (w.heap.size+1) cW) w2 oH.dx ((oH.mem.sub (.cons_cons _ (List.Sublist.append_left (B1 _ _) _)))) (w.heap.size+1)
  (fun bL cm=>∃rs,cm=de (w.heap.size+1) cW::rs∧J bL rs) (fun bL cm=>∃rs c,cm=de (w.heap.size+1) {cW with state:= .done,pending:=some c}::rs∧Jx c bL rs) ⟨bP,rfl,h0⟩ ?yr
 case yr=>
  rintro bL x cm w3 ⟨rs,rfl,hJ⟩ hm hN AR
  have hl:w3.heap[w.heap.size+1]?=some (.loop cW):=hm.head.1
  have AS:cW.params=ps:=by rw [←cp]
  have xB:cW.tmps=a.tmps:=by rw [←cp]
  have kG:cW.body=body:=by rw [←cp]
  have has:cW.assign=jL:=by rw [←cp]
  have hy:=run_yield (P:=P) (args:=(encs x).toArray) hl (by rw [AS];simp [fz])
  rw [AS,xB,kG,has]at hy
  refine⟨_,_,_,_,hy,roundIn_of_wpIn trivial ?_⟩
  have gT:cB (bg (de (w.heap.size+1) cW::rs)) w3 n ⟨ai,de (w.heap.size+1) cW::rs⟩ {a with defers:= []} w3:=⟨lI.1.size,rfl,lI.1.ai,bb.refl _ _,hm⟩
  have jq:=LM (ps.toList.zip (encs x)) _ _ _ gT (fun p hp=>vG _ (List.of_mem_zip hp).1)
  have he:({tmps:=(ps.zip (encs x).toArray).foldl (fun t (p,v)=>t.setIfInBounds p v) a.tmps,defers:= []}:Act)={({a with defers:= []}:Act)with tmps:=(ps.toList.zip (encs x)).foldl (fun t p=>t.setIfInBounds p.1 p.2) a.tmps}:=by
   congr 1
   rw [←Ku,Array.toList_zip]
  rw [he]
  refine H8 (w.heap.size+1) cW w3 bL x rs cG jY hJ hN hm AR _ w3 ?_
  exact⟨jq,rfl⟩
 have ea:(#[.func (.yield (w.heap.size+1)) #[] #[]]++lb.toArray:Array Value)=(.func (.yield (w.heap.size+1)) #[] #[]::lb).toArray:=by simp
 rw [ea]
 refine hc.mono ?_
 rintro e w4 ⟨⟨v,rfl⟩,xs,cm,⟨CD,Ib⟩,Ic⟩
 have yV:cB X W n ⟨ai,cm++du [w.heap.size]::aS⟩ {a with defers:= []} w4:=oH.change (cs:=de (w.heap.size+1) cW::bP) (ls:=du [w.heap.size]::aS) (m:=cm) (Y:=bg (de (w.heap.size+1) cW::bP)) (List.Perm.refl _) CD (fun b hb=>hb) Ib
 have AT:∀r rs,cm=de (w.heap.size+1) r::rs→r.state≠ .busy→∃w5,(Instr.endLoop (w.heap.size+1)).run P w4= .ok r.pending w5∧SF (qx w.heap.size::ds) X W n ⟨ai,du [w.heap.size]::(rs++aS)⟩ {a with defers:= [qx w.heap.size]++a.defers} w5:=by
  rintro r rs rfl hb
  have hl:w4.heap[w.heap.size+1]?=some (.loop r):=yV.mem.head.1
  refine⟨_,run_endLoop hl hb,?_,by simp [lI.2]⟩
  have h5:=(show cB X W n ⟨ai,de (w.heap.size+1) r::(rs++du [w.heap.size]::aS)⟩ {a with defers:= []} w4 from yV).H5 (r':={r with state:= .exhausted})
  exact az eo.refl ((ar.sub (B1 _ _)).trans (ar.aK yt)) _ _ h5
 rcases Ic with⟨hS,rs,vH,hJ⟩|⟨hS,rs,c,vH,hJ⟩
 ·obtain⟨w5,nV,vI⟩:=AT _ _ vH (by rw [cG];intro h;cases h)
  refine⟨none,w5,by rw [nV,jY],?_⟩
  exact H9 _ xs rs hS hJ _ _ vI
 ·obtain⟨w5,nV,vI⟩:=AT _ _ vH (by intro h;cases h)
  refine⟨some c,w5,nV,?_⟩
  exact H_ _ c xs rs hS hJ _ _ vI
end
end Hr
def lk{α:Type}:List (Nat×α)→Nat→Option α
 | [],_=>none
 |(k,v)::r,t=>if Nat.beq k t then some v else lk r t
theorem FQ{α:Type}:∀{l:List (Nat×α)} {t:Nat} {v:α},lk l t=some v→(t,v)∈l
 |(k,u)::r,t,v,h=>by
  by_cases e:k=t
  ·subst e;simp [lk]at h;simp [h]
  ·have e':Nat.beq k t=false:=by rw [←Bool.not_eq_true];exact fun h=>e (yh h)
   simp only [lk,e',Al,wQ]at h
   exact gR _ (FQ h)
def Dw:List (Nat×Nat):= [(1,1),(3,1),(4,1),(5,1),(9,1),(22,1),(23,1),(24,1),(26,4),(27,1),(28,1),(29,1),(30,1),(32,6),(34,1),(37,1),(42,1),(48,2),(50,9),(53,1),(58,2),(66,2),(68,1),(70,6),(72,3),(73,1),(75,5),(76,6),(78,8),(79,1),(80,1),(82,22),(85,1),(90,4),(92,7),(93,1),(98,1),(110,1),(111,1),(122,1),(125,1),(126,1),(128,2),(129,1),(130,1),(131,1),(133,2),(136,3),(138,2),(139,1),(140,1),(141,1),(143,13),(147,3),(149,5),(155,1),(175,5),(185,1),(191,1),(193,6),(196,4),(198,1),(201,1),(206,3),(212,5),(220,7),(236,1),(249,2),(263,2),(266,1),(270,1),(275,1),(281,1),(287,1),(289,4),(291,9),(293,6),(303,1),(331,7),(351,7),(359,7),(370,63)]
def FR:List (Nat×Bool):= [(1,false),(3,false),(4,false),(5,false),(9,false),(22,false),(23,false),(24,false),(26,true),(27,false),(28,false),(29,false),(30,false),(32,true),(34,false),(37,false),(42,false),(48,true),(50,true),(53,false),(58,true),(66,true),(68,false),(70,true),(72,true),(73,false),(75,true),(76,true),(78,true),(79,false),(80,false),(82,true),(85,false),(90,true),(92,true),(93,false),(98,false),(110,false),(111,false),(122,false),(125,false),(126,false),(128,true),(129,false),(130,false),(131,false),(133,true),(136,true),(138,true),(139,false),(140,false),(141,false),(143,true),(147,true),(149,true),(155,false),(175,true),(185,false),(191,false),(193,true),(196,true),(198,false),(201,false),(212,true),(220,true),(236,false),(249,true),(263,true),(266,false),(270,false),(275,false),(281,false),(287,false),(289,true),(291,true),(293,true),(303,false),(331,true),(359,true),(370,true)]
def RY:List (Nat×Nat):= [(22,5),(23,75),(24,90),(27,70),(28,82),(29,92),(30,48),(37,3),(42,50),(53,58),(64,9),(68,72),(73,129),(79,136),(80,128),(87,30),(93,206),(122,66),(125,263),(126,133),(129,193),(130,143),(131,196),(139,149),(140,212),(141,249),(171,175),(189,78),(198,138),(204,1),(238,236),(283,291),(284,4),(300,147),(373,34)]
def MW:List (Nat×Nat):= [(1664,0),(1665,1),(1666,2),(1667,3),(2048,0),(2049,1),(2050,2),(2051,3),(2052,4),(2053,5),(3072,0),(3073,1),(3200,0),(3201,1),(3202,2),(3203,3),(3204,4),(3205,5),(3206,6),(3207,8),(3712,0),(3713,1),(3968,0),(4224,0),(4225,1),(4480,0),(4481,2),(4482,3),(4483,5),(4608,0),(4609,2),(4800,0),(4801,1),(4802,2),(4803,3),(4804,4),(4992,0),(4993,1),(4994,2),(5248,0),(5249,2),(5250,10),(5251,11),(5252,12),(5253,13),(5254,14),(5255,15),(5256,16),(5257,17),(5258,18),(5259,19),(5260,20),(5261,21),(5760,0),(5761,1),(5762,2),(5763,3),(5888,0),(5889,2),(5890,3),(5891,5),(7232,0),(7233,1),(7234,2),(7235,11),(8192,0),(8193,1),(8512,0),(8513,1),(8704,0),(8705,1),(8706,2),(8832,0),(8833,1),(9152,0),(9153,2),(9154,3),(9155,5),(9156,6),(9157,7),(9158,8),(9159,9),(9160,10),(9161,11),(9162,12),(9408,0),(9409,1),(9410,2),(9536,0),(9537,3),(9538,4),(11200,0),(11201,1),(11202,2),(11203,3),(11204,4),(12352,0),(12353,1),(12354,2),(12355,3),(12356,4),(12357,5),(12544,0),(12545,1),(12546,2),(12547,3),(12992,0),(12993,6),(12994,7),(13184,0),(13185,1),(13568,0),(13569,3),(13570,4),(14080,0),(14081,1),(14082,2),(14083,3),(14084,4),(14085,5),(14086,6),(15936,0),(15937,1),(16832,0),(16833,1),(18496,0),(18497,1),(18498,2),(18499,3),(18624,0),(18625,1),(18626,5),(18752,0),(18753,1),(18754,2),(18755,3),(18756,4),(18757,5),(21184,0),(21185,1),(21186,2),(21187,3),(21188,4),(21189,5),(21190,6)]
def MX:List (Nat×List Value×Nat×Nat):= [(1,([.nilFunc],1,8)),(3,([zz],1,8)),(4,([.bool false],1,1)),(9,([.string (ByteArray.mk #[])],1,16)),(30,([zq],1,24)),(32,([.string (ByteArray.mk #[]),.bool false,zq,zq,zq,zq],6,120)),(34,([zz],1,8)),(37,([zq],1,24)),(42,([zq],1,24)),(48,([zz,zz],2,16)),(50,([zz,zz,zz,zz,zz,zz,zz,zz,zz],9,72)),(58,([zz,zz],2,16)),(66,([zz,zz],2,16)),(70,([zz,zz,.string (ByteArray.mk #[]),zz,zz,zq],6,72)),(72,([zz,zz,zz],3,24)),(75,([.int .u8 0,.int .u8 0,.int .u8 0,.int .u8 0,zq],5,32)),(78,([zz,zz,zz,zz,zz,zz,zz,zz],8,64)),(82,([zz,zz,zz,zz,zz,zz,zz,zz,zz,zz,zz,zz,.bool false,zz,zz,zz,zz,zz,zz,.string (ByteArray.mk #[]),zq,zq],22,216)),(90,([.int .u8 0,.int .u8 0,.int .u8 0,.int .u8 0],4,4)),(92,([zz,zz,zz,zz,zz,zz,zz],7,56)),(128,([zq,zq],2,48)),(131,([zq],1,24)),(133,([zq,zq],2,48)),(136,([zz,zz,.bool false],3,24)),(138,([zz,zz],2,16)),(143,([zz,zz,zz,zz,zz,zq,zq,zz,zz,zz,zq,zz,zz],13,152)),(147,([zz,zz,zz],3,24)),(149,([zz,zz,zz,.bool false,zz],5,40)),(175,([zz,zz,zz,zz,zz],5,40)),(185,([.map none],1,8)),(193,([.int .u8 0,.int .u8 0,.int .u8 0,.int .u8 0,.bool false,.int .u16 0],6,8)),(196,([zz,zz,zz,zz],4,32)),(206,([zz,zz,zz],3,24)),(212,([zz,zz,zz,zz,.bool false],5,40)),(220,([zz,zz,zz,zz,zz,zz,zz],7,56)),(236,([.nilFunc],1,8)),(249,([.string (ByteArray.mk #[]),zz],2,24)),(263,([zz,zz],2,16)),(270,([.nilFunc],1,8)),(275,([.nilFunc],1,8)),(281,([.map none],1,8)),(289,([zz,zz,zz,zz],4,32)),(291,([zz,zz,zz,zz,zz,zz,zz,zz,zz],9,72)),(293,([.bool false,zz,zz,zz,.bool false,zz],6,48)),(303,([.nilFunc],1,8)),(331,([.string (ByteArray.mk #[]),.int .u8 0,zz,zz,zz,zz,zz],7,64)),(351,([.nilFunc,.nilFunc,.nilFunc,.nilFunc,.nilFunc,.nilFunc,.nilFunc],7,56)),(359,([zz,zz,zz,zz,zz,zz,zz],7,56)),(370,([.string (ByteArray.mk #[]),.int .u8 0,zz,zz,zz,zz,zz,.string (ByteArray.mk #[]),.int .u8 0,zz,zz,zz,zz,zz,.string (ByteArray.mk #[]),.int .u8 0,zz,zz,zz,zz,zz,.string (ByteArray.mk #[]),.int .u8 0,zz,zz,zz,zz,zz,.string (ByteArray.mk #[]),.int .u8 0,zz,zz,zz,zz,zz,.string (ByteArray.mk #[]),.int .u8 0,zz,zz,zz,zz,zz,.string (ByteArray.mk #[]),.int .u8 0,zz,zz,zz,zz,zz,.string (ByteArray.mk #[]),.int .u8 0,zz,zz,zz,zz,zz,.string (ByteArray.mk #[]),.int .u8 0,zz,zz,zz,zz,zz],63,576))]
theorem amb:(MX.map fun e=>(prog.info? e.1).map fun i=>(i.zero.map (·.cells.toList),i.size,i.bytes))=MX.map fun e=>some (some e.2.1,e.2.2.1,e.2.2.2):=by kernel_rfl
theorem amc:(Dw.all fun e=>match prog.info? e.1 with|some i=>Nat.beq i.size e.2|none=>false)=true:=by kernel_rfl
theorem amd:(FR.all fun e=>match prog.underlying e.1 with|some (.struct _)=>e.2|some (.array _ _)=>e.2|some _=> !e.2|none=>false)=true:=by kernel_rfl
theorem ame:(RY.all fun e=>match prog.underlying e.1 with|some (.slice x)=>Nat.beq x e.2|_=>false)=true:=by kernel_rfl
theorem amf:(MW.all fun e=>match prog.underlying (e.1/64)with|some (.struct fs)=>(match fs[e.1%64]? with|some d=>Nat.beq d.offset e.2&&(match prog.info? d.type with|some i=>Nat.ble 1 i.size|none=>false)|none=>false)|_=>false)=true:=by kernel_rfl
theorem xU{t s:Nat}(h:lk Dw t=some s):Sz prog t s:=by
 have h1:=sR.1 amc _ (FQ h)
 dsimp only at h1
 split at h1
 ·rename_i i hi;exact⟨i,hi,yh h1⟩
 ·cases h1
theorem ifF{t:Nat}{zs:List Value}{s b:Nat}(h:lk MX t=some (zs,s,b)):vp prog t zs s b:= .of (List.map_inj_left.1 amb _ (FQ h))
theorem aae{t:Nat}{b:Bool}(h:lk FR t=some b)(w:World):(isAgg t).run prog w= .ok b w:=by
 have h1:=sR.1 amd _ (FQ h)
 dsimp only at h1
 split at h1
 ·rename_i hu;simp [isAgg,dM hu,h1]
 ·rename_i hu;simp [isAgg,dM hu,h1]
 ·rename_i u h2 h3 hu;cases b
  ·cases u<;>simp_all [isAgg,dM hu]
  ·cases h1
 ·cases h1
theorem aaf{t:Nat}(h:lk FR t=some false)(h2:lk Dw t=some 1):mz prog t:=⟨aae h,xU h2⟩
theorem aag{t s:Nat}(h:lk FR t=some true)(h2:lk Dw t=some s):i_ prog t s:=⟨aae h,xU h2⟩
theorem aah{t e:Nat}(h:lk RY t=some e):prog.underlying t=some (.slice e):=by
 have h1:=sR.1 ame _ (FQ h)
 dsimp only at h1
 split at h1
 ·rename_i x hu;rw [hu,yh h1]
 ·cases h1
theorem aai{t f d:Nat}(hf:f<64)(h:lk MW (t*64+f)=some d):∃fs x s,prog.underlying t=some (.struct fs)∧fs[f]?=some x∧x.offset=d∧Sz prog x.type (s+1):=by
 have h1:=sR.1 amf _ (FQ h)
 dsimp only at h1
 rw [show(t*64+f)/64=t by omega,show(t*64+f)%64=f by omega]at h1
 split at h1
 ·rename_i fs hu
  split at h1
  ·rename_i x hx
   rw [eN]at h1
   obtain⟨h2,h3⟩:=h1
   split at h3
   ·rename_i i hi
    refine⟨fs,x,i.size-1,hu,hx,yh h2,i,hi,?_⟩
    have:=Nat.le_of_ble_eq_true h3;omega
   ·cases h3
  ·cases h1
 ·cases h1
end Go.Proofs.YtjpbickffffgkaaGreat
