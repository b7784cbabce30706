/- Part. -/
import Derived.Test.YtdahjfmmndjcpaaGreatQ02
set_option linter.unusedSimpArgs false
set_option linter.unusedVariables false
set_option maxHeartbeats 40000000
set_option maxRecDepth 100000
namespace Go.Proofs.YtdahjfmmndjcpaaGreat
open Go Go.RowKit Hr Go.Proofs.Tryz
namespace Hr
section
variable{P:Program}{fn:Func}{R:Ending→World→Prop}{X:Nat→Prop}{W:World}{n:Nat}{k:List K}{S:St}{ah:List (Nat×Value)}{mem:List ak}{M0:List ak}{an:Array Oper}{aL:Array Bool}{m:Nat}{dt:List Nat}{c:Bool}
def yy(an:Array Oper):Nat→Nat→Nat→Bool
 |0,j,i=>waits an j i
 |f+1,j,i=>waits an j i||(match an[j]? with
  |some o=>o.after.any fun e=>Region.binds .any e&&yy an f e.on i
  |none=>false)
theorem WL{L:Array Bool}{j i:Nat}(h:waits an j i=true)(eO:∀o,an[j]?=some o→∀e∈o.after,Region.binds .any e=true→L.getD e.on false=true):L.getD i false=true:=by
 obtain⟨o',Pv,e,he,hb,kx⟩:=Oa h
 have:=eO o' Pv e he hb
 rw [kx]at this;exact this
theorem WM{L:Array Bool}(bT:jM an L){i:Nat}:∀(f j:Nat),yy an f j i=true→(∀o,an[j]?=some o→∀e∈o.after,Region.binds .any e=true→L.getD e.on false=true)→L.getD i false=true
 |0,j,h,eO=>WL h eO
 |f+1,j,h,eO=>by
  rw [yy,Bool.or_eq_true]at h
  rcases h with h|h
  ·exact WL h eO
  ·cases ho:an[j]? with
   |none=>rw [ho]at h;cases h
   |some o=>
    rw [ho]at h
    obtain⟨e,he,h2⟩:=Array.any_eq_true'.1 h
    rw [ft]at h2
    have h3:=eO o ho e he h2.1
    exact WM bT f e.on h2.2 fun o' Pv e' B3 nf=>bT e.on o' Pv h3 e' B3 nf
def Dl(X:Nat→Prop)(W:World)(M0:List ak)(dt:List Nat)(j:Nat)(w1 w':World):Prop:=dt.contains j=false→fP X W M0 w1→fP X W M0 w'
def gi(P:Program)(fn:Func)(R:Ending→World→Prop)(X:Nat→Prop)(W:World)(n:Nat)(k:List K)(M0:List ak)(dt:List Nat)(c:Bool)(an:Array Oper)(m:Nat)(aL:Array Bool)(S:St):Prop:=
 Region.noSelect an=true→jM an aL→∀a w,cd X W n S a w→(c=true→fP X W M0 w)→
  fF P an (Dl X W M0 dt) (fun a w=>post P fn R k .normal a w) (jy fun a w=>post P fn R k .normal a w) m aL a w
theorem ly{id:Nat}{l:List Oper}(dt:List Nat)(hm:P.follows .mixedOrders=true)(cu:Region.noSelect l.toArray=true)(hM:ar S.mem M0)(h:gi P fn R X W n k M0 dt true l.toArray l.toArray.size (Array.replicate l.toArray.size false) S):
  bj P fn R X W n (.bq (.region id l.toArray true)::k) S:=by
 intro a w hs
 have cP:cd X W n S a {w with drawn:=w.drawn+1}:=hs.world (aU.refl nX w).drew
 have bT:jM l.toArray (Array.replicate l.toArray.size false):=by
  intro j o hj hl
  rcases jo j l.toArray.size with h'|h'
  ·simp at h';simp [h']at hl
  ·simp at h';simp [h']at hl
 have hd:=h cu bT a _ cP fun _=>⟨cP.dm,(hM _ _ _ cP.mem).1⟩
 have:=wp_region_any (P:=P) (id:=id) hm (fF.any (E:=jy fun a w=>post P fn R k .normal a w) (fun a w h=>⟨rfl,h⟩) hd)
 exact Bp (fun e a w ⟨he,hq⟩=>by subst he;exact hq) this
theorem ahB(h0:Region.ready .any an aL= [])(h:bj P fn R X W n k S):gi P fn R X W n k M0 dt c an 0 aL S:=by
 intro _ _ a w hs _ w1 ct
 exact⟨h0,h a w1 (hs.world ct)⟩
theorem WN{i:Nat}{o:Oper}{v:Value}{a:Act}{w:World}(hi:an[i]?=some o)(hr:((Region.ready .any an aL).contains i&&Region.free .any an aL i&&dt.all fun j=>yy an 4 j i)=true)(cQ:Region.noSelect an=true)(bT:jM an aL)
  (hy:ot P an (fP X W M0) o v a)(hC:fP X W M0 w)
  (hk:jM an (aL.setIfInBounds i true)→fF P an (Dl X W M0 dt) (fun a w=>post P fn R k .normal a w) (jy fun a w=>post P fn R k .normal a w) m (aL.setIfInBounds i true) (a.put o.dst v) w):
  fF P an (Dl X W M0 dt) (fun a w=>post P fn R k .normal a w) (jy fun a w=>post P fn R k .normal a w) (m+1) aL a w:=by
 simp only [ft]at hr
 have j6:i∈Region.ready .any an aL:=by simpa using hr.1.1
 refine fF.first (C:=fP X W M0) (v:=v) hi (Gc cQ) (fun _ _=>fP.up) (fun w1 w' hk _ h=>h.up hk) (fun L j w1 w' ahC WO hj o5 hD=>?_) _ _ _ _ bT (Ge hi hr.1.2) j6 hy hC (hk (bT.step j6))
 cases er:dt.contains j
 ·exact hD er o5
 ·exfalso
  have hw:=(zw.1 hr.2) j (by simpa using er)
  obtain⟨_,oj,ry,eO⟩:=mem_ready.1 hj
  have h1:=WM ahC 4 j hw fun o ho=>by rw [ry]at ho;cases ho;exact eO
  rcases jo i L.size with h'|h'
  ·simp [h']at WO h1;rw [WO]at h1;cases h1
  ·simp [DR h']at h1
theorem Pw{i d:Nat}{o:Oper}{v:Value}(hi:an[i]?=some o)(hr:((Region.ready .any an aL).contains i&&Region.free .any an aL i&&dt.all fun j=>yy an 4 j i)=true)(hw:cW an ah o true)(hd:o.dst=some d)(hdn:Nat.blt d n=true)(h:Q1 P X W n ⟨ah,M0⟩ o v)
  (hk:gi P fn R X W n k M0 dt true an m (aL.setIfInBounds i true) ⟨(d,v)::ah,mem⟩):gi P fn R X W n k M0 dt true an (m+1) aL ⟨ah,mem⟩:=by
 intro cQ bT a w hs hC
 refine WN hi hr cQ bT (v:=v) (.inl ⟨hw.eq hs,fun w' lf=>h a w' ⟨hs.size,hs.defers,hs.ah,lf.1,lf.2⟩⟩) (hC rfl) fun lJ=>?_
 have:=hk cQ lJ (a.put (some d) v) w (hs.put hdn v) hC
 rw [hd]
 exact this
theorem ahD{i d:Nat}{o:Oper}(hi:an[i]?=some o)(hr:((Region.ready .any an aL).contains i&&Region.free .any an aL i&&dt.all fun j=>yy an 4 j i)=true)(hw:cW an ah o false)(hd:o.dst=some d)(hdn:Nat.blt d n=true)
  (hk:gi P fn R X W n k M0 dt true an m (aL.setIfInBounds i true) ⟨(d,undef)::ah,mem⟩):gi P fn R X W n k M0 dt true an (m+1) aL ⟨ah,mem⟩:=by
 intro cQ bT a w hs hC
 refine WN hi hr cQ bT (v:=undef) (.inr ⟨hw.eq hs,rfl⟩) (hC rfl) fun lJ=>?_
 have:=hk cQ lJ (a.put (some d) undef) w (hs.put hdn undef) hC
 rw [hd]
 exact this
theorem WQ{S:St}(t:Tmp){b:Bool}(NV:dj S.ah t=some (.bool b))(h1:b=true→gi P fn R X W n k M0 dt c an m aL S)(h2:b=false→gi P fn R X W n k M0 dt c an m aL S):gi P fn R X W n k M0 dt c an m aL S:=by
 cases b
 ·exact h2 rfl
 ·exact h1 rfl
def w9(P:Program)(fn:Func)(R:Ending→World→Prop)(X:Nat→Prop)(W:World)(n:Nat)(k:List K)(M0:List ak)(dt:List Nat)(c:Bool)(an:Array Oper)(m:Nat)(aL:Array Bool)(i:Nat)(S:St):Prop:=
 Region.noSelect an=true→jM an aL→jM an (aL.setIfInBounds i true)→∀a w,cd X W n S a w→(c=true→fP X W M0 w)→
  wpOp P an (jy fun a w=>post P fn R k .normal a w) i (fun a' w'=>Dl X W M0 dt i w w'∧fF P an (Dl X W M0 dt) (fun a w=>post P fn R k .normal a w) (jy fun a w=>post P fn R k .normal a w) m (aL.setIfInBounds i true) a' w') a w
theorem WR{i:Nat}{o:Oper}{ι:Type}{φ:ι→Prop}{next:ι→St}(hi:an[i]?=some o)(hw:cW an ah o true)(h:H1 P X W n ⟨ah,mem⟩ o φ next)(hM:∀j,φ j→ar (next j).mem M0)
  (hk:∀j,φ j→gi P fn R X W n k M0 dt true an m (aL.setIfInBounds i true) (next j)):w9 P fn R X W n k M0 dt true an m aL i ⟨ah,mem⟩:=by
 intro cQ bT lJ a w hs hC
 unfold wpOp
 simp only [hi]
 rw [aG (hw.eq hs)]
 refine .inl (h a w hs _ _ fun i' a' w' hφ cP=>?_)
 have lI:fP X W M0 w':=⟨cP.dm,(hM i' hφ _ _ _ cP.mem).1⟩
 exact⟨fun _ _=>lI,hk i' hφ cQ lJ a' w' cP fun _=>lI⟩
theorem ahE{i:Nat}{o:Oper}{ι:Type}{φ:ι→Prop}{next:ι→St}(hi:an[i]?=some o)(hl:dt.contains i=true)(hw:cW an ah o true)(h:H1 P X W n ⟨ah,mem⟩ o φ next)
  (hk:∀j,φ j→gi P fn R X W n k M0 dt false an m (aL.setIfInBounds i true) (next j)):w9 P fn R X W n k M0 dt c an m aL i ⟨ah,mem⟩:=by
 intro cQ bT lJ a w hs hC
 unfold wpOp
 simp only [hi]
 rw [aG (hw.eq hs)]
 refine .inl (h a w hs _ _ fun i' a' w' hφ cP=>?_)
 exact⟨fun h0=>(by rw [hl]at h0;cases h0),hk i' hφ cQ lJ a' w' cP fun h0=>(by cases h0)⟩
theorem WS(i:Nat)(hr:Region.ready .any an aL= [i])(h:w9 P fn R X W n k M0 dt c an m aL i S):gi P fn R X W n k M0 dt c an (m+1) aL S:=by
 intro cQ bT a w hs hC w1 ct
 refine⟨fun h0=>(by rw [hr]at h0;cases h0),fun j hj=>?_⟩
 have cX:=bT.step hj
 rw [hr]at hj
 simp only [cS]at hj
 subst hj
 exact h cQ bT cX a w1 (hs.world ct) fun h=>(hC h).up ct
theorem ahF(i j:Nat)(hr:Region.ready .any an aL= [i,j])(h:w9 P fn R X W n k M0 dt c an m aL i S)(h':w9 P fn R X W n k M0 dt c an m aL j S):gi P fn R X W n k M0 dt c an (m+1) aL S:=by
 intro cQ bT a w hs hC w1 ct
 refine⟨fun h0=>(by rw [hr]at h0;cases h0),fun q hq=>?_⟩
 have cX:=bT.step hq
 rw [hr]at hq
 simp only [ib,zD,zF]at hq
 rcases hq with rfl|rfl
 ·exact h cQ bT cX a w1 (hs.world ct) fun h=>(hC h).up ct
 ·exact h' cQ bT cX a w1 (hs.world ct) fun h=>(hC h).up ct
end
theorem Lt{P:Program}{fn:Func}{R:Ending→World→Prop}{X:Nat→Prop}{W:World}{n:Nat}{k:List K}{ι:Type}{c:Code}{S:St}{bM:List (Nat×Value)}{bN:List ak}(ms:List ak)(φ:ι→Prop)(F:ι→List (Nat×Value))(G:ι→List ak)(_he:dR S.ah bM)(_hm:S.mem=ms++bN)
  (h:bj P fn R X W n (.bq c:: .stop (x0 X W n φ (fun i=>⟨F i++bM,G i++bN⟩))::k) S)(h':∀i,φ i→bj P fn R X W n k ⟨F i++bM,G i++bN⟩):bj P fn R X W n (.bq c::k) S:=
 D3 φ (fun i=>⟨F i++bM,G i++bN⟩) h h'
inductive EP(P:Program):List Oper→Prop where
 |nil:EP P []
 |cons {o:Oper} {l:List Oper} (h:mo P o) (t:EP P l):EP P (o::l)
theorem EP.all{P:Program}{l:List Oper}(h:EP P l):∀o∈l,mo P o:=by
 induction h with
 |nil=>simp
 |cons h _ ih=>
  intro o ho
  rcases ib.1 ho with rfl|ho
  ·exact h
  ·exact ih o ho
def Ar(r:Result Next):Prop:=match r with
 | .ok (.value _) _=>True
 | .ok .skip _=>True
 | .halt _ _=>True
 |_=>False
theorem PF{P:Program}{α:Type}{s:Sem α}{f:α→Sem Next}{w:World}(h:∀v w',Ar ((f v).run P w')):Ar ((s>>=f).run P w):=by
 rw [wh]
 cases hr:s.run P w with
 |ok v w'=>exact h v w'
 |halt x w'=>simp [Result.andThen,Ar]
theorem Ly{P:Program}{v:Value}{w:World}:Ar ((Sem.pure (.value v):Sem Next).run P w):=by simp [Sem.run,Ar]
theorem Lz{P:Program}{w:World}:Ar ((runtimePanic .nilDeref:Sem Next).run P w):=by
 simp [runtimePanic,goPanic,Sem.run,Ar]
theorem PG{P:Program}{o:Oper}{x:Operand}(ho:o.op= .nilCheck x):mo P o:=⟨(by rw [ho];intro c h;cases h),fun ρ w=>by
 show Ar _
 simp only [execOp,ho]
 split
 ·exact Lz
 ·exact Lz
 ·exact Lz
 ·split
  ·exact Lz
  ·refine PF fun v w'=>PF fun v' GK=>?_
   split
   ·exact PF fun _ _=>Ly
   ·exact Ly
  ·exact Ly
 ·exact Ly⟩
theorem Ck(a:Act)(d:Option Tmp)(v:Value):({a with defers:= []}:Act).put d v={a.put d v with defers:= []}:=by cases d<;>rfl
def QD(ds:List Deferred)(T:Act→World→Prop):Exit→Act→World→Prop:=fun e a w=>e= .normal∧a.defers=ds∧T {a with defers:= []} w
theorem HB{ρ:Option Nat}{P:Program}{an:Array Oper}{ds:List Deferred}{T:Act→World→Prop}(hc:∀(i:Nat) (o:Oper),an[i]?=some o→mo P o):∀(dg:Nat) (aL:Array Bool) (a:Act) (w:World),a.defers=ds→
  wpAny P .any an (jy T) dg aL {a with defers:= []} w→wpAnyIn (Fr ρ) 0 P .any an (QD ds T) dg aL a w
 |0,aL,a,w,hd,h=>⟨h.1,rfl,hd,h.2.2⟩
 |dg+1,aL,a,w,hd,h=>⟨fun h0=>⟨rfl,hd,(h.1 h0).2⟩,fun i hi=>by
   have h2:=h.2 i hi
   unfold wpOp at h2
   unfold wpOpIn
   cases ho:an[i]? with
   |none=>
    simp only [ho]at h2⊢
    exact HB hc dg _ a w hd h2
   |some o=>
    simp only [ho]at h2⊢
    have As:=hc i o ho
    by_cases hw:Region.wanted o (yielded an a.tmps)=true
    ·rw [aG hw]at h2⊢
     rcases h2 with h2|⟨_,⟨_,_,h3⟩⟩
     ·unfold Oper.wpIn
      refine⟨fun f _=>trivial,?_⟩
      rw [zJ (Fr ρ) _ _ As.1]
      unfold Oper.wp at h2
      rw [Ak]at h2
      have h4:=As.2 a.eval w
      cases hr:(execOp a.eval o).run P w with
      |ok nx w'=>
       rw [hr]at h2 h4
       cases nx with
       |value v=>
        refine HB hc dg _ (a.put o.dst v) w' (by rw [sO];exact hd) ?_
        rw [←Ck];exact h2
       |skip=>
        refine HB hc dg _ (a.put o.dst undef) w' (by rw [sO];exact hd) ?_
        rw [←Ck];exact h2
       |_=>exact h4.elim
      |halt x w'=>
       rw [hr]at h2
       cases x with
       |panic v=>cases h2.1
       |_=>exact h2.elim
     ·cases h3.1
    ·rw [ay hw]at h2⊢
     refine⟨fun f _=>trivial,HB hc dg _ (a.put o.dst undef) w (by rw [sO];exact hd) ?_⟩
     rw [←Ck];exact h2⟩
def ER:Func:={name:= "",origin:= "",params:= #[],resultTypes:= #[],nfree:=0,ntmps:=0,results:= #[],body:=none,norace:=false,tmpNames:= #[]}
abbrev ES:Ending→World→Prop:=fun _ _=>False
def LB(P:Program)(X:Nat→Prop)(W:World)(n:Nat)(k:List K)(l:List Oper)(S:St):Prop:=
 ∀a w,cd X W n S a w→wpAny P .any l.toArray (jy fun a w=>post P ER ES k .normal a w) l.toArray.size (Array.replicate l.toArray.size false) a {w with drawn:=w.drawn+1}
def JF(ρ:Option Nat)(P:Program)(Qb:Exit→Act→World→Prop)(ds:List Deferred)(k:List K)(a:Act)(w:World):Prop:=a.defers= []→tX ρ P Qb k .normal {a with defers:=ds} w
section
variable{ρ:Option Nat}{P:Program}{Qb:Exit→Act→World→Prop}{ds:List Deferred}{X:Nat→Prop}{W:World}{n:Nat}{k:List K}{S:St}{M0:List ak}
theorem W1(l:List Oper):jM l.toArray (Array.replicate l.toArray.size false):=by
 intro j o hj hl
 rcases jo j l.toArray.size with h'|h'
 ·simp at h';simp [h']at hl
 ·simp at h';simp [h']at hl
theorem LC{l:List Oper}(order:List (Nat×Nat))(cu:GM l.toArray order=true)(hM:ar S.mem M0)(h:iM P ER ES X W n k M0 l.toArray order order S):LB P X W n k l S:=by
 intro a w hs
 simp only [GM,ft]at cu
 obtain⟨⟨⟨h1,h2⟩,h3⟩,h4⟩:=cu
 have fD:order.length=l.toArray.size:=xO h2
 have cP:cd X W n S a {w with drawn:=w.drawn+1}:=hs.world (aU.refl nX w).drew
 have hd:=h _ h1 h4 h3 (W1 l) a _ cP (fun _=>⟨cP.dm,(hM _ _ _ cP.mem).1⟩)
 rw [fD]at hd
 exact fF.any (E:=jy fun a w=>post P ER ES k .normal a w) (fun a w h=>⟨rfl,h⟩) hd
theorem ah1{l:List Oper}(dt:List Nat)(cu:Region.noSelect l.toArray=true)(hM:ar S.mem M0)(h:gi P ER ES X W n k M0 dt true l.toArray l.toArray.size (Array.replicate l.toArray.size false) S):LB P X W n k l S:=by
 intro a w hs
 have cP:cd X W n S a {w with drawn:=w.drawn+1}:=hs.world (aU.refl nX w).drew
 have hd:=h cu (W1 l) a _ cP fun _=>⟨cP.dm,(hM _ _ _ cP.mem).1⟩
 exact fF.any (E:=jy fun a w=>post P ER ES k .normal a w) (fun a w h=>⟨rfl,h⟩) hd
theorem PH{id:Nat}{l:List Oper}(hm:P.follows .mixedOrders=true)(hc:EP P l)(h:LB P X W n [.stop (JF ρ P Qb ds k)] l S):RF ρ P Qb ds X W n (.bq (.region id l.toArray true)::k) S:=by
 intro a w hs
 have h1:=h _ w hs.1
 have h2:=HB (ρ:=ρ) (ds:=ds) (fun i o ho=>hc.all o (by rw [NP]at ho;exact BB ho)) _ _ a _ hs.2 h1
 refine wpIn_mono (wpIn_region_any hm h2) ?_
 rintro e a' w' ⟨rfl,hd,hT⟩
 have h3:JF ρ P Qb ds k {a' with defers:= []} w':=hT
 have h4:=h3 rfl
 rw [←hd]at h4
 exact h4
theorem HC(h:RF ρ P Qb ds X W n k S):bj P ER ES X W n [.stop (JF ρ P Qb ds k)] S:=by
 intro a w hs hd
 refine h _ w ⟨?_,rfl⟩
 have e:({({a with defers:=ds}:Act)with defers:= []}:Act)=a:=by cases a;subst hd;rfl
 rw [e];exact hs
end
def PI{α:Type}(P:Program)(l:Nat)(encs:α→List Value)(J Jx:List α→List ak→Prop)(N:Nat)(Ho:World→List ak→Prop):Prop:=
 ∀bo x rs w,J bo rs→Mem (aX rs) w rs w→bo.length<N→Ho w rs→
  YieldAt Fence.wide 0 P l (encs x).toArray w fun e w'=>∃bZ,EG rs bZ w w'∧((e= .returned (.bool true)∧J (bo++ [x]) bZ)∨(e= .returned (.bool false)∧Jx (bo++ [x]) bZ))
def ah2{α:Type}(P:Program)(f:Nat)(Hm:List Value)(encs:α→List Value)(S Sp:List α→Prop)(N:Nat)(Ho:World→List ak→Prop)(bt:List ak)(w:World):Prop:=
 ∀(l:Nat) (J Jx:List α→List ak→Prop),J [] bt→PI P l encs J Jx N Ho→CallsIn Fence.wide 0 P f (.func (.yield l) #[] #[]::Hm).toArray w (yt J Jx S Sp bt w)
abbrev yC(X:Nat→Prop)(W:World)(w:World)(rs:List ak):Prop:=aU X W w∧∀r∈rs,∀b,r.at b→W.heap.size≤b∨X b
theorem yC.trans{X:Nat→Prop}{W w w':World}{bt rs:List ak}(h:yC X W w bt)(hk:aU (aX bt) w w')(ho:∀r∈rs,∀b,r.at b→w.heap.size≤b∨aX bt b):yC X W w' rs:=by
 refine⟨h.1.step hk fun k bG hx=>?_,fun r hr b hb=>?_⟩
 ·rintro⟨q,hq,hb⟩
  rcases h.2 q hq k hb with h1|h1
  ·omega
  ·exact hx h1
 ·rcases ho r hr b hb with h1|⟨q,hq,nW⟩
  ·exact .inl (la h.1.size h1)
  ·exact h.2 q hq b nW
theorem yC.rd{X:Nat→Prop}{W w:World}{rs:List ak}{S:St}{A:Option Addr}{size:Nat}{ls:List (List Value)}(hr:Rd W A size ls)(hs:oh X A)(h:yC X W w rs):ie (aX rs) w S A size ls:=by
 intro w' hk _
 rcases hr with hr|⟨ad,rfl,hr⟩
 ·exact .inl hr
 ·refine .inr ⟨ad,rfl,fun i c hi j v hj=>?_⟩
  have h1:=hr i c hi j v hj
  have h2:=NX h1
  rw [D4]at h2
  have hx:=hs ad rfl
  have hn:¬aX rs ad.block:=by
   rintro⟨q,hq,hb⟩
   rcases h.2 q hq _ hb with h3|h3
   ·omega
   ·exact hx h3
  rw [←h1]
  exact World.cell?_of_block (by rw [D4];exact(hk.block _ (xP h2 h.1.size) hn).trans (h.1.block _ h2 hx))
section
variable{P:Program}{fn:Func}{ρ:Option Nat}{Qb:Exit→Act→World→Prop}{ds:List Deferred}{X:Nat→Prop}{W:World}{n:Nat}{k:List K}{S:St}{ah:List (Nat×Value)}{mem:List ak}{all:Array Oper}{aQ:List Oper}{o:Oper}
theorem HD{α:Type}{l d N:Nat}{encs:α→List Value}{J Jx:List α→List ak→Prop}{bo:List α}{rs ls:List ak}(x:α){y:Operand}{xs:Array Operand}{ts:Array TypeId}{vs:List Value}(hg:o.guard=Option.none)(ho:o.op= .call {callee:= .value y,args:=xs,argTypes:=ts})(hd:o.dst=some d)(hdn:Nat.blt d n=true)
  (hy:ev ah y=some (.func (.yield l) #[] #[]))(hx:kv ah xs.toList vs)(he:vs=encs x)(cQ:ag mem (.aT rs) ls){Ho:World→List ak→Prop}(hF:∀w rs,aU X W w→(∀r∈rs,∀b,r.at b→W.heap.size≤b∨X b)→Ho w rs)(hY:PI P l encs J Jx N Ho)(hJ:J bo rs)(hN:bo.length<N)
  (h1:∀bZ,J (bo++ [x]) bZ→RF ρ P Qb ds X W n (.an all aQ::k) ⟨(d,.bool true)::ah,.aT bZ::ls⟩)
  (h2:∀bZ,Jx (bo++ [x]) bZ→RF ρ P Qb ds X W n (.an all aQ::k) ⟨(d,.bool false)::ah,.aT bZ::ls⟩):RF ρ P Qb ds X W n (.an all (o::aQ)::k) ⟨ah,mem⟩:=by
 intro a w hs
 refine wpListIn_plain hg fun K hK=>?_
 have hm:=(ar.tJ _ _ _ (hs.1.mem.aR cQ.aR)).1
 obtain⟨f,tmps,fG,body,tW,hR⟩:=hY bo x rs w hJ hm.fQ hN (hF _ _ hs.1.dm (fun r hr=>hm.ae r (BC _ hr)))
 unfold Oper.wpIn
 refine⟨fun f _=>trivial,?_⟩
 rw [zJ (Fr ρ) _ _ (by rw [ho];intro c h;cases h)]
 have z6:xs.map a.eval=(encs x).toArray:=J6.1 (by have:=hx.map hs.1;rw [Ak]at this;rw [Array.toList_map,this,←he])
 have fO:(execOp a.eval o).run P w= .ok (.round l f tmps fG body) w:=by
  simp [execOp,ho,resolve,invoke,Deferred.ofValue,hs.eval hy,z6,tW]
 rw [fO,Oper.uponIn_round]
 refine⟨(fun h=>by cases h),RoundIn.mono hR fun e w' B3=>?_⟩
 obtain⟨bZ,⟨hk,wQ⟩,hj⟩:=B3
 have eR:=(hs.1.change (cs:= [.aT rs]) (ls:=ls) (m:= [.aT bZ]) (Y:=aX rs) cQ.aR hk (fun b hb=>⟨.aT rs,by simp,hb⟩) ((ar.close_ (rs:=bZ) (l:= []) _ _ _ (by rw [gT];exact wQ)).1))
 rcases hj with⟨rfl,hj⟩|⟨rfl,hj⟩
 ·refine hK _ _ (h1 bZ hj _ _ ⟨?_,?_⟩)
  ·rw [hd];exact eR.put hdn _
  ·rw [sO];exact hs.2
 ·refine hK _ _ (h2 bZ hj _ _ ⟨?_,?_⟩)
  ·rw [hd];exact eR.put hdn _
  ·rw [sO];exact hs.2
theorem PJ{α:Type}{g:Operand}{ps:Array Tmp}{fG body:Code}{gf N:Nat}{lb:List Value}{encs:α→List Value}{Sd Sp:List α→Prop}(J:List α→List ak→Prop)(Jx:Code→List α→List ak→Prop)(bt aQ:List ak)(Ho:World→List ak→Prop)
  (hg:ev ah g=some (.func (.func gf) #[] lb.toArray))(qO:eG P gf)(eH:∀x,(encs x).length=ps.size)(yu:∀p∈ps.toList,Nat.blt p n=true)(hp:ar mem (bt++aQ))(h0:J [] bt)
  (B6:∀r w,aU X W w→Mem X W (r::(bt++aQ)) w→ah2 P gf lb encs Sd Sp N Ho (r::bt) w)
  (B7:∀l r w bo x rs,r.state= .ready→r.pending=none→J bo rs→bo.length<N→Mem (aX (cw l r::rs)) w (cw l r::rs) w→Ho w (cw l r::rs)→
   RF (some l) P QF [] (aX (cw l r::rs)) w n [.bq fG,.stop (Hq P l body (RQ P l r J Jx (bo++ [x]) (cw l r::rs) w))] ⟨(ps.toList.zip (encs x)).foldl (fun e p=>p::e) ah,cw l r::rs⟩)
  (B8:∀D xs rs,Sd xs→J xs rs→RF none P Qb (qe D::ds) X W n k ⟨ah,dq [D]::(rs++aQ)⟩)
  (B9:∀D c xs rs,Sp xs→Jx c xs rs→RF none P Qb (qe D::ds) X W n (.bq c::k) ⟨ah,dq [D]::(rs++aQ)⟩):
  RF none P Qb ds X W n (.bq (.rangeFunc g ps fG body)::k) ⟨ah,mem⟩:=by
 intro a w jk
 have ei:cd X W n ⟨ah,bt++aQ⟩ {a with defers:= []} w:=au dR.refl hp _ _ jk.1
 refine Pk (jk.eval hg) qO fun lQ=>?_
 generalize cj:({state:= .ready,pending:=none,fn:=lQ,tmps:=a.tmps,params:=ps,assign:=fG,body,defers:=w.heap.size}:Loop)=ch
 have cX:ch.state= .ready:=by rw [←cj]
 have gy:ch.pending=none:=by rw [←cj]
 have k1:aU nX w (w.alloc (.deferred (some []))):=aU.alloc _ _
 have k2:aU nX (w.alloc (.deferred (some []))) ((w.alloc (.deferred (some []))).alloc (.loop ch)):=aU.alloc _ _
 have e1:(w.alloc (.deferred (some []))).heap.size=w.heap.size+1:=World.size_alloc ..
 have g1:(w.alloc (.deferred (some []))).heap[w.heap.size]?=some (.deferred (some [])):=DX _ _
 have g2:((w.alloc (.deferred (some []))).alloc (.loop ch)).heap[w.heap.size+1]?=some (.loop ch):=by rw [←e1];exact DX _ _
 have B_:=ei.dm.size
 have m1:Mem X W (dq [w.heap.size]::(bt++aQ)) (w.alloc (.deferred (some []))):=by
  refine(ei.mem.uL k1).cons ⟨by simp,fun D hD=>?_⟩ (fun b hb=>?_) (fun s hs b hb jw=>?_)
  ·obtain rfl:=cS.1 hD;exact g1
  ·obtain rfl:=cS.1 hb;exact .inl B_
  ·obtain rfl:=cS.1 hb;exact absurd (ei.mem.lt s hs _ jw) (Bw _)
 have m2:Mem X W (cw (w.heap.size+1) ch::dq [w.heap.size]::(bt++aQ)) ((w.alloc (.deferred (some []))).alloc (.loop ch)):=by
  refine(m1.uL k2).cons g2 (fun b hb=>?_) (fun s hs b hb jw=>?_)
  ·obtain rfl:w.heap.size+1=b:=hb;exact .inl  oM
  ·obtain rfl:w.heap.size+1=b:=hb
   have:=m1.lt s hs _ jw
   rw [e1]at this
   exact absurd this (Bw _)
 have eR:cd X W n ⟨ah,cw (w.heap.size+1) ch::dq [w.heap.size]::(bt++aQ)⟩ {a with defers:= []} ((w.alloc (.deferred (some []))).alloc (.loop ch)):=ei.D2 ((ei.dm.fu k1).fu k2) m2
 generalize (w.alloc (.deferred (some []))).alloc (.loop ch)=w2 at*
 have mL:cd X W n ⟨ah,cw (w.heap.size+1) ch::(bt++dq [w.heap.size]::aQ)⟩ {a with defers:= []} w2:=au dR.refl (ar.aR (.cons _ (List.perm_middle.symm))) _ _ eR
 have hc:=B6 (cw (w.heap.size+1) ch) w2 mL.dm ((mL.mem.sub (.cons_cons _ (List.Sublist.append_left (zx _ _) _)))) (w.heap.size+1)
  (fun bo bZ=>∃rs,bZ=cw (w.heap.size+1) ch::rs∧J bo rs) (fun bo bZ=>∃rs c,bZ=cw (w.heap.size+1) {ch with state:= .done,pending:=some c}::rs∧Jx c bo rs) ⟨bt,rfl,h0⟩ ?yr
 case yr=>
  rintro bo x bZ w3 ⟨rs,rfl,hJ⟩ hm hN yv
  have hl:w3.heap[w.heap.size+1]?=some (.loop ch):=hm.head.1
  have vd:ch.params=ps:=by rw [←cj]
  have tY:ch.tmps=a.tmps:=by rw [←cj]
  have kC:ch.body=body:=by rw [←cj]
  have has:ch.assign=fG:=by rw [←cj]
  have hy:=run_yield (P:=P) (args:=(encs x).toArray) hl (by rw [vd];simp [eH])
  rw [vd,tY,kC,has]at hy
  refine⟨_,_,_,_,hy,roundIn_of_wpIn trivial ?_⟩
  have gh:cd (aX (cw (w.heap.size+1) ch::rs)) w3 n ⟨ah,cw (w.heap.size+1) ch::rs⟩ {a with defers:= []} w3:=⟨jk.1.size,rfl,jk.1.ah,aU.refl _ _,hm⟩
  have ng:=Hs (ps.toList.zip (encs x)) _ _ _ gh (fun p hp=>yu _ (List.of_mem_zip hp).1)
  have he:({tmps:=(ps.zip (encs x).toArray).foldl (fun t (p,v)=>t.setIfInBounds p v) a.tmps,defers:= []}:Act)={({a with defers:= []}:Act)with tmps:=(ps.toList.zip (encs x)).foldl (fun t p=>t.setIfInBounds p.1 p.2) a.tmps}:=by
   congr 1
   rw [←Ga,Array.toList_zip]
  rw [he]
  refine B7 (w.heap.size+1) ch w3 bo x rs cX gy hJ hN hm yv _ w3 ?_
  exact⟨ng,rfl⟩
 have ea:(#[.func (.yield (w.heap.size+1)) #[] #[]]++lb.toArray:Array Value)=(.func (.yield (w.heap.size+1)) #[] #[]::lb).toArray:=by simp
 rw [ea]
 refine hc.mono ?_
 rintro e w4 ⟨⟨v,rfl⟩,xs,bZ,⟨yw,Ca⟩,Cb⟩
 have ve:cd X W n ⟨ah,bZ++dq [w.heap.size]::aQ⟩ {a with defers:= []} w4:=mL.change (cs:=cw (w.heap.size+1) ch::bt) (ls:=dq [w.heap.size]::aQ) (m:=bZ) (Y:=aX (cw (w.heap.size+1) ch::bt)) (List.Perm.refl _) yw (fun b hb=>hb) Ca
 have sQ:∀r rs,bZ=cw (w.heap.size+1) r::rs→r.state≠ .busy→∃w5,(Instr.endLoop (w.heap.size+1)).run P w4= .ok r.pending w5∧SF (qe w.heap.size::ds) X W n ⟨ah,dq [w.heap.size]::(rs++aQ)⟩ {a with defers:= [qe w.heap.size]++a.defers} w5:=by
  rintro r rs rfl hb
  have hl:w4.heap[w.heap.size+1]?=some (.loop r):=ve.mem.head.1
  refine⟨_,run_endLoop hl hb,?_,by simp [jk.2]⟩
  have h5:=(show cd X W n ⟨ah,cw (w.heap.size+1) r::(rs++dq [w.heap.size]::aQ)⟩ {a with defers:= []} w4 from ve).EJ (r':={r with state:= .exhausted})
  exact au dR.refl ((ar.sub (zx _ _)).trans (ar.aR wk)) _ _ h5
 rcases Cb with⟨hS,rs,ij,hJ⟩|⟨hS,rs,c,ij,hJ⟩
 ·obtain⟨w5,lr,qP⟩:=sQ _ _ ij (by rw [cX];intro h;cases h)
  refine⟨none,w5,by rw [lr,gy],?_⟩
  exact B8 _ xs rs hS hJ _ _ qP
 ·obtain⟨w5,lr,qP⟩:=sQ _ _ ij (by intro h;cases h)
  refine⟨some c,w5,lr,?_⟩
  exact B9 _ c xs rs hS hJ _ _ qP
end
end Hr
def lk{α:Type}:List (Nat×α)→Nat→Option α
 | [],_=>none
 |(k,v)::r,t=>if Nat.beq k t then some v else lk r t
theorem Fl{α:Type}:∀{l:List (Nat×α)} {t:Nat} {v:α},lk l t=some v→(t,v)∈l
 |(k,u)::r,t,v,h=>by
  by_cases e:k=t
  ·subst e;simp [lk]at h;simp [h]
  ·have e':Nat.beq k t=false:=by rw [←J7];exact fun h=>e (xO h)
   simp only [lk,e',DZ,if_false]at h
   exact eT _ (Fl h)
def CY:List (Nat×Nat):= [(1,1),(3,1),(4,1),(5,1),(9,1),(22,1),(23,1),(24,1),(26,4),(27,1),(28,1),(29,1),(30,1),(32,6),(34,1),(35,1),(39,2),(43,2),(44,1),(48,9),(52,5),(63,2),(65,1),(67,6),(69,3),(70,1),(72,5),(73,6),(75,8),(76,1),(77,1),(79,22),(82,1),(87,4),(89,7),(90,1),(95,6),(98,1),(102,1),(104,1),(113,1),(118,1),(119,1),(121,2),(123,2),(124,1),(125,1),(126,1),(128,13),(131,1),(133,2),(136,1),(140,1),(141,1),(148,1),(150,7),(163,1),(166,3),(170,3),(172,5),(202,5),(217,20),(224,1),(226,6),(229,4),(231,1),(234,1),(239,3),(242,1),(252,1),(258,2),(276,2),(278,5),(291,1),(295,1),(304,1),(309,1),(311,4),(313,9),(315,6),(328,7),(345,7),(365,7),(380,63)]
def Fm:List (Nat×Bool):= [(1,false),(3,false),(4,false),(5,false),(9,false),(22,false),(23,false),(24,false),(26,true),(27,false),(28,false),(29,false),(30,false),(32,true),(34,false),(35,false),(39,true),(43,true),(44,false),(48,true),(52,true),(63,true),(65,false),(67,true),(69,true),(70,false),(72,true),(73,true),(75,true),(76,false),(77,false),(79,true),(82,false),(87,true),(89,true),(90,false),(95,true),(98,false),(102,false),(104,false),(113,false),(118,false),(119,false),(121,true),(123,true),(124,false),(125,false),(126,false),(128,true),(131,false),(133,true),(136,false),(140,false),(141,false),(148,false),(150,true),(163,false),(166,true),(170,true),(172,true),(202,true),(217,true),(224,false),(226,true),(229,true),(231,false),(234,false),(242,false),(252,false),(258,true),(276,true),(278,true),(291,false),(295,false),(304,false),(309,false),(311,true),(313,true),(315,true),(328,true),(345,true),(380,true)]
def Q6:List (Nat×Nat):= [(22,5),(23,72),(24,87),(27,67),(28,79),(29,89),(30,43),(34,52),(44,48),(61,9),(65,69),(70,163),(76,166),(77,133),(84,30),(90,239),(102,4),(104,95),(113,121),(118,128),(119,229),(124,172),(125,278),(126,276),(131,258),(136,3),(160,63),(163,226),(198,202),(222,75),(231,123),(237,1),(249,170),(306,313),(383,35)]
def Mr:List (Nat×Nat):= [(1664,0),(1665,1),(1666,2),(1667,3),(2048,0),(2049,1),(2050,2),(2051,3),(2052,4),(2053,5),(2496,0),(2497,1),(2752,0),(2753,1),(3072,0),(3073,1),(3074,2),(3075,3),(3076,4),(3077,5),(3078,6),(3079,8),(3328,0),(3329,1),(3330,2),(3331,3),(3332,4),(3776,0),(4032,0),(4033,1),(4288,0),(4289,2),(4290,3),(4291,5),(4416,0),(4417,2),(4608,0),(4609,1),(4610,2),(4611,3),(4612,4),(4800,0),(4801,1),(4802,2),(5056,0),(5057,2),(5058,10),(5059,11),(5060,12),(5061,13),(5062,14),(5063,15),(5064,16),(5065,17),(5066,18),(5067,19),(5068,20),(5069,21),(5568,0),(5569,1),(5570,2),(5571,3),(5696,0),(5697,2),(5698,3),(5699,5),(6080,0),(6081,5),(7744,0),(7745,1),(7872,0),(7873,1),(8192,0),(8193,2),(8194,3),(8195,5),(8196,6),(8197,7),(8198,8),(8199,9),(8200,10),(8201,11),(8202,12),(8512,0),(8513,1),(9152,0),(9153,1),(9154,2),(9155,11),(9600,0),(9601,1),(9602,2),(9603,3),(9604,4),(9605,5),(9606,6),(10624,0),(10625,1),(10626,2),(10880,0),(10881,1),(10882,2),(11008,0),(11009,3),(11010,4),(12928,0),(12929,1),(12930,2),(12931,3),(12932,4),(13888,0),(13889,2),(13890,10),(13891,11),(13892,12),(13893,13),(13894,14),(13895,15),(13896,16),(13897,17),(13898,18),(13899,19),(14464,0),(14465,1),(14466,2),(14467,3),(14468,4),(14469,5),(14656,0),(14657,1),(14658,2),(14659,3),(15104,0),(15105,6),(15106,7),(15296,0),(15297,1),(16512,0),(16513,1),(17664,0),(17665,1),(17792,0),(17793,3),(17794,4),(19904,0),(19905,1),(19906,2),(19907,3),(20032,0),(20033,1),(20034,5),(20160,0),(20161,1),(20162,2),(20163,3),(20164,4),(20165,5),(22080,0),(22081,1),(22082,2),(22083,3),(22084,4),(22085,5),(22086,6)]
def Ms:List (Nat×List Value×Nat×Nat):= [(1,([.nilFunc],1,8)),(3,([zz],1,8)),(4,([.bool false],1,1)),(9,([.string (ByteArray.mk #[])],1,16)),(30,([zq],1,24)),(32,([.string (ByteArray.mk #[]),.bool false,zq,zq,zq,zq],6,120)),(34,([zq],1,24)),(35,([zz],1,8)),(43,([zz,zz],2,16)),(44,([zq],1,24)),(48,([zz,zz,zz,zz,zz,zz,zz,zz,zz],9,72)),(52,([zz,zz,zz,zz,zz],5,40)),(63,([zz,zz],2,16)),(67,([zz,zz,.string (ByteArray.mk #[]),zz,zz,zq],6,72)),(69,([zz,zz,zz],3,24)),(72,([.int .u8 0,.int .u8 0,.int .u8 0,.int .u8 0,zq],5,32)),(75,([zz,zz,zz,zz,zz,zz,zz,zz],8,64)),(79,([zz,zz,zz,zz,zz,zz,zz,zz,zz,zz,zz,zz,.bool false,zz,zz,zz,zz,zz,zz,.string (ByteArray.mk #[]),zq,zq],22,216)),(87,([.int .u8 0,.int .u8 0,.int .u8 0,.int .u8 0],4,4)),(89,([zz,zz,zz,zz,zz,zz,zz],7,56)),(95,([zz,zz,zz,zz,zz,zz],6,48)),(98,([.nilFunc],1,8)),(104,([zq],1,24)),(119,([zq],1,24)),(121,([zq,zq],2,48)),(123,([zz,zz],2,16)),(128,([zz,zz,zz,zz,zz,zq,zq,zz,zz,zz,zq,zz,zz],13,152)),(133,([zq,zq],2,48)),(136,([zq],1,24)),(148,([.map none],1,8)),(150,([zz,zz,zz,zz,zz,zz,zz],7,56)),(166,([zz,zz,.bool false],3,24)),(170,([zz,zz,zz],3,24)),(172,([zz,zz,zz,.bool false,zz],5,40)),(202,([zz,zz,zz,zz,zz],5,40)),(217,([zz,zz,zz,zz,zz,zz,zz,zz,zz,zz,zz,zz,.bool false,zz,zz,zz,zz,zz,zz,.string (ByteArray.mk #[])],20,168)),(226,([.int .u8 0,.int .u8 0,.int .u8 0,.int .u8 0,.bool false,.int .u16 0],6,8)),(229,([zz,zz,zz,zz],4,32)),(239,([zz,zz,zz],3,24)),(242,([.nilFunc],1,8)),(252,([.nilFunc],1,8)),(258,([zz,zz],2,16)),(276,([.string (ByteArray.mk #[]),zz],2,24)),(278,([zz,zz,zz,zz,.bool false],5,40)),(295,([.nilFunc],1,8)),(304,([.map none],1,8)),(311,([zz,zz,zz,zz],4,32)),(313,([zz,zz,zz,zz,zz,zz,zz,zz,zz],9,72)),(315,([.bool false,zz,zz,zz,.bool false,zz],6,48)),(328,([zz,zz,zz,zz,zz,zz,zz],7,56)),(345,([.string (ByteArray.mk #[]),.int .u8 0,zz,zz,zz,zz,zz],7,64)),(365,([.nilFunc,.nilFunc,.nilFunc,.nilFunc,.nilFunc,.nilFunc,.nilFunc],7,56)),(380,([.string (ByteArray.mk #[]),.int .u8 0,zz,zz,zz,zz,zz,.string (ByteArray.mk #[]),.int .u8 0,zz,zz,zz,zz,zz,.string (ByteArray.mk #[]),.int .u8 0,zz,zz,zz,zz,zz,.string (ByteArray.mk #[]),.int .u8 0,zz,zz,zz,zz,zz,.string (ByteArray.mk #[]),.int .u8 0,zz,zz,zz,zz,zz,.string (ByteArray.mk #[]),.int .u8 0,zz,zz,zz,zz,zz,.string (ByteArray.mk #[]),.int .u8 0,zz,zz,zz,zz,zz,.string (ByteArray.mk #[]),.int .u8 0,zz,zz,zz,zz,zz,.string (ByteArray.mk #[]),.int .u8 0,zz,zz,zz,zz,zz],63,576))]
theorem alf:(Ms.map fun e=>(prog.info? e.1).map fun i=>(i.zero.map (·.cells.toList),i.size,i.bytes))=Ms.map fun e=>some (some e.2.1,e.2.2.1,e.2.2.2):=by kernel_rfl
theorem alg:(CY.all fun e=>match prog.info? e.1 with|some i=>Nat.beq i.size e.2|none=>false)=true:=by kernel_rfl
theorem alh:(Fm.all fun e=>match prog.underlying e.1 with|some (.struct _)=>e.2|some (.array _ _)=>e.2|some _=> !e.2|none=>false)=true:=by kernel_rfl
theorem ali:(Q6.all fun e=>match prog.underlying e.1 with|some (.slice x)=>Nat.beq x e.2|_=>false)=true:=by kernel_rfl
theorem alj:(Mr.all fun e=>match prog.underlying (e.1/64)with|some (.struct fs)=>(match fs[e.1%64]? with|some d=>Nat.beq d.offset e.2&&(match prog.info? d.type with|some i=>Nat.ble 1 i.size|none=>false)|none=>false)|_=>false)=true:=by kernel_rfl
theorem xp{t s:Nat}(h:lk CY t=some s):Sz prog t s:=by
 have h1:=zw.1 alg _ (Fl h)
 dsimp only at h1
 split at h1
 ·rename_i i hi;exact⟨i,hi,xO h1⟩
 ·cases h1
theorem ifF{t:Nat}{zs:List Value}{s b:Nat}(h:lk Ms t=some (zs,s,b)):tK prog t zs s b:= .of (List.map_inj_left.1 alf _ (Fl h))
theorem Zk{t:Nat}{b:Bool}(h:lk Fm t=some b)(w:World):(isAgg t).run prog w= .ok b w:=by
 have h1:=zw.1 alh _ (Fl h)
 dsimp only at h1
 split at h1
 ·rename_i hu;simp [isAgg,cL hu,h1]
 ·rename_i hu;simp [isAgg,cL hu,h1]
 ·rename_i u h2 h3 hu;cases b
  ·cases u<;>simp_all [isAgg,cL hu]
  ·cases h1
 ·cases h1
theorem Zl{t:Nat}(h:lk Fm t=some false)(h2:lk CY t=some 1):f_ prog t:=⟨Zk h,xp h2⟩
theorem Zm{t s:Nat}(h:lk Fm t=some true)(h2:lk CY t=some s):iE prog t s:=⟨Zk h,xp h2⟩
theorem Zn{t e:Nat}(h:lk Q6 t=some e):prog.underlying t=some (.slice e):=by
 have h1:=zw.1 ali _ (Fl h)
 dsimp only at h1
 split at h1
 ·rename_i x hu;rw [hu,xO h1]
 ·cases h1
theorem Zo{t f d:Nat}(hf:f<64)(h:lk Mr (t*64+f)=some d):∃fs x s,prog.underlying t=some (.struct fs)∧fs[f]?=some x∧x.offset=d∧Sz prog x.type (s+1):=by
 have h1:=zw.1 alj _ (Fl h)
 dsimp only at h1
 rw [show(t*64+f)/64=t by omega,show(t*64+f)%64=f by omega]at h1
 split at h1
 ·rename_i fs hu
  split at h1
  ·rename_i x hx
   rw [ft]at h1
   obtain⟨h2,h3⟩:=h1
   split at h3
   ·rename_i i hi
    refine⟨fs,x,i.size-1,hu,hx,xO h2,i,hi,?_⟩
    have:=Nat.le_of_ble_eq_true h3;omega
   ·cases h3
  ·cases h1
 ·cases h1
end Go.Proofs.YtdahjfmmndjcpaaGreat
