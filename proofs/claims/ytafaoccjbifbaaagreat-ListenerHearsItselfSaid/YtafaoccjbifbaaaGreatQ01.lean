/- Part 2 of listenerHearsItself_holds. -/
import Derived.Deep.Fields
import Derived.Deep.Slices
import Derived.OpenShut
import Derived.ProofKit
import Derived.Test.YtafaoccjbifbaaaGreatQ00
set_option linter.unusedSimpArgs false
set_option linter.unusedVariables false
set_option maxHeartbeats 40000000
set_option maxRecDepth 100000
namespace Go.Proofs.YtafaoccjbifbaaaGreat
open Go Go.RowKit Hr Go.Proofs.Tryz
namespace Hr
section
variable{P:Program}{aq:Array Oper}{C:World→Prop}{D:Nat→World→World→Prop}{Q:Act→World→Prop}
def jr(aq:Array Oper)(aL:Array Bool):Prop:=∀j o,aq[j]?=some o→aL.getD j false=true→∀e∈o.after,Region.binds .any e=true→aL.getD e.on false=true
theorem jr.step{aL:Array Bool}{j:Nat}(h:jr aq aL)(hj:j∈Region.ready .any aq aL):jr aq (aL.setIfInBounds j true):=by
 intro i o hi hl e he hb
 refine getD_set_true ?_
 obtain⟨_,oj,sq,fH⟩:=mem_ready.1 hj
 by_cases pF:j=i
 ·subst pF
  rw [hi]at sq;cases sq
  exact fH e he hb
 ·rw [getD_set_ne false pF]at hl
  exact h i o hi hl e he hb
def fV(P:Program)(aq:Array Oper)(D:Nat→World→World→Prop)(Q:Act→World→Prop)(E:Exit→Act→World→Prop):Nat→Array Bool→Act→World→Prop
 |0,aL,a,w=>∀w1,aS nX w w1→Region.ready .any aq aL= []∧Q a w1
 |dp+1,aL,a,w=>∀w1,aS nX w w1→(Region.ready .any aq aL= []→Q a w1)∧
   ∀i∈Region.ready .any aq aL,wpOp P aq E i (fun a' w'=>D i w1 w'∧fV P aq D Q E dp (aL.setIfInBounds i true) a' w') a w1
theorem fV.up{E:Exit→Act→World→Prop}{dp:Nat}{aL:Array Bool}{a:Act}{w w1:World}(h:fV P aq D Q E dp aL a w)(hk:aS nX w w1):fV P aq D Q E dp aL a w1:=by
 cases dp with
 |zero=>exact fun w2 tn=>h w2 (hk.fa tn)
 |succ dp=>exact fun w2 tn=>h w2 (hk.fa tn)
theorem fV.any{E:Exit→Act→World→Prop}(hE:∀a w,Q a w→E .normal a w):∀{dp:Nat} {aL:Array Bool} {a:Act} {w:World},fV P aq D Q E dp aL a w→wpAny P .any aq E dp aL a w
 |0,_,_,w,h=>⟨(h w (aS.refl _ _)).1,hE _ _ (h w (aS.refl _ _)).2⟩
 |_+1,_,_,w,h=>⟨fun h0=>hE _ _ ((h w (aS.refl _ _)).1 h0),fun i hi=>wpOp_mono (fun _ _ h'=>fV.any hE h'.2) ((h w (aS.refl _ _)).2 i hi)⟩
def oD(P:Program)(aq:Array Oper)(C:World→Prop)(o:Oper)(v:Value)(a:Act):Prop:=
 (Region.wanted o (yielded aq a.tmps)=true∧∀w,C w→((execOp a.eval o).run P w= .ok (.value v) w∨((execOp a.eval o).run P w= .ok .skip w∧v=undef)∨
  ∃f args,(execOp a.eval o).run P w= .ok (.enter f args) w∧Calls P f args w fun e w'=>e= .returned v∧aS nX w w'))∨
 (Region.wanted o (yielded aq a.tmps)=false∧v=undef)
theorem oD.wpOp{E:Exit→Act→World→Prop}{i:Nat}{o:Oper}{v:Value}{a:Act}{w:World}(hi:aq[i]?=some o)(h:oD P aq C o v a)(hw:C w){k:Act→World→Prop}(hk:∀w',aS nX w w'→k (a.put o.dst v) w'):wpOp P aq E i k a w:=by
 unfold Go.wpOp
 simp only [hi]
 rcases h with⟨h1,h2⟩|⟨h1,rfl⟩
 ·rw [aH h1]
  refine .inl ?_
  unfold Oper.wp
  rcases h2 w hw with h|⟨h,h3⟩|⟨f,args,h,hc⟩
  ·rw [h];exact hk _ (aS.refl _ _)
  ·rw [h];subst h3;exact hk _ (aS.refl _ _)
  ·rw [h];exact hc.mono fun e w' ⟨he,hw⟩=>by subst he;exact hk _ hw
 ·rw [aB (by rw [h1];simp)]
  exact hk _ (aS.refl _ _)
theorem oD.adt{o oj:Oper}{v u:Value}{a:Act}(hy:oD P aq C o v a)(hs:∀cs b,o.op≠ .select cs b)(h3:∀d,oj.dst=some d→d∉o.looksAt aq):oD P aq C o v (a.put oj.dst u):=by
 unfold oD at*
 rw [execOp_put o hs a oj.dst u h3,wanted_put o a oj.dst u h3]
 exact hy
def jt(Q:Act→World→Prop):Exit→Act→World→Prop:=fun e a w=>e= .normal∧Q a w
theorem adu{j:Nat}{oi oj:Oper}{v:Value}{T:Act→World→Prop}(hj:aq[j]?=some oj)(yY:oi.apart aq oj=true)
  (Ja:∀cs b,oi.op≠ .select cs b)(Tf:∀cs b,oj.op≠ .select cs b){K:Act→World→Prop}{a:Act}{w:World}
  (hy:oD P aq C oi v a)(h:wpOp P aq (jt T) j K (a.put oi.dst v) w):
  wpOp P aq (jt T) j (fun a' w'=>oD P aq C oi v a'∧K (a'.put oi.dst v) w') a w:=by
 obtain⟨h1,h2,h3⟩:=Oper.apart_spec yY
 have nP:∀(a:Act),oD P aq C oi v a→∀u,oD P aq C oi v (a.put oj.dst u):=fun a hy u=>hy.adt Ja h3
 have adv:∀d,oD P aq C oi v {a with defers:=d::a.defers}:=fun d=>hy
 unfold wpOp at*
 simp only [hj]at*
 rw [wanted_put oj a oi.dst v h1]at h
 split
 ·rename_i hw
  simp only [hw,if_true]at h
  rcases h with h|⟨Tg,adw⟩
  case inr=>exact .inr ⟨by unfold Oper.asks at*;rw [execOp_put oj Tf a oi.dst v h1]at Tg;exact Tg,adw⟩
  refine .inl ?_
  unfold Oper.wp at*
  rw [execOp_put oj Tf a oi.dst v h1]at h
  generalize (execOp a.eval oj).run P w=r at*
  cases r with
  |ok n w'=>
   cases n<;>simp only [Oper.upon]at h⊢
   case value u=>exact⟨nP a hy u,by rw [←Act.put_comm a v u h2];exact h⟩
   case skip=>exact⟨nP a hy _,by rw [←Act.put_comm a v undef h2];exact h⟩
   case defer d=>
    refine⟨nP _ (adv d) _,?_⟩
    rw [←Act.put_comm _ v undef h2,←Act.put_defers]
    exact h
   case enter f args=>
    refine Calls.mono h fun e Mx he=>?_
    cases e with
    |returned u=>exact⟨nP a hy u,by rw [←Act.put_comm a v u h2];exact he⟩
    |panicked c=>exact absurd he.1 sM
    |outgrown=>exact he
   case row row args=>exact Rows.mono h fun u Mx he=>⟨nP a hy u,by rw [←Act.put_comm a v u h2];exact he⟩
  |halt x w'=>
   cases x<;>simp only [Oper.upon]at h⊢
   case panic u=>exact absurd h.1 sM
 ·rename_i hw
  simp only [hw]at h
  exact⟨nP a hy _,by rw [←Act.put_comm a v undef h2];exact h⟩
theorem fV.first{T:Act→World→Prop}{i:Nat}{oi:Oper}{v:Value}(hi:aq[i]?=some oi)(dd:∀(j:Nat) (o:Oper) cs b,aq[j]?=some o→o.op≠ .select cs b)(My:∀w w',C w→aS nX w w'→C w')
  (Th:∀w1 w',aS nX w1 w'→D i w1 w')(hD:∀aL j w1 w',jr aq aL→aL.getD i true=false→j∈Region.ready .any aq aL→C w1→D j w1 w'→C w'):
  ∀(dp:Nat) (aL:Array Bool) (a:Act) (w:World),jr aq aL→
   (∀j oj,aq[j]?=some oj→j≠i→aL.getD j true=false→(∀e∈oj.after,Region.binds .any e=true→e.on≠i)→oi.apart aq oj=true)→
   i∈Region.ready .any aq aL→oD P aq C oi v a→C w→
   fV P aq D Q (jt T) dp (aL.setIfInBounds i true) (a.put oi.dst v) w→fV P aq D Q (jt T) (dp+1) aL a w:=by
 intro dp
 induction dp with
 |zero=>
  intro aL a w _ _ hr hy hw H w1 cB
  refine⟨fun h=>(by rw [h]at hr;cases hr),fun j hj=>?_⟩
  by_cases y9:j=i
  ·subst y9;exact hy.wpOp hi (My _ _ hw cB) fun w' bI=>⟨Th _ _ bI,H.up (cB.fa bI)⟩
  ·have:=ready_mono hj y9
   rw [(H w1 cB).1]at this
   cases this
 |succ dp ih=>
  intro aL a w bR Ti hr hy hw H w1 cB
  refine⟨fun h=>(by rw [h]at hr;cases hr),fun j hj=>?_⟩
  by_cases y9:j=i
  ·subst y9;exact hy.wpOp hi (My _ _ hw cB) fun w' bI=>⟨Th _ _ bI,H.up (cB.fa bI)⟩
  ·have h1:=(H w1 cB).2 j (ready_mono hj y9)
   obtain⟨Tj,oj,sq,fH⟩:=mem_ready.1 hj
   have vQ:∀e∈oj.after,Region.binds .any e=true→e.on≠i:=fun e he hb heq=>by
    have h1:=fH e he hb
    have h0:=(mem_ready.1 hr).1
    rw [heq]at h1
    rcases ie i aL.size with h'|h'
    ·simp [h']at h0 h1;rw [h0]at h1;cases h1
    ·simp [CZ h']at h1
   have h2:=adu sq (Ti j oj sq y9 Tj vQ) (fun cs b=>dd i oi cs b hi) (fun cs b=>dd j oj cs b sq) hy h1
   have adx:∀k ok,aq[k]?=some ok→k≠i→(aL.setIfInBounds j true).getD k true=false→
     (∀e∈ok.after,Region.binds .any e=true→e.on≠i)→oi.apart aq ok=true:=fun k ok hk hki vR la=>by
    refine Ti k ok hk hki ?_ la
    by_cases Tk:j=k
    ·subst Tk;exact Tj
    ·rw [getD_set_ne true Tk]at vR;exact vR
   refine wpOp_mono (fun a' w' h3=>⟨h3.2.1,ih (aL.setIfInBounds j true) a' w' (bR.step hj) adx (ready_mono hr (Ne.symm y9)) h3.1 (hD aL j w1 w' bR (mem_ready.1 hr).1 hj (My _ _ hw cB) h3.2.1) ?_⟩) h2
   rw [Array.setIfInBounds_comm _ _ y9]
   exact h3.2.2
end
def ur(aq:Array Oper):List (Nat×Nat)→Array Bool→Bool
 | [],aL=>(Region.ready .any aq aL).isEmpty
 |(i,0)::r,aL=>(Region.ready .any aq aL).contains i&&Region.free .any aq aL i&&ur aq r (aL.setIfInBounds i true)
 |(i,_+1)::r,aL=>(Region.ready .any aq aL== [i])&&ur aq r (aL.setIfInBounds i true)
def jh:List (Nat×Nat)→Nat→Nat
 | [],_=>1
 |(i,t)::r,j=>if i=j then t else jh r j
def waits(aq:Array Oper)(j i:Nat):Bool:=match aq[j]? with
 |some o=>o.after.any fun e=>Region.binds .any e&&e.on==i
 |none=>false
def Jb(aq:Array Oper):Nat→List Nat→Bool
 |_, []=>true
 |t,u::r=>waits aq u t&&Jb aq u r
def y_(aq:Array Oper)(bK:List (Nat×Nat)):Bool:=
 match(bK.filter (·.2==2)).map (·.1)with
 | []=>true
 |t::r=>Jb aq t r&&((bK.filter (·.2≤1)).all fun p=>p.1<t&&(t::((bK.filter (·.2≤1)).map (·.1))).any fun m=>decide (p.1<m)&&decide (m≤t)&&waits aq m p.1)
def FQ(aq:Array Oper)(order:List (Nat×Nat)):Bool:=Region.noSelect aq&&Nat.beq order.length aq.size&&ur aq order (Array.replicate aq.size false)&&y_ aq order
theorem Mz{aq:Array Oper}{j i:Nat}(h:waits aq j i=true):∃o,aq[j]?=some o∧∃e∈o.after,Region.binds .any e=true∧e.on=i:=by
 unfold waits at h
 cases ho:aq[j]? with
 |none=>rw [ho]at h;cases h
 |some o=>
  rw [ho]at h
  simp only [Array.any_eq_true',fu,kh]at h
  obtain⟨e,he,hb,hi⟩:=h
  exact⟨o,rfl,e,he,hb,hi⟩
theorem MB:∀{bK:List (Nat×Nat)} {j t:Nat},jh bK j=t→t≠1→(j,t)∈bK
 | [],_,_,h,h1=>absurd h.symm h1
 |(i,u)::r,j,t,h,h1=>by
  simp only [jh]at h
  split at h
  ·rename_i e;subst e;subst h;exact fi
  ·exact gB _ (MB h h1)
theorem Jc{aq:Array Oper}{bK:List (Nat×Nat)}(h:y_ aq bK=true){aL:Array Bool}(bR:jr aq aL){i j:Nat}(hi:jh bK i=0)(hj:jh bK j=2)(hr:j∈Region.ready .any aq aL):aL.getD i false=true:=by
 have iJ:=MB hi (by decide)
 have gU:=MB hj (by decide)
 unfold y_ at h
 have MC:j∈(bK.filter (·.2==2)).map (·.1):=eS.2 ⟨(j,2),IN.2 ⟨gU,by simp⟩,rfl⟩
 obtain⟨_,oj,sq,Tl⟩:=mem_ready.1 hr
 generalize (bK.filter (·.2==2)).map (·.1)=adz at h MC
 cases adz with
 |nil=>cases MC
 |cons t r=>
  simp only [fu,C3,C4,ir]at h
  obtain⟨A9,Tm⟩:=h
  have hdt:∀o,aq[t]?=some o→∀e∈o.after,Region.binds .any e=true→aL.getD e.on false=true:=by
   have key:∀(r:List Nat) (t:Nat),Jb aq t r=true→j∈t::r→∀o,aq[t]?=some o→∀e∈o.after,Region.binds .any e=true→aL.getD e.on false=true:=by
    intro r
    induction r with
    |nil=>
     intro t _ hm o ho e he hb
     simp only [c_]at hm
     subst hm
     rw [sq]at ho;cases ho
     exact Tl e he hb
    |cons u r ih=>
     intro t hc hm o ho e he hb
     simp only [Jb,fu]at hc
     rcases gu.1 hm with rfl|hm
     ·rw [sq]at ho;cases ho
      exact Tl e he hb
     ·have h1:=ih u hc.2 hm
      obtain⟨ou,hou,eu,heu,hbu,A_⟩:=Mz hc.1
      have h2:=h1 ou hou eu heu hbu
      rw [A_]at h2
      exact bR t o ho h2 e he hb
   exact key r t A9 MC
  have Jd:∀(d i q:Nat),t-i≤d→q≤1→(i,q)∈bK→aL.getD i false=true:=by
   intro d
   induction d with
   |zero=>
    intro i q hd hq MD
    have:=(Tm (i,q) (IN.2 ⟨MD,by simpa using hq⟩)).1
    simp only at this
    omega
   |succ d ih=>
    intro i q hd hq MD
    obtain⟨bN,m,hm,nr,hw⟩:=Tm (i,q) (IN.2 ⟨MD,by simpa using hq⟩)
    obtain⟨om,Tn,e,he,hb,A_⟩:=Mz hw
    rcases gu.1 hm with rfl|hm
    ·have:=hdt om Tn e he hb
     rwa [A_]at this
    ·obtain⟨p,hp,rfl⟩:=eS.1 hm
     have FR:=IN.1 hp
     have adE:=ih p.1 p.2 (by simp only at nr bN;omega) (by simpa using FR.2) FR.1
     have:=bR p.1 om Tn adE e he hb
     rwa [A_]at this
  exact Jd _ i 0 (ct _)  oM iJ
section
variable{P:Program}{fn:Func}{R:Ending→World→Prop}{X:Nat→Prop}{W:World}{n:Nat}{k:List K}{S:St}{ah:List (Nat×Value)}{mem:List an}{M0:List an}{aq:Array Oper}{bK:List (Nat×Nat)}
def fW(X:Nat→Prop)(W:World)(M0:List an)(w:World):Prop:=aS X W w∧Mem X W M0 w
theorem fW.up{w w':World}(h:fW X W M0 w)(hk:aS nX w w'):fW X W M0 w':=⟨h.1.fa hk,h.2.xp hk⟩
def za(X:Nat→Prop)(W:World)(M0:List an)(bK:List (Nat×Nat))(j:Nat)(w1 w':World):Prop:=
 match jh bK j with
 |0=>aS nX w1 w'
 |2=>True
 |_=>fW X W M0 w'
def iK(P:Program)(fn:Func)(R:Ending→World→Prop)(X:Nat→Prop)(W:World)(n:Nat)(k:List K)(M0:List an)(aq:Array Oper)(bK order:List (Nat×Nat))(S:St):Prop:=
 ∀aL,Region.noSelect aq=true→y_ aq bK=true→ur aq order aL=true→jr aq aL→∀a w,cK X W n S a w→((∃i,jh bK i=0∧aL.getD i true=false)→fW X W M0 w)→
  fV P aq (za X W M0 bK) (fun a w=>post P fn R k .normal a w) (jt fun a w=>post P fn R k .normal a w) order.length aL a w
theorem ME{id:Nat}{l:List Oper}(order:List (Nat×Nat))(hm:P.follows .mixedOrders=true)(bW:FQ l.toArray order=true)(hM:ax S.mem M0)(h:iK P fn R X W n k M0 l.toArray order order S):
  aW P fn R X W n (.bn (.region id l.toArray true)::k) S:=by
 intro a w hs
 simp only [FQ,fu]at bW
 obtain⟨⟨⟨h1,h2⟩,h3⟩,h4⟩:=bW
 have gT:order.length=l.toArray.size:=xf h2
 have cR:cK X W n S a {w with drawn:=w.drawn+1}:=hs.world (aS.refl nX w).drew
 have bR:jr l.toArray (Array.replicate l.toArray.size false):=by
  intro j o hj hl
  rcases ie j l.toArray.size with h'|h'
  ·simp at h';simp [h']at hl
  ·simp at h';simp [h']at hl
 have hd:=h _ h1 h4 h3 bR a _ cR (fun _=>⟨cR.dv,(hM _ _ _ cR.mem).1⟩)
 rw [gT]at hd
 have:=wp_region_any (P:=P) (id:=id) hm (fV.any (E:=jt fun a w=>post P fn R k .normal a w) (fun a w h=>⟨rfl,h⟩) hd)
 exact AJ (fun e a w ⟨he,hq⟩=>by subst he;exact hq) this
theorem adF(h:aW P fn R X W n k S):iK P fn R X W n k M0 aq bK [] S:=by
 intro aL _ _ bW _ a w hs _ w1 cB
 exact⟨by simpa [ur]using bW,h a w1 (hs.world cB)⟩
theorem Je{aL:Array Bool}{i:Nat}(h:i∈Region.ready .any aq aL):aL.getD i true=false:=(mem_ready.1 h).1
theorem To{i:Nat}{o:Oper}{v:Value}{r:List (Nat×Nat)}{aL:Array Bool}{a:Act}{w:World}(hi:aq[i]?=some o)(ht:jh bK i=0)(dd:Region.noSelect aq=true)(dQ:y_ aq bK=true)(bW:ur aq ((i,0)::r) aL=true)(bR:jr aq aL)
  (hy:oD P aq (fW X W M0) o v a)(hC:fW X W M0 w)
  (hk:ur aq r (aL.setIfInBounds i true)=true→jr aq (aL.setIfInBounds i true)→fV P aq (za X W M0 bK) (fun a w=>post P fn R k .normal a w) (jt fun a w=>post P fn R k .normal a w) r.length (aL.setIfInBounds i true) (a.put o.dst v) w):
  fV P aq (za X W M0 bK) (fun a w=>post P fn R k .normal a w) (jt fun a w=>post P fn R k .normal a w) ((i,0)::r).length aL a w:=by
 simp only [ur,fu]at bW
 obtain⟨⟨h1,h2⟩,h3⟩:=bW
 have hr:i∈Region.ready .any aq aL:=by simpa using h1
 refine fV.first (C:=fW X W M0) (v:=v) hi (IP dd) (fun _ _=>fW.up) (fun w1 w' hk=>by unfold za;rw [ht];exact hk) (fun L j w1 w' hL Dj hj oE hD=>?_) _ _ _ _ bR (Region.free_spec hi h2) hr hy hC (hk h3 (bR.step hr))
 unfold za at hD
 split at hD
 ·exact oE.up hD
 ·rename_i hx
  exfalso
  have:=Jc dQ hL ht hx hj
  rcases ie i L.size with h'|h'
  ·simp [h']at this Dj;rw [Dj]at this;cases this
  ·simp [h']at this
 ·exact hD
theorem ju{i d:Nat}{o:Oper}{v:Value}{r:List (Nat×Nat)}(hi:aq[i]?=some o)(ht:jh bK i=0)(hw:cY aq ah o true)(hd:o.dst=some d)(hdn:Nat.blt d n=true)(h:Q1 P X W n ⟨ah,M0⟩ o v)
  (hk:iK P fn R X W n k M0 aq bK r ⟨(d,v)::ah,mem⟩):iK P fn R X W n k M0 aq bK ((i,0)::r) ⟨ah,mem⟩:=by
 intro aL dd dQ bW bR a w hs hC
 have hr:i∈Region.ready .any aq aL:=by simp only [ur,fu]at bW;simpa using bW.1.1
 have lj:=hC ⟨i,ht,Je hr⟩
 refine To hi ht dd dQ bW bR (v:=v) (.inl ⟨hw.eq hs,fun w' kK=>h a w' ⟨hs.size,hs.defers,hs.ah,kK.1,kK.2⟩⟩) lj fun h3 lp=>?_
 have:=hk _ dd dQ h3 lp (a.put (some d) v) w (hs.put hdn v) (fun _=>lj)
 rw [hd]
 exact this
theorem lK{r:List (Nat×Nat)}(t:Tmp){c:Bool}(SZ:cW S.ah t=some (.bool c))(h1:c=true→iK P fn R X W n k M0 aq bK r S)(h2:c=false→iK P fn R X W n k M0 aq bK r S):iK P fn R X W n k M0 aq bK r S:=by
 cases c
 ·exact h2 rfl
 ·exact h1 rfl
theorem Tp{i d:Nat}{o:Oper}{r:List (Nat×Nat)}(hi:aq[i]?=some o)(ht:jh bK i=0)(hw:cY aq ah o false)(hd:o.dst=some d)(hdn:Nat.blt d n=true)
  (hk:iK P fn R X W n k M0 aq bK r ⟨(d,undef)::ah,mem⟩):iK P fn R X W n k M0 aq bK ((i,0)::r) ⟨ah,mem⟩:=by
 intro aL dd dQ bW bR a w hs hC
 have hr:i∈Region.ready .any aq aL:=by simp only [ur,fu]at bW;simpa using bW.1.1
 have lj:=hC ⟨i,ht,Je hr⟩
 refine To hi ht dd dQ bW bR (v:=undef) (.inr ⟨hw.eq hs,rfl⟩) lj fun h3 lp=>?_
 have:=hk _ dd dQ h3 lp (a.put (some d) undef) w (hs.put hdn undef) (fun _=>lj)
 rw [hd]
 exact this
theorem Tq{i t:Nat}{o:Oper}{r:List (Nat×Nat)}{ι:Type}{φ:ι→Prop}{next:ι→St}(hi:aq[i]?=some o)(hw:cY aq ah o true)(h:H1 P X W n ⟨ah,mem⟩ o φ next)(hD:∀j w1 w',φ j→aS X W w'→Mem X W (next j).mem w'→za X W M0 bK i w1 w')
  (hM:∀j,φ j→ax (next j).mem M0∨jh bK i=2)
  (hk:∀j,φ j→iK P fn R X W n k M0 aq bK r (next j)):iK P fn R X W n k M0 aq bK ((i,t+1)::r) ⟨ah,mem⟩:=by
 intro aL dd dQ bW bR a w hs _ w1 cB
 have adG:=bW
 simp only [ur,fu,kh]at bW
 obtain⟨h1,h3⟩:=bW
 refine⟨fun h0=>(by rw [h1]at h0;cases h0),fun j hj=>?_⟩
 rw [h1]at hj
 simp only [c_]at hj
 subst hj
 unfold wpOp
 simp only [hi]
 have cj:=hs.world cB
 rw [aH (hw.eq cj)]
 refine .inl (h a w1 cj _ _ fun i' a' w' hφ cR=>⟨hD i' w1 w' hφ cR.dv cR.mem,?_⟩)
 refine hk i' hφ _ dd dQ h3 (bR.step (by rw [h1];simp)) a' w' cR ?_
 rintro⟨q,hq,vR⟩
 rcases hM i' hφ with hm|hm
 ·exact⟨cR.dv,(hm _ _ _ cR.mem).1⟩
 ·have h5:=Jc dQ bR hq hm (by rw [h1];simp)
  have h6:=getD_set_true (i:=j) h5
  rcases ie q (aL.setIfInBounds j true).size with h'|h'
  ·simp only [L9,IQ h',IS]at h6 vR
   rw [vR]at h6;cases h6
  ·simp only [L9,CZ h',Option.getD_none]at h6
   cases h6
theorem ks{i:Nat}{o:Oper}{r:List (Nat×Nat)}{ι:Type}{φ:ι→Prop}{next:ι→St}(hi:aq[i]?=some o)(ht:jh bK i=1)(hw:cY aq ah o true)(h:H1 P X W n ⟨ah,mem⟩ o φ next)(hM:∀j,φ j→ax (next j).mem M0)
  (hk:∀j,φ j→iK P fn R X W n k M0 aq bK r (next j)):iK P fn R X W n k M0 aq bK ((i,1)::r) ⟨ah,mem⟩:=
 Tq (t:=0) hi hw h (fun j w1 w' hφ hk hm=>by unfold za;rw [ht];exact⟨hk,(hM j hφ _ _ _ hm).1⟩) (fun j hφ=> .inl (hM j hφ)) hk
theorem Tr{i:Nat}{o:Oper}{r:List (Nat×Nat)}{ι:Type}{φ:ι→Prop}{next:ι→St}(hi:aq[i]?=some o)(ht:jh bK i=2)(hw:cY aq ah o true)(h:H1 P X W n ⟨ah,mem⟩ o φ next)
  (hk:∀j,φ j→iK P fn R X W n k M0 aq bK r (next j)):iK P fn R X W n k M0 aq bK ((i,2)::r) ⟨ah,mem⟩:=
 Tq (t:=1) hi hw h (fun j w1 w' _ _ _=>by unfold za;rw [ht];trivial) (fun _ _=> .inr ht) hk
theorem MF{f:FuncId}{vs:List Value}{R:Ending→World→Prop}{c:Code}{m:List an}(hf:P.funcs[f]?=some fn)(hn:fn.ntmps=n)(hb:fn.body=some c)
  (hz:Nat.ble vs.length n=true)(hm:Mem X W m W)(h:aW P fn R X W n [.bn c] ⟨bB 0 vs,m⟩):Calls P f vs.toArray W R:=
 enter hf hn hb (by simpa using hz) (fun k v hk=>by
  obtain⟨_,h2⟩:=FF vs 0 k v hk
  simpa using h2) hm h
theorem a_{α:Type}{p:α→Prop}{x:α}(h:p x):∀z∈ [x],p z:=by simpa using h
def aa{α:Type} [Inhabited α](l:List α)(q:Nat):α:=l.getD q default
theorem FT{α:Type} [Inhabited α]{l:List α}{q:Nat}(h:q<l.length):l[q]?=some (aa l q):=by
 simp [aa,kW h]
theorem ku{α:Type} [Inhabited α]{l:List α}{q:Nat}(h:q<l.length):l.drop q=aa l q::l.drop (q+1):=by
 rw [Fk h];simp [aa,kW h]
theorem nR{α:Type} [Inhabited α]{l:List α}{q:Nat}(h:q<l.length):l.take (q+1)=l.take q++ [aa l q]:=by
 rw [List.take_succ_eq_append_getElem h];simp [aa,kW h]
theorem adH{α:Type} [Inhabited α]{f:α→Value}{l:List α}{q:Nat}(h:q<l.length):(l.map f).toArray[q]?=some (f (aa l q)):=by
 simp [aa,h]
theorem bt{α:Type} [Inhabited α]{enc:α→List Value}{l:List α}{q:Nat}(h:q<l.length):(l.map enc)[q]?=some (enc (aa l q)):=by
 rw [oy,FT h];rfl
theorem ag.bu{rs l:List an}{r:an}(h:ag rs r l):ax rs l:=(ax.aI h.aI).trans (.sub (Fl _ _))
theorem Ba{ι:Type}{c:Code}{bg:List (Nat×Value)}{bh:List an}(φ:ι→Prop)(μ:ι→Nat)(i0:ι)(h0:φ i0)
  (hr:∀i,φ i→aW P fn R X W n (.bn c:: .stop (lJ X W n φ (fun i=>⟨bg,bh⟩) μ (μ i))::k) ⟨bg,bh⟩):aW P fn R X W n (.bn (.loop c)::k) ⟨bg,bh⟩:=by
 exact np φ (fun i=>⟨bg,bh⟩) μ i0 h0 (ar dF.refl ax.refl) hr
theorem Dm{ι:Type}{c:Code}{bg:List (Nat×Value)}{bh:List an}{r0:an}(φ:ι→Prop)(g0:ι→an)
  (h:aW P fn R X W n (.bn c:: .stop (vJ X W n φ (fun i=>⟨bg,g0 i::bh⟩))::k) ⟨bg,r0::bh⟩)(h':∀i,φ i→aW P fn R X W n k ⟨bg,g0 i::bh⟩):aW P fn R X W n (.bn c::k) ⟨bg,r0::bh⟩:=
 AU φ (fun i=>⟨bg,g0 i::bh⟩) h h'
theorem adI{ι:Type}{c:Code}{bg:List (Nat×Value)}{bh:List an}{r0 r1:an}(φ:ι→Prop)(g0 g1:ι→an)(μ:ι→Nat)(i0:ι)(h0:φ i0)(q0:cm r0 (g0 i0))(q1:cm r1 (g1 i0))
  (hr:∀i,φ i→aW P fn R X W n (.bn c:: .stop (lJ X W n φ (fun i=>⟨bg,g0 i::g1 i::bh⟩) μ (μ i))::k) ⟨bg,g0 i::g1 i::bh⟩):aW P fn R X W n (.bn (.loop c)::k) ⟨bg,r0::r1::bh⟩:=by
 exact np φ (fun i=>⟨bg,g0 i::g1 i::bh⟩) μ i0 h0 (ar dF.refl (ax.cons ag.ak q0 (ax.cons ag.ak q1 ax.refl))) hr
theorem Jf{ι:Type}{c:Code}{bg:List (Nat×Value)}{bh:List an}{r0 r1:an}(φ:ι→Prop)(g0 g1:ι→an)
  (h:aW P fn R X W n (.bn c:: .stop (vJ X W n φ (fun i=>⟨bg,g0 i::g1 i::bh⟩))::k) ⟨bg,r0::r1::bh⟩)(h':∀i,φ i→aW P fn R X W n k ⟨bg,g0 i::g1 i::bh⟩):aW P fn R X W n (.bn c::k) ⟨bg,r0::r1::bh⟩:=
 AU φ (fun i=>⟨bg,g0 i::g1 i::bh⟩) h h'
theorem adJ{ι:Type}{c:Code}{bg:List (Nat×Value)}{bh:List an}{r0 r1 r2:an}(φ:ι→Prop)(g0 g1 g2:ι→an)(μ:ι→Nat)(i0:ι)(h0:φ i0)(q0:cm r0 (g0 i0))(q1:cm r1 (g1 i0))(q2:cm r2 (g2 i0))
  (hr:∀i,φ i→aW P fn R X W n (.bn c:: .stop (lJ X W n φ (fun i=>⟨bg,g0 i::g1 i::g2 i::bh⟩) μ (μ i))::k) ⟨bg,g0 i::g1 i::g2 i::bh⟩):aW P fn R X W n (.bn (.loop c)::k) ⟨bg,r0::r1::r2::bh⟩:=by
 exact np φ (fun i=>⟨bg,g0 i::g1 i::g2 i::bh⟩) μ i0 h0 (ar dF.refl (ax.cons ag.ak q0 (ax.cons ag.ak q1 (ax.cons ag.ak q2 ax.refl)))) hr
theorem adK{ι:Type}{c:Code}{bg:List (Nat×Value)}{bh:List an}{r0 r1 r2:an}(φ:ι→Prop)(g0 g1 g2:ι→an)
  (h:aW P fn R X W n (.bn c:: .stop (vJ X W n φ (fun i=>⟨bg,g0 i::g1 i::g2 i::bh⟩))::k) ⟨bg,r0::r1::r2::bh⟩)(h':∀i,φ i→aW P fn R X W n k ⟨bg,g0 i::g1 i::g2 i::bh⟩):aW P fn R X W n (.bn c::k) ⟨bg,r0::r1::r2::bh⟩:=
 AU φ (fun i=>⟨bg,g0 i::g1 i::g2 i::bh⟩) h h'
theorem eP{ι:Type}{c:Code}{bg:List (Nat×Value)}{bh:List an}{s0:Nat}{u0:Value}(φ:ι→Prop)(f0:ι→Value)(μ:ι→Nat)(i0:ι)(h0:φ i0)(e0:u0=f0 i0)
  (hr:∀i,φ i→aW P fn R X W n (.bn c:: .stop (lJ X W n φ (fun i=>⟨(s0,f0 i)::bg,bh⟩) μ (μ i))::k) ⟨(s0,f0 i)::bg,bh⟩):aW P fn R X W n (.bn (.loop c)::k) ⟨(s0,u0)::bg,bh⟩:=by
 subst e0
 exact np φ (fun i=>⟨(s0,f0 i)::bg,bh⟩) μ i0 h0 (ar dF.refl ax.refl) hr
theorem uu{ι:Type}{c:Code}{bg:List (Nat×Value)}{bh:List an}{s0:Nat}{u0:Value}(φ:ι→Prop)(f0:ι→Value)
  (h:aW P fn R X W n (.bn c:: .stop (vJ X W n φ (fun i=>⟨(s0,f0 i)::bg,bh⟩))::k) ⟨(s0,u0)::bg,bh⟩)(h':∀i,φ i→aW P fn R X W n k ⟨(s0,f0 i)::bg,bh⟩):aW P fn R X W n (.bn c::k) ⟨(s0,u0)::bg,bh⟩:=
 AU φ (fun i=>⟨(s0,f0 i)::bg,bh⟩) h h'
theorem kN{ι:Type}{c:Code}{bg:List (Nat×Value)}{bh:List an}{s0:Nat}{u0:Value}{r0:an}(φ:ι→Prop)(f0:ι→Value)(g0:ι→an)(μ:ι→Nat)(i0:ι)(h0:φ i0)(e0:u0=f0 i0)(q0:cm r0 (g0 i0))
  (hr:∀i,φ i→aW P fn R X W n (.bn c:: .stop (lJ X W n φ (fun i=>⟨(s0,f0 i)::bg,g0 i::bh⟩) μ (μ i))::k) ⟨(s0,f0 i)::bg,g0 i::bh⟩):aW P fn R X W n (.bn (.loop c)::k) ⟨(s0,u0)::bg,r0::bh⟩:=by
 subst e0
 exact np φ (fun i=>⟨(s0,f0 i)::bg,g0 i::bh⟩) μ i0 h0 (ar dF.refl (ax.cons ag.ak q0 ax.refl)) hr
theorem Ts{ι:Type}{c:Code}{bg:List (Nat×Value)}{bh:List an}{s0:Nat}{u0:Value}{r0:an}(φ:ι→Prop)(f0:ι→Value)(g0:ι→an)
  (h:aW P fn R X W n (.bn c:: .stop (vJ X W n φ (fun i=>⟨(s0,f0 i)::bg,g0 i::bh⟩))::k) ⟨(s0,u0)::bg,r0::bh⟩)(h':∀i,φ i→aW P fn R X W n k ⟨(s0,f0 i)::bg,g0 i::bh⟩):aW P fn R X W n (.bn c::k) ⟨(s0,u0)::bg,r0::bh⟩:=
 AU φ (fun i=>⟨(s0,f0 i)::bg,g0 i::bh⟩) h h'
theorem kO{ι:Type}{c:Code}{bg:List (Nat×Value)}{bh:List an}{s0:Nat}{u0:Value}{r0 r1:an}(φ:ι→Prop)(f0:ι→Value)(g0 g1:ι→an)(μ:ι→Nat)(i0:ι)(h0:φ i0)(e0:u0=f0 i0)(q0:cm r0 (g0 i0))(q1:cm r1 (g1 i0))
  (hr:∀i,φ i→aW P fn R X W n (.bn c:: .stop (lJ X W n φ (fun i=>⟨(s0,f0 i)::bg,g0 i::g1 i::bh⟩) μ (μ i))::k) ⟨(s0,f0 i)::bg,g0 i::g1 i::bh⟩):aW P fn R X W n (.bn (.loop c)::k) ⟨(s0,u0)::bg,r0::r1::bh⟩:=by
 subst e0
 exact np φ (fun i=>⟨(s0,f0 i)::bg,g0 i::g1 i::bh⟩) μ i0 h0 (ar dF.refl (ax.cons ag.ak q0 (ax.cons ag.ak q1 ax.refl))) hr
theorem adL{ι:Type}{c:Code}{bg:List (Nat×Value)}{bh:List an}{s0:Nat}{u0:Value}{r0 r1 r2:an}(φ:ι→Prop)(f0:ι→Value)(g0 g1 g2:ι→an)(μ:ι→Nat)(i0:ι)(h0:φ i0)(e0:u0=f0 i0)(q0:cm r0 (g0 i0))(q1:cm r1 (g1 i0))(q2:cm r2 (g2 i0))
  (hr:∀i,φ i→aW P fn R X W n (.bn c:: .stop (lJ X W n φ (fun i=>⟨(s0,f0 i)::bg,g0 i::g1 i::g2 i::bh⟩) μ (μ i))::k) ⟨(s0,f0 i)::bg,g0 i::g1 i::g2 i::bh⟩):aW P fn R X W n (.bn (.loop c)::k) ⟨(s0,u0)::bg,r0::r1::r2::bh⟩:=by
 subst e0
 exact np φ (fun i=>⟨(s0,f0 i)::bg,g0 i::g1 i::g2 i::bh⟩) μ i0 h0 (ar dF.refl (ax.cons ag.ak q0 (ax.cons ag.ak q1 (ax.cons ag.ak q2 ax.refl)))) hr
theorem kv{ι:Type}{c:Code}{bg:List (Nat×Value)}{bh:List an}{s0 s1:Nat}{u0 u1:Value}(φ:ι→Prop)(f0 f1:ι→Value)(μ:ι→Nat)(i0:ι)(h0:φ i0)(e0:u0=f0 i0)(e1:u1=f1 i0)
  (hr:∀i,φ i→aW P fn R X W n (.bn c:: .stop (lJ X W n φ (fun i=>⟨(s0,f0 i)::(s1,f1 i)::bg,bh⟩) μ (μ i))::k) ⟨(s0,f0 i)::(s1,f1 i)::bg,bh⟩):aW P fn R X W n (.bn (.loop c)::k) ⟨(s0,u0)::(s1,u1)::bg,bh⟩:=by
 subst e0;subst e1
 exact np φ (fun i=>⟨(s0,f0 i)::(s1,f1 i)::bg,bh⟩) μ i0 h0 (ar dF.refl ax.refl) hr
theorem Jg{ι:Type}{c:Code}{bg:List (Nat×Value)}{bh:List an}{s0 s1:Nat}{u0 u1:Value}(φ:ι→Prop)(f0 f1:ι→Value)
  (h:aW P fn R X W n (.bn c:: .stop (vJ X W n φ (fun i=>⟨(s0,f0 i)::(s1,f1 i)::bg,bh⟩))::k) ⟨(s0,u0)::(s1,u1)::bg,bh⟩)(h':∀i,φ i→aW P fn R X W n k ⟨(s0,f0 i)::(s1,f1 i)::bg,bh⟩):aW P fn R X W n (.bn c::k) ⟨(s0,u0)::(s1,u1)::bg,bh⟩:=
 AU φ (fun i=>⟨(s0,f0 i)::(s1,f1 i)::bg,bh⟩) h h'
theorem jD{ι:Type}{c:Code}{bg:List (Nat×Value)}{bh:List an}{s0 s1:Nat}{u0 u1:Value}{r0:an}(φ:ι→Prop)(f0 f1:ι→Value)(g0:ι→an)(μ:ι→Nat)(i0:ι)(h0:φ i0)(e0:u0=f0 i0)(e1:u1=f1 i0)(q0:cm r0 (g0 i0))
  (hr:∀i,φ i→aW P fn R X W n (.bn c:: .stop (lJ X W n φ (fun i=>⟨(s0,f0 i)::(s1,f1 i)::bg,g0 i::bh⟩) μ (μ i))::k) ⟨(s0,f0 i)::(s1,f1 i)::bg,g0 i::bh⟩):aW P fn R X W n (.bn (.loop c)::k) ⟨(s0,u0)::(s1,u1)::bg,r0::bh⟩:=by
 subst e0;subst e1
 exact np φ (fun i=>⟨(s0,f0 i)::(s1,f1 i)::bg,g0 i::bh⟩) μ i0 h0 (ar dF.refl (ax.cons ag.ak q0 ax.refl)) hr
theorem FU{ι:Type}{c:Code}{bg:List (Nat×Value)}{bh:List an}{s0 s1:Nat}{u0 u1:Value}{r0 r1:an}(φ:ι→Prop)(f0 f1:ι→Value)(g0 g1:ι→an)(μ:ι→Nat)(i0:ι)(h0:φ i0)(e0:u0=f0 i0)(e1:u1=f1 i0)(q0:cm r0 (g0 i0))(q1:cm r1 (g1 i0))
  (hr:∀i,φ i→aW P fn R X W n (.bn c:: .stop (lJ X W n φ (fun i=>⟨(s0,f0 i)::(s1,f1 i)::bg,g0 i::g1 i::bh⟩) μ (μ i))::k) ⟨(s0,f0 i)::(s1,f1 i)::bg,g0 i::g1 i::bh⟩):aW P fn R X W n (.bn (.loop c)::k) ⟨(s0,u0)::(s1,u1)::bg,r0::r1::bh⟩:=by
 subst e0;subst e1
 exact np φ (fun i=>⟨(s0,f0 i)::(s1,f1 i)::bg,g0 i::g1 i::bh⟩) μ i0 h0 (ar dF.refl (ax.cons ag.ak q0 (ax.cons ag.ak q1 ax.refl))) hr
theorem Tt{ι:Type}{c:Code}{bg:List (Nat×Value)}{bh:List an}{s0 s1:Nat}{u0 u1:Value}{r0 r1 r2:an}(φ:ι→Prop)(f0 f1:ι→Value)(g0 g1 g2:ι→an)(μ:ι→Nat)(i0:ι)(h0:φ i0)(e0:u0=f0 i0)(e1:u1=f1 i0)(q0:cm r0 (g0 i0))(q1:cm r1 (g1 i0))(q2:cm r2 (g2 i0))
  (hr:∀i,φ i→aW P fn R X W n (.bn c:: .stop (lJ X W n φ (fun i=>⟨(s0,f0 i)::(s1,f1 i)::bg,g0 i::g1 i::g2 i::bh⟩) μ (μ i))::k) ⟨(s0,f0 i)::(s1,f1 i)::bg,g0 i::g1 i::g2 i::bh⟩):aW P fn R X W n (.bn (.loop c)::k) ⟨(s0,u0)::(s1,u1)::bg,r0::r1::r2::bh⟩:=by
 subst e0;subst e1
 exact np φ (fun i=>⟨(s0,f0 i)::(s1,f1 i)::bg,g0 i::g1 i::g2 i::bh⟩) μ i0 h0 (ar dF.refl (ax.cons ag.ak q0 (ax.cons ag.ak q1 (ax.cons ag.ak q2 ax.refl)))) hr
theorem MG{ι:Type}{c:Code}{bg:List (Nat×Value)}{bh:List an}{s0 s1 s2:Nat}{u0 u1 u2:Value}(φ:ι→Prop)(f0 f1 f2:ι→Value)(μ:ι→Nat)(i0:ι)(h0:φ i0)(e0:u0=f0 i0)(e1:u1=f1 i0)(e2:u2=f2 i0)
  (hr:∀i,φ i→aW P fn R X W n (.bn c:: .stop (lJ X W n φ (fun i=>⟨(s0,f0 i)::(s1,f1 i)::(s2,f2 i)::bg,bh⟩) μ (μ i))::k) ⟨(s0,f0 i)::(s1,f1 i)::(s2,f2 i)::bg,bh⟩):aW P fn R X W n (.bn (.loop c)::k) ⟨(s0,u0)::(s1,u1)::(s2,u2)::bg,bh⟩:=by
 subst e0;subst e1;subst e2
 exact np φ (fun i=>⟨(s0,f0 i)::(s1,f1 i)::(s2,f2 i)::bg,bh⟩) μ i0 h0 (ar dF.refl ax.refl) hr
theorem Jh{ι:Type}{c:Code}{bg:List (Nat×Value)}{bh:List an}{s0 s1 s2:Nat}{u0 u1 u2:Value}{r0:an}(φ:ι→Prop)(f0 f1 f2:ι→Value)(g0:ι→an)(μ:ι→Nat)(i0:ι)(h0:φ i0)(e0:u0=f0 i0)(e1:u1=f1 i0)(e2:u2=f2 i0)(q0:cm r0 (g0 i0))
  (hr:∀i,φ i→aW P fn R X W n (.bn c:: .stop (lJ X W n φ (fun i=>⟨(s0,f0 i)::(s1,f1 i)::(s2,f2 i)::bg,g0 i::bh⟩) μ (μ i))::k) ⟨(s0,f0 i)::(s1,f1 i)::(s2,f2 i)::bg,g0 i::bh⟩):aW P fn R X W n (.bn (.loop c)::k) ⟨(s0,u0)::(s1,u1)::(s2,u2)::bg,r0::bh⟩:=by
 subst e0;subst e1;subst e2
 exact np φ (fun i=>⟨(s0,f0 i)::(s1,f1 i)::(s2,f2 i)::bg,g0 i::bh⟩) μ i0 h0 (ar dF.refl (ax.cons ag.ak q0 ax.refl)) hr
theorem adM{ι:Type}{c:Code}{bg:List (Nat×Value)}{bh:List an}{s0 s1 s2:Nat}{u0 u1 u2:Value}{r0 r1:an}(φ:ι→Prop)(f0 f1 f2:ι→Value)(g0 g1:ι→an)(μ:ι→Nat)(i0:ι)(h0:φ i0)(e0:u0=f0 i0)(e1:u1=f1 i0)(e2:u2=f2 i0)(q0:cm r0 (g0 i0))(q1:cm r1 (g1 i0))
  (hr:∀i,φ i→aW P fn R X W n (.bn c:: .stop (lJ X W n φ (fun i=>⟨(s0,f0 i)::(s1,f1 i)::(s2,f2 i)::bg,g0 i::g1 i::bh⟩) μ (μ i))::k) ⟨(s0,f0 i)::(s1,f1 i)::(s2,f2 i)::bg,g0 i::g1 i::bh⟩):aW P fn R X W n (.bn (.loop c)::k) ⟨(s0,u0)::(s1,u1)::(s2,u2)::bg,r0::r1::bh⟩:=by
 subst e0;subst e1;subst e2
 exact np φ (fun i=>⟨(s0,f0 i)::(s1,f1 i)::(s2,f2 i)::bg,g0 i::g1 i::bh⟩) μ i0 h0 (ar dF.refl (ax.cons ag.ak q0 (ax.cons ag.ak q1 ax.refl))) hr
theorem adN{ι:Type}{c:Code}{bg:List (Nat×Value)}{bh:List an}{s0 s1 s2 s3:Nat}{u0 u1 u2 u3:Value}{r0 r1:an}(φ:ι→Prop)(f0 f1 f2 f3:ι→Value)(g0 g1:ι→an)(μ:ι→Nat)(i0:ι)(h0:φ i0)(e0:u0=f0 i0)(e1:u1=f1 i0)(e2:u2=f2 i0)(e3:u3=f3 i0)(q0:cm r0 (g0 i0))(q1:cm r1 (g1 i0))
  (hr:∀i,φ i→aW P fn R X W n (.bn c:: .stop (lJ X W n φ (fun i=>⟨(s0,f0 i)::(s1,f1 i)::(s2,f2 i)::(s3,f3 i)::bg,g0 i::g1 i::bh⟩) μ (μ i))::k) ⟨(s0,f0 i)::(s1,f1 i)::(s2,f2 i)::(s3,f3 i)::bg,g0 i::g1 i::bh⟩):aW P fn R X W n (.bn (.loop c)::k) ⟨(s0,u0)::(s1,u1)::(s2,u2)::(s3,u3)::bg,r0::r1::bh⟩:=by
 subst e0;subst e1;subst e2;subst e3
 exact np φ (fun i=>⟨(s0,f0 i)::(s1,f1 i)::(s2,f2 i)::(s3,f3 i)::bg,g0 i::g1 i::bh⟩) μ i0 h0 (ar dF.refl (ax.cons ag.ak q0 (ax.cons ag.ak q1 ax.refl))) hr
end
end Hr
section
namespace Hr
open Go Go.RowKit Go.ChangeShapes Go.WideShapes Go.Deep
section
variable{H:Type}{enc:TypeId×Value→H}{P:Program}
theorem adO{f:Func}{s:ChangeSpec}{apart MH MI MJ:Bool}{W W':World}{args:Array Value}{v:Value}{ds gs:List (DataW H)}{ri pa pv:List MemPlace}
  (hW:DataW.Whole enc P f.params.toList s.vars apart W args.toList ds gs ri)
  (FV:∀(b:Nat) (sp:Nat→Bool) (hd:Bool),DataW.TrodAll enc P W' b sp hd f.resultTypes.toList (v.resultList f.resultTypes.size) (s.fn H (ds++gs)).results [])
  (Dp:∀sp:Nat→Bool,(∀p∈ri,sp p.block=true)→DataW.TrodAll enc P W' 0 sp true f.params.toList args.toList (s.fn H (ds++gs)).args pa)
  (Tv:∀sp:Nat→Bool,(∀p∈ri,sp p.block=true)→DataW.TrodVars enc P W' sp s.vars (s.fn H (ds++gs)).vars pv)
  (dI:ri=pa++pv)(hb:Below W.heap.size W W')
  (bW:∀(j:Nat) (t:TypeId) (r:Value),f.resultTypes[j]?=some t→(v.resultList f.resultTypes.size)[j]?=some r→Value.okWide P W' .any 0 t r):
  s.post enc P f apart MH MI MJ W args v W':=by
 have bN:∀p∈ri,p.block<W.heap.size:=fun p hp=>hW.lt p hp
 have nQ:∀p∈ri,(fun b=>decide (b<W.heap.size)) p.block=true:=fun p hp=>by simpa using bN p hp
 refine⟨ds,gs,ri, [],pa,pv,hW,FV _ _ _,Dp _ nQ,Tv _ nQ,World.keptBut_mono (fun p hp=>⟨hp,?_⟩) (hb.frame (· ∈ri)),fun _=>?_⟩
 ·rw [dI,dK]at hp
  exact Or.inr hp
 ·obtain⟨_,_,_,_,_,hz,hn⟩:=hW
  refine⟨bW,_,_,([]++pa)++pv,⟨[]++pa,pv,trodAll_append (Dp _ (fun _ _=>rfl)) (FV _ _ _),Tv _ (fun _ _=>rfl),rfl,?_,?_⟩,?_⟩
  ·intro b off hp
   have cU:MemPlace.cell b off∈ri:=by rw [dI];simpa using hp
   rw [hb.frozen (bN _ cU)]
   exact hz b off cU
  ·intro ha
   have:=hn ha
   rw [dI]at this
   simpa using this
  ·intro p hp _
   rw [dI]
   simpa using hp
theorem Tw(hl:laidOutB P=true){W W':World}{Tx:Nat→Bool}(hb:Below W.heap.size W W'):∀{ts:List TypeId} {vs:List Value} {ds:List (DataW H)} {ps:List MemPlace},
  (∀t∈ts,P.readableRec t=true∧t<P.types.size)→DataW.TrodAll enc P W 0 (fun _=>true) true ts vs ds ps→(∀p∈ps,p.block<W.heap.size)→(∀p∈ps,Tx p.block=true)→DataW.TrodAll enc P W' 0 Tx true ts vs ds ps
 | [],vs,ds,ps,_,h,_,_=>by
  obtain⟨rfl,rfl,rfl⟩:=trodAll_nil h
  exact rfl
 |t::ts,vs,ds,ps,hr,h,bN,hs=>by
  obtain⟨v,vs',d,ds',p,q,rfl,rfl,rfl,hd,adP⟩:=trodAll_cons h
  exact⟨p,q,WideElems.Trod_stays hl (hr t sM).1 (hr t sM).2 hd (fun x hx=>hb.same (bN x (by simp [hx]))) (fun x hx=>hs x (by simp [hx])),
   Tw hl hb (fun t ht=>hr t (by simp [ht])) adP (fun x hx=>bN x (by simp [hx])) (fun x hx=>hs x (by simp [hx])),rfl⟩
theorem adQ{f:Func}{s:ChangeSpec}{apart MH MI MJ:Bool}{W W':World}{args:Array Value}{ds gs:List (DataW H)}{ri:List MemPlace}{tb:TypeId}
  (hl:laidOutB P=true)(hr:∀t∈f.params.toList,P.readableRec t=true∧t<P.types.size)(FV:f.resultTypes= #[tb])(Bb:P.underlying tb=some .bool)(hv:s.vars= [])
  (hs:s.fn H ds={results:= [.lit (.bool true)],args:=ds})(hW:DataW.Whole enc P f.params.toList s.vars apart W args.toList ds gs ri)(hk:aS nX W W'):
  s.post enc P f apart MH MI MJ W args (.bool true) W':=by
 have bN:∀p∈ri,p.block<W.heap.size:=fun p hp=>hW.lt p hp
 obtain⟨p,q,hA,hV,Dr,hz,hn⟩:=id hW
 rw [hv]at hV
 obtain⟨mR,hq⟩:=trodVars_none hV
 subst mR
 subst hq
 have cR:s.fn H (ds++ [])={results:= [.lit (.bool true)],args:=ds}:=by rw [gZ];exact hs
 rw [gZ]at Dr
 subst Dr
 refine adO (pa:=ri) (pv:= []) hW ?_ ?_ ?_  sM  hk.below ?_
 ·intro b sp hd
  rw [cR,FV]
  exact trodAll_mk1 (shut_bool Bb true)
 ·intro sp qu
  rw [cR]
  exact Tw hl hk.below hr hA bN qu
 ·intro sp qu
  rw [cR,hv]
  rfl
 ·exact ok_one FV rfl (okWide_bool_mk Bb true)
theorem rj{k:IntKind}{x lo hi:Int}(h:(Lit.int k x).wf=true)(h1:k.min=lo)(h2:k.max=hi):lo≤x∧x≤hi:=by
 subst h1;subst h2
 simpa [Lit.wf]using h
theorem Du{α:Type}{encα:α→List Value}{Q:α→Prop}{w:World}{base dp:Nat}{dJ:Bool}{t e:TypeId}{s:Nat}{cs:List Value}{x:DataW H×List MemPlace}(ht:P.underlying t=some (.slice e))(gC:P.cellsOf e=s)
  (he:∀n cs x,DataW.trod enc P w base (fun _=>true) dJ n e cs=some x→∃p:α,cs=encα p∧Q p)(h:DataW.trod enc P w base (fun _=>true) dJ dp t cs=some x):
  ∃(A:Option Addr) (l:List α) (c:Nat),cs= [.slice A l.length c]∧l.length≤c∧c≤maxLen∧Rd w A s (l.map encα)∧∀p∈l,Q p:=by
 rcases open_slice ht h with⟨nq,_⟩|⟨a,len,cap,m,n,D,Pl,nq,hb,hl,hm,Bc,hx,hi⟩
 ·exact⟨none, [],0,by simpa using nq,by simp,by simp,.inl rfl,by simp⟩
 ·rw [aH rfl]at Bc
  subst Bc
  rw [gC]at hi
  have key:∀i:Fin len,∃p:α,w.cells? base (a.add (i.val*s)) s=some (encα p)∧Q p:=by
   intro i
   obtain⟨xr,hc,xx⟩:=hi i.val  oM
   obtain⟨p,rfl,hq⟩:=he _ _ _ xx
   exact⟨p,hc,hq⟩
  refine⟨some a,List.ofFn fun i=>Classical.choose (key i),m,by simpa using nq,by simpa using hl,hm,.inr ⟨a,rfl,fun i c FW j v hj=>?_⟩,?_⟩
  ·rw [oy,List.getElem?_ofFn]at FW
   split at FW
   ·rename_i bN
    simp only [ua,Option.some.injEq]at FW
    subst FW
    obtain⟨_,bR,oA⟩:=World.cells?_some (AK (key ⟨i,bN⟩)).1
    have gU:j<s:=by rw [←bR];exact(xg.1 hj).1
    rw [←Go.Deep.add_add,oA j gU,hj]
   ·cases FW
  ·intro p hp
   obtain⟨i,rfl⟩:=List.mem_ofFn.1 hp
   exact(AK (key i)).2
end
end Hr
end
namespace Hr
def aR(rs:List an):Nat→Prop:=fun b=>∃r∈rs,r.at b
theorem Mem.gi{X:Nat→Prop}{W w:World}{rs l:List an}(h:Mem X W (rs++l) w):Mem (aR rs) w rs w:=
 ⟨fun r hr=>h.holds r (by simp [hr]),fun r hr b hb=> .inr ⟨r,hr,hb⟩,(pq.1 h.apart).1⟩
theorem MK:∀(ls:List (List Value)) (size m:Nat),(∀x∈ls,x.length=size)→(ls.take m).flatten=ls.flatten.take (m*size)
 | [],size,m,_=>by simp
 |x::ls,size,0,_=>by simp
 |x::ls,size,m+1,h=>by
  have hx:=h x sM
  have e:(m+1)*size=size+m*size:=by rw [C2,Nat.add_comm]
  rw [List.take_succ_cons,xh,xh,MK ls size m (fun y hy=>h y (by simp [hy])),e,List.take_append,hx,Nat.add_sub_cancel_left,mL (l:=x) (by rw [hx];omega)]
theorem cm.Ty{t:TypeId}{size:Nat}{A:Option Addr}{n n' m' c c':Nat}{ls iw:List (List Value)}(hn:n'=m')(hc:c'=c)(hm:m'≤n)(hl:iw=ls.take m'):cm (.ae t size A n c ls) (.ae t size A n' c' iw):=by
 subst hn;subst hc;subst hl
 refine⟨fun _ h=>h,fun w h=>?_⟩
 obtain⟨⟨h1,h2⟩,h3,h4⟩:=h
 have gT:(ls.take n').length=n':=by rw [fN,h3];omega
 refine⟨⟨?_,?_⟩,gT,fun x hx=>h4 x (AO hx)⟩
 ·rw [MK _ _ _ h4,fN,h1]
  exact Nat.min_eq_left (te _ hm)
 ·rcases h2 with⟨hv,mf⟩|⟨g,cap,di,hv,hg,hh,kx,hmx,gC,fO⟩
  ·subst mf
   have:n'=0:=oM
   subst this
   exact .inl ⟨hv,rfl⟩
  ·simp only [Value.slice.injEq]at hv
   obtain⟨rfl,-,rfl⟩:=hv
   refine .inr ⟨g,c',di,rfl,hg,hh,oM,hmx,gC,?_⟩
   rw [MK _ _ _ h4,←fO,List.take_take,Nat.min_eq_left (te _ hm)]
section
variable{P:Program}{X:Nat→Prop}{W:World}{n:Nat}{ah:List (Nat×Value)}{mem:List an}{S:St}{o:Oper}{d:Tmp}
theorem hG{f:FuncId}{xs:List Operand}{vs:List Value}(ho:o.op= .makeFunc (.func f) #[] xs.toArray)(hx:kL S.ah xs vs):Q1 P X W n S o (.func (.func f) #[] vs.toArray):=
 fun a w hs=> .inl (by simp [execOp,ho,Instr.makeFunc,hx.map hs])
theorem Bd{f:FuncId}{y:Operand}{xs:List Operand}{ts:Array TypeId}{vs cap:List Value}{Y:World→Nat→Prop}{Φ:Value→List an→Prop}(cs ls:List an)(ho:o.op= .call {callee:= .value y,args:=xs.toArray,argTypes:=ts})(hd:o.dst=some d)(hdn:Nat.blt d n=true)
  (hy:ev ah y=some (.func (.func f) #[] cap.toArray))(hf:fb P f)(hx:kL ah xs vs)(hp:mem.Perm (cs++ls))(hY:∀w b,Y w b→∃r∈cs,r.at b)(hc:∀w,aS X W w→Mem X W mem w→Calls P f (vs++cap).toArray w (bk w (Y w) Φ)):
  H1 P X W n ⟨ah,mem⟩ o (fun i:Value×List an=>Φ i.1 i.2) (fun i=>⟨(d,i.1)::ah,i.2++ls⟩):=by
 intro a w hs k Q hk
 unfold Oper.wp
 rw [S8 ho hy hf hx hs]
 refine(hc w hs.dv hs.mem).mono ?_
 rintro e w' ⟨v,m,hΦ,rfl,FO,hm⟩
 have h2:=(hs.change hp FO (hY w) hm).put hdn v
 show k (a.put o.dst v) w'
 rw [hd]
 exact hk (v,m) _ _ hΦ h2
end
theorem zb{P:Program}{fn:Func}{R:Ending→World→Prop}{X:Nat→Prop}{W:World}{n:Nat}{k:List K}{S:St}{t:TypeId}{size m c:Nat}{A:Option Addr}{ls:List (List Value)}{l:List an}(hs:ag S.mem (.ae t size A m c ls) l)(h:m≤c→aW P fn R X W n k S):aW P fn R X W n k S:=by
 intro a w cu
 refine h ?_ a w cu
 obtain⟨⟨_,h2⟩,_,_⟩:=hs.holds cu.mem
 rcases h2 with⟨hv,mf⟩|⟨g,cap,di,hv,hg,hh,kx,_⟩
 ·omega
 ·simp only [Value.slice.injEq]at hv
  omega
theorem aN{α:Type} [Inhabited α]{l:List α}{q:Nat}(h:q<l.length):aa l q∈l:=by
 rw [aa,C5,kW h];exact IM h
theorem FX{w:World}{b s:Nat}{t:TypeId}{cs:List (Nat×Value)}{vs:List Value}(h:(an.aj b t cs).holds w)(hv:∀i v,vs[i]?=some v→cW cs i=some v):Rd w (some ⟨b,0,none⟩) s [vs]:=by
 refine .inr ⟨_,rfl,fun i c hi j v hj=>?_⟩
 cases i with
 |zero=>
  simp only [L_,Option.some.injEq]at hi
  subst hi
  rw [Nat.zero_mul,ub]
  have e:(Addr.add ⟨b,0,none⟩ j)=⟨b,j,none⟩:=by
   unfold Addr.add
   by_cases kP:j=0
   ·simp [kP]
   ·simp [kP]
  rw [e]
  exact De h (hv j v hj)
 |succ i=>simp at hi
end Hr
namespace Tu
structure aX where
 first:Int
 count:Int
 nt:Int
 normal:Int
instance:Inhabited aX:=⟨⟨0,0,0,0⟩⟩
def aX.enc(t:aX):List Value:= [.int .i64 t.first,.int .i64 t.count,.int .i64 t.nt,.int .i64 t.normal]
def aX.val(t:aX):Value:= .agg t.enc.toArray
def bP(n:Int):List Value:= [.int .i64 n]
def fo(t:aX):Int:=t.first+t.count
def cI(f:Nat→Int):Nat→Nat→Int
 |0,_=>0
 |n+1,i=>if f i≠0 then f i else cI f n (i+1)
theorem uv{f:Nat→Int}{n i:Nat}(h:i<n)(h0:f i=0):cI f (n-i) i=cI f (n-(i+1)) (i+1):=by
 rw [show n-i=n-(i+1)+1 from oM,cI,aB (by simp [h0])]
theorem tp{f:Nat→Int}{n i:Nat}(h:i<n)(h0:f i≠0):cI f (n-i) i=f i:=by
 rw [show n-i=n-(i+1)+1 from oM,cI,aH h0]
theorem xz{f:Nat→Int}:∀{n i:Nat},cI f n i=0→∀j,j<n→f (i+j)=0
 |n+1,i,h,j,hj=>by
  simp only [cI]at h
  by_cases h0:f i=0
  ·rw [aB (by simp [h0])]at h
   cases j with
   |zero=>simpa using h0
   |succ j=>
    have:=xz h j  oM
    rwa [show i+(j+1)=i+1+j from oM]
  ·rw [aH h0]at h;exact absurd h h0
theorem zd{f:Nat→Int}:∀{n i:Nat},(∀j,i≤j→j<i+n→f j=0)→cI f n i=0
 |0,_,_=>rfl
 |n+1,i,h=>by
  rw [cI,aB (by simp [h i  oM oM])]
  exact zd fun j h1 h2=>h j  oM oM
def lq(n:Int)(t:aX):Prop:=1≤t.count∧t.count≤n∧0≤t.first∧t.first≤n-t.count∧1≤t.nt∧t.nt≤32∧1≤t.normal∧t.normal≤32∧t.nt≠t.normal
instance(n:Int)(t:aX):Decidable (lq n t):=by unfold lq;infer_instance
def pG(t p:aX):Prop:=t.first<p.first∨(t.first=p.first∧p.count<t.count)
instance(t p:aX):Decidable (pG t p):=by unfold pG;infer_instance
def lL(ts:List aX)(i:Nat)(f:Int):List aX:=(ts.take i).filter fun u=>decide (f<fo u)
def qw(ts:List aX)(i:Nat):Prop:=3≤(lL ts i (aa ts i).first).length∨∃u∈lL ts i (aa ts i).first,fo u<fo (aa ts i)
instance(ts:List aX)(i:Nat):Decidable (qw ts i):=by unfold qw;infer_instance
def oF(n:Int)(ts:List aX)(i:Nat):Int:=if¬lq n (aa ts i)then 2 else if 0<i∧pG (aa ts i) (aa ts (i-1))then 25 else if qw ts i then 21 else 0
def nu(ts:List aX)(n:Int):Int:=if n<0∨128<n then 2 else if 16<ts.length then 9 else cI (oF n ts) ts.length 0
theorem Ji{n:Int}{ts:List aX}{i:Nat}(h:oF n ts i=0):lq n (aa ts i)∧(0<i→¬pG (aa ts i) (aa ts (i-1)))∧¬qw ts i:=by
 unfold oF at h
 by_cases h1:¬lq n (aa ts i)
 ·rw [aH h1]at h;cases h
 rw [aB h1]at h
 by_cases h2:0<i∧pG (aa ts i) (aa ts (i-1))
 ·rw [aH h2]at h;cases h
 rw [aB h2]at h
 by_cases h3:qw ts i
 ·rw [aH h3]at h;cases h
 exact⟨Fm.1 h1,fun h0 ha=>h2 ⟨h0,ha⟩,h3⟩
theorem ML{n:Int}{ts:List aX}{i:Nat}(h1:lq n (aa ts i))(h2:0<i→¬pG (aa ts i) (aa ts (i-1)))(h3:¬qw ts i):oF n ts i=0:=by
 rw [oF,aB (by simp [h1]),aB (fun h=>h2 h.1 h.2),aB h3]
theorem Be{n:Int}{ts:List aX}{i:Nat}(h:¬lq n (aa ts i)):oF n ts i=2:=by rw [oF,aH h]
theorem adS{n:Int}{ts:List aX}{i:Nat}(h1:lq n (aa ts i))(h0:0<i)(h:pG (aa ts i) (aa ts (i-1))):oF n ts i=25:=by rw [oF,aB (by simp [h1]),aH ⟨h0,h⟩]
theorem Tz{n:Int}{ts:List aX}{i:Nat}(h1:lq n (aa ts i))(h2:0<i→¬pG (aa ts i) (aa ts (i-1)))(h3:qw ts i):oF n ts i=21:=by
 rw [oF,aB (by simp [h1]),aB (fun h=>h2 h.1 h.2),aH h3]
def oG(n:Int)(ts:List aX)(i:Nat):Prop:=∀j,j<i→oF n ts j=0
theorem oG.zero{n:Int}{ts:List aX}:oG n ts 0:=fun j h=>oM
theorem oG.succ{n:Int}{ts:List aX}{i:Nat}(h:oG n ts i)(h0:oF n ts i=0):oG n ts (i+1):=fun j hj=>by
 by_cases e:j=i
 ·subst e;exact h0
 ·exact h j  oM
theorem MM{n:Int}{ts:List aX}(h:nu ts n=0):0≤n∧n≤128∧ts.length≤16∧oG n ts ts.length:=by
 unfold nu at h
 by_cases h1:n<0∨128<n
 ·rw [aH h1]at h;cases h
 rw [aB h1]at h
 by_cases h2:16<ts.length
 ·rw [aH h2]at h;cases h
 rw [aB h2]at h
 refine⟨oM,oM,oM,fun j hj=>?_⟩
 have:=xz h j hj
 rwa [ub]at this
theorem TC{n:Int}{ts:List aX}(h1:0≤n)(h2:n≤128)(h3:ts.length≤16)(h:oG n ts ts.length):nu ts n=0:=by
 rw [nu,aB  oM,aB  oM]
 exact zd fun j _ hj=>h j  oM
theorem vS{n:Int}{ts:List aX}{i:Nat}{e:Int}(h1:0≤n)(h2:n≤128)(h3:ts.length≤16)(h:oG n ts i)(hi:i<ts.length)(he:oF n ts i=e)(h0:e≠0):nu ts n=e:=by
 rw [nu,aB  oM,aB  oM]
 have key:∀k,k≤i→cI (oF n ts) ts.length 0=cI (oF n ts) (ts.length-k) k:=by
  intro k
  induction k with
  |zero=>intro _;rfl
  |succ k ih=>intro hk;rw [ih  oM,uv  oM (h k  oM)]
 rw [key i (ct _),tp hi (by rw [he];exact h0),he]
theorem MN{ts:List aX}{i:Nat}{u:aX}(h:u∈ts.take i):∃j,j<i∧j<ts.length∧u=aa ts j:=by
 obtain⟨j,hj,rfl⟩:=oz h
 rw [fN]at hj
 refine⟨j,oM,oM,?_⟩
 simp [aa,show j<ts.length by omega]
theorem adT{ts:List aX}{i:Nat}{f:Int}{u:aX}:u∈lL ts i f↔u∈ts.take i∧f<fo u:=by simp [lL]
def pH(s:List aX)(f:Int):Nat→Nat
 |0=>0
 |k+1=>if fo (aa s k)≤f then pH s f k else k+1
theorem TD(s:List aX)(f:Int):∀k,pH s f k≤k
 |0=>ct _
 |k+1=>by rw [pH];split;exact Nat.le_succ_of_le (TD s f k);exact ct _
def ux(s:List aX)(f:Int):List aX:=s.take (pH s f s.length)
def vT(s:List aX)(t:aX):Bool:=decide (¬((ux s t.first).length=3∨(0<(ux s t.first).length∧fo (aa (ux s t.first) ((ux s t.first).length-1))<fo t)))
def xA(s:List aX)(t:aX):List aX:=if vT s t=true then ux s t.first++ [t]else ux s t.first
def vU(s:List aX):Prop:=s.Pairwise fun u v=>fo v≤fo u
theorem adU{s:List aX}{f:Int}(h:∀u∈s,fo u≤f):s.filter (fun u=>decide (f<fo u))= []:=by
 rw [List.filter_eq_nil_iff];intro u hu;have:=h u hu;simp;omega
theorem TE{s:List aX}{f:Int}(h:vU s):ux s f=s.filter fun u=>decide (f<fo u):=by
 have key:∀k,k≤s.length→s.take (pH s f k)=(s.take k).filter fun u=>decide (f<fo u):=by
  intro k
  induction k with
  |zero=>intro _;simp [pH]
  |succ k ih=>
   intro hk
   rw [pH]
   by_cases he:fo (aa s k)≤f
   ·rw [aH he,ih  oM,nR (show k<s.length by omega),IT]
    have:¬f<fo (aa s k):=oM
    simp [this]
   ·rw [aB he]
    symm
    rw [List.filter_eq_self]
    intro u hu
    obtain⟨j,hj,xv,rfl⟩:=MN hu
    have:fo (aa s k)≤fo (aa s j):=by
     by_cases e:j=k
     ·subst e;exact jT _
     ·have hp:=C6.1 h j k xv  oM oM
      simpa [aa,xv,show k<s.length by omega]using hp
    simp;omega
 have:=key s.length (ct _)
 rw [px]at this
 exact this
def iV(ts:List aX):Nat→List aX
 |0=> []
 |i+1=>lL ts (i+1) (aa ts i).first
theorem vU.filter{s:List aX}(h:vU s)(p:aX→Bool):vU (s.filter p):=List.Pairwise.filter p h
theorem FY{n:Int}{ts:List aX}{i:Nat}(hg:oG n ts i)(ha:0<i→¬pG (aa ts i) (aa ts (i-1))):(iV ts i).filter (fun u=>decide ((aa ts i).first<fo u))=lL ts i (aa ts i).first:=by
 cases i with
 |zero=>simp [iV,lL]
 |succ i=>
  have h1:=ha  oM
  rw [Fo]at h1
  unfold pG at h1
  rw [iV,lL,lL,List.filter_filter]
  apply List.filter_congr
  intro u _
  by_cases h2:(aa ts (i+1)).first<fo u
  ·have:(aa ts i).first<fo u:=oM
   simp [h2,this]
  ·simp [h2]
theorem FZ{n:Int}{ts:List aX}{i:Nat}(hg:oG n ts i)(ha:0<i→¬pG (aa ts i) (aa ts (i-1)))(hn:vU (iV ts i))(hl:(iV ts i).length≤3):vT (iV ts i) (aa ts i)=true↔¬qw ts i:=by
 have e:ux (iV ts i) (aa ts i).first=lL ts i (aa ts i).first:=by rw [TE hn,FY hg ha]
 have gT:(lL ts i (aa ts i).first).length≤3:=by
  rw [←FY hg ha];exact jg (List.length_filter_le _ _) hl
 have Jj:vU (lL ts i (aa ts i).first):=by rw [←FY hg ha];exact hn.filter _
 unfold vT qw
 rw [e,ir]
 generalize lL ts i (aa ts i).first=s at gT Jj
 constructor
 ·intro h hb
  apply h
  rcases hb with hb|⟨u,hu,bN⟩
  ·left;omega
  ·right
   have h0:0<s.length:=List.length_pos_of_mem hu
   refine⟨h0,?_⟩
   obtain⟨j,hj,rfl⟩:=oz hu
   by_cases e:j=s.length-1
   ·subst e
    simpa [aa,show s.length-1<s.length by omega]using bN
   ·have hp:=C6.1 Jj j (s.length-1) hj  oM oM
    have e3:aa s (s.length-1)=s[s.length-1]' oM :=by simp [aa,show s.length-1<s.length by omega]
    rw [e3]
    omega
 ·intro h hb
  apply h
  rcases hb with hb|⟨h0,bN⟩
  ·left;omega
  ·right
   exact⟨_,by simp only [aa,C5,kW (show s.length-1<s.length by omega),IS];exact IM _,bN⟩
theorem TF{n:Int}{ts:List aX}{i:Nat}(hi:i<ts.length)(hg:oG n ts i)(h0:oF n ts i=0)(hn:vU (iV ts i))(hl:(iV ts i).length≤3):
  xA (iV ts i) (aa ts i)=iV ts (i+1)∧vU (iV ts (i+1))∧(iV ts (i+1)).length≤3:=by
 obtain⟨h1,ha,hb⟩:=Ji h0
 have e:ux (iV ts i) (aa ts i).first=lL ts i (aa ts i).first:=by rw [TE hn,FY hg ha]
 have Jj:vU (lL ts i (aa ts i).first):=by rw [←FY hg ha];exact hn.filter _
 have e2:iV ts (i+1)=lL ts i (aa ts i).first++ [aa ts i]:=by
  have hc:(aa ts i).first<fo (aa ts i):=by unfold lq at h1;unfold fo;omega
  rw [iV,lL,nR hi,IT,lL]
  simp [hc]
 have adV:=hb
 unfold qw at hb
 refine⟨?_,?_,?_⟩
 ·rw [xA,aH ((FZ hg ha hn hl).2 adV),e,e2]
 ·rw [e2]
  refine pq.2 ⟨Jj,by simp,fun u hu v hv=>?_⟩
  simp only [c_]at hv
  subst hv
  by_cases bN:fo u<fo (aa ts i)
  ·exact absurd (.inr ⟨u,hu,bN⟩) hb
  ·omega
 ·rw [e2,ay,sg]
  by_cases h3:3≤(lL ts i (aa ts i).first).length
  ·exact absurd (.inl h3) hb
  ·omega
def uy(t:aX):Prop:=0≤t.first∧t.first≤128∧1≤t.count∧t.count≤128
theorem Jk{n:Int}{t:aX}(h:lq n t)(hn:n≤128):uy t:=by unfold lq at h;unfold uy;omega
theorem TG{n:Int}{ts:List aX}{i:Nat}(hg:oG n ts i)(hn:n≤128):∀u∈iV ts i,uy u:=by
 intro u hu
 cases i with
 |zero=>simp [iV]at hu
 |succ i=>
  rw [iV,adT]at hu
  obtain⟨j,hj,_,rfl⟩:=MN hu.1
  exact Jk (Ji (hg j hj)).1 hn
theorem TH{s:List aX}{f:Int}{k:Nat}(h:pH s f s.length=k):ux s f=s.take k∧(s.take k).length=k:=by
 have:=TD s f s.length
 exact⟨by rw [ux,h],by rw [fN];omega⟩
theorem MP{s:List aX}{k j:Nat}(h:j<k):aa (s.take k) j=aa s j:=by simp [aa,h]
theorem Jl{s:List aX}{t:aX}{k:Nat}(h:pH s t.first s.length=k)(hk:k=3∨(0<k∧fo (aa s (k-1))<fo t)):vT s t=false∧xA s t=s.take k:=by
 obtain⟨e1,e2⟩:=TH h
 have hf:vT s t=false:=by
  unfold vT
  rw [e1,e2,tf]
  intro hx
  apply hx
  rcases hk with hk|⟨h0,hk⟩
  ·exact .inl hk
  ·exact .inr ⟨h0,by rw [MP  oM];exact hk⟩
 exact⟨hf,by rw [xA,hf,aB sM,e1]⟩
theorem Jm{s:List aX}{t:aX}{k:Nat}(h:pH s t.first s.length=k)(hk:k≠3)(tn:0<k→fo t≤fo (aa s (k-1))):vT s t=true∧xA s t=s.take k++ [t]:=by
 obtain⟨e1,e2⟩:=TH h
 have hf:vT s t=true:=by
  unfold vT
  rw [e1,e2,ir]
  rintro(hx|⟨h0,hx⟩)
  ·exact hk hx
  ·rw [MP  oM]at hx
   have:=tn h0
   omega
 exact⟨hf,by rw [xA,hf,aH rfl,e1]⟩
def ze(p t:aX):Int:=if p.first≠t.first then(if p.first<t.first then-1 else 1)else if p.count≠t.count then(if t.count<p.count then-1 else 1)else 0
theorem MQ{p t:aX}:0<ze p t↔pG t p:=by
 unfold ze pG
 by_cases h1:p.first=t.first
 ·by_cases h2:p.count=t.count
  ·simp [h1,h2]
  ·by_cases h3:t.count<p.count
   ·rw [aB (by simp [h1]),aH h2,aH h3];omega
   ·rw [aB (by simp [h1]),aH h2,aB h3];omega
 ·by_cases h3:p.first<t.first
  ·rw [aH h1,aH h3];omega
  ·rw [aH h1,aB h3];omega
def Bf(n:Int):Bool:=decide (1≤n)&&decide (n≤32)
theorem TI{l:List aX}{k j:Nat}(h:j<k)(hl:j<l.length):((l.take k).map aX.enc)[j]?=some (aa l j).enc:=by
 simp [aa,h,hl,C1]
def fI(t:aX)(e:Int):Bool:=decide (t.first≤e)&&decide (e<fo t)
def TJ(t u:aX):Bool:=decide (u.first≤t.first)&&decide (fo t≤fo u)
theorem xB{t:aX}{e:Int}:fI t e=true↔t.first≤e∧e<fo t:=by simp [fI]
def F0(ts:List aX)(i:Nat)(e:Int)(j:Nat):Prop:=∀k,k<j→fI (aa ts i) e=true→fI (aa ts k) e=true→TJ (aa ts i) (aa ts k)=true
theorem F0.zero{ts:List aX}{i:Nat}{e:Int}:F0 ts i e 0:=fun k h=>oM
theorem F0.succ{ts:List aX}{i:Nat}{e:Int}{j:Nat}(h:F0 ts i e j)(h1:fI (aa ts i) e=true→fI (aa ts j) e=true→TJ (aa ts i) (aa ts j)=true):F0 ts i e (j+1):=fun k hk=>by
 by_cases e0:k=j
 ·subst e0;exact h1
 ·exact h k  oM
theorem adW{l:List aX}{p q:aX→Bool}(h:∀u∈l,p u=true→q u=true):(l.filter p).length≤(l.filter q).length:=by
 rw [←List.countP_eq_length_filter,←List.countP_eq_length_filter]
 exact List.countP_mono_left h
def pI(ts:List aX):Prop:=∃n:Int,n≤128∧oG n ts ts.length
theorem pI.of{ts:List aX}{n:Int}(h:nu ts n=0):pI ts:=⟨n,(MM h).2.1,(MM h).2.2.2⟩
theorem pI.TK{ts:List aX}(h:pI ts){k:Nat}(hk:k<ts.length):uy (aa ts k)∧1≤(aa ts k).nt∧(aa ts k).nt≤32∧1≤(aa ts k).normal∧(aa ts k).normal≤32:=by
 obtain⟨n,hn,hg⟩:=h
 have hp:=(Ji (hg k hk)).1
 refine⟨Jk hp hn,?_⟩
 unfold lq at hp;omega
def rk(ts:List aX)(e:Int)(k:Nat):Nat:=((ts.take k).filter fun u=>fI u e).length
theorem TL{ts:List aX}{e:Int}{k:Nat}(hk:k<ts.length)(h:fI (aa ts k) e=true):rk ts e (k+1)=rk ts e k+1:=by
 rw [rk,nR hk,IT];simp [rk,h]
theorem TM{ts:List aX}{e:Int}{k:Nat}(hk:k<ts.length)(h:fI (aa ts k) e=false):rk ts e (k+1)=rk ts e k:=by
 rw [rk,nR hk,IT];simp [rk,h]
theorem MR{ts:List aX}(hv:pI ts)(e:Int):∀k,k≤ts.length→rk ts e k≤3
 |0,_=>by simp [rk]
 |k+1,hk=>by
  cases h:fI (aa ts k) e with
  |false=>rw [TM  oM h];exact MR hv e k  oM
  |true=>
   rw [TL  oM h]
   obtain⟨n,hn,hg⟩:=hv
   have hb:=(Ji (hg k  oM)).2.2
   have h2:rk ts e k≤(lL ts k (aa ts k).first).length:=by
    refine adW fun u _ hu=>?_
    rw [xB]at hu h
    simp;omega
   by_cases h3:3≤(lL ts k (aa ts k).first).length
   ·exact absurd (.inl h3) hb
   ·omega
def NN(ts:List aX)(e:Int):Nat→Nat
 |0=>1
 |k+1=>if fI (aa ts k) e then NN ts e k*(aa ts k).normal.toNat else NN ts e k
def DD(ts:List aX)(e:Int):Nat→Nat
 |0=>1
 |k+1=>if fI (aa ts k) e then DD ts e k*(aa ts k).nt.toNat else DD ts e k
theorem F1{ts:List aX}(hv:pI ts)(e:Int):∀k,k≤ts.length→1≤NN ts e k∧NN ts e k≤32^rk ts e k∧1≤DD ts e k∧DD ts e k≤32^rk ts e k
 |0,_=>by simp [NN,DD,rk]
 |k+1,hk=>by
  obtain⟨h1,h2,h3,h4⟩:=F1 hv e k  oM
  obtain⟨_,p1,p2,p3,p4⟩:=hv.TK (show k<ts.length by omega)
  cases h:fI (aa ts k) e with
  |false=>rw [TM  oM h,NN,DD,aB (by simp [h]),aB (by simp [h])];exact⟨h1,h2,h3,h4⟩
  |true=>
   rw [TL  oM h,NN,DD,aH h,aH h,Nat.pow_succ]
   exact⟨Nat.mul_pos h1  oM,C7 h2  oM,Nat.mul_pos h3  oM,C7 h4  oM⟩
theorem TN{k:Nat}(h:k≤3):32^k≤32768:=by
 have:32^k≤32^3:=Nat.pow_le_pow_right  oM h
 exact this
theorem MS{ts:List aX}(hv:pI ts)(e:Int){k:Nat}(hk:k≤ts.length):1≤NN ts e k∧NN ts e k≤32768:=⟨(F1 hv e k hk).1,jg (F1 hv e k hk).2.1 (TN (MR hv e k hk))⟩
theorem MT{ts:List aX}(hv:pI ts)(e:Int){k:Nat}(hk:k≤ts.length):1≤DD ts e k∧DD ts e k≤32768:=⟨(F1 hv e k hk).2.2.1,jg (F1 hv e k hk).2.2.2 (TN (MR hv e k hk))⟩
theorem Jn{ts:List aX}{e:Int}{k:Nat}(h:fI (aa ts k) e=false):NN ts e (k+1)=NN ts e k:=by rw [NN,aB (by simp [h])]
theorem Jo{ts:List aX}{e:Int}{k:Nat}(h:fI (aa ts k) e=false):DD ts e (k+1)=DD ts e k:=by rw [DD,aB (by simp [h])]
def fv(ts:List aX)(e:Int):Nat→Nat×Nat
 |0=>(1,1)
 |k+1=>if fI (aa ts k) e then
   let a:=(fv ts e k).1*(aa ts k).normal.toNat
   let b:=(fv ts e k).2*(aa ts k).nt.toNat
   (a/Nat.gcd a b,b/Nat.gcd a b)else fv ts e k
theorem MU{ts:List aX}{e:Int}{k:Nat}(h:fI (aa ts k) e=false):fv ts e (k+1)=fv ts e k:=by rw [fv,aB (by simp [h])]
theorem MV{ts:List aX}{e:Int}{k:Nat}(h:fI (aa ts k) e=true):fv ts e (k+1)=
  ((fv ts e k).1*(aa ts k).normal.toNat/Nat.gcd ((fv ts e k).1*(aa ts k).normal.toNat) ((fv ts e k).2*(aa ts k).nt.toNat),
   (fv ts e k).2*(aa ts k).nt.toNat/Nat.gcd ((fv ts e k).1*(aa ts k).normal.toNat) ((fv ts e k).2*(aa ts k).nt.toNat)):=by rw [fv,aH h]
theorem MW{ts:List aX}(hv:pI ts)(e:Int):∀k,k≤ts.length→∃g,1≤g∧NN ts e k=g*(fv ts e k).1∧DD ts e k=g*(fv ts e k).2∧Nat.gcd (fv ts e k).1 (fv ts e k).2=1
 |0,_=>⟨1,oM,rfl,rfl,by simp [fv]⟩
 |k+1,hk=>by
  obtain⟨g,h1,h2,h3,h4⟩:=MW hv e k  oM
  cases h:fI (aa ts k) e with
  |false=>rw [Jn h,Jo h,MU h];exact⟨g,h1,h2,h3,h4⟩
  |true=>
   have b1:=(MS hv e (show k+1≤ts.length from hk)).1
   have b2:=(MT hv e (show k+1≤ts.length from hk)).1
   rw [NN,aH h,h2]at b1
   rw [DD,aH h,h3]at b2
   rw [MV h,NN,aH h,DD,aH h,h2,h3]
   generalize hA:(fv ts e k).1*(aa ts k).normal.toNat=a
   generalize hB:(fv ts e k).2*(aa ts k).nt.toNat=b
   rw [Nat.mul_assoc,hA]at b1
   have ha:0<a:=by
    rcases Nat.eq_zero_or_pos a with h0|h0
    ·rw [h0]at b1;omega
    ·exact h0
   have hd:0<Nat.gcd a b:=Nat.gcd_pos_of_pos_left b ha
   refine⟨g*Nat.gcd a b,Nat.mul_pos h1 hd,?_,?_,?_⟩
   ·rw [Nat.mul_assoc g,hA,Nat.mul_assoc,Nat.mul_div_cancel' (Nat.gcd_dvd_left a b)]
   ·rw [Nat.mul_assoc g,hB,Nat.mul_assoc,Nat.mul_div_cancel' (Nat.gcd_dvd_right a b)]
   ·exact Nat.gcd_div_gcd_div_gcd_of_pos_left ha
theorem TP{ts:List aX}(hv:pI ts)(e:Int){k:Nat}(hk:k≤ts.length):1≤(fv ts e k).1∧(fv ts e k).1≤32768∧1≤(fv ts e k).2∧(fv ts e k).2≤32768:=by
 obtain⟨g,h1,h2,h3,-⟩:=MW hv e k hk
 have n1:=MS hv e hk
 have n2:=MT hv e hk
 rw [h2]at n1
 rw [h3]at n2
 have key:∀p:Nat,1≤g*p∧g*p≤32768→1≤p∧p≤32768:=by
  intro p hp
  have:p≤g*p:=Nat.le_mul_of_pos_left p h1
  refine⟨?_,oM⟩
  rcases Nat.eq_zero_or_pos p with h0|h0
  ·rw [h0]at hp;omega
  ·exact h0
 exact⟨(key _ n1).1,(key _ n1).2,(key _ n2).1,(key _ n2).2⟩
theorem Bi{p:Nat}{x:Int}(hp:p≤32768)(hx:1≤x∧x≤32):0≤(p:Int)*x∧(p:Int)*x≤1048576:=by
 refine⟨py  oM oM,?_⟩
 have h1:(p:Int)*x≤32768*x:=nk  oM oM
 omega
theorem TQ{x:Int}{p:Nat}(hx:0≤x∧x≤7741440)(hp:p≤32768):0≤x*(p:Int)∧x*(p:Int)≤253671505920:=by
 refine⟨py  oM oM,?_⟩
 have h1:x*(p:Int)≤7741440*(p:Int):=nk  oM oM
 omega
def gV(ts:List aX)(e x:Int):Int×Int:=if x<0∨7741440<x then(0,2)else if x*NN ts e ts.length%DD ts e ts.length≠0 then(0,16)else(x*NN ts e ts.length/DD ts e ts.length,0)
theorem MX{ts:List aX}(hv:pI ts)(e x:Int):(x*NN ts e ts.length%DD ts e ts.length=0↔x*((fv ts e ts.length).1:Int)%((fv ts e ts.length).2:Int)=0)∧
  x*NN ts e ts.length/DD ts e ts.length=x*((fv ts e ts.length).1:Int)/((fv ts e ts.length).2:Int):=by
 obtain⟨g,h1,h2,h3,-⟩:=MW hv e ts.length (ct _)
 rw [h2,h3,yS,yS,show x*((g:Int)*((fv ts e ts.length).1:Int))=(g:Int)*(x*((fv ts e ts.length).1:Int))from by rw [←C8,Int.mul_comm x,C8]]
 rw [Int.mul_emod_mul_of_pos _ _  oM,Int.mul_ediv_mul_of_pos _ _  oM]
 refine⟨⟨fun h=>?_,fun h=>by rw [h];simp⟩,rfl⟩
 rcases Int.mul_eq_zero.1 h with h|h
 ·omega
 ·exact h
theorem TR{ts:List aX}{e x:Int}(h:x<0∨7741440<x):gV ts e x=(0,2):=aH h
theorem adX{ts:List aX}{e x:Int}(h:0≤x∧x≤7741440)(hm:x*NN ts e ts.length%DD ts e ts.length≠0):gV ts e x=(0,16):=by rw [gV,aB  oM,aH hm]
theorem MY{ts:List aX}{e x:Int}(h:0≤x∧x≤7741440)(hm:x*NN ts e ts.length%DD ts e ts.length=0):gV ts e x=(x*NN ts e ts.length/DD ts e ts.length,0):=by rw [gV,aB  oM,aB (by simp [hm])]
theorem adY{ts:List aX}(hv:pI ts)(e x:Int):0≤(gV ts e x).1∧(gV ts e x).1≤253671505920:=by
 unfold gV
 by_cases h:x<0∨7741440<x
 ·rw [aH h];simp
 ·rw [aB h]
  by_cases h2:x*NN ts e ts.length%DD ts e ts.length≠0
  ·rw [aH h2];simp
  ·rw [aB h2]
   have h3:=TQ (x:=x) (p:=NN ts e ts.length)  oM (MS hv e (ct _)).2
   have h4:=(MT hv e (ct ts.length)).1
   dsimp only
   refine⟨vE h3.1  oM,vG (Ff _ h3.1) h3.2⟩
def qx(ts:List aX)(w:List Int)(k:Nat):List Int:=(List.range k).map fun i:Nat=>(gV ts (i:Int) (aa w i)).1
def Jp(ts:List aX)(w:List Int):Int:=cI (fun i:Nat=>(gV ts (i:Int) (aa w i)).2) w.length 0
def xC(ts:List aX)(w:List Int):List Int×Int:=if nu ts w.length≠0 then([],nu ts w.length)else if Jp ts w≠0 then([],Jp ts w)else(qx ts w w.length,0)
theorem TS{ts:List aX}{w:List Int}(h:nu ts w.length≠0):xC ts w=([],nu ts w.length):=aH h
theorem adZ{f:Nat→Int}{n k:Nat}(hk:k<n)(h:∀j,j<k→f j=0)(h0:f k≠0):cI f n 0=f k:=by
 have key:∀i,i≤k→cI f n 0=cI f (n-i) i:=by
  intro i
  induction i with
  |zero=>intro _;rfl
  |succ i ih=>intro hi;rw [ih  oM,uv  oM (h i  oM)]
 rw [key k (ct _),tp hk h0]
theorem TT{ts:List aX}{w:List Int}{k:Nat}(hc:nu ts w.length=0)(hk:k<w.length)(h:∀j,j<k→(gV ts (j:Int) (aa w j)).2=0)(h0:(gV ts (k:Int) (aa w k)).2≠0):xC ts w=([],(gV ts (k:Int) (aa w k)).2):=by
 have e:Jp ts w=(gV ts (k:Int) (aa w k)).2:=adZ hk h h0
 rw [xC,aB (by simp [hc]),e,aH h0]
theorem MZ{ts:List aX}{w:List Int}(hc:nu ts w.length=0)(h:∀j,j<w.length→(gV ts (j:Int) (aa w j)).2=0):xC ts w=(qx ts w w.length,0):=by
 have e:Jp ts w=0:=zd fun j _ hj=>h j  oM
 rw [xC,aB (by simp [hc]),aB (by simp [e])]
theorem Bj(ts:List aX)(w:List Int)(k:Nat):qx ts w (k+1)=qx ts w k++ [(gV ts (k:Int) (aa w k)).1]:=by simp [qx,nM]
theorem Dv(ts:List aX)(w:List Int)(k:Nat):(qx ts w k).length=k:=by simp [qx]
theorem ad0{P:Nat→Prop}{k:Nat}(h:∀j,j<k→P j)(h0:P k):∀j,j<k+1→P j:=fun j hj=>by
 by_cases e:j=k
 ·subst e;exact h0
 ·exact h j  oM
def gE:List Int→Int
 | []=>0
 |x::l=>x+gE l
theorem Bk:∀(l l':List Int),gE (l++l')=gE l+gE l'
 | [],l'=>by simp [gE]
 |x::l,l'=>by rw [AL,gE,gE,Bk l l'];omega
theorem Jq{l:List Int}{k:Nat}(h:k<l.length):gE (l.take (k+1))=gE (l.take k)+aa l k:=by
 rw [nR h,Bk];simp [gE]
theorem Bl{l:List Int}(hb:∀x∈l,0≤x∧x≤253671505920):∀k,k≤l.length→0≤gE (l.take k)∧gE (l.take k)≤(k:Int)*253671505920
 |0,_=>by simp [gE]
 |k+1,h=>by
  rw [Jq  oM]
  have h1:=Bl hb k  oM
  have h2:=hb _ (aN (show k<l.length by omega))
  omega
theorem TU{x m:Int}(hx:0≤x∧x≤253671505920)(hm:1≤m∧m≤16):0≤x*m∧x*m≤4058744094720:=by
 refine⟨py hx.1  oM,?_⟩
 have h1:x*m≤253671505920*m:=nk hx.2  oM
 omega
end Tu
namespace Hr
theorem TV{size d:Nat}{v:Value}(hd:d<size):∀(ls:List (List Value)) (q:Nat) (c:List Value),(∀z∈ls,z.length=size)→ls[q]?=some c→
  (ls.set q (c.set d v)).flatten=ls.flatten.take (q*size+d)++ [v]++ls.flatten.drop (q*size+d+1)
 | [],q,c,_,h=>by simp at h
 |z::ls,0,c,h,hq=>by
  have hz:=h z sM
  simp only [L_,Option.some.injEq]at hq
  subst hq
  simp only [List.set_cons_zero,xh,Nat.zero_mul,ub]
  rw [List.take_append_of_le_length  oM,List.drop_append_of_le_length  oM,List.set_eq_take_append_cons_drop,aH  oM]
  simp
 |z::ls,q+1,c,h,hq=>by
  have hz:=h z sM
  have ih:=TV hd ls q c (fun y hy=>h y (by simp [hy])) (by simpa using hq) (v:=v)
  simp only [List.set_cons_succ,xh,ih]
  have e1:(q+1)*size+d=z.length+(q*size+d):=by rw [hz,vD];omega
  rw [e1,List.take_length_add_append,AM z.length,List.drop_length_add_append]
  simp
section
variable{P:Program}{X:Nat→Prop}{W:World}{n:Nat}{ah:List (Nat×Value)}{mem:List an}{S:St}{o:Oper}{d:Tmp}{t t' e:TypeId}{x y:Operand}
theorem sr{A:Option Addr}{m c size q f:Nat}{ls:List (List Value)}{l:List an}{cs:List Value}{v:Value}(ho:o.op= .store t x y)(hd:o.dst=none)(gC:Sz P t 1)(hx:ev ah x=some (.pointer (some (((bJ A).add (q*size)).add f))))(hy:ev ah y=some v)
  (hv:A2 v=false)(hl:dW v= [v])(h1:oC [v]=true)(hs:ag mem (.ae e size A m c ls) l)(hq:q<m)(hf:f<size)(hc:ls[q]?=some cs):
  H1 P X W n ⟨ah,mem⟩ o (fun _:Unit=>True) (fun _=>⟨ah,.ae e size A m c (ls.set q (cs.set f v))::l⟩):=by
 intro a w cu k Q hk
 have hh:=hs.holds cu.mem
 obtain⟨g,di,rfl,hg,h3,h4,h5,h6⟩:=Mq hh  oM
 obtain⟨_,gT,hz⟩:=hh
 have Mr:q*size+size≤m*size:=by rw [←C2];exact te _ hq
 have y8:m*size≤c*size:=te _ h3
 have eJ:=run_storeCells_at P g (q*size+f) e [v] 0 di w hg (by simp;omega) (Dg h1)
 have gD:(execOp a.eval o).run P w= .ok .skip (w.setRow g (di.toList.take (q*size+f)++ [v]++di.toList.drop (q*size+f+1)).toArray):=by
  have Ms:((bJ (some ⟨g,0,none⟩)).add (q*size)).add f=⟨g,q*size+f,none⟩:=by rw [AX];simp [bJ,yR]
  simp only [execOp,ho,cu.eval hx,cu.eval hy,Instr.storeAt,Instr.sureAddr,storeVar,Ms,FJ hv,hl]
  simp [gC.run,eJ]
 refine I7 gD ?_
 rw [hd]
 refine hk () _ _ trivial ?_
 have bR:cs.length=size:=hz cs (Fp hc)
 have hw:=Tc (ls:=ls) (iw:=ls.set q (cs.set f v)) (vs:= [v]) hg h3 h4 h5 h6 (by simp;omega) (by simpa using gT) (fun z sk=>by
  rcases Fi sk with h|rfl
  ·exact hz z h
  ·simpa using bR) (TV hf ls q cs hz hc)
 have hm:Mem (fun k=>k=g) w [.ae e size (some ⟨g,0,none⟩) m c (ls.set q (cs.set f v))] _:=Mem.nil.cons hw (fun k hk=> .inr (by simpa [an.at,eq_comm]using hk)) sM
 exact cu.change (Y:=fun k=>k=g) (cs:= [.ae e size (some ⟨g,0,none⟩) m c ls]) (ls:=l) hs.aI Mn (fun k hk=>⟨.ae e size (some ⟨g,0,none⟩) m c ls,by simp,by simp [hk,an.at]⟩) hm
theorem ad1(w:World)(d:Nat)(t e:TypeId)(a:Option Addr)(m c:Nat)(h:P.underlying t=some (.slice e)):(Op.equalIn (d+1) t (.slice a m c) (.slice none 0 0)).run P w= .ok a.isNone w:=by
 cases a<;>simp [Op.equalIn,fk h]
theorem Dw{A:Option Addr}{m c:Nat}(ho:o.op= .binOp .eql t x y t')(hx:ev S.ah x=some (.slice A m c))(hy:ev S.ah y=some (.slice none 0 0))(ht:P.underlying t=some (.slice e)):Q1 P X W n S o (.bool A.isNone):=
 fun _ w hs=> .inl (by
  have h1:(binOp .eql t (.slice A m c) (.slice none 0 0)).run P w= .ok (.bool A.isNone) w:=by
   simp only [binOp]
   simp [Op.equal,Op.maxDepth,ad1 w 9999 t e A m c ht]
  simp only [execOp,ho,hs.eval hx,hs.eval hy,eqGuard_at_slice,pw,uc,sf,h1])
theorem ad2(w:World)(d:Nat)(t e:TypeId)(a:Option Addr)(h:P.underlying t=some (.pointer e)):(Op.equalIn (d+1) t (.pointer a) (.pointer none)).run P w= .ok a.isNone w:=by
 cases a<;>simp [Op.equalIn,fk h]
end
section
variable{P:Program}{fn:Func}{R:Ending→World→Prop}{X:Nat→Prop}{W:World}{n:Nat}{k:List K}{S:St}{ah:List (Nat×Value)}{mem:List an}{M0:List an}{aq:Array Oper}{aL:Array Bool}{m:Nat}
def Dk(X:Nat→Prop)(W:World)(M0:List an)(_:Nat)(w1 w':World):Prop:=fW X W M0 w1→fW X W M0 w'
def gp(P:Program)(fn:Func)(R:Ending→World→Prop)(X:Nat→Prop)(W:World)(n:Nat)(k:List K)(M0:List an)(aq:Array Oper)(m:Nat)(aL:Array Bool)(S:St):Prop:=
 Region.noSelect aq=true→jr aq aL→∀a w,cK X W n S a w→fW X W M0 w→
  fV P aq (Dk X W M0) (fun a w=>post P fn R k .normal a w) (jt fun a w=>post P fn R k .normal a w) m aL a w
theorem rl{id:Nat}{l:List Oper}(hm:P.follows .mixedOrders=true)(bW:Region.noSelect l.toArray=true)(hM:ax S.mem M0)(h:gp P fn R X W n k M0 l.toArray l.toArray.size (Array.replicate l.toArray.size false) S):
  aW P fn R X W n (.bn (.region id l.toArray true)::k) S:=by
 intro a w hs
 have cR:cK X W n S a {w with drawn:=w.drawn+1}:=hs.world (aS.refl nX w).drew
 have bR:jr l.toArray (Array.replicate l.toArray.size false):=by
  intro j o hj hl
  rcases ie j l.toArray.size with h'|h'
  ·simp at h';simp [h']at hl
  ·simp at h';simp [h']at hl
 have hd:=h bW bR a _ cR ⟨cR.dv,(hM _ _ _ cR.mem).1⟩
 have:=wp_region_any (P:=P) (id:=id) hm (fV.any (E:=jt fun a w=>post P fn R k .normal a w) (fun a w h=>⟨rfl,h⟩) hd)
 exact AJ (fun e a w ⟨he,hq⟩=>by subst he;exact hq) this
theorem ad3(h0:Region.ready .any aq aL= [])(h:aW P fn R X W n k S):gp P fn R X W n k M0 aq 0 aL S:=by
 intro _ _ a w hs _ w1 cB
 exact⟨h0,h a w1 (hs.world cB)⟩
theorem TW{i:Nat}{o:Oper}{v:Value}{a:Act}{w:World}(hi:aq[i]?=some o)(hr:((Region.ready .any aq aL).contains i&&Region.free .any aq aL i)=true)(dd:Region.noSelect aq=true)(bR:jr aq aL)
  (hy:oD P aq (fW X W M0) o v a)(hC:fW X W M0 w)
  (hk:jr aq (aL.setIfInBounds i true)→fV P aq (Dk X W M0) (fun a w=>post P fn R k .normal a w) (jt fun a w=>post P fn R k .normal a w) m (aL.setIfInBounds i true) (a.put o.dst v) w):
  fV P aq (Dk X W M0) (fun a w=>post P fn R k .normal a w) (jt fun a w=>post P fn R k .normal a w) (m+1) aL a w:=by
 simp only [fu]at hr
 have iU:i∈Region.ready .any aq aL:=by simpa using hr.1
 exact fV.first (C:=fW X W M0) (v:=v) hi (IP dd) (fun _ _=>fW.up) (fun w1 w' hk h=>h.up hk) (fun L j w1 w' _ _ _ oE hD=>hD oE) _ _ _ _ bR (Region.free_spec hi hr.2) iU hy hC (hk (bR.step iU))
theorem ss{i d:Nat}{o:Oper}{v:Value}(hi:aq[i]?=some o)(hr:((Region.ready .any aq aL).contains i&&Region.free .any aq aL i)=true)(hw:cY aq ah o true)(hd:o.dst=some d)(hdn:Nat.blt d n=true)(h:Q1 P X W n ⟨ah,M0⟩ o v)
  (hk:gp P fn R X W n k M0 aq m (aL.setIfInBounds i true) ⟨(d,v)::ah,mem⟩):gp P fn R X W n k M0 aq (m+1) aL ⟨ah,mem⟩:=by
 intro dd bR a w hs hC
 refine TW hi hr dd bR (v:=v) (.inl ⟨hw.eq hs,fun w' kK=>h a w' ⟨hs.size,hs.defers,hs.ah,kK.1,kK.2⟩⟩) hC fun lp=>?_
 have:=hk dd lp (a.put (some d) v) w (hs.put hdn v) hC
 rw [hd]
 exact this
def tq(P:Program)(fn:Func)(R:Ending→World→Prop)(X:Nat→Prop)(W:World)(n:Nat)(k:List K)(M0:List an)(aq:Array Oper)(m:Nat)(aL:Array Bool)(i:Nat)(S:St):Prop:=
 Region.noSelect aq=true→jr aq aL→jr aq (aL.setIfInBounds i true)→∀a w,cK X W n S a w→fW X W M0 w→
  wpOp P aq (jt fun a w=>post P fn R k .normal a w) i (fun a' w'=>Dk X W M0 i w w'∧fV P aq (Dk X W M0) (fun a w=>post P fn R k .normal a w) (jt fun a w=>post P fn R k .normal a w) m (aL.setIfInBounds i true) a' w') a w
theorem nS{i:Nat}{o:Oper}{ι:Type}{φ:ι→Prop}{next:ι→St}(hi:aq[i]?=some o)(hw:cY aq ah o true)(h:H1 P X W n ⟨ah,mem⟩ o φ next)(hM:∀j,φ j→ax (next j).mem M0)
  (hk:∀j,φ j→gp P fn R X W n k M0 aq m (aL.setIfInBounds i true) (next j)):tq P fn R X W n k M0 aq m aL i ⟨ah,mem⟩:=by
 intro dd bR lp a w hs hC
 unfold wpOp
 simp only [hi]
 rw [aH (hw.eq hs)]
 refine .inl (h a w hs _ _ fun i' a' w' hφ cR=>?_)
 have lj:fW X W M0 w':=⟨cR.dv,(hM i' hφ _ _ _ cR.mem).1⟩
 exact⟨fun _=>lj,hk i' hφ dd lp a' w' cR lj⟩
theorem TX(i:Nat)(hr:Region.ready .any aq aL= [i])(h:tq P fn R X W n k M0 aq m aL i S):gp P fn R X W n k M0 aq (m+1) aL S:=by
 intro dd bR a w hs hC w1 cB
 refine⟨fun h0=>(by rw [hr]at h0;cases h0),fun j hj=>?_⟩
 have eJ:=bR.step hj
 rw [hr]at hj
 simp only [c_]at hj
 subst hj
 exact h dd bR eJ a w1 (hs.world cB) (hC.up cB)
theorem ad4(i j:Nat)(hr:Region.ready .any aq aL= [i,j])(h:tq P fn R X W n k M0 aq m aL i S)(h':tq P fn R X W n k M0 aq m aL j S):gp P fn R X W n k M0 aq (m+1) aL S:=by
 intro dd bR a w hs hC w1 cB
 refine⟨fun h0=>(by rw [hr]at h0;cases h0),fun q hq=>?_⟩
 have eJ:=bR.step hq
 rw [hr]at hq
 simp only [gu,uf,ug]at hq
 rcases hq with rfl|rfl
 ·exact h dd bR eJ a w1 (hs.world cB) (hC.up cB)
 ·exact h' dd bR eJ a w1 (hs.world cB) (hC.up cB)
theorem M3(i j p:Nat)(hr:Region.ready .any aq aL= [i,j,p])(h:tq P fn R X W n k M0 aq m aL i S)(h':tq P fn R X W n k M0 aq m aL j S)(h'':tq P fn R X W n k M0 aq m aL p S):gp P fn R X W n k M0 aq (m+1) aL S:=by
 intro dd bR a w hs hC w1 cB
 refine⟨fun h0=>(by rw [hr]at h0;cases h0),fun q hq=>?_⟩
 have eJ:=bR.step hq
 rw [hr]at hq
 simp only [gu,uf,ug]at hq
 rcases hq with rfl|rfl|rfl
 ·exact h dd bR eJ a w1 (hs.world cB) (hC.up cB)
 ·exact h' dd bR eJ a w1 (hs.world cB) (hC.up cB)
 ·exact h'' dd bR eJ a w1 (hs.world cB) (hC.up cB)
theorem ad6{i d:Nat}{o:Oper}(hi:aq[i]?=some o)(hr:((Region.ready .any aq aL).contains i&&Region.free .any aq aL i)=true)(hw:cY aq ah o false)(hd:o.dst=some d)(hdn:Nat.blt d n=true)
  (hk:gp P fn R X W n k M0 aq m (aL.setIfInBounds i true) ⟨(d,undef)::ah,mem⟩):gp P fn R X W n k M0 aq (m+1) aL ⟨ah,mem⟩:=by
 intro dd bR a w hs hC
 refine TW hi hr dd bR (v:=undef) (.inr ⟨hw.eq hs,rfl⟩) hC fun lp=>?_
 have:=hk dd lp (a.put (some d) undef) w (hs.put hdn undef) hC
 rw [hd]
 exact this
end
def rn(aq:Array Oper):List (Nat×Nat)→Array Bool→Bool
 | [],aL=>(Region.ready .any aq aL).isEmpty
 |(i,0)::r,aL=>(Region.ready .any aq aL).contains i&&Region.free .any aq aL i&&rn aq r (aL.setIfInBounds i true)
 |(i,3)::r,aL=>(Region.ready .any aq aL).contains i&&Region.free .any aq aL i&&rn aq r (aL.setIfInBounds i true)
 |(i,_)::r,aL=>(Region.ready .any aq aL== [i])&&rn aq r (aL.setIfInBounds i true)
def TY(aq:Array Oper)(order:List (Nat×Nat)):Bool:=Region.noSelect aq&&Nat.beq order.length aq.size&&rn aq order (Array.replicate aq.size false)&&y_ aq order
section
variable{P:Program}{fn:Func}{R:Ending→World→Prop}{X:Nat→Prop}{W:World}{n:Nat}{k:List K}{S:St}{ah:List (Nat×Value)}{mem:List an}{M0:List an}{aq:Array Oper}{bK:List (Nat×Nat)}
def vV(X:Nat→Prop)(W:World)(M0:List an)(bK:List (Nat×Nat))(j:Nat)(w1 w':World):Prop:=
 match jh bK j with
 |0=>aS nX w1 w'
 |3=>aS nX w1 w'
 |2=>aS X W w'
 |_=>fW X W M0 w'
def kQ(P:Program)(fn:Func)(R:Ending→World→Prop)(X:Nat→Prop)(W:World)(n:Nat)(k:List K)(M0:List an)(aq:Array Oper)(bK order:List (Nat×Nat))(S:St):Prop:=
 ∀aL,Region.noSelect aq=true→y_ aq bK=true→rn aq order aL=true→jr aq aL→∀a w,cK X W n S a w→((∃i,jh bK i=0∧aL.getD i true=false)→fW X W M0 w)→
  fV P aq (vV X W M0 bK) (fun a w=>post P fn R k .normal a w) (jt fun a w=>post P fn R k .normal a w) order.length aL a w
theorem run_pure{id:Nat}{l:List Oper}(order:List (Nat×Nat))(hm:P.follows .mixedOrders=true)(bW:TY l.toArray order=true)(hM:ax S.mem M0)(h:kQ P fn R X W n k M0 l.toArray order order S):
  aW P fn R X W n (.bn (.region id l.toArray true)::k) S:=by
 intro a w hs
 simp only [TY,fu]at bW
 obtain⟨⟨⟨h1,h2⟩,h3⟩,h4⟩:=bW
 have gT:order.length=l.toArray.size:=xf h2
 have cR:cK X W n S a {w with drawn:=w.drawn+1}:=hs.world (aS.refl nX w).drew
 have bR:jr l.toArray (Array.replicate l.toArray.size false):=by
  intro j o hj hl
  rcases ie j l.toArray.size with h'|h'
  ·simp at h';simp [h']at hl
  ·simp at h';simp [h']at hl
 have hd:=h _ h1 h4 h3 bR a _ cR (fun _=>⟨cR.dv,(hM _ _ _ cR.mem).1⟩)
 rw [gT]at hd
 have:=wp_region_any (P:=P) (id:=id) hm (fV.any (E:=jt fun a w=>post P fn R k .normal a w) (fun a w h=>⟨rfl,h⟩) hd)
 exact AJ (fun e a w ⟨he,hq⟩=>by subst he;exact hq) this
theorem ad7(h:aW P fn R X W n k S):kQ P fn R X W n k M0 aq bK [] S:=by
 intro aL _ _ bW _ a w hs _ w1 cB
 exact⟨by simpa [rn]using bW,h a w1 (hs.world cB)⟩
theorem TZ{i:Nat}{o:Oper}{v:Value}{r:List (Nat×Nat)}{aL:Array Bool}{a:Act}{w:World}(hi:aq[i]?=some o)(ht:jh bK i=0)(dd:Region.noSelect aq=true)(dQ:y_ aq bK=true)(bW:rn aq ((i,0)::r) aL=true)(bR:jr aq aL)
  (hy:oD P aq (fW X W M0) o v a)(hC:fW X W M0 w)
  (hk:rn aq r (aL.setIfInBounds i true)=true→jr aq (aL.setIfInBounds i true)→fV P aq (vV X W M0 bK) (fun a w=>post P fn R k .normal a w) (jt fun a w=>post P fn R k .normal a w) r.length (aL.setIfInBounds i true) (a.put o.dst v) w):
  fV P aq (vV X W M0 bK) (fun a w=>post P fn R k .normal a w) (jt fun a w=>post P fn R k .normal a w) ((i,0)::r).length aL a w:=by
 simp only [rn,fu]at bW
 obtain⟨⟨h1,h2⟩,h3⟩:=bW
 have hr:i∈Region.ready .any aq aL:=by simpa using h1
 refine fV.first (C:=fW X W M0) (v:=v) hi (IP dd) (fun _ _=>fW.up) (fun w1 w' hk=>by unfold vV;rw [ht];exact hk) (fun L j w1 w' hL Dj hj oE hD=>?_) _ _ _ _ bR (Region.free_spec hi h2) hr hy hC (hk h3 (bR.step hr))
 unfold vV at hD
 split at hD
 ·exact oE.up hD
 ·exact oE.up hD
 ·rename_i hx
  exfalso
  have:=Jc dQ hL ht hx hj
  rcases ie i L.size with h'|h'
  ·simp [h']at this Dj;rw [Dj]at this;cases this
  ·simp [h']at this
 ·exact hD
theorem T0{i d:Nat}{o:Oper}{v:Value}{r:List (Nat×Nat)}(hi:aq[i]?=some o)(ht:jh bK i=0)(hw:cY aq ah o true)(hd:o.dst=some d)(hdn:Nat.blt d n=true)(h:Q1 P X W n ⟨ah,M0⟩ o v)
  (hk:kQ P fn R X W n k M0 aq bK r ⟨(d,v)::ah,mem⟩):kQ P fn R X W n k M0 aq bK ((i,0)::r) ⟨ah,mem⟩:=by
 intro aL dd dQ bW bR a w hs hC
 have hr:i∈Region.ready .any aq aL:=by simp only [rn,fu]at bW;simpa using bW.1.1
 have lj:=hC ⟨i,ht,Je hr⟩
 refine TZ hi ht dd dQ bW bR (v:=v) (.inl ⟨hw.eq hs,fun w' kK=>h a w' ⟨hs.size,hs.defers,hs.ah,kK.1,kK.2⟩⟩) lj fun h3 lp=>?_
 have:=hk _ dd dQ h3 lp (a.put (some d) v) w (hs.put hdn v) (fun _=>lj)
 rw [hd]
 exact this
theorem T1{i d:Nat}{o:Oper}{r:List (Nat×Nat)}(hi:aq[i]?=some o)(ht:jh bK i=0)(hw:cY aq ah o false)(hd:o.dst=some d)(hdn:Nat.blt d n=true)
  (hk:kQ P fn R X W n k M0 aq bK r ⟨(d,undef)::ah,mem⟩):kQ P fn R X W n k M0 aq bK ((i,0)::r) ⟨ah,mem⟩:=by
 intro aL dd dQ bW bR a w hs hC
 have hr:i∈Region.ready .any aq aL:=by simp only [rn,fu]at bW;simpa using bW.1.1
 have lj:=hC ⟨i,ht,Je hr⟩
 refine TZ hi ht dd dQ bW bR (v:=undef) (.inr ⟨hw.eq hs,rfl⟩) lj fun h3 lp=>?_
 have:=hk _ dd dQ h3 lp (a.put (some d) undef) w (hs.put hdn undef) (fun _=>lj)
 rw [hd]
 exact this
theorem T2{i t:Nat}{o:Oper}{r:List (Nat×Nat)}{ι:Type}{φ:ι→Prop}{next:ι→St}(hi:aq[i]?=some o)(hw:cY aq ah o true)(h:H1 P X W n ⟨ah,mem⟩ o φ next)(hD:∀j w1 w',φ j→aS X W w'→Mem X W (next j).mem w'→vV X W M0 bK i w1 w')
  (hM:∀j,φ j→ax (next j).mem M0∨jh bK i=2)
  (ad8:∀aL,rn aq ((i,t)::r) aL=((Region.ready .any aq aL== [i])&&rn aq r (aL.setIfInBounds i true)))
  (hk:∀j,φ j→kQ P fn R X W n k M0 aq bK r (next j)):kQ P fn R X W n k M0 aq bK ((i,t)::r) ⟨ah,mem⟩:=by
 intro aL dd dQ bW bR a w hs _ w1 cB
 have adG:=bW
 rw [ad8]at bW
 simp only [fu,kh]at bW
 obtain⟨h1,h3⟩:=bW
 refine⟨fun h0=>(by rw [h1]at h0;cases h0),fun j hj=>?_⟩
 rw [h1]at hj
 simp only [c_]at hj
 subst hj
 unfold wpOp
 simp only [hi]
 have cj:=hs.world cB
 rw [aH (hw.eq cj)]
 refine .inl (h a w1 cj _ _ fun i' a' w' hφ cR=>⟨hD i' w1 w' hφ cR.dv cR.mem,?_⟩)
 refine hk i' hφ _ dd dQ h3 (bR.step (by rw [h1];simp)) a' w' cR ?_
 rintro⟨q,hq,vR⟩
 rcases hM i' hφ with hm|hm
 ·exact⟨cR.dv,(hm _ _ _ cR.mem).1⟩
 ·have h5:=Jc dQ bR hq hm (by rw [h1];simp)
  have h6:=getD_set_true (i:=j) h5
  rcases ie q (aL.setIfInBounds j true).size with h'|h'
  ·simp only [L9,IQ h',IS]at h6 vR
   rw [vR]at h6;cases h6
  ·simp only [L9,CZ h',Option.getD_none]at h6
   cases h6
theorem M4{i:Nat}{o:Oper}{r:List (Nat×Nat)}{ι:Type}{φ:ι→Prop}{next:ι→St}(hi:aq[i]?=some o)(ht:jh bK i=1)(hw:cY aq ah o true)(h:H1 P X W n ⟨ah,mem⟩ o φ next)(hM:∀j,φ j→ax (next j).mem M0)
  (hk:∀j,φ j→kQ P fn R X W n k M0 aq bK r (next j)):kQ P fn R X W n k M0 aq bK ((i,1)::r) ⟨ah,mem⟩:=
 T2 (t:=1) hi hw h (fun j w1 w' hφ hk hm=>by unfold vV;rw [ht];exact⟨hk,(hM j hφ _ _ _ hm).1⟩) (fun j hφ=> .inl (hM j hφ)) (fun _=>rfl) hk
theorem T3{i:Nat}{o:Oper}{r:List (Nat×Nat)}{ι:Type}{φ:ι→Prop}{next:ι→St}(hi:aq[i]?=some o)(ht:jh bK i=2)(hw:cY aq ah o true)(h:H1 P X W n ⟨ah,mem⟩ o φ next)
  (hk:∀j,φ j→kQ P fn R X W n k M0 aq bK r (next j)):kQ P fn R X W n k M0 aq bK ((i,2)::r) ⟨ah,mem⟩:=
 T2 (t:=2) hi hw h (fun j w1 w' _ hk _=>by unfold vV;rw [ht];exact hk) (fun _ _=> .inr ht) (fun _=>rfl) hk
theorem iz{i d:Nat}{o:Oper}{v:Value}{r:List (Nat×Nat)}(hi:aq[i]?=some o)(ht:jh bK i=3)(hw:cY aq ah o true)(hd:o.dst=some d)(hdn:Nat.blt d n=true)(h:Q1 P X W n ⟨ah, []⟩ o v)
  (hk:kQ P fn R X W n k M0 aq bK r ⟨(d,v)::ah,mem⟩):kQ P fn R X W n k M0 aq bK ((i,3)::r) ⟨ah,mem⟩:=by
 intro aL dd dQ bW bR a w hs hC
 simp only [rn,fu]at bW
 obtain⟨⟨h1,h2⟩,h3⟩:=bW
 have hr:i∈Region.ready .any aq aL:=by simpa using h1
 have hy:oD P aq (fW X W []) o v a:= .inl ⟨hw.eq hs,fun w' kK=>h a w' ⟨hs.size,hs.defers,hs.ah,kK.1,kK.2⟩⟩
 refine fV.first (C:=fW X W []) (v:=v) hi (IP dd) (fun _ _=>fW.up) (fun w1 w' hk=>by unfold vV;rw [ht];exact hk) (fun L j w1 w' hL Dj hj oE hD=>?_) _ _ _ _ bR (Region.free_spec hi h2) hr hy ⟨hs.dv,Mem.nil⟩ ?_
 ·unfold vV at hD
  split at hD
  ·exact oE.up hD
  ·exact oE.up hD
  ·exact⟨hD,Mem.nil⟩
  ·exact⟨hD.1,Mem.nil⟩
 ·have:=hk _ dd dQ h3 (bR.step hr) (a.put (some d) v) w (hs.put hdn v) (fun⟨q,hq,vR⟩=>hC ⟨q,hq,?_⟩)
  ·rw [hd]
   exact this
  ·by_cases T4:i=q
   ·subst T4
    rw [hq]at ht
    cases ht
   ·rwa [getD_set_ne true T4]at vR
end
end Hr
namespace au
section
variable{α:Type} [Inhabited α]{lt:α→α→Bool}
def gW(lt:α→α→Bool)(s:List α)(t:α):Nat→Nat
 |0=>0
 |k+1=>if lt t (aa s k)=true then gW lt s t k else k+1
theorem M5(s:List α)(t:α):∀k,gW lt s t k≤k
 |0=>ct _
 |k+1=>by rw [gW];split;exact Nat.le_succ_of_le (M5 s t k);exact ct _
theorem F2{s:List α}{t:α}{k:Nat}(h:lt t (aa s k)=true):gW lt s t (k+1)=gW lt s t k:=by rw [gW,aH h]
theorem F3{s:List α}{t:α}{k:Nat}(h:lt t (aa s k)=false):gW lt s t (k+1)=k+1:=by rw [gW,aB (by simp [h])]
def vW(lt:α→α→Bool)(s:List α)(t:α):List α:=s.take (gW lt s t s.length)++t::s.drop (gW lt s t s.length)
theorem ad9(s:List α)(t:α):(vW lt s t).length=s.length+1:=by
 have:=M5 (lt:=lt) s t s.length
 simp [vW];omega
def dU(lt:α→α→Bool)(l:List α):Nat→List α
 |0=> []
 |k+1=>vW lt (dU lt l k) (aa l k)
theorem oH(l:List α):∀k,(dU lt l k).length=k
 |0=>rfl
 |k+1=>by rw [dU,ad9,oH l k]
def fw(s:List α)(t:α)(r:List α)(j:Nat):List α:=s.take j++t::(s.drop j++r)
theorem Dx{α:Type}{s:List α}{t:α}{r:List α}{j:Nat}(h:j≤s.length):(fw s t r j).length=s.length+1+r.length:=by simp [fw];omega
theorem Bm{s:List α}{t:α}{r:List α}{j:Nat}(h:j≤s.length):aa (fw s t r j) j=t:=by
 have:(s.take j).length=j:=by rw [fN];omega
 simp [fw,aa,xi,this]
theorem Bn{s:List α}{t:α}{r:List α}{j:Nat}(h:j+1≤s.length):aa (fw s t r (j+1)) j=aa s j:=by
 have h1:j<(s.take (j+1)).length:=by rw [fN];omega
 simp only [fw,aa,C5]
 rw [C0 h1,List.getElem?_take_of_lt  oM]
theorem M6{s:List α}{t:α}{r:List α}{j:Nat}(h:j+1≤s.length):((fw s t r (j+1)).set (j+1) (aa s j)).set j t=fw s t r j:=by
 have h1:(s.take j).length=j:=by rw [fN];omega
 have h2:s.take (j+1)=s.take j++ [aa s j]:=nR  oM
 have h3:s.drop j=aa s j::s.drop (j+1):=ku  oM
 unfold fw
 rw [h2,h3]
 simp only [bj,AL,Fg]
 rw [C9 _ _  oM,h1,show j+1-j=1 from oM,C9 _ _  oM,h1,Fq]
 simp
theorem M7{α:Type}(s:List α)(t:α)(r:List α):fw s t r s.length=s++t::r:=by simp [fw]
theorem ad_(s:List α)(t:α)(r:List α):fw s t r (gW lt s t s.length)=vW lt s t++r:=by simp [fw,vW]
def fK(lt:α→α→Bool)(l:List α)(i:Nat):List α:=dU lt l (min (i+1) l.length)++l.drop (i+1)
theorem M8(l:List α):fK lt l 0=l:=by
 cases l with
 |nil=>rfl
 |cons t l=>simp [fK,dU,vW,gW,aa,show min 1 (l.length+1)=1 by omega]
theorem M9{l:List α}{i:Nat}(h:i+1<l.length):fK lt l i=fw (dU lt l (i+1)) (aa l (i+1)) (l.drop (i+2)) (i+1):=by
 have:=M7 (dU lt l (i+1)) (aa l (i+1)) (l.drop (i+2))
 rw [oH]at this
 rw [this,fK,show min (i+1) l.length=i+1 from oM,ku h]
theorem Dy{l:List α}{i j:Nat}(h:i+1<l.length)(hj:gW lt (dU lt l (i+1)) (aa l (i+1)) (i+1)=j):fw (dU lt l (i+1)) (aa l (i+1)) (l.drop (i+2)) j=fK lt l (i+1):=by
 have:=ad_ (lt:=lt) (dU lt l (i+1)) (aa l (i+1)) (l.drop (i+2))
 rw [oH,hj]at this
 rw [this,fK,show min (i+1+1) l.length=i+2 from oM]
 rfl
theorem M_{l:List α}{i:Nat}(h:l.length≤i+1):fK lt l i=dU lt l l.length:=by
 rw [fK,show min (i+1) l.length=l.length from oM,ox h,gZ]
theorem aea(s:List α)(t:α):(vW lt s t).Perm (t::s):=by
 rw [vW]
 refine(Fs).trans (.cons _ ?_)
 rw [nm]
theorem T5(l:List α):∀k,k≤l.length→(dU lt l k).Perm (l.take k)
 |0,_=>by simp [dU]
 |k+1,h=>by
  rw [dU,nR  oM]
  refine(aea _ _).trans (((T5 l k  oM).cons _).trans ?_)
  exact(Ma (l₁:= [aa l k]))
theorem F4(l:List α):(dU lt l l.length).Perm l:=by
 have:=T5 (lt:=lt) l l.length (ct _)
 rwa [px]at this
def cP(lt:α→α→Bool)(l:List α):Prop:=l.Pairwise fun a b=>lt b a=false
structure su(lt:α→α→Bool):Prop where
 trans:∀{a b c},lt b a=false→lt c b=false→lt c a=false
 F5:∀{a b},lt a b=true→lt b a=false
theorem cP.take{α:Type}{lt:α→α→Bool}{l:List α}(h:cP lt l)(k:Nat):cP lt (l.take k):=h.sublist (List.take_sublist _ _)
theorem DA{l:List α}{k:Nat}{x:α}(h:x∈l.take k):∃j,j<k∧j<l.length∧aa l j=x:=by
 obtain⟨j,hj,rfl⟩:=oz h
 rw [fN]at hj
 exact⟨j,oM,oM,by simp [aa,show j<l.length by omega]⟩
theorem zf{l:List α}{k:Nat}{x:α}(h:x∈l.drop k):∃j,k≤j∧j<l.length∧aa l j=x:=by
 obtain⟨j,hj,rfl⟩:=oz h
 rw [nL]at hj
 exact⟨k+j,oM,oM,by simp [aa,show k+j<l.length by omega]⟩
theorem cP.aa{l:List α}(h:cP lt l){i j:Nat}(pF:i<j)(hj:j<l.length):lt (Hr.aa l j) (Hr.aa l i)=false:=by
 have:=C6.1 h i j  oM hj pF
 simpa [Hr.aa,hj,show i<l.length by omega]using this
theorem T6{s:List α}{t:α}:∀{k:Nat},∀j,gW lt s t k≤j→j<k→lt t (aa s j)=true
 |0,j,_,h=>oM
 |k+1,j,h1,h2=>by
  by_cases hc:lt t (aa s k)=true
  ·rw [F2 hc]at h1
   by_cases e:j=k
   ·rw [e];exact hc
   ·exact T6 j h1  oM
  ·rw [F3 (by simpa using hc)]at h1;omega
theorem T7{s:List α}{t:α}:∀{k:Nat},0<gW lt s t k→lt t (aa s (gW lt s t k-1))=false
 |0,h=>by simp [gW]at h
 |k+1,h=>by
  by_cases hc:lt t (aa s k)=true
  ·rw [F2 hc]at h⊢;exact T7 h
  ·rw [F3 (by simpa using hc)];simpa using hc
theorem aeb(hw:su lt){s:List α}(hs:cP lt s)(t:α):cP lt (vW lt s t):=by
 have hp:=M5 (lt:=lt) s t s.length
 unfold vW
 refine pq.2 ⟨hs.take _,List.pairwise_cons.2 ⟨fun x hx=>?_,hs.sublist (List.drop_sublist _ _)⟩,fun a ha b hb=>?_⟩
 ·obtain⟨j,h1,h2,rfl⟩:=zf hx
  exact hw.F5 (T6 j h1 h2)
 ·obtain⟨i,h1,h2,rfl⟩:=DA ha
  rcases gu.1 hb with rfl|hb
  ·have tt:=T7 (lt:=lt) (s:=s) (t:=b) (k:=s.length)  oM
   by_cases e:i=gW lt s b s.length-1
   ·rw [e];exact tt
   ·exact hw.trans (hs.aa (i:=i) (j:=gW lt s b s.length-1)  oM oM) tt
  ·obtain⟨j,h3,h4,rfl⟩:=zf hb
   exact hs.aa  oM h4
theorem F6(hw:su lt)(l:List α):∀k,cP lt (dU lt l k)
 |0=> .nil
 |k+1=>aeb hw (F6 hw l k) _
end
end au
namespace Ky
def ef(a b:Int):Int:=if a<b then-1 else if b<a then 1 else 0
def ky:List Int→Int
 | []=>0
 |e::r=>if e≠0 then e else ky r
theorem aec{l:List Int}{k:Nat}(hk:k<l.length)(h0:aa l k=0):ky (l.drop k)=ky (l.drop (k+1)):=by
 rw [ku hk,ky,aB (by simp [h0])]
theorem aed{l:List Int}{k:Nat}(hk:k<l.length)(h0:aa l k≠0):ky (l.drop k)=aa l k:=by
 rw [ku hk,ky,aH h0]
def mS:List Int→List Int→Int
 |a::x,b::y=>if a<b then-1 else if b<a then 1 else mS x y
 |_,_=>0
theorem Jr:∀(x y:List Int),ky (List.zipWith ef x y)=mS x y
 | [],_=>by cases‹List Int›<;>rfl
 |_::_, []=>rfl
 |a::x,b::y=>by
  rw [List.zipWith_cons_cons,ky,mS,Jr x y,ef]
  by_cases h1:a<b
  ·simp [h1]
  ·by_cases h2:b<a
   ·simp [h1,h2]
   ·simp [h1,h2]
theorem T8:∀(x y:List Int),x.length=y.length→mS y x= -mS x y
 | [], [],_=>rfl
 |a::x,b::y,h=>by
  have ih:=T8 x y (by simpa using h)
  rw [mS,mS]
  by_cases h1:a<b
  ·rw [aB  oM,aH h1,aH h1];rfl
  ·by_cases h2:b<a
   ·rw [aH h2,aB h1,aH h2]
   ·rw [aB h2,aB h1,aB h1,aB h2,ih]
theorem T9:∀(x y z:List Int),x.length=y.length→y.length=z.length→mS y x≥0→mS z y≥0→mS z x≥0
 | [], [], [],_,_,_,_=>by simp [mS]
 |a::x,b::y,c::z,h1,h2,h3,h4=>by
  have ih:=T9 x y z (by simpa using h1) (by simpa using h2)
  rw [mS]at h3 h4⊢
  by_cases p1:b<a
  ·rw [aH p1]at h3;omega
  rw [aB p1]at h3
  by_cases p2:c<b
  ·rw [aH p2]at h4;omega
  rw [aB p2]at h4
  rw [aB  oM]
  by_cases p3:a<c
  ·rw [aH p3];omega
  rw [aB p3]
  rw [aB  oM]at h3 h4
  exact ih h3 h4
def bo{α:Type}(key:α→List Int)(a b:α):Bool:=decide (mS (key a) (key b)<0)
theorem Ua{α:Type}{key:α→List Int}{n:Nat}(h:∀a,(key a).length=n):au.su (bo key):=⟨fun{a b c} h1 h2=>by
 simp only [bo,tf]at h1 h2⊢
 have:=T9 (key a) (key b) (key c) (by rw [h,h]) (by rw [h,h])  oM oM
 omega,fun{a b} h1=>by
 simp only [bo,tf,ir]at h1⊢
 have:=T8 (key a) (key b) (by rw [h,h])
 omega⟩
end Ky
namespace Hr
section
variable{P:Program}{X:Nat→Prop}{W:World}{n:Nat}{S:St}{o:Oper}{t e:TypeId}{x y:Operand}
theorem aee{len b off size q d:Nat}{k:IntKind}{i:Int}(ho:o.op= .indexAddr t x y)(ht:P.underlying t=some (.array len e))(gC:Sz P e size)(hx:ev S.ah x=some (.pointer (some ⟨b,off,none⟩)))(hy:ev S.ah y=some (.int k i))
  (hi:i=(q:Int))(hq:q<len)(hd:off+q*size=d):Q1 P X W n S o (.pointer (some ⟨b,d,none⟩)):=
 fun _ w hs=> .inl (by
  subst hi;subst hd
  have h1:(0:Int)≤(q:Int)∧(q:Int)<(len:Int):=oM
  have e2:(Addr.add ⟨b,off,none⟩ (q*size))=⟨b,off+q*size,none⟩:=by
   unfold Addr.add
   by_cases kP:q*size=0
   ·simp [kP]
   ·simp [kP]
  simp [execOp,ho,hs.eval hx,hs.eval hy,Instr.indexAt,Instr.sureAddr,fk ht,asIntOf,gC.run,h1.2,hq,e2])
end
section
variable{P:Program}{X:Nat→Prop}{W:World}{n:Nat}{S:St}{o:Oper}{t t' e:TypeId}{x y:Operand}{k:IntKind}
def uz(a b:ByteArray):Bool:=a.toList==b.toList
theorem Na{a b:ByteArray}(ho:o.op= .binOp .eql t x y t')(hx:ev S.ah x=some (.string a))(hy:ev S.ah y=some (.string b)):Q1 P X W n S o (.bool (uz a b)):=
 fun _ w hs=> .inl (by simp [execOp,ho,hs.eval hx,hs.eval hy,binOp,Op.stringOp,uz,eqGuard_at_string])
theorem Nb{s:ByteArray}{i:Int}{q:Nat}{b:UInt8}(ho:o.op= .index t x y)(ht:P.underlying t=some .string)(hx:ev S.ah x=some (.string s))(hy:ev S.ah y=some (.int k i))(hi:i=(q:Int))(hb:s[q]?=some b):Q1 P X W n S o (.int .u8 b.toNat):=
 fun _ w hs=> .inl (by
  subst hi
  simp [execOp,ho,hs.eval hx,hs.eval hy,Instr.index,asIntOf,fk ht,hb])
theorem oI{i j:Int}{k':IntKind}(ho:o.op= .binOp .shr t x y t')(hx:ev S.ah x=some (.int k i))(hy:ev S.ah y=some (.int k' j))(hj:0≤j):Q1 P X W n S o (.int k (i.fdiv (2^(min j.toNat k.bits)))):=
 fun _ w hs=> .inl (by
  have h0:¬j<0:=oM
  simp [execOp,ho,hs.eval hx,hs.eval hy,binOp,Op.shift,h0,eqGuard_at_int])
theorem Nc{i j:Int}{k':IntKind}(ho:o.op= .binOp .shl t x y t')(hx:ev S.ah x=some (.int k i))(hy:ev S.ah y=some (.int k' j))(hj:0≤j):Q1 P X W n S o (.int k (k.wrap (i*2^(min j.toNat k.bits)))):=
 fun _ w hs=> .inl (by
  have h0:¬j<0:=oM
  simp [execOp,ho,hs.eval hx,hs.eval hy,binOp,Op.shift,h0,eqGuard_at_int])
def F7(k:IntKind)(i j:Int):Int:=k.wrap ((BitVec.ofInt k.bits i&&&BitVec.ofInt k.bits j).toNat:Int)
theorem sy{i j:Int}(ho:o.op= .binOp .and t x y t')(hx:ev S.ah x=some (.int k i))(hy:ev S.ah y=some (.int k j)):Q1 P X W n S o (.int k (F7 k i j)):=
 fun _ w hs=> .inl (by simp [execOp,ho,hs.eval hx,hs.eval hy,binOp,Op.intBits,F7,eqGuard_at_int])
end
section
variable{P:Program}{X:Nat→Prop}{W:World}{n:Nat}{S:St}{ah:List (Nat×Value)}{mem:List an}{o:Oper}{t t' e:TypeId}{x y:Operand}{d:Tmp}
theorem DB{p:Option Addr}(ho:o.op= .binOp .eql t x y t')(hx:ev S.ah x=some (.pointer p))(hy:ev S.ah y=some (.pointer none))(ht:P.underlying t=some (.pointer e)):Q1 P X W n S o (.bool p.isNone):=
 fun _ w hs=> .inl (by
  have h1:(binOp .eql t (.pointer p) (.pointer none)).run P w= .ok (.bool p.isNone) w:=by
   simp only [binOp]
   simp [Op.equal,Op.maxDepth,ad2 w 9999 t e p ht]
  simp only [execOp,ho,hs.eval hx,hs.eval hy,eqGuard_at_pointer,pw,uc,sf,h1])
theorem jE{a:Addr}{f d1 d2:Nat}{fs:Array Field}{fd:Field}{s:Nat}(ho:o.op= .fieldAddr t x f)(ht:P.underlying t=some (.struct fs))(hx:ev S.ah x=some (.pointer (some (a.add d1))))(hf:fs[f]?=some fd)(gC:Sz P fd.type (s+1))(hd:d1+fd.offset=d2):
  Q1 P X W n S o (.pointer (some (a.add d2))):=
 fun _ w hs=> .inl (by simp [execOp,ho,hs.eval hx,Instr.fieldAt,fk ht,hf,Instr.sureAddr,fieldPlace,gC.run,AX,hd])
theorem iL{A:Option Addr}{ls:List (List Value)}{q d s size:Nat}{cs vs:List Value}(ho:o.op= .load t x)(ht:pC P t s)(hx:ev S.ah x=some (.pointer (some (((bJ A).add (q*size)).add d))))(hr:iT X W S A size ls)(hq:ls[q]?=some cs)(hv:(cs.drop d).take s=vs)(hl:vs.length=s):Q1 P X W n S o (.agg vs.toArray):=
 Mm ho (by rw [hl];exact ht) hx fun w hk hm j v hj=>by
  rcases hr w hk hm with h|⟨ad,rfl,h⟩
  ·subst h;simp at hq
  ·rw [AX,AX]
   subst hv
   rw [C1]at hj
   split at hj
   ·rw [List.getElem?_drop]at hj
    exact h q cs hq (d+j) v hj
   ·cases hj
theorem fP{w:World}{b:Nat}{t:TypeId}{v:Value}(h:(an.aj b t [(0,v)]).holds w):Rd w (some ⟨b,0,none⟩) 1 [[v]]:=
 FX h fun i u hu=>by
  cases i with
  |zero=>simpa [cW]using hu
  |succ i=>simp at hu
end
section
variable{P:Program}{fn:Func}{R:Ending→World→Prop}{X:Nat→Prop}{W:World}{n:Nat}{k:List K}
theorem vX{ι:Type}{c:Code}{bg:List (Nat×Value)}{bh:List an}{s0:Nat}{u0:Value}{r0 r1 r2 r3:an}(φ:ι→Prop)(f0:ι→Value)(g0 g1 g2 g3:ι→an)(μ:ι→Nat)(i0:ι)(h0:φ i0)(e0:u0=f0 i0)(q0:cm r0 (g0 i0))(q1:cm r1 (g1 i0))(q2:cm r2 (g2 i0))(q3:cm r3 (g3 i0))
  (hr:∀i,φ i→aW P fn R X W n (.bn c:: .stop (lJ X W n φ (fun i=>⟨(s0,f0 i)::bg,g0 i::g1 i::g2 i::g3 i::bh⟩) μ (μ i))::k) ⟨(s0,f0 i)::bg,g0 i::g1 i::g2 i::g3 i::bh⟩):aW P fn R X W n (.bn (.loop c)::k) ⟨(s0,u0)::bg,r0::r1::r2::r3::bh⟩:=by
 subst e0
 exact np φ (fun i=>⟨(s0,f0 i)::bg,g0 i::g1 i::g2 i::g3 i::bh⟩) μ i0 h0 (ar dF.refl (ax.cons ag.ak q0 (ax.cons ag.ak q1 (ax.cons ag.ak q2 (ax.cons ag.ak q3 ax.refl))))) hr
theorem Nd{ι:Type}{c:Code}{bg:List (Nat×Value)}{bh:List an}{s0 s1:Nat}{u0 u1:Value}{r0 r1 r2 r3:an}(φ:ι→Prop)(f0 f1:ι→Value)(g0 g1 g2 g3:ι→an)(μ:ι→Nat)(i0:ι)(h0:φ i0)(e0:u0=f0 i0)(e1:u1=f1 i0)(q0:cm r0 (g0 i0))(q1:cm r1 (g1 i0))(q2:cm r2 (g2 i0))(q3:cm r3 (g3 i0))
  (hr:∀i,φ i→aW P fn R X W n (.bn c:: .stop (lJ X W n φ (fun i=>⟨(s0,f0 i)::(s1,f1 i)::bg,g0 i::g1 i::g2 i::g3 i::bh⟩) μ (μ i))::k) ⟨(s0,f0 i)::(s1,f1 i)::bg,g0 i::g1 i::g2 i::g3 i::bh⟩):aW P fn R X W n (.bn (.loop c)::k) ⟨(s0,u0)::(s1,u1)::bg,r0::r1::r2::r3::bh⟩:=by
 subst e0;subst e1
 exact np φ (fun i=>⟨(s0,f0 i)::(s1,f1 i)::bg,g0 i::g1 i::g2 i::g3 i::bh⟩) μ i0 h0 (ar dF.refl (ax.cons ag.ak q0 (ax.cons ag.ak q1 (ax.cons ag.ak q2 (ax.cons ag.ak q3 ax.refl))))) hr
theorem aef{ι:Type}{c:Code}{bg:List (Nat×Value)}{bh:List an}{s0 s1:Nat}{u0 u1:Value}{r0 r1 r2 r3 r4:an}(φ:ι→Prop)(f0 f1:ι→Value)(g0 g1 g2 g3 g4:ι→an)(μ:ι→Nat)(i0:ι)(h0:φ i0)(e0:u0=f0 i0)(e1:u1=f1 i0)(q0:cm r0 (g0 i0))(q1:cm r1 (g1 i0))(q2:cm r2 (g2 i0))(q3:cm r3 (g3 i0))(q4:cm r4 (g4 i0))
  (hr:∀i,φ i→aW P fn R X W n (.bn c:: .stop (lJ X W n φ (fun i=>⟨(s0,f0 i)::(s1,f1 i)::bg,g0 i::g1 i::g2 i::g3 i::g4 i::bh⟩) μ (μ i))::k) ⟨(s0,f0 i)::(s1,f1 i)::bg,g0 i::g1 i::g2 i::g3 i::g4 i::bh⟩):aW P fn R X W n (.bn (.loop c)::k) ⟨(s0,u0)::(s1,u1)::bg,r0::r1::r2::r3::r4::bh⟩:=by
 subst e0;subst e1
 exact np φ (fun i=>⟨(s0,f0 i)::(s1,f1 i)::bg,g0 i::g1 i::g2 i::g3 i::g4 i::bh⟩) μ i0 h0 (ar dF.refl (ax.cons ag.ak q0 (ax.cons ag.ak q1 (ax.cons ag.ak q2 (ax.cons ag.ak q3 (ax.cons ag.ak q4 ax.refl)))))) hr
theorem aeg{ι:Type}{c:Code}{bg:List (Nat×Value)}{bh:List an}{s0 s1 s2:Nat}{u0 u1 u2:Value}{r0 r1 r2 r3 r4:an}(φ:ι→Prop)(f0 f1 f2:ι→Value)(g0 g1 g2 g3 g4:ι→an)(μ:ι→Nat)(i0:ι)(h0:φ i0)(e0:u0=f0 i0)(e1:u1=f1 i0)(e2:u2=f2 i0)(q0:cm r0 (g0 i0))(q1:cm r1 (g1 i0))(q2:cm r2 (g2 i0))(q3:cm r3 (g3 i0))(q4:cm r4 (g4 i0))
  (hr:∀i,φ i→aW P fn R X W n (.bn c:: .stop (lJ X W n φ (fun i=>⟨(s0,f0 i)::(s1,f1 i)::(s2,f2 i)::bg,g0 i::g1 i::g2 i::g3 i::g4 i::bh⟩) μ (μ i))::k) ⟨(s0,f0 i)::(s1,f1 i)::(s2,f2 i)::bg,g0 i::g1 i::g2 i::g3 i::g4 i::bh⟩):aW P fn R X W n (.bn (.loop c)::k) ⟨(s0,u0)::(s1,u1)::(s2,u2)::bg,r0::r1::r2::r3::r4::bh⟩:=by
 subst e0;subst e1;subst e2
 exact np φ (fun i=>⟨(s0,f0 i)::(s1,f1 i)::(s2,f2 i)::bg,g0 i::g1 i::g2 i::g3 i::g4 i::bh⟩) μ i0 h0 (ar dF.refl (ax.cons ag.ak q0 (ax.cons ag.ak q1 (ax.cons ag.ak q2 (ax.cons ag.ak q3 (ax.cons ag.ak q4 ax.refl)))))) hr
end
end Hr
end Go.Proofs.YtafaoccjbifbaaaGreat
