/- Regions that draw their order: quiet operations may be taken first, whatever the order; the others branch. Nothing here speaks of one program. -/
import Derived.Test.YtgphmbipakdggaaRHeavy
set_option linter.unusedSimpArgs false
set_option linter.unusedVariables false
namespace Go.Proofs.YtgphmbipakdggaaR
namespace Hr
open Go Go.RowKit

section
variable {P : Program} {ops : Array Oper} {C : World → Prop} {D : Nat → World → World → Prop} {Q : Act → World → Prop}

/-- All that a listed operation waits for is listed. -/
def Closed (ops : Array Oper) (listed : Array Bool) : Prop := ∀ j o, ops[j]? = some o → listed.getD j false = true → ∀ e ∈ o.after, Region.binds .any e = true → listed.getD e.on false = true

theorem Closed.step {listed : Array Bool} {j : Nat} (h : Closed ops listed) (hj : j ∈ Region.ready .any ops listed) : Closed ops (listed.setIfInBounds j true) := by
  intro i o hi hl e he hb
  refine getD_set_true ?_
  obtain ⟨_, oj, hoj, hall⟩ := mem_ready.1 hj
  by_cases hij : j = i
  · subst hij
    rw [hi] at hoj; cases hoj
    exact hall e he hb
  · rw [getD_set_ne false hij] at hl
    exact h i o hi hl e he hb

/-- Whatever order is picked from here on, in every world that has grown out of this one. -/
def AnyU (P : Program) (ops : Array Oper) (D : Nat → World → World → Prop) (Q : Act → World → Prop) (E : Exit → Act → World → Prop) : Nat → Array Bool → Act → World → Prop
  | 0, listed, a, w => ∀ w1, Kept nX w w1 → Region.ready .any ops listed = [] ∧ Q a w1
  | fuel + 1, listed, a, w => ∀ w1, Kept nX w w1 → (Region.ready .any ops listed = [] → Q a w1) ∧
      ∀ i ∈ Region.ready .any ops listed, wpOp P ops E i (fun a' w' => D i w1 w' ∧ AnyU P ops D Q E fuel (listed.setIfInBounds i true) a' w') a w1

theorem AnyU.up {E : Exit → Act → World → Prop} {fuel : Nat} {listed : Array Bool} {a : Act} {w w1 : World} (h : AnyU P ops D Q E fuel listed a w) (hk : Kept nX w w1) : AnyU P ops D Q E fuel listed a w1 := by
  cases fuel with
  | zero => exact fun w2 hk2 => h w2 (hk.step0 hk2)
  | succ fuel => exact fun w2 hk2 => h w2 (hk.step0 hk2)

theorem AnyU.any {E : Exit → Act → World → Prop} (hE : ∀ a w, Q a w → E .normal a w) : ∀ {fuel : Nat} {listed : Array Bool} {a : Act} {w : World}, AnyU P ops D Q E fuel listed a w → wpAny P .any ops E fuel listed a w
  | 0, _, _, w, h => ⟨(h w (Kept.refl _ _)).1, hE _ _ (h w (Kept.refl _ _)).2⟩
  | _ + 1, _, _, w, h => ⟨fun h0 => hE _ _ ((h w (Kept.refl _ _)).1 h0), fun i hi => wpOp_mono (fun _ _ h' => AnyU.any hE h'.2) ((h w (Kept.refl _ _)).2 i hi)⟩

/-- In frame a, in every world of the class, operation o yields v, and nothing that was there turns. -/
def YieldsU (P : Program) (ops : Array Oper) (C : World → Prop) (o : Oper) (v : Value) (a : Act) : Prop :=
  (Region.wanted o (yielded ops a.tmps) = true ∧ ∀ w, C w → ((execOp a.eval o).run P w = .ok (.value v) w ∨ ((execOp a.eval o).run P w = .ok .skip w ∧ v = undef) ∨
    ∃ f args, (execOp a.eval o).run P w = .ok (.enter f args) w ∧ Calls P f args w fun e w' => e = .returned v ∧ Kept nX w w')) ∨
  (Region.wanted o (yielded ops a.tmps) = false ∧ v = undef)

theorem YieldsU.wpOp {E : Exit → Act → World → Prop} {i : Nat} {o : Oper} {v : Value} {a : Act} {w : World} (hi : ops[i]? = some o) (h : YieldsU P ops C o v a) (hw : C w) {k : Act → World → Prop} (hk : ∀ w', Kept nX w w' → k (a.put o.dst v) w') : wpOp P ops E i k a w := by
  unfold Go.wpOp
  simp only [hi]
  rcases h with ⟨h1, h2⟩ | ⟨h1, rfl⟩
  · rw [if_pos h1]
    refine .inl ?_
    unfold Oper.wp
    rcases h2 w hw with h | ⟨h, h3⟩ | ⟨f, args, h, hc⟩
    · rw [h]; exact hk _ (Kept.refl _ _)
    · rw [h]; subst h3; exact hk _ (Kept.refl _ _)
    · rw [h]; exact hc.mono fun e w' ⟨he, hw⟩ => by subst he; exact hk _ hw
  · rw [if_neg (by rw [h1]; simp)]
    exact hk _ (Kept.refl _ _)

theorem YieldsU.of_put {o oj : Oper} {v u : Value} {a : Act} (hy : YieldsU P ops C o v a) (hs : ∀ cs b, o.op ≠ .select cs b) (h3 : ∀ d, oj.dst = some d → d ∉ o.looksAt ops) : YieldsU P ops C o v (a.put oj.dst u) := by
  unfold YieldsU at *
  rw [execOp_put o hs a oj.dst u h3, wanted_put o a oj.dst u h3]
  exact hy

/-- Nothing but the normal end. -/
def Only (Q : Act → World → Prop) : Exit → Act → World → Prop := fun e a w => e = .normal ∧ Q a w

theorem wpOp_putU {j : Nat} {oi oj : Oper} {v : Value} {T : Act → World → Prop} (hj : ops[j]? = some oj) (hap : oi.apart ops oj = true)
    (hsi : ∀ cs b, oi.op ≠ .select cs b) (hsj : ∀ cs b, oj.op ≠ .select cs b) {K : Act → World → Prop} {a : Act} {w : World}
    (hy : YieldsU P ops C oi v a) (h : wpOp P ops (Only T) j K (a.put oi.dst v) w) :
    wpOp P ops (Only T) j (fun a' w' => YieldsU P ops C oi v a' ∧ K (a'.put oi.dst v) w') a w := by
  obtain ⟨h1, h2, h3⟩ := Oper.apart_spec hap
  have keep : ∀ (a : Act), YieldsU P ops C oi v a → ∀ u, YieldsU P ops C oi v (a.put oj.dst u) := fun a hy u => hy.of_put hsi h3
  have keepD : ∀ d, YieldsU P ops C oi v { a with defers := d :: a.defers } := fun d => hy
  unfold wpOp at *
  simp only [hj] at *
  rw [wanted_put oj a oi.dst v h1] at h
  split
  · rename_i hw
    simp only [hw, if_true] at h
    rcases h with h | ⟨hasks, hlets⟩
    case inr => exact .inr ⟨by unfold Oper.asks at *; rw [execOp_put oj hsj a oi.dst v h1] at hasks; exact hasks, hlets⟩
    refine .inl ?_
    unfold Oper.wp at *
    rw [execOp_put oj hsj a oi.dst v h1] at h
    generalize (execOp a.eval oj).run P w = r at *
    cases r with
    | ok n w' =>
      cases n <;> simp only [Oper.upon] at h ⊢
      case value u => exact ⟨keep a hy u, by rw [← Act.put_comm a v u h2]; exact h⟩
      case skip => exact ⟨keep a hy _, by rw [← Act.put_comm a v undef h2]; exact h⟩
      case defer d =>
        refine ⟨keep _ (keepD d) _, ?_⟩
        rw [← Act.put_comm _ v undef h2, ← Act.put_defers]
        exact h
      case enter f args =>
        refine Calls.mono h fun e w'' he => ?_
        cases e with
        | returned u => exact ⟨keep a hy u, by rw [← Act.put_comm a v u h2]; exact he⟩
        | panicked c => exact absurd he.1 (by simp)
        | outgrown => exact he
      case row row args => exact Rows.mono h fun u w'' he => ⟨keep a hy u, by rw [← Act.put_comm a v u h2]; exact he⟩
    | halt x w' =>
      cases x <;> simp only [Oper.upon] at h ⊢
      case panic u => exact absurd h.1 (by simp)
  · rename_i hw
    simp only [hw] at h
    exact ⟨keep a hy _, by rw [← Act.put_comm a v undef h2]; exact h⟩

theorem AnyU.first {T : Act → World → Prop} {i : Nat} {oi : Oper} {v : Value} (hi : ops[i]? = some oi) (hsel : ∀ (j : Nat) (o : Oper) cs b, ops[j]? = some o → o.op ≠ .select cs b) (hup : ∀ w w', C w → Kept nX w w' → C w')
    (hDi : ∀ w1 w', Kept nX w1 w' → D i w1 w') (hD : ∀ listed j w1 w', Closed ops listed → listed.getD i true = false → j ∈ Region.ready .any ops listed → C w1 → D j w1 w' → C w') :
    ∀ (fuel : Nat) (listed : Array Bool) (a : Act) (w : World), Closed ops listed →
      (∀ j oj, ops[j]? = some oj → j ≠ i → listed.getD j true = false → (∀ e ∈ oj.after, Region.binds .any e = true → e.on ≠ i) → oi.apart ops oj = true) →
      i ∈ Region.ready .any ops listed → YieldsU P ops C oi v a → C w →
      AnyU P ops D Q (Only T) fuel (listed.setIfInBounds i true) (a.put oi.dst v) w → AnyU P ops D Q (Only T) (fuel + 1) listed a w := by
  intro fuel
  induction fuel with
  | zero =>
    intro listed a w _ _ hr hy hw H w1 hk1
    refine ⟨fun h => (by rw [h] at hr; cases hr), fun j hj => ?_⟩
    by_cases hji : j = i
    · subst hji; exact hy.wpOp hi (hup _ _ hw hk1) fun w' hk' => ⟨hDi _ _ hk', H.up (hk1.step0 hk')⟩
    · have := ready_mono hj hji
      rw [(H w1 hk1).1] at this
      cases this
  | succ fuel ih =>
    intro listed a w hcl hfree hr hy hw H w1 hk1
    refine ⟨fun h => (by rw [h] at hr; cases hr), fun j hj => ?_⟩
    by_cases hji : j = i
    · subst hji; exact hy.wpOp hi (hup _ _ hw hk1) fun w' hk' => ⟨hDi _ _ hk', H.up (hk1.step0 hk')⟩
    · have h1 := (H w1 hk1).2 j (ready_mono hj hji)
      obtain ⟨hjun, oj, hoj, hall⟩ := mem_ready.1 hj
      have hnot : ∀ e ∈ oj.after, Region.binds .any e = true → e.on ≠ i := fun e he hb heq => by
        have h1 := hall e he hb
        have h0 := (mem_ready.1 hr).1
        rw [heq] at h1
        rcases Nat.lt_or_ge i listed.size with h' | h'
        · simp [h'] at h0 h1; rw [h0] at h1; cases h1
        · simp [Array.getElem?_eq_none h'] at h1
      have h2 := wpOp_putU hoj (hfree j oj hoj hji hjun hnot) (fun cs b => hsel i oi cs b hi) (fun cs b => hsel j oj cs b hoj) hy h1
      have hfree' : ∀ k ok, ops[k]? = some ok → k ≠ i → (listed.setIfInBounds j true).getD k true = false →
          (∀ e ∈ ok.after, Region.binds .any e = true → e.on ≠ i) → oi.apart ops ok = true := fun k ok hk hki hun hno => by
        refine hfree k ok hk hki ?_ hno
        by_cases hjk : j = k
        · subst hjk; exact hjun
        · rw [getD_set_ne true hjk] at hun; exact hun
      refine wpOp_mono (fun a' w' h3 => ⟨h3.2.1, ih (listed.setIfInBounds j true) a' w' (hcl.step hj) hfree' (ready_mono hr (Ne.symm hji)) h3.1 (hD listed j w1 w' hcl (mem_ready.1 hr).1 hj (hup _ _ hw hk1) h3.2.1) ?_⟩) h2
      rw [Array.setIfInBounds_comm _ _ hji]
      exact h3.2.2
end

/-- An order of a region's operations in which each may be taken: (i, 0): quiet, taken first whatever else is ready; (i, 1), (i, 2): the only one that is ready; (i, 2): none of the quiet ones can come behind it. -/
def okOrder (ops : Array Oper) : List (Nat × Nat) → Array Bool → Bool
  | [], listed => (Region.ready .any ops listed).isEmpty
  | (i, 0) :: r, listed => (Region.ready .any ops listed).contains i && Region.free .any ops listed i && okOrder ops r (listed.setIfInBounds i true)
  | (i, _ + 1) :: r, listed => (Region.ready .any ops listed == [i]) && okOrder ops r (listed.setIfInBounds i true)
def tagOf : List (Nat × Nat) → Nat → Nat
  | [], _ => 1
  | (i, t) :: r, j => if i = j then t else tagOf r j
/-- Operation j waits for operation i itself. -/
def waits (ops : Array Oper) (j i : Nat) : Bool := match ops[j]? with
  | some o => o.after.any fun e => Region.binds .any e && e.on == i
  | none => false
def okChain (ops : Array Oper) : Nat → List Nat → Bool
  | _, [] => true
  | t, u :: r => waits ops u t && okChain ops u r
def okTail (ops : Array Oper) (ord : List (Nat × Nat)) : Bool :=
  match (ord.filter (·.2 == 2)).map (·.1) with
  | [] => true
  | t :: r => okChain ops t r && ((ord.filter (·.2 ≤ 1)).all fun p => p.1 < t && (t :: ((ord.filter (·.2 ≤ 1)).map (·.1))).any fun m => decide (p.1 < m) && decide (m ≤ t) && waits ops m p.1)
def okRegion (ops : Array Oper) (order : List (Nat × Nat)) : Bool := Region.noSelect ops && Nat.beq order.length ops.size && okOrder ops order (Array.replicate ops.size false) && okTail ops order

theorem waits_spec {ops : Array Oper} {j i : Nat} (h : waits ops j i = true) : ∃ o, ops[j]? = some o ∧ ∃ e ∈ o.after, Region.binds .any e = true ∧ e.on = i := by
  unfold waits at h
  cases ho : ops[j]? with
  | none => rw [ho] at h; cases h
  | some o =>
    rw [ho] at h
    simp only [Array.any_eq_true', Bool.and_eq_true, beq_iff_eq] at h
    obtain ⟨e, he, hb, hi⟩ := h
    exact ⟨o, rfl, e, he, hb, hi⟩

theorem tagOf_mem : ∀ {ord : List (Nat × Nat)} {j t : Nat}, tagOf ord j = t → t ≠ 1 → (j, t) ∈ ord
  | [], _, _, h, h1 => absurd h.symm h1
  | (i, u) :: r, j, t, h, h1 => by
    simp only [tagOf] at h
    split at h
    · rename_i e; subst e; subst h; exact List.mem_cons_self
    · exact List.mem_cons_of_mem _ (tagOf_mem h h1)

theorem okTail_spec {ops : Array Oper} {ord : List (Nat × Nat)} (h : okTail ops ord = true) {listed : Array Bool} (hcl : Closed ops listed) {i j : Nat} (hi : tagOf ord i = 0) (hj : tagOf ord j = 2) (hr : j ∈ Region.ready .any ops listed) : listed.getD i false = true := by
  have hi' := tagOf_mem hi (by decide)
  have hj' := tagOf_mem hj (by decide)
  unfold okTail at h
  have hjm : j ∈ (ord.filter (·.2 == 2)).map (·.1) := List.mem_map.2 ⟨(j, 2), List.mem_filter.2 ⟨hj', by simp⟩, rfl⟩
  obtain ⟨_, oj, hoj, hdeps⟩ := mem_ready.1 hr
  generalize (ord.filter (·.2 == 2)).map (·.1) = tails at h hjm
  cases tails with
  | nil => cases hjm
  | cons t r =>
    simp only [Bool.and_eq_true, List.all_eq_true, List.any_eq_true, decide_eq_true_eq] at h
    obtain ⟨hch, hpre⟩ := h
    -- what waits for t's own deps
    have hdt : ∀ o, ops[t]? = some o → ∀ e ∈ o.after, Region.binds .any e = true → listed.getD e.on false = true := by
      have key : ∀ (r : List Nat) (t : Nat), okChain ops t r = true → j ∈ t :: r → ∀ o, ops[t]? = some o → ∀ e ∈ o.after, Region.binds .any e = true → listed.getD e.on false = true := by
        intro r
        induction r with
        | nil =>
          intro t _ hm o ho e he hb
          simp only [List.mem_singleton] at hm
          subst hm
          rw [hoj] at ho; cases ho
          exact hdeps e he hb
        | cons u r ih =>
          intro t hc hm o ho e he hb
          simp only [okChain, Bool.and_eq_true] at hc
          rcases List.mem_cons.1 hm with rfl | hm
          · rw [hoj] at ho; cases ho
            exact hdeps e he hb
          · have h1 := ih u hc.2 hm
            obtain ⟨ou, hou, eu, heu, hbu, hon⟩ := waits_spec hc.1
            have h2 := h1 ou hou eu heu hbu
            rw [hon] at h2
            exact hcl t o ho h2 e he hb
      exact key r t hch hjm
    have main : ∀ (d i q : Nat), t - i ≤ d → q ≤ 1 → (i, q) ∈ ord → listed.getD i false = true := by
      intro d
      induction d with
      | zero =>
        intro i q hd hq him
        have := (hpre (i, q) (List.mem_filter.2 ⟨him, by simpa using hq⟩)).1
        simp only at this
        omega
      | succ d ih =>
        intro i q hd hq him
        obtain ⟨hlt, m, hm, hlm, hw⟩ := hpre (i, q) (List.mem_filter.2 ⟨him, by simpa using hq⟩)
        obtain ⟨om, hom, e, he, hb, hon⟩ := waits_spec hw
        rcases List.mem_cons.1 hm with rfl | hm
        · have := hdt om hom e he hb
          rwa [hon] at this
        · obtain ⟨p, hp, rfl⟩ := List.mem_map.1 hm
          have hp' := List.mem_filter.1 hp
          have hlist := ih p.1 p.2 (by simp only at hlm hlt; omega) (by simpa using hp'.2) hp'.1
          have := hcl p.1 om hom hlist e he hb
          rwa [hon] at this
    exact main _ i 0 (Nat.le_refl _) (by omega) hi'

section
variable {P : Program} {fn : Func} {R : Ending → World → Prop} {X : Nat → Prop} {W : World} {n : Nat} {k : List K} {S : St} {env : List (Nat × Value)} {mem : List Res} {M0 : List Res} {ops : Array Oper} {ord : List (Nat × Nat)}

def Core (X : Nat → Prop) (W : World) (M0 : List Res) (w : World) : Prop := Kept X W w ∧ Mem X W M0 w
theorem Core.up {w w' : World} (h : Core X W M0 w) (hk : Kept nX w w') : Core X W M0 w' := ⟨h.1.step0 hk, h.2.keep0 hk⟩

def Dcl (X : Nat → Prop) (W : World) (M0 : List Res) (ord : List (Nat × Nat)) (j : Nat) (w1 w' : World) : Prop :=
  match tagOf ord j with
  | 0 => Kept nX w1 w'
  | 2 => True
  | _ => Core X W M0 w'

/-- What is left of a drawn region: the operations of an order. -/
def RunD (P : Program) (fn : Func) (R : Ending → World → Prop) (X : Nat → Prop) (W : World) (n : Nat) (k : List K) (M0 : List Res) (ops : Array Oper) (ord order : List (Nat × Nat)) (S : St) : Prop :=
  ∀ listed, Region.noSelect ops = true → okTail ops ord = true → okOrder ops order listed = true → Closed ops listed → ∀ a w, Sat X W n S a w → ((∃ i, tagOf ord i = 0 ∧ listed.getD i true = false) → Core X W M0 w) →
    AnyU P ops (Dcl X W M0 ord) (fun a w => post P fn R k .normal a w) (Only fun a w => post P fn R k .normal a w) order.length listed a w

theorem run_draw {id : Nat} {l : List Oper} (order : List (Nat × Nat)) (hm : P.follows .mixedOrders = true) (hok : okRegion l.toArray order = true) (hM : MemSub S.mem M0) (h : RunD P fn R X W n k M0 l.toArray order order S) :
    Run P fn R X W n (.code (.region id l.toArray true) :: k) S := by
  intro a w hs
  simp only [okRegion, Bool.and_eq_true] at hok
  obtain ⟨⟨⟨h1, h2⟩, h3⟩, h4⟩ := hok
  have hlen : order.length = l.toArray.size := Nat.eq_of_beq_eq_true h2
  have hs' : Sat X W n S a { w with drawn := w.drawn + 1 } := hs.world (Kept.refl nX w).drew
  have hcl : Closed l.toArray (Array.replicate l.toArray.size false) := by
    intro j o hj hl
    rcases Nat.lt_or_ge j l.toArray.size with h' | h'
    · simp at h'; simp [h'] at hl
    · simp at h'; simp [h'] at hl
  have hd := h _ h1 h4 h3 hcl a _ hs' (fun _ => ⟨hs'.kept, (hM _ _ _ hs'.mem).1⟩)
  rw [hlen] at hd
  have := wp_region_any (P := P) (id := id) hm (AnyU.any (E := Only fun a w => post P fn R k .normal a w) (fun a w h => ⟨rfl, h⟩) hd)
  exact Code.wp_mono (fun e a w ⟨he, hq⟩ => by subst he; exact hq) this

theorem d_nil (h : Run P fn R X W n k S) : RunD P fn R X W n k M0 ops ord [] S := by
  intro listed _ _ hok _ a w hs _ w1 hk1
  exact ⟨by simpa [okOrder] using hok, h a w1 (hs.world hk1)⟩

theorem lt_of_ready {listed : Array Bool} {i : Nat} (h : i ∈ Region.ready .any ops listed) : listed.getD i true = false := (mem_ready.1 h).1

theorem d_first {i : Nat} {o : Oper} {v : Value} {r : List (Nat × Nat)} {listed : Array Bool} {a : Act} {w : World} (hi : ops[i]? = some o) (ht : tagOf ord i = 0) (hsel : Region.noSelect ops = true) (htl : okTail ops ord = true) (hok : okOrder ops ((i, 0) :: r) listed = true) (hcl : Closed ops listed)
    (hy : YieldsU P ops (Core X W M0) o v a) (hC : Core X W M0 w)
    (hk : okOrder ops r (listed.setIfInBounds i true) = true → Closed ops (listed.setIfInBounds i true) → AnyU P ops (Dcl X W M0 ord) (fun a w => post P fn R k .normal a w) (Only fun a w => post P fn R k .normal a w) r.length (listed.setIfInBounds i true) (a.put o.dst v) w) :
    AnyU P ops (Dcl X W M0 ord) (fun a w => post P fn R k .normal a w) (Only fun a w => post P fn R k .normal a w) ((i, 0) :: r).length listed a w := by
  simp only [okOrder, Bool.and_eq_true] at hok
  obtain ⟨⟨h1, h2⟩, h3⟩ := hok
  have hr : i ∈ Region.ready .any ops listed := by simpa using h1
  refine AnyU.first (C := Core X W M0) (v := v) hi (Region.noSelect_spec hsel) (fun _ _ => Core.up) (fun w1 w' hk => by unfold Dcl; rw [ht]; exact hk) (fun L j w1 w' hL hiL hj hC1 hD => ?_) _ _ _ _ hcl (Region.free_spec hi h2) hr hy hC (hk h3 (hcl.step hr))
  unfold Dcl at hD
  split at hD
  · exact hC1.up hD
  · rename_i hx
    exfalso
    have := okTail_spec htl hL ht hx hj
    rcases Nat.lt_or_ge i L.size with h' | h'
    · simp [h'] at this hiL; rw [hiL] at this; cases this
    · simp [h'] at this
  · exact hD

theorem d_q {i d : Nat} {o : Oper} {v : Value} {r : List (Nat × Nat)} (hi : ops[i]? = some o) (ht : tagOf ord i = 0) (hw : Want ops env o true) (hd : o.dst = some d) (hdn : Nat.blt d n = true) (h : Q1 P X W n ⟨env, M0⟩ o v)
    (hk : RunD P fn R X W n k M0 ops ord r ⟨(d, v) :: env, mem⟩) : RunD P fn R X W n k M0 ops ord ((i, 0) :: r) ⟨env, mem⟩ := by
  intro listed hsel htl hok hcl a w hs hC
  have hr : i ∈ Region.ready .any ops listed := by simp only [okOrder, Bool.and_eq_true] at hok; simpa using hok.1.1
  have hC' := hC ⟨i, ht, lt_of_ready hr⟩
  refine d_first hi ht hsel htl hok hcl (v := v) (.inl ⟨hw.eq hs, fun w' hw' => h a w' ⟨hs.size, hs.defers, hs.env, hw'.1, hw'.2⟩⟩) hC' fun h3 hcl' => ?_
  have := hk _ hsel htl h3 hcl' (a.put (some d) v) w (hs.put hdn v) (fun _ => hC')
  rw [hd]
  exact this

theorem d_split {r : List (Nat × Nat)} (t : Tmp) {c : Bool} (_ht : fnd S.env t = some (.bool c)) (h1 : c = true → RunD P fn R X W n k M0 ops ord r S) (h2 : c = false → RunD P fn R X W n k M0 ops ord r S) : RunD P fn R X W n k M0 ops ord r S := by
  cases c
  · exact h2 rfl
  · exact h1 rfl
theorem d_off {i d : Nat} {o : Oper} {r : List (Nat × Nat)} (hi : ops[i]? = some o) (ht : tagOf ord i = 0) (hw : Want ops env o false) (hd : o.dst = some d) (hdn : Nat.blt d n = true)
    (hk : RunD P fn R X W n k M0 ops ord r ⟨(d, undef) :: env, mem⟩) : RunD P fn R X W n k M0 ops ord ((i, 0) :: r) ⟨env, mem⟩ := by
  intro listed hsel htl hok hcl a w hs hC
  have hr : i ∈ Region.ready .any ops listed := by simp only [okOrder, Bool.and_eq_true] at hok; simpa using hok.1.1
  have hC' := hC ⟨i, ht, lt_of_ready hr⟩
  refine d_first hi ht hsel htl hok hcl (v := undef) (.inr ⟨hw.eq hs, rfl⟩) hC' fun h3 hcl' => ?_
  have := hk _ hsel htl h3 hcl' (a.put (some d) undef) w (hs.put hdn undef) (fun _ => hC')
  rw [hd]
  exact this

theorem d_sole {i t : Nat} {o : Oper} {r : List (Nat × Nat)} {ι : Type} {φ : ι → Prop} {next : ι → St} (hi : ops[i]? = some o) (hw : Want ops env o true) (h : H1 P X W n ⟨env, mem⟩ o φ next) (hD : ∀ j w1 w', φ j → Kept X W w' → Mem X W (next j).mem w' → Dcl X W M0 ord i w1 w')
    (hM : ∀ j, φ j → MemSub (next j).mem M0 ∨ tagOf ord i = 2)
    (hk : ∀ j, φ j → RunD P fn R X W n k M0 ops ord r (next j)) : RunD P fn R X W n k M0 ops ord ((i, t + 1) :: r) ⟨env, mem⟩ := by
  intro listed hsel htl hok hcl a w hs _ w1 hk1
  have hok' := hok
  simp only [okOrder, Bool.and_eq_true, beq_iff_eq] at hok
  obtain ⟨h1, h3⟩ := hok
  refine ⟨fun h0 => (by rw [h1] at h0; cases h0), fun j hj => ?_⟩
  rw [h1] at hj
  simp only [List.mem_singleton] at hj
  subst hj
  unfold wpOp
  simp only [hi]
  have hs1 := hs.world hk1
  rw [if_pos (hw.eq hs1)]
  refine .inl (h a w1 hs1 _ _ fun i' a' w' hφ hs' => ⟨hD i' w1 w' hφ hs'.kept hs'.mem, ?_⟩)
  refine hk i' hφ _ hsel htl h3 (hcl.step (by rw [h1]; simp)) a' w' hs' ?_
  rintro ⟨q, hq, hun⟩
  rcases hM i' hφ with hm | hm
  · exact ⟨hs'.kept, (hm _ _ _ hs'.mem).1⟩
  · have h5 := okTail_spec htl hcl hq hm (by rw [h1]; simp)
    have h6 := getD_set_true (i := j) h5
    rcases Nat.lt_or_ge q (listed.setIfInBounds j true).size with h' | h'
    · simp only [Array.getD_eq_getD_getElem?, Array.getElem?_eq_getElem h', Option.getD_some] at h6 hun
      rw [hun] at h6; cases h6
    · simp only [Array.getD_eq_getD_getElem?, Array.getElem?_eq_none h', Option.getD_none] at h6
      cases h6

/-- The only operation that is ready; the core stays. -/
theorem d_h {i : Nat} {o : Oper} {r : List (Nat × Nat)} {ι : Type} {φ : ι → Prop} {next : ι → St} (hi : ops[i]? = some o) (ht : tagOf ord i = 1) (hw : Want ops env o true) (h : H1 P X W n ⟨env, mem⟩ o φ next) (hM : ∀ j, φ j → MemSub (next j).mem M0)
    (hk : ∀ j, φ j → RunD P fn R X W n k M0 ops ord r (next j)) : RunD P fn R X W n k M0 ops ord ((i, 1) :: r) ⟨env, mem⟩ :=
  d_sole (t := 0) hi hw h (fun j w1 w' hφ hk hm => by unfold Dcl; rw [ht]; exact ⟨hk, (hM j hφ _ _ _ hm).1⟩) (fun j hφ => .inl (hM j hφ)) hk
/-- The only operation that is ready, behind all quiet ones. -/
theorem d_t {i : Nat} {o : Oper} {r : List (Nat × Nat)} {ι : Type} {φ : ι → Prop} {next : ι → St} (hi : ops[i]? = some o) (ht : tagOf ord i = 2) (hw : Want ops env o true) (h : H1 P X W n ⟨env, mem⟩ o φ next)
    (hk : ∀ j, φ j → RunD P fn R X W n k M0 ops ord r (next j)) : RunD P fn R X W n k M0 ops ord ((i, 2) :: r) ⟨env, mem⟩ :=
  d_sole (t := 1) hi hw h (fun j w1 w' _ _ _ => by unfold Dcl; rw [ht]; trivial) (fun _ _ => .inr ht) hk
theorem enterA {f : FuncId} {vs : List Value} {R : Ending → World → Prop} {c : Code} {m : List Res} (hf : P.funcs[f]? = some fn) (hn : fn.ntmps = n) (hb : fn.body = some c)
    (hz : Nat.ble vs.length n = true) (hm : Mem X W m W) (h : Run P fn R X W n [.code c] ⟨enum 0 vs, m⟩) : Calls P f vs.toArray W R :=
  enter hf hn hb (by simpa using hz) (fun k v hk => by
    obtain ⟨_, h2⟩ := fnd_enum vs 0 k v hk
    simpa using h2) hm h
theorem all1 {α : Type} {p : α → Prop} {x : α} (h : p x) : ∀ z ∈ [x], p z := by simpa using h
theorem all0 {α : Type} {p : α → Prop} : ∀ z ∈ ([] : List α), p z := by simp

/-- The element at a place. -/
def nth {α : Type} [Inhabited α] (l : List α) (q : Nat) : α := l.getD q default
theorem nth_get {α : Type} [Inhabited α] {l : List α} {q : Nat} (h : q < l.length) : l[q]? = some (nth l q) := by
  simp [nth, List.getElem?_eq_getElem h]
theorem drop_nth {α : Type} [Inhabited α] {l : List α} {q : Nat} (h : q < l.length) : l.drop q = nth l q :: l.drop (q + 1) := by
  rw [List.drop_eq_getElem_cons h]; simp [nth, List.getElem?_eq_getElem h]
theorem take_nth {α : Type} [Inhabited α] {l : List α} {q : Nat} (h : q < l.length) : l.take (q + 1) = l.take q ++ [nth l q] := by
  rw [List.take_succ_eq_append_getElem h]; simp [nth, List.getElem?_eq_getElem h]
theorem nth_map {α : Type} [Inhabited α] {f : α → Value} {l : List α} {q : Nat} (h : q < l.length) : (l.map f).toArray[q]? = some (f (nth l q)) := by
  simp [nth, h]
theorem getmap {α : Type} [Inhabited α] {enc : α → List Value} {l : List α} {q : Nat} (h : q < l.length) : (l.map enc)[q]? = some (enc (nth l q)) := by
  rw [List.getElem?_map, nth_get h]; rfl
theorem Sel.rest {rs l : List Res} {r : Res} (h : Sel rs r l) : MemSub rs l := (MemSub.perm h.perm).trans (.sub (List.sublist_cons_self _ _))

theorem run_loopC0M0 {ι : Type} {c : Code} {fixed : List (Nat × Value)} {mfix : List Res} (φ : ι → Prop) (μ : ι → Nat) (i0 : ι) (h0 : φ i0) 
    (hr : ∀ i, φ i → Run P fn R X W n (.code c :: .stop (Again X W n φ (fun i => ⟨fixed, mfix⟩) μ (μ i)) :: k) ⟨fixed, mfix⟩) : Run P fn R X W n (.code (.loop c) :: k) ⟨fixed, mfix⟩ := by
  exact run_loop φ (fun i => ⟨fixed, mfix⟩) μ i0 h0 (subMk EnvSub.refl MemSub.refl) hr
theorem run_cutC0M0 {ι : Type} {c : Code} {fixed : List (Nat × Value)} {mfix : List Res} (φ : ι → Prop) 
    (h : Run P fn R X W n (.code c :: .stop (Fam X W n φ (fun i => ⟨fixed, mfix⟩)) :: k) ⟨fixed, mfix⟩) (h' : ∀ i, φ i → Run P fn R X W n k ⟨fixed, mfix⟩) : Run P fn R X W n (.code c :: k) ⟨fixed, mfix⟩ :=
  run_cut φ (fun i => ⟨fixed, mfix⟩) h h'
theorem run_loopC0M1 {ι : Type} {c : Code} {fixed : List (Nat × Value)} {mfix : List Res} {r0 : Res} (φ : ι → Prop) (g0 : ι → Res) (μ : ι → Nat) (i0 : ι) (h0 : φ i0) (q0 : ResSub r0 (g0 i0)) 
    (hr : ∀ i, φ i → Run P fn R X W n (.code c :: .stop (Again X W n φ (fun i => ⟨fixed, g0 i :: mfix⟩) μ (μ i)) :: k) ⟨fixed, g0 i :: mfix⟩) : Run P fn R X W n (.code (.loop c) :: k) ⟨fixed, r0 :: mfix⟩ := by
  exact run_loop φ (fun i => ⟨fixed, g0 i :: mfix⟩) μ i0 h0 (subMk EnvSub.refl (MemSub.cons Sel.here q0 MemSub.refl)) hr
theorem run_cutC0M1 {ι : Type} {c : Code} {fixed : List (Nat × Value)} {mfix : List Res} {r0 : Res} (φ : ι → Prop) (g0 : ι → Res) 
    (h : Run P fn R X W n (.code c :: .stop (Fam X W n φ (fun i => ⟨fixed, g0 i :: mfix⟩)) :: k) ⟨fixed, r0 :: mfix⟩) (h' : ∀ i, φ i → Run P fn R X W n k ⟨fixed, g0 i :: mfix⟩) : Run P fn R X W n (.code c :: k) ⟨fixed, r0 :: mfix⟩ :=
  run_cut φ (fun i => ⟨fixed, g0 i :: mfix⟩) h h'
theorem run_loopC0M2 {ι : Type} {c : Code} {fixed : List (Nat × Value)} {mfix : List Res} {r0 r1 : Res} (φ : ι → Prop) (g0 g1 : ι → Res) (μ : ι → Nat) (i0 : ι) (h0 : φ i0) (q0 : ResSub r0 (g0 i0)) (q1 : ResSub r1 (g1 i0)) 
    (hr : ∀ i, φ i → Run P fn R X W n (.code c :: .stop (Again X W n φ (fun i => ⟨fixed, g0 i :: g1 i :: mfix⟩) μ (μ i)) :: k) ⟨fixed, g0 i :: g1 i :: mfix⟩) : Run P fn R X W n (.code (.loop c) :: k) ⟨fixed, r0 :: r1 :: mfix⟩ := by
  exact run_loop φ (fun i => ⟨fixed, g0 i :: g1 i :: mfix⟩) μ i0 h0 (subMk EnvSub.refl (MemSub.cons Sel.here q0 (MemSub.cons Sel.here q1 MemSub.refl))) hr
theorem run_cutC0M2 {ι : Type} {c : Code} {fixed : List (Nat × Value)} {mfix : List Res} {r0 r1 : Res} (φ : ι → Prop) (g0 g1 : ι → Res) 
    (h : Run P fn R X W n (.code c :: .stop (Fam X W n φ (fun i => ⟨fixed, g0 i :: g1 i :: mfix⟩)) :: k) ⟨fixed, r0 :: r1 :: mfix⟩) (h' : ∀ i, φ i → Run P fn R X W n k ⟨fixed, g0 i :: g1 i :: mfix⟩) : Run P fn R X W n (.code c :: k) ⟨fixed, r0 :: r1 :: mfix⟩ :=
  run_cut φ (fun i => ⟨fixed, g0 i :: g1 i :: mfix⟩) h h'
theorem run_loopC0M3 {ι : Type} {c : Code} {fixed : List (Nat × Value)} {mfix : List Res} {r0 r1 r2 : Res} (φ : ι → Prop) (g0 g1 g2 : ι → Res) (μ : ι → Nat) (i0 : ι) (h0 : φ i0) (q0 : ResSub r0 (g0 i0)) (q1 : ResSub r1 (g1 i0)) (q2 : ResSub r2 (g2 i0)) 
    (hr : ∀ i, φ i → Run P fn R X W n (.code c :: .stop (Again X W n φ (fun i => ⟨fixed, g0 i :: g1 i :: g2 i :: mfix⟩) μ (μ i)) :: k) ⟨fixed, g0 i :: g1 i :: g2 i :: mfix⟩) : Run P fn R X W n (.code (.loop c) :: k) ⟨fixed, r0 :: r1 :: r2 :: mfix⟩ := by
  exact run_loop φ (fun i => ⟨fixed, g0 i :: g1 i :: g2 i :: mfix⟩) μ i0 h0 (subMk EnvSub.refl (MemSub.cons Sel.here q0 (MemSub.cons Sel.here q1 (MemSub.cons Sel.here q2 MemSub.refl)))) hr
theorem run_cutC0M3 {ι : Type} {c : Code} {fixed : List (Nat × Value)} {mfix : List Res} {r0 r1 r2 : Res} (φ : ι → Prop) (g0 g1 g2 : ι → Res) 
    (h : Run P fn R X W n (.code c :: .stop (Fam X W n φ (fun i => ⟨fixed, g0 i :: g1 i :: g2 i :: mfix⟩)) :: k) ⟨fixed, r0 :: r1 :: r2 :: mfix⟩) (h' : ∀ i, φ i → Run P fn R X W n k ⟨fixed, g0 i :: g1 i :: g2 i :: mfix⟩) : Run P fn R X W n (.code c :: k) ⟨fixed, r0 :: r1 :: r2 :: mfix⟩ :=
  run_cut φ (fun i => ⟨fixed, g0 i :: g1 i :: g2 i :: mfix⟩) h h'
theorem run_loopC1M0 {ι : Type} {c : Code} {fixed : List (Nat × Value)} {mfix : List Res} {s0 : Nat} {u0 : Value} (φ : ι → Prop) (f0 : ι → Value) (μ : ι → Nat) (i0 : ι) (h0 : φ i0) (e0 : u0 = f0 i0) 
    (hr : ∀ i, φ i → Run P fn R X W n (.code c :: .stop (Again X W n φ (fun i => ⟨(s0, f0 i) :: fixed, mfix⟩) μ (μ i)) :: k) ⟨(s0, f0 i) :: fixed, mfix⟩) : Run P fn R X W n (.code (.loop c) :: k) ⟨(s0, u0) :: fixed, mfix⟩ := by
  subst e0
  exact run_loop φ (fun i => ⟨(s0, f0 i) :: fixed, mfix⟩) μ i0 h0 (subMk EnvSub.refl MemSub.refl) hr
theorem run_cutC1M0 {ι : Type} {c : Code} {fixed : List (Nat × Value)} {mfix : List Res} {s0 : Nat} {u0 : Value} (φ : ι → Prop) (f0 : ι → Value) 
    (h : Run P fn R X W n (.code c :: .stop (Fam X W n φ (fun i => ⟨(s0, f0 i) :: fixed, mfix⟩)) :: k) ⟨(s0, u0) :: fixed, mfix⟩) (h' : ∀ i, φ i → Run P fn R X W n k ⟨(s0, f0 i) :: fixed, mfix⟩) : Run P fn R X W n (.code c :: k) ⟨(s0, u0) :: fixed, mfix⟩ :=
  run_cut φ (fun i => ⟨(s0, f0 i) :: fixed, mfix⟩) h h'
theorem run_loopC1M1 {ι : Type} {c : Code} {fixed : List (Nat × Value)} {mfix : List Res} {s0 : Nat} {u0 : Value} {r0 : Res} (φ : ι → Prop) (f0 : ι → Value) (g0 : ι → Res) (μ : ι → Nat) (i0 : ι) (h0 : φ i0) (e0 : u0 = f0 i0) (q0 : ResSub r0 (g0 i0)) 
    (hr : ∀ i, φ i → Run P fn R X W n (.code c :: .stop (Again X W n φ (fun i => ⟨(s0, f0 i) :: fixed, g0 i :: mfix⟩) μ (μ i)) :: k) ⟨(s0, f0 i) :: fixed, g0 i :: mfix⟩) : Run P fn R X W n (.code (.loop c) :: k) ⟨(s0, u0) :: fixed, r0 :: mfix⟩ := by
  subst e0
  exact run_loop φ (fun i => ⟨(s0, f0 i) :: fixed, g0 i :: mfix⟩) μ i0 h0 (subMk EnvSub.refl (MemSub.cons Sel.here q0 MemSub.refl)) hr
theorem run_cutC1M1 {ι : Type} {c : Code} {fixed : List (Nat × Value)} {mfix : List Res} {s0 : Nat} {u0 : Value} {r0 : Res} (φ : ι → Prop) (f0 : ι → Value) (g0 : ι → Res) 
    (h : Run P fn R X W n (.code c :: .stop (Fam X W n φ (fun i => ⟨(s0, f0 i) :: fixed, g0 i :: mfix⟩)) :: k) ⟨(s0, u0) :: fixed, r0 :: mfix⟩) (h' : ∀ i, φ i → Run P fn R X W n k ⟨(s0, f0 i) :: fixed, g0 i :: mfix⟩) : Run P fn R X W n (.code c :: k) ⟨(s0, u0) :: fixed, r0 :: mfix⟩ :=
  run_cut φ (fun i => ⟨(s0, f0 i) :: fixed, g0 i :: mfix⟩) h h'
theorem run_loopC1M2 {ι : Type} {c : Code} {fixed : List (Nat × Value)} {mfix : List Res} {s0 : Nat} {u0 : Value} {r0 r1 : Res} (φ : ι → Prop) (f0 : ι → Value) (g0 g1 : ι → Res) (μ : ι → Nat) (i0 : ι) (h0 : φ i0) (e0 : u0 = f0 i0) (q0 : ResSub r0 (g0 i0)) (q1 : ResSub r1 (g1 i0)) 
    (hr : ∀ i, φ i → Run P fn R X W n (.code c :: .stop (Again X W n φ (fun i => ⟨(s0, f0 i) :: fixed, g0 i :: g1 i :: mfix⟩) μ (μ i)) :: k) ⟨(s0, f0 i) :: fixed, g0 i :: g1 i :: mfix⟩) : Run P fn R X W n (.code (.loop c) :: k) ⟨(s0, u0) :: fixed, r0 :: r1 :: mfix⟩ := by
  subst e0
  exact run_loop φ (fun i => ⟨(s0, f0 i) :: fixed, g0 i :: g1 i :: mfix⟩) μ i0 h0 (subMk EnvSub.refl (MemSub.cons Sel.here q0 (MemSub.cons Sel.here q1 MemSub.refl))) hr
theorem run_cutC1M2 {ι : Type} {c : Code} {fixed : List (Nat × Value)} {mfix : List Res} {s0 : Nat} {u0 : Value} {r0 r1 : Res} (φ : ι → Prop) (f0 : ι → Value) (g0 g1 : ι → Res) 
    (h : Run P fn R X W n (.code c :: .stop (Fam X W n φ (fun i => ⟨(s0, f0 i) :: fixed, g0 i :: g1 i :: mfix⟩)) :: k) ⟨(s0, u0) :: fixed, r0 :: r1 :: mfix⟩) (h' : ∀ i, φ i → Run P fn R X W n k ⟨(s0, f0 i) :: fixed, g0 i :: g1 i :: mfix⟩) : Run P fn R X W n (.code c :: k) ⟨(s0, u0) :: fixed, r0 :: r1 :: mfix⟩ :=
  run_cut φ (fun i => ⟨(s0, f0 i) :: fixed, g0 i :: g1 i :: mfix⟩) h h'
theorem run_loopC1M3 {ι : Type} {c : Code} {fixed : List (Nat × Value)} {mfix : List Res} {s0 : Nat} {u0 : Value} {r0 r1 r2 : Res} (φ : ι → Prop) (f0 : ι → Value) (g0 g1 g2 : ι → Res) (μ : ι → Nat) (i0 : ι) (h0 : φ i0) (e0 : u0 = f0 i0) (q0 : ResSub r0 (g0 i0)) (q1 : ResSub r1 (g1 i0)) (q2 : ResSub r2 (g2 i0)) 
    (hr : ∀ i, φ i → Run P fn R X W n (.code c :: .stop (Again X W n φ (fun i => ⟨(s0, f0 i) :: fixed, g0 i :: g1 i :: g2 i :: mfix⟩) μ (μ i)) :: k) ⟨(s0, f0 i) :: fixed, g0 i :: g1 i :: g2 i :: mfix⟩) : Run P fn R X W n (.code (.loop c) :: k) ⟨(s0, u0) :: fixed, r0 :: r1 :: r2 :: mfix⟩ := by
  subst e0
  exact run_loop φ (fun i => ⟨(s0, f0 i) :: fixed, g0 i :: g1 i :: g2 i :: mfix⟩) μ i0 h0 (subMk EnvSub.refl (MemSub.cons Sel.here q0 (MemSub.cons Sel.here q1 (MemSub.cons Sel.here q2 MemSub.refl)))) hr
theorem run_cutC1M3 {ι : Type} {c : Code} {fixed : List (Nat × Value)} {mfix : List Res} {s0 : Nat} {u0 : Value} {r0 r1 r2 : Res} (φ : ι → Prop) (f0 : ι → Value) (g0 g1 g2 : ι → Res) 
    (h : Run P fn R X W n (.code c :: .stop (Fam X W n φ (fun i => ⟨(s0, f0 i) :: fixed, g0 i :: g1 i :: g2 i :: mfix⟩)) :: k) ⟨(s0, u0) :: fixed, r0 :: r1 :: r2 :: mfix⟩) (h' : ∀ i, φ i → Run P fn R X W n k ⟨(s0, f0 i) :: fixed, g0 i :: g1 i :: g2 i :: mfix⟩) : Run P fn R X W n (.code c :: k) ⟨(s0, u0) :: fixed, r0 :: r1 :: r2 :: mfix⟩ :=
  run_cut φ (fun i => ⟨(s0, f0 i) :: fixed, g0 i :: g1 i :: g2 i :: mfix⟩) h h'
theorem run_loopC2M0 {ι : Type} {c : Code} {fixed : List (Nat × Value)} {mfix : List Res} {s0 s1 : Nat} {u0 u1 : Value} (φ : ι → Prop) (f0 f1 : ι → Value) (μ : ι → Nat) (i0 : ι) (h0 : φ i0) (e0 : u0 = f0 i0) (e1 : u1 = f1 i0) 
    (hr : ∀ i, φ i → Run P fn R X W n (.code c :: .stop (Again X W n φ (fun i => ⟨(s0, f0 i) :: (s1, f1 i) :: fixed, mfix⟩) μ (μ i)) :: k) ⟨(s0, f0 i) :: (s1, f1 i) :: fixed, mfix⟩) : Run P fn R X W n (.code (.loop c) :: k) ⟨(s0, u0) :: (s1, u1) :: fixed, mfix⟩ := by
  subst e0; subst e1
  exact run_loop φ (fun i => ⟨(s0, f0 i) :: (s1, f1 i) :: fixed, mfix⟩) μ i0 h0 (subMk EnvSub.refl MemSub.refl) hr
theorem run_cutC2M0 {ι : Type} {c : Code} {fixed : List (Nat × Value)} {mfix : List Res} {s0 s1 : Nat} {u0 u1 : Value} (φ : ι → Prop) (f0 f1 : ι → Value) 
    (h : Run P fn R X W n (.code c :: .stop (Fam X W n φ (fun i => ⟨(s0, f0 i) :: (s1, f1 i) :: fixed, mfix⟩)) :: k) ⟨(s0, u0) :: (s1, u1) :: fixed, mfix⟩) (h' : ∀ i, φ i → Run P fn R X W n k ⟨(s0, f0 i) :: (s1, f1 i) :: fixed, mfix⟩) : Run P fn R X W n (.code c :: k) ⟨(s0, u0) :: (s1, u1) :: fixed, mfix⟩ :=
  run_cut φ (fun i => ⟨(s0, f0 i) :: (s1, f1 i) :: fixed, mfix⟩) h h'
theorem run_loopC2M1 {ι : Type} {c : Code} {fixed : List (Nat × Value)} {mfix : List Res} {s0 s1 : Nat} {u0 u1 : Value} {r0 : Res} (φ : ι → Prop) (f0 f1 : ι → Value) (g0 : ι → Res) (μ : ι → Nat) (i0 : ι) (h0 : φ i0) (e0 : u0 = f0 i0) (e1 : u1 = f1 i0) (q0 : ResSub r0 (g0 i0)) 
    (hr : ∀ i, φ i → Run P fn R X W n (.code c :: .stop (Again X W n φ (fun i => ⟨(s0, f0 i) :: (s1, f1 i) :: fixed, g0 i :: mfix⟩) μ (μ i)) :: k) ⟨(s0, f0 i) :: (s1, f1 i) :: fixed, g0 i :: mfix⟩) : Run P fn R X W n (.code (.loop c) :: k) ⟨(s0, u0) :: (s1, u1) :: fixed, r0 :: mfix⟩ := by
  subst e0; subst e1
  exact run_loop φ (fun i => ⟨(s0, f0 i) :: (s1, f1 i) :: fixed, g0 i :: mfix⟩) μ i0 h0 (subMk EnvSub.refl (MemSub.cons Sel.here q0 MemSub.refl)) hr
theorem run_cutC2M1 {ι : Type} {c : Code} {fixed : List (Nat × Value)} {mfix : List Res} {s0 s1 : Nat} {u0 u1 : Value} {r0 : Res} (φ : ι → Prop) (f0 f1 : ι → Value) (g0 : ι → Res) 
    (h : Run P fn R X W n (.code c :: .stop (Fam X W n φ (fun i => ⟨(s0, f0 i) :: (s1, f1 i) :: fixed, g0 i :: mfix⟩)) :: k) ⟨(s0, u0) :: (s1, u1) :: fixed, r0 :: mfix⟩) (h' : ∀ i, φ i → Run P fn R X W n k ⟨(s0, f0 i) :: (s1, f1 i) :: fixed, g0 i :: mfix⟩) : Run P fn R X W n (.code c :: k) ⟨(s0, u0) :: (s1, u1) :: fixed, r0 :: mfix⟩ :=
  run_cut φ (fun i => ⟨(s0, f0 i) :: (s1, f1 i) :: fixed, g0 i :: mfix⟩) h h'
theorem run_loopC2M2 {ι : Type} {c : Code} {fixed : List (Nat × Value)} {mfix : List Res} {s0 s1 : Nat} {u0 u1 : Value} {r0 r1 : Res} (φ : ι → Prop) (f0 f1 : ι → Value) (g0 g1 : ι → Res) (μ : ι → Nat) (i0 : ι) (h0 : φ i0) (e0 : u0 = f0 i0) (e1 : u1 = f1 i0) (q0 : ResSub r0 (g0 i0)) (q1 : ResSub r1 (g1 i0)) 
    (hr : ∀ i, φ i → Run P fn R X W n (.code c :: .stop (Again X W n φ (fun i => ⟨(s0, f0 i) :: (s1, f1 i) :: fixed, g0 i :: g1 i :: mfix⟩) μ (μ i)) :: k) ⟨(s0, f0 i) :: (s1, f1 i) :: fixed, g0 i :: g1 i :: mfix⟩) : Run P fn R X W n (.code (.loop c) :: k) ⟨(s0, u0) :: (s1, u1) :: fixed, r0 :: r1 :: mfix⟩ := by
  subst e0; subst e1
  exact run_loop φ (fun i => ⟨(s0, f0 i) :: (s1, f1 i) :: fixed, g0 i :: g1 i :: mfix⟩) μ i0 h0 (subMk EnvSub.refl (MemSub.cons Sel.here q0 (MemSub.cons Sel.here q1 MemSub.refl))) hr
theorem run_cutC2M2 {ι : Type} {c : Code} {fixed : List (Nat × Value)} {mfix : List Res} {s0 s1 : Nat} {u0 u1 : Value} {r0 r1 : Res} (φ : ι → Prop) (f0 f1 : ι → Value) (g0 g1 : ι → Res) 
    (h : Run P fn R X W n (.code c :: .stop (Fam X W n φ (fun i => ⟨(s0, f0 i) :: (s1, f1 i) :: fixed, g0 i :: g1 i :: mfix⟩)) :: k) ⟨(s0, u0) :: (s1, u1) :: fixed, r0 :: r1 :: mfix⟩) (h' : ∀ i, φ i → Run P fn R X W n k ⟨(s0, f0 i) :: (s1, f1 i) :: fixed, g0 i :: g1 i :: mfix⟩) : Run P fn R X W n (.code c :: k) ⟨(s0, u0) :: (s1, u1) :: fixed, r0 :: r1 :: mfix⟩ :=
  run_cut φ (fun i => ⟨(s0, f0 i) :: (s1, f1 i) :: fixed, g0 i :: g1 i :: mfix⟩) h h'
theorem run_loopC2M3 {ι : Type} {c : Code} {fixed : List (Nat × Value)} {mfix : List Res} {s0 s1 : Nat} {u0 u1 : Value} {r0 r1 r2 : Res} (φ : ι → Prop) (f0 f1 : ι → Value) (g0 g1 g2 : ι → Res) (μ : ι → Nat) (i0 : ι) (h0 : φ i0) (e0 : u0 = f0 i0) (e1 : u1 = f1 i0) (q0 : ResSub r0 (g0 i0)) (q1 : ResSub r1 (g1 i0)) (q2 : ResSub r2 (g2 i0)) 
    (hr : ∀ i, φ i → Run P fn R X W n (.code c :: .stop (Again X W n φ (fun i => ⟨(s0, f0 i) :: (s1, f1 i) :: fixed, g0 i :: g1 i :: g2 i :: mfix⟩) μ (μ i)) :: k) ⟨(s0, f0 i) :: (s1, f1 i) :: fixed, g0 i :: g1 i :: g2 i :: mfix⟩) : Run P fn R X W n (.code (.loop c) :: k) ⟨(s0, u0) :: (s1, u1) :: fixed, r0 :: r1 :: r2 :: mfix⟩ := by
  subst e0; subst e1
  exact run_loop φ (fun i => ⟨(s0, f0 i) :: (s1, f1 i) :: fixed, g0 i :: g1 i :: g2 i :: mfix⟩) μ i0 h0 (subMk EnvSub.refl (MemSub.cons Sel.here q0 (MemSub.cons Sel.here q1 (MemSub.cons Sel.here q2 MemSub.refl)))) hr
theorem run_cutC2M3 {ι : Type} {c : Code} {fixed : List (Nat × Value)} {mfix : List Res} {s0 s1 : Nat} {u0 u1 : Value} {r0 r1 r2 : Res} (φ : ι → Prop) (f0 f1 : ι → Value) (g0 g1 g2 : ι → Res) 
    (h : Run P fn R X W n (.code c :: .stop (Fam X W n φ (fun i => ⟨(s0, f0 i) :: (s1, f1 i) :: fixed, g0 i :: g1 i :: g2 i :: mfix⟩)) :: k) ⟨(s0, u0) :: (s1, u1) :: fixed, r0 :: r1 :: r2 :: mfix⟩) (h' : ∀ i, φ i → Run P fn R X W n k ⟨(s0, f0 i) :: (s1, f1 i) :: fixed, g0 i :: g1 i :: g2 i :: mfix⟩) : Run P fn R X W n (.code c :: k) ⟨(s0, u0) :: (s1, u1) :: fixed, r0 :: r1 :: r2 :: mfix⟩ :=
  run_cut φ (fun i => ⟨(s0, f0 i) :: (s1, f1 i) :: fixed, g0 i :: g1 i :: g2 i :: mfix⟩) h h'
theorem run_loopC3M0 {ι : Type} {c : Code} {fixed : List (Nat × Value)} {mfix : List Res} {s0 s1 s2 : Nat} {u0 u1 u2 : Value} (φ : ι → Prop) (f0 f1 f2 : ι → Value) (μ : ι → Nat) (i0 : ι) (h0 : φ i0) (e0 : u0 = f0 i0) (e1 : u1 = f1 i0) (e2 : u2 = f2 i0) 
    (hr : ∀ i, φ i → Run P fn R X W n (.code c :: .stop (Again X W n φ (fun i => ⟨(s0, f0 i) :: (s1, f1 i) :: (s2, f2 i) :: fixed, mfix⟩) μ (μ i)) :: k) ⟨(s0, f0 i) :: (s1, f1 i) :: (s2, f2 i) :: fixed, mfix⟩) : Run P fn R X W n (.code (.loop c) :: k) ⟨(s0, u0) :: (s1, u1) :: (s2, u2) :: fixed, mfix⟩ := by
  subst e0; subst e1; subst e2
  exact run_loop φ (fun i => ⟨(s0, f0 i) :: (s1, f1 i) :: (s2, f2 i) :: fixed, mfix⟩) μ i0 h0 (subMk EnvSub.refl MemSub.refl) hr
theorem run_cutC3M0 {ι : Type} {c : Code} {fixed : List (Nat × Value)} {mfix : List Res} {s0 s1 s2 : Nat} {u0 u1 u2 : Value} (φ : ι → Prop) (f0 f1 f2 : ι → Value) 
    (h : Run P fn R X W n (.code c :: .stop (Fam X W n φ (fun i => ⟨(s0, f0 i) :: (s1, f1 i) :: (s2, f2 i) :: fixed, mfix⟩)) :: k) ⟨(s0, u0) :: (s1, u1) :: (s2, u2) :: fixed, mfix⟩) (h' : ∀ i, φ i → Run P fn R X W n k ⟨(s0, f0 i) :: (s1, f1 i) :: (s2, f2 i) :: fixed, mfix⟩) : Run P fn R X W n (.code c :: k) ⟨(s0, u0) :: (s1, u1) :: (s2, u2) :: fixed, mfix⟩ :=
  run_cut φ (fun i => ⟨(s0, f0 i) :: (s1, f1 i) :: (s2, f2 i) :: fixed, mfix⟩) h h'
theorem run_loopC3M1 {ι : Type} {c : Code} {fixed : List (Nat × Value)} {mfix : List Res} {s0 s1 s2 : Nat} {u0 u1 u2 : Value} {r0 : Res} (φ : ι → Prop) (f0 f1 f2 : ι → Value) (g0 : ι → Res) (μ : ι → Nat) (i0 : ι) (h0 : φ i0) (e0 : u0 = f0 i0) (e1 : u1 = f1 i0) (e2 : u2 = f2 i0) (q0 : ResSub r0 (g0 i0)) 
    (hr : ∀ i, φ i → Run P fn R X W n (.code c :: .stop (Again X W n φ (fun i => ⟨(s0, f0 i) :: (s1, f1 i) :: (s2, f2 i) :: fixed, g0 i :: mfix⟩) μ (μ i)) :: k) ⟨(s0, f0 i) :: (s1, f1 i) :: (s2, f2 i) :: fixed, g0 i :: mfix⟩) : Run P fn R X W n (.code (.loop c) :: k) ⟨(s0, u0) :: (s1, u1) :: (s2, u2) :: fixed, r0 :: mfix⟩ := by
  subst e0; subst e1; subst e2
  exact run_loop φ (fun i => ⟨(s0, f0 i) :: (s1, f1 i) :: (s2, f2 i) :: fixed, g0 i :: mfix⟩) μ i0 h0 (subMk EnvSub.refl (MemSub.cons Sel.here q0 MemSub.refl)) hr
theorem run_cutC3M1 {ι : Type} {c : Code} {fixed : List (Nat × Value)} {mfix : List Res} {s0 s1 s2 : Nat} {u0 u1 u2 : Value} {r0 : Res} (φ : ι → Prop) (f0 f1 f2 : ι → Value) (g0 : ι → Res) 
    (h : Run P fn R X W n (.code c :: .stop (Fam X W n φ (fun i => ⟨(s0, f0 i) :: (s1, f1 i) :: (s2, f2 i) :: fixed, g0 i :: mfix⟩)) :: k) ⟨(s0, u0) :: (s1, u1) :: (s2, u2) :: fixed, r0 :: mfix⟩) (h' : ∀ i, φ i → Run P fn R X W n k ⟨(s0, f0 i) :: (s1, f1 i) :: (s2, f2 i) :: fixed, g0 i :: mfix⟩) : Run P fn R X W n (.code c :: k) ⟨(s0, u0) :: (s1, u1) :: (s2, u2) :: fixed, r0 :: mfix⟩ :=
  run_cut φ (fun i => ⟨(s0, f0 i) :: (s1, f1 i) :: (s2, f2 i) :: fixed, g0 i :: mfix⟩) h h'
theorem run_loopC3M2 {ι : Type} {c : Code} {fixed : List (Nat × Value)} {mfix : List Res} {s0 s1 s2 : Nat} {u0 u1 u2 : Value} {r0 r1 : Res} (φ : ι → Prop) (f0 f1 f2 : ι → Value) (g0 g1 : ι → Res) (μ : ι → Nat) (i0 : ι) (h0 : φ i0) (e0 : u0 = f0 i0) (e1 : u1 = f1 i0) (e2 : u2 = f2 i0) (q0 : ResSub r0 (g0 i0)) (q1 : ResSub r1 (g1 i0)) 
    (hr : ∀ i, φ i → Run P fn R X W n (.code c :: .stop (Again X W n φ (fun i => ⟨(s0, f0 i) :: (s1, f1 i) :: (s2, f2 i) :: fixed, g0 i :: g1 i :: mfix⟩) μ (μ i)) :: k) ⟨(s0, f0 i) :: (s1, f1 i) :: (s2, f2 i) :: fixed, g0 i :: g1 i :: mfix⟩) : Run P fn R X W n (.code (.loop c) :: k) ⟨(s0, u0) :: (s1, u1) :: (s2, u2) :: fixed, r0 :: r1 :: mfix⟩ := by
  subst e0; subst e1; subst e2
  exact run_loop φ (fun i => ⟨(s0, f0 i) :: (s1, f1 i) :: (s2, f2 i) :: fixed, g0 i :: g1 i :: mfix⟩) μ i0 h0 (subMk EnvSub.refl (MemSub.cons Sel.here q0 (MemSub.cons Sel.here q1 MemSub.refl))) hr
theorem run_cutC3M2 {ι : Type} {c : Code} {fixed : List (Nat × Value)} {mfix : List Res} {s0 s1 s2 : Nat} {u0 u1 u2 : Value} {r0 r1 : Res} (φ : ι → Prop) (f0 f1 f2 : ι → Value) (g0 g1 : ι → Res) 
    (h : Run P fn R X W n (.code c :: .stop (Fam X W n φ (fun i => ⟨(s0, f0 i) :: (s1, f1 i) :: (s2, f2 i) :: fixed, g0 i :: g1 i :: mfix⟩)) :: k) ⟨(s0, u0) :: (s1, u1) :: (s2, u2) :: fixed, r0 :: r1 :: mfix⟩) (h' : ∀ i, φ i → Run P fn R X W n k ⟨(s0, f0 i) :: (s1, f1 i) :: (s2, f2 i) :: fixed, g0 i :: g1 i :: mfix⟩) : Run P fn R X W n (.code c :: k) ⟨(s0, u0) :: (s1, u1) :: (s2, u2) :: fixed, r0 :: r1 :: mfix⟩ :=
  run_cut φ (fun i => ⟨(s0, f0 i) :: (s1, f1 i) :: (s2, f2 i) :: fixed, g0 i :: g1 i :: mfix⟩) h h'
theorem run_loopC3M3 {ι : Type} {c : Code} {fixed : List (Nat × Value)} {mfix : List Res} {s0 s1 s2 : Nat} {u0 u1 u2 : Value} {r0 r1 r2 : Res} (φ : ι → Prop) (f0 f1 f2 : ι → Value) (g0 g1 g2 : ι → Res) (μ : ι → Nat) (i0 : ι) (h0 : φ i0) (e0 : u0 = f0 i0) (e1 : u1 = f1 i0) (e2 : u2 = f2 i0) (q0 : ResSub r0 (g0 i0)) (q1 : ResSub r1 (g1 i0)) (q2 : ResSub r2 (g2 i0)) 
    (hr : ∀ i, φ i → Run P fn R X W n (.code c :: .stop (Again X W n φ (fun i => ⟨(s0, f0 i) :: (s1, f1 i) :: (s2, f2 i) :: fixed, g0 i :: g1 i :: g2 i :: mfix⟩) μ (μ i)) :: k) ⟨(s0, f0 i) :: (s1, f1 i) :: (s2, f2 i) :: fixed, g0 i :: g1 i :: g2 i :: mfix⟩) : Run P fn R X W n (.code (.loop c) :: k) ⟨(s0, u0) :: (s1, u1) :: (s2, u2) :: fixed, r0 :: r1 :: r2 :: mfix⟩ := by
  subst e0; subst e1; subst e2
  exact run_loop φ (fun i => ⟨(s0, f0 i) :: (s1, f1 i) :: (s2, f2 i) :: fixed, g0 i :: g1 i :: g2 i :: mfix⟩) μ i0 h0 (subMk EnvSub.refl (MemSub.cons Sel.here q0 (MemSub.cons Sel.here q1 (MemSub.cons Sel.here q2 MemSub.refl)))) hr
theorem run_cutC3M3 {ι : Type} {c : Code} {fixed : List (Nat × Value)} {mfix : List Res} {s0 s1 s2 : Nat} {u0 u1 u2 : Value} {r0 r1 r2 : Res} (φ : ι → Prop) (f0 f1 f2 : ι → Value) (g0 g1 g2 : ι → Res) 
    (h : Run P fn R X W n (.code c :: .stop (Fam X W n φ (fun i => ⟨(s0, f0 i) :: (s1, f1 i) :: (s2, f2 i) :: fixed, g0 i :: g1 i :: g2 i :: mfix⟩)) :: k) ⟨(s0, u0) :: (s1, u1) :: (s2, u2) :: fixed, r0 :: r1 :: r2 :: mfix⟩) (h' : ∀ i, φ i → Run P fn R X W n k ⟨(s0, f0 i) :: (s1, f1 i) :: (s2, f2 i) :: fixed, g0 i :: g1 i :: g2 i :: mfix⟩) : Run P fn R X W n (.code c :: k) ⟨(s0, u0) :: (s1, u1) :: (s2, u2) :: fixed, r0 :: r1 :: r2 :: mfix⟩ :=
  run_cut φ (fun i => ⟨(s0, f0 i) :: (s1, f1 i) :: (s2, f2 i) :: fixed, g0 i :: g1 i :: g2 i :: mfix⟩) h h'
theorem run_loopC4M0 {ι : Type} {c : Code} {fixed : List (Nat × Value)} {mfix : List Res} {s0 s1 s2 s3 : Nat} {u0 u1 u2 u3 : Value} (φ : ι → Prop) (f0 f1 f2 f3 : ι → Value) (μ : ι → Nat) (i0 : ι) (h0 : φ i0) (e0 : u0 = f0 i0) (e1 : u1 = f1 i0) (e2 : u2 = f2 i0) (e3 : u3 = f3 i0) 
    (hr : ∀ i, φ i → Run P fn R X W n (.code c :: .stop (Again X W n φ (fun i => ⟨(s0, f0 i) :: (s1, f1 i) :: (s2, f2 i) :: (s3, f3 i) :: fixed, mfix⟩) μ (μ i)) :: k) ⟨(s0, f0 i) :: (s1, f1 i) :: (s2, f2 i) :: (s3, f3 i) :: fixed, mfix⟩) : Run P fn R X W n (.code (.loop c) :: k) ⟨(s0, u0) :: (s1, u1) :: (s2, u2) :: (s3, u3) :: fixed, mfix⟩ := by
  subst e0; subst e1; subst e2; subst e3
  exact run_loop φ (fun i => ⟨(s0, f0 i) :: (s1, f1 i) :: (s2, f2 i) :: (s3, f3 i) :: fixed, mfix⟩) μ i0 h0 (subMk EnvSub.refl MemSub.refl) hr
theorem run_cutC4M0 {ι : Type} {c : Code} {fixed : List (Nat × Value)} {mfix : List Res} {s0 s1 s2 s3 : Nat} {u0 u1 u2 u3 : Value} (φ : ι → Prop) (f0 f1 f2 f3 : ι → Value) 
    (h : Run P fn R X W n (.code c :: .stop (Fam X W n φ (fun i => ⟨(s0, f0 i) :: (s1, f1 i) :: (s2, f2 i) :: (s3, f3 i) :: fixed, mfix⟩)) :: k) ⟨(s0, u0) :: (s1, u1) :: (s2, u2) :: (s3, u3) :: fixed, mfix⟩) (h' : ∀ i, φ i → Run P fn R X W n k ⟨(s0, f0 i) :: (s1, f1 i) :: (s2, f2 i) :: (s3, f3 i) :: fixed, mfix⟩) : Run P fn R X W n (.code c :: k) ⟨(s0, u0) :: (s1, u1) :: (s2, u2) :: (s3, u3) :: fixed, mfix⟩ :=
  run_cut φ (fun i => ⟨(s0, f0 i) :: (s1, f1 i) :: (s2, f2 i) :: (s3, f3 i) :: fixed, mfix⟩) h h'
theorem run_loopC4M1 {ι : Type} {c : Code} {fixed : List (Nat × Value)} {mfix : List Res} {s0 s1 s2 s3 : Nat} {u0 u1 u2 u3 : Value} {r0 : Res} (φ : ι → Prop) (f0 f1 f2 f3 : ι → Value) (g0 : ι → Res) (μ : ι → Nat) (i0 : ι) (h0 : φ i0) (e0 : u0 = f0 i0) (e1 : u1 = f1 i0) (e2 : u2 = f2 i0) (e3 : u3 = f3 i0) (q0 : ResSub r0 (g0 i0)) 
    (hr : ∀ i, φ i → Run P fn R X W n (.code c :: .stop (Again X W n φ (fun i => ⟨(s0, f0 i) :: (s1, f1 i) :: (s2, f2 i) :: (s3, f3 i) :: fixed, g0 i :: mfix⟩) μ (μ i)) :: k) ⟨(s0, f0 i) :: (s1, f1 i) :: (s2, f2 i) :: (s3, f3 i) :: fixed, g0 i :: mfix⟩) : Run P fn R X W n (.code (.loop c) :: k) ⟨(s0, u0) :: (s1, u1) :: (s2, u2) :: (s3, u3) :: fixed, r0 :: mfix⟩ := by
  subst e0; subst e1; subst e2; subst e3
  exact run_loop φ (fun i => ⟨(s0, f0 i) :: (s1, f1 i) :: (s2, f2 i) :: (s3, f3 i) :: fixed, g0 i :: mfix⟩) μ i0 h0 (subMk EnvSub.refl (MemSub.cons Sel.here q0 MemSub.refl)) hr
theorem run_cutC4M1 {ι : Type} {c : Code} {fixed : List (Nat × Value)} {mfix : List Res} {s0 s1 s2 s3 : Nat} {u0 u1 u2 u3 : Value} {r0 : Res} (φ : ι → Prop) (f0 f1 f2 f3 : ι → Value) (g0 : ι → Res) 
    (h : Run P fn R X W n (.code c :: .stop (Fam X W n φ (fun i => ⟨(s0, f0 i) :: (s1, f1 i) :: (s2, f2 i) :: (s3, f3 i) :: fixed, g0 i :: mfix⟩)) :: k) ⟨(s0, u0) :: (s1, u1) :: (s2, u2) :: (s3, u3) :: fixed, r0 :: mfix⟩) (h' : ∀ i, φ i → Run P fn R X W n k ⟨(s0, f0 i) :: (s1, f1 i) :: (s2, f2 i) :: (s3, f3 i) :: fixed, g0 i :: mfix⟩) : Run P fn R X W n (.code c :: k) ⟨(s0, u0) :: (s1, u1) :: (s2, u2) :: (s3, u3) :: fixed, r0 :: mfix⟩ :=
  run_cut φ (fun i => ⟨(s0, f0 i) :: (s1, f1 i) :: (s2, f2 i) :: (s3, f3 i) :: fixed, g0 i :: mfix⟩) h h'
theorem run_loopC4M2 {ι : Type} {c : Code} {fixed : List (Nat × Value)} {mfix : List Res} {s0 s1 s2 s3 : Nat} {u0 u1 u2 u3 : Value} {r0 r1 : Res} (φ : ι → Prop) (f0 f1 f2 f3 : ι → Value) (g0 g1 : ι → Res) (μ : ι → Nat) (i0 : ι) (h0 : φ i0) (e0 : u0 = f0 i0) (e1 : u1 = f1 i0) (e2 : u2 = f2 i0) (e3 : u3 = f3 i0) (q0 : ResSub r0 (g0 i0)) (q1 : ResSub r1 (g1 i0)) 
    (hr : ∀ i, φ i → Run P fn R X W n (.code c :: .stop (Again X W n φ (fun i => ⟨(s0, f0 i) :: (s1, f1 i) :: (s2, f2 i) :: (s3, f3 i) :: fixed, g0 i :: g1 i :: mfix⟩) μ (μ i)) :: k) ⟨(s0, f0 i) :: (s1, f1 i) :: (s2, f2 i) :: (s3, f3 i) :: fixed, g0 i :: g1 i :: mfix⟩) : Run P fn R X W n (.code (.loop c) :: k) ⟨(s0, u0) :: (s1, u1) :: (s2, u2) :: (s3, u3) :: fixed, r0 :: r1 :: mfix⟩ := by
  subst e0; subst e1; subst e2; subst e3
  exact run_loop φ (fun i => ⟨(s0, f0 i) :: (s1, f1 i) :: (s2, f2 i) :: (s3, f3 i) :: fixed, g0 i :: g1 i :: mfix⟩) μ i0 h0 (subMk EnvSub.refl (MemSub.cons Sel.here q0 (MemSub.cons Sel.here q1 MemSub.refl))) hr
theorem run_cutC4M2 {ι : Type} {c : Code} {fixed : List (Nat × Value)} {mfix : List Res} {s0 s1 s2 s3 : Nat} {u0 u1 u2 u3 : Value} {r0 r1 : Res} (φ : ι → Prop) (f0 f1 f2 f3 : ι → Value) (g0 g1 : ι → Res) 
    (h : Run P fn R X W n (.code c :: .stop (Fam X W n φ (fun i => ⟨(s0, f0 i) :: (s1, f1 i) :: (s2, f2 i) :: (s3, f3 i) :: fixed, g0 i :: g1 i :: mfix⟩)) :: k) ⟨(s0, u0) :: (s1, u1) :: (s2, u2) :: (s3, u3) :: fixed, r0 :: r1 :: mfix⟩) (h' : ∀ i, φ i → Run P fn R X W n k ⟨(s0, f0 i) :: (s1, f1 i) :: (s2, f2 i) :: (s3, f3 i) :: fixed, g0 i :: g1 i :: mfix⟩) : Run P fn R X W n (.code c :: k) ⟨(s0, u0) :: (s1, u1) :: (s2, u2) :: (s3, u3) :: fixed, r0 :: r1 :: mfix⟩ :=
  run_cut φ (fun i => ⟨(s0, f0 i) :: (s1, f1 i) :: (s2, f2 i) :: (s3, f3 i) :: fixed, g0 i :: g1 i :: mfix⟩) h h'
theorem run_loopC4M3 {ι : Type} {c : Code} {fixed : List (Nat × Value)} {mfix : List Res} {s0 s1 s2 s3 : Nat} {u0 u1 u2 u3 : Value} {r0 r1 r2 : Res} (φ : ι → Prop) (f0 f1 f2 f3 : ι → Value) (g0 g1 g2 : ι → Res) (μ : ι → Nat) (i0 : ι) (h0 : φ i0) (e0 : u0 = f0 i0) (e1 : u1 = f1 i0) (e2 : u2 = f2 i0) (e3 : u3 = f3 i0) (q0 : ResSub r0 (g0 i0)) (q1 : ResSub r1 (g1 i0)) (q2 : ResSub r2 (g2 i0)) 
    (hr : ∀ i, φ i → Run P fn R X W n (.code c :: .stop (Again X W n φ (fun i => ⟨(s0, f0 i) :: (s1, f1 i) :: (s2, f2 i) :: (s3, f3 i) :: fixed, g0 i :: g1 i :: g2 i :: mfix⟩) μ (μ i)) :: k) ⟨(s0, f0 i) :: (s1, f1 i) :: (s2, f2 i) :: (s3, f3 i) :: fixed, g0 i :: g1 i :: g2 i :: mfix⟩) : Run P fn R X W n (.code (.loop c) :: k) ⟨(s0, u0) :: (s1, u1) :: (s2, u2) :: (s3, u3) :: fixed, r0 :: r1 :: r2 :: mfix⟩ := by
  subst e0; subst e1; subst e2; subst e3
  exact run_loop φ (fun i => ⟨(s0, f0 i) :: (s1, f1 i) :: (s2, f2 i) :: (s3, f3 i) :: fixed, g0 i :: g1 i :: g2 i :: mfix⟩) μ i0 h0 (subMk EnvSub.refl (MemSub.cons Sel.here q0 (MemSub.cons Sel.here q1 (MemSub.cons Sel.here q2 MemSub.refl)))) hr
theorem run_cutC4M3 {ι : Type} {c : Code} {fixed : List (Nat × Value)} {mfix : List Res} {s0 s1 s2 s3 : Nat} {u0 u1 u2 u3 : Value} {r0 r1 r2 : Res} (φ : ι → Prop) (f0 f1 f2 f3 : ι → Value) (g0 g1 g2 : ι → Res) 
    (h : Run P fn R X W n (.code c :: .stop (Fam X W n φ (fun i => ⟨(s0, f0 i) :: (s1, f1 i) :: (s2, f2 i) :: (s3, f3 i) :: fixed, g0 i :: g1 i :: g2 i :: mfix⟩)) :: k) ⟨(s0, u0) :: (s1, u1) :: (s2, u2) :: (s3, u3) :: fixed, r0 :: r1 :: r2 :: mfix⟩) (h' : ∀ i, φ i → Run P fn R X W n k ⟨(s0, f0 i) :: (s1, f1 i) :: (s2, f2 i) :: (s3, f3 i) :: fixed, g0 i :: g1 i :: g2 i :: mfix⟩) : Run P fn R X W n (.code c :: k) ⟨(s0, u0) :: (s1, u1) :: (s2, u2) :: (s3, u3) :: fixed, r0 :: r1 :: r2 :: mfix⟩ :=
  run_cut φ (fun i => ⟨(s0, f0 i) :: (s1, f1 i) :: (s2, f2 i) :: (s3, f3 i) :: fixed, g0 i :: g1 i :: g2 i :: mfix⟩) h h'
theorem run_loopC5M0 {ι : Type} {c : Code} {fixed : List (Nat × Value)} {mfix : List Res} {s0 s1 s2 s3 s4 : Nat} {u0 u1 u2 u3 u4 : Value} (φ : ι → Prop) (f0 f1 f2 f3 f4 : ι → Value) (μ : ι → Nat) (i0 : ι) (h0 : φ i0) (e0 : u0 = f0 i0) (e1 : u1 = f1 i0) (e2 : u2 = f2 i0) (e3 : u3 = f3 i0) (e4 : u4 = f4 i0) 
    (hr : ∀ i, φ i → Run P fn R X W n (.code c :: .stop (Again X W n φ (fun i => ⟨(s0, f0 i) :: (s1, f1 i) :: (s2, f2 i) :: (s3, f3 i) :: (s4, f4 i) :: fixed, mfix⟩) μ (μ i)) :: k) ⟨(s0, f0 i) :: (s1, f1 i) :: (s2, f2 i) :: (s3, f3 i) :: (s4, f4 i) :: fixed, mfix⟩) : Run P fn R X W n (.code (.loop c) :: k) ⟨(s0, u0) :: (s1, u1) :: (s2, u2) :: (s3, u3) :: (s4, u4) :: fixed, mfix⟩ := by
  subst e0; subst e1; subst e2; subst e3; subst e4
  exact run_loop φ (fun i => ⟨(s0, f0 i) :: (s1, f1 i) :: (s2, f2 i) :: (s3, f3 i) :: (s4, f4 i) :: fixed, mfix⟩) μ i0 h0 (subMk EnvSub.refl MemSub.refl) hr
theorem run_cutC5M0 {ι : Type} {c : Code} {fixed : List (Nat × Value)} {mfix : List Res} {s0 s1 s2 s3 s4 : Nat} {u0 u1 u2 u3 u4 : Value} (φ : ι → Prop) (f0 f1 f2 f3 f4 : ι → Value) 
    (h : Run P fn R X W n (.code c :: .stop (Fam X W n φ (fun i => ⟨(s0, f0 i) :: (s1, f1 i) :: (s2, f2 i) :: (s3, f3 i) :: (s4, f4 i) :: fixed, mfix⟩)) :: k) ⟨(s0, u0) :: (s1, u1) :: (s2, u2) :: (s3, u3) :: (s4, u4) :: fixed, mfix⟩) (h' : ∀ i, φ i → Run P fn R X W n k ⟨(s0, f0 i) :: (s1, f1 i) :: (s2, f2 i) :: (s3, f3 i) :: (s4, f4 i) :: fixed, mfix⟩) : Run P fn R X W n (.code c :: k) ⟨(s0, u0) :: (s1, u1) :: (s2, u2) :: (s3, u3) :: (s4, u4) :: fixed, mfix⟩ :=
  run_cut φ (fun i => ⟨(s0, f0 i) :: (s1, f1 i) :: (s2, f2 i) :: (s3, f3 i) :: (s4, f4 i) :: fixed, mfix⟩) h h'
theorem run_loopC5M1 {ι : Type} {c : Code} {fixed : List (Nat × Value)} {mfix : List Res} {s0 s1 s2 s3 s4 : Nat} {u0 u1 u2 u3 u4 : Value} {r0 : Res} (φ : ι → Prop) (f0 f1 f2 f3 f4 : ι → Value) (g0 : ι → Res) (μ : ι → Nat) (i0 : ι) (h0 : φ i0) (e0 : u0 = f0 i0) (e1 : u1 = f1 i0) (e2 : u2 = f2 i0) (e3 : u3 = f3 i0) (e4 : u4 = f4 i0) (q0 : ResSub r0 (g0 i0)) 
    (hr : ∀ i, φ i → Run P fn R X W n (.code c :: .stop (Again X W n φ (fun i => ⟨(s0, f0 i) :: (s1, f1 i) :: (s2, f2 i) :: (s3, f3 i) :: (s4, f4 i) :: fixed, g0 i :: mfix⟩) μ (μ i)) :: k) ⟨(s0, f0 i) :: (s1, f1 i) :: (s2, f2 i) :: (s3, f3 i) :: (s4, f4 i) :: fixed, g0 i :: mfix⟩) : Run P fn R X W n (.code (.loop c) :: k) ⟨(s0, u0) :: (s1, u1) :: (s2, u2) :: (s3, u3) :: (s4, u4) :: fixed, r0 :: mfix⟩ := by
  subst e0; subst e1; subst e2; subst e3; subst e4
  exact run_loop φ (fun i => ⟨(s0, f0 i) :: (s1, f1 i) :: (s2, f2 i) :: (s3, f3 i) :: (s4, f4 i) :: fixed, g0 i :: mfix⟩) μ i0 h0 (subMk EnvSub.refl (MemSub.cons Sel.here q0 MemSub.refl)) hr
theorem run_cutC5M1 {ι : Type} {c : Code} {fixed : List (Nat × Value)} {mfix : List Res} {s0 s1 s2 s3 s4 : Nat} {u0 u1 u2 u3 u4 : Value} {r0 : Res} (φ : ι → Prop) (f0 f1 f2 f3 f4 : ι → Value) (g0 : ι → Res) 
    (h : Run P fn R X W n (.code c :: .stop (Fam X W n φ (fun i => ⟨(s0, f0 i) :: (s1, f1 i) :: (s2, f2 i) :: (s3, f3 i) :: (s4, f4 i) :: fixed, g0 i :: mfix⟩)) :: k) ⟨(s0, u0) :: (s1, u1) :: (s2, u2) :: (s3, u3) :: (s4, u4) :: fixed, r0 :: mfix⟩) (h' : ∀ i, φ i → Run P fn R X W n k ⟨(s0, f0 i) :: (s1, f1 i) :: (s2, f2 i) :: (s3, f3 i) :: (s4, f4 i) :: fixed, g0 i :: mfix⟩) : Run P fn R X W n (.code c :: k) ⟨(s0, u0) :: (s1, u1) :: (s2, u2) :: (s3, u3) :: (s4, u4) :: fixed, r0 :: mfix⟩ :=
  run_cut φ (fun i => ⟨(s0, f0 i) :: (s1, f1 i) :: (s2, f2 i) :: (s3, f3 i) :: (s4, f4 i) :: fixed, g0 i :: mfix⟩) h h'
theorem run_loopC5M2 {ι : Type} {c : Code} {fixed : List (Nat × Value)} {mfix : List Res} {s0 s1 s2 s3 s4 : Nat} {u0 u1 u2 u3 u4 : Value} {r0 r1 : Res} (φ : ι → Prop) (f0 f1 f2 f3 f4 : ι → Value) (g0 g1 : ι → Res) (μ : ι → Nat) (i0 : ι) (h0 : φ i0) (e0 : u0 = f0 i0) (e1 : u1 = f1 i0) (e2 : u2 = f2 i0) (e3 : u3 = f3 i0) (e4 : u4 = f4 i0) (q0 : ResSub r0 (g0 i0)) (q1 : ResSub r1 (g1 i0)) 
    (hr : ∀ i, φ i → Run P fn R X W n (.code c :: .stop (Again X W n φ (fun i => ⟨(s0, f0 i) :: (s1, f1 i) :: (s2, f2 i) :: (s3, f3 i) :: (s4, f4 i) :: fixed, g0 i :: g1 i :: mfix⟩) μ (μ i)) :: k) ⟨(s0, f0 i) :: (s1, f1 i) :: (s2, f2 i) :: (s3, f3 i) :: (s4, f4 i) :: fixed, g0 i :: g1 i :: mfix⟩) : Run P fn R X W n (.code (.loop c) :: k) ⟨(s0, u0) :: (s1, u1) :: (s2, u2) :: (s3, u3) :: (s4, u4) :: fixed, r0 :: r1 :: mfix⟩ := by
  subst e0; subst e1; subst e2; subst e3; subst e4
  exact run_loop φ (fun i => ⟨(s0, f0 i) :: (s1, f1 i) :: (s2, f2 i) :: (s3, f3 i) :: (s4, f4 i) :: fixed, g0 i :: g1 i :: mfix⟩) μ i0 h0 (subMk EnvSub.refl (MemSub.cons Sel.here q0 (MemSub.cons Sel.here q1 MemSub.refl))) hr
theorem run_cutC5M2 {ι : Type} {c : Code} {fixed : List (Nat × Value)} {mfix : List Res} {s0 s1 s2 s3 s4 : Nat} {u0 u1 u2 u3 u4 : Value} {r0 r1 : Res} (φ : ι → Prop) (f0 f1 f2 f3 f4 : ι → Value) (g0 g1 : ι → Res) 
    (h : Run P fn R X W n (.code c :: .stop (Fam X W n φ (fun i => ⟨(s0, f0 i) :: (s1, f1 i) :: (s2, f2 i) :: (s3, f3 i) :: (s4, f4 i) :: fixed, g0 i :: g1 i :: mfix⟩)) :: k) ⟨(s0, u0) :: (s1, u1) :: (s2, u2) :: (s3, u3) :: (s4, u4) :: fixed, r0 :: r1 :: mfix⟩) (h' : ∀ i, φ i → Run P fn R X W n k ⟨(s0, f0 i) :: (s1, f1 i) :: (s2, f2 i) :: (s3, f3 i) :: (s4, f4 i) :: fixed, g0 i :: g1 i :: mfix⟩) : Run P fn R X W n (.code c :: k) ⟨(s0, u0) :: (s1, u1) :: (s2, u2) :: (s3, u3) :: (s4, u4) :: fixed, r0 :: r1 :: mfix⟩ :=
  run_cut φ (fun i => ⟨(s0, f0 i) :: (s1, f1 i) :: (s2, f2 i) :: (s3, f3 i) :: (s4, f4 i) :: fixed, g0 i :: g1 i :: mfix⟩) h h'
theorem run_loopC5M3 {ι : Type} {c : Code} {fixed : List (Nat × Value)} {mfix : List Res} {s0 s1 s2 s3 s4 : Nat} {u0 u1 u2 u3 u4 : Value} {r0 r1 r2 : Res} (φ : ι → Prop) (f0 f1 f2 f3 f4 : ι → Value) (g0 g1 g2 : ι → Res) (μ : ι → Nat) (i0 : ι) (h0 : φ i0) (e0 : u0 = f0 i0) (e1 : u1 = f1 i0) (e2 : u2 = f2 i0) (e3 : u3 = f3 i0) (e4 : u4 = f4 i0) (q0 : ResSub r0 (g0 i0)) (q1 : ResSub r1 (g1 i0)) (q2 : ResSub r2 (g2 i0)) 
    (hr : ∀ i, φ i → Run P fn R X W n (.code c :: .stop (Again X W n φ (fun i => ⟨(s0, f0 i) :: (s1, f1 i) :: (s2, f2 i) :: (s3, f3 i) :: (s4, f4 i) :: fixed, g0 i :: g1 i :: g2 i :: mfix⟩) μ (μ i)) :: k) ⟨(s0, f0 i) :: (s1, f1 i) :: (s2, f2 i) :: (s3, f3 i) :: (s4, f4 i) :: fixed, g0 i :: g1 i :: g2 i :: mfix⟩) : Run P fn R X W n (.code (.loop c) :: k) ⟨(s0, u0) :: (s1, u1) :: (s2, u2) :: (s3, u3) :: (s4, u4) :: fixed, r0 :: r1 :: r2 :: mfix⟩ := by
  subst e0; subst e1; subst e2; subst e3; subst e4
  exact run_loop φ (fun i => ⟨(s0, f0 i) :: (s1, f1 i) :: (s2, f2 i) :: (s3, f3 i) :: (s4, f4 i) :: fixed, g0 i :: g1 i :: g2 i :: mfix⟩) μ i0 h0 (subMk EnvSub.refl (MemSub.cons Sel.here q0 (MemSub.cons Sel.here q1 (MemSub.cons Sel.here q2 MemSub.refl)))) hr
theorem run_cutC5M3 {ι : Type} {c : Code} {fixed : List (Nat × Value)} {mfix : List Res} {s0 s1 s2 s3 s4 : Nat} {u0 u1 u2 u3 u4 : Value} {r0 r1 r2 : Res} (φ : ι → Prop) (f0 f1 f2 f3 f4 : ι → Value) (g0 g1 g2 : ι → Res) 
    (h : Run P fn R X W n (.code c :: .stop (Fam X W n φ (fun i => ⟨(s0, f0 i) :: (s1, f1 i) :: (s2, f2 i) :: (s3, f3 i) :: (s4, f4 i) :: fixed, g0 i :: g1 i :: g2 i :: mfix⟩)) :: k) ⟨(s0, u0) :: (s1, u1) :: (s2, u2) :: (s3, u3) :: (s4, u4) :: fixed, r0 :: r1 :: r2 :: mfix⟩) (h' : ∀ i, φ i → Run P fn R X W n k ⟨(s0, f0 i) :: (s1, f1 i) :: (s2, f2 i) :: (s3, f3 i) :: (s4, f4 i) :: fixed, g0 i :: g1 i :: g2 i :: mfix⟩) : Run P fn R X W n (.code c :: k) ⟨(s0, u0) :: (s1, u1) :: (s2, u2) :: (s3, u3) :: (s4, u4) :: fixed, r0 :: r1 :: r2 :: mfix⟩ :=
  run_cut φ (fun i => ⟨(s0, f0 i) :: (s1, f1 i) :: (s2, f2 i) :: (s3, f3 i) :: (s4, f4 i) :: fixed, g0 i :: g1 i :: g2 i :: mfix⟩) h h'
theorem run_loopC6M0 {ι : Type} {c : Code} {fixed : List (Nat × Value)} {mfix : List Res} {s0 s1 s2 s3 s4 s5 : Nat} {u0 u1 u2 u3 u4 u5 : Value} (φ : ι → Prop) (f0 f1 f2 f3 f4 f5 : ι → Value) (μ : ι → Nat) (i0 : ι) (h0 : φ i0) (e0 : u0 = f0 i0) (e1 : u1 = f1 i0) (e2 : u2 = f2 i0) (e3 : u3 = f3 i0) (e4 : u4 = f4 i0) (e5 : u5 = f5 i0) 
    (hr : ∀ i, φ i → Run P fn R X W n (.code c :: .stop (Again X W n φ (fun i => ⟨(s0, f0 i) :: (s1, f1 i) :: (s2, f2 i) :: (s3, f3 i) :: (s4, f4 i) :: (s5, f5 i) :: fixed, mfix⟩) μ (μ i)) :: k) ⟨(s0, f0 i) :: (s1, f1 i) :: (s2, f2 i) :: (s3, f3 i) :: (s4, f4 i) :: (s5, f5 i) :: fixed, mfix⟩) : Run P fn R X W n (.code (.loop c) :: k) ⟨(s0, u0) :: (s1, u1) :: (s2, u2) :: (s3, u3) :: (s4, u4) :: (s5, u5) :: fixed, mfix⟩ := by
  subst e0; subst e1; subst e2; subst e3; subst e4; subst e5
  exact run_loop φ (fun i => ⟨(s0, f0 i) :: (s1, f1 i) :: (s2, f2 i) :: (s3, f3 i) :: (s4, f4 i) :: (s5, f5 i) :: fixed, mfix⟩) μ i0 h0 (subMk EnvSub.refl MemSub.refl) hr
theorem run_cutC6M0 {ι : Type} {c : Code} {fixed : List (Nat × Value)} {mfix : List Res} {s0 s1 s2 s3 s4 s5 : Nat} {u0 u1 u2 u3 u4 u5 : Value} (φ : ι → Prop) (f0 f1 f2 f3 f4 f5 : ι → Value) 
    (h : Run P fn R X W n (.code c :: .stop (Fam X W n φ (fun i => ⟨(s0, f0 i) :: (s1, f1 i) :: (s2, f2 i) :: (s3, f3 i) :: (s4, f4 i) :: (s5, f5 i) :: fixed, mfix⟩)) :: k) ⟨(s0, u0) :: (s1, u1) :: (s2, u2) :: (s3, u3) :: (s4, u4) :: (s5, u5) :: fixed, mfix⟩) (h' : ∀ i, φ i → Run P fn R X W n k ⟨(s0, f0 i) :: (s1, f1 i) :: (s2, f2 i) :: (s3, f3 i) :: (s4, f4 i) :: (s5, f5 i) :: fixed, mfix⟩) : Run P fn R X W n (.code c :: k) ⟨(s0, u0) :: (s1, u1) :: (s2, u2) :: (s3, u3) :: (s4, u4) :: (s5, u5) :: fixed, mfix⟩ :=
  run_cut φ (fun i => ⟨(s0, f0 i) :: (s1, f1 i) :: (s2, f2 i) :: (s3, f3 i) :: (s4, f4 i) :: (s5, f5 i) :: fixed, mfix⟩) h h'
theorem run_loopC6M1 {ι : Type} {c : Code} {fixed : List (Nat × Value)} {mfix : List Res} {s0 s1 s2 s3 s4 s5 : Nat} {u0 u1 u2 u3 u4 u5 : Value} {r0 : Res} (φ : ι → Prop) (f0 f1 f2 f3 f4 f5 : ι → Value) (g0 : ι → Res) (μ : ι → Nat) (i0 : ι) (h0 : φ i0) (e0 : u0 = f0 i0) (e1 : u1 = f1 i0) (e2 : u2 = f2 i0) (e3 : u3 = f3 i0) (e4 : u4 = f4 i0) (e5 : u5 = f5 i0) (q0 : ResSub r0 (g0 i0)) 
    (hr : ∀ i, φ i → Run P fn R X W n (.code c :: .stop (Again X W n φ (fun i => ⟨(s0, f0 i) :: (s1, f1 i) :: (s2, f2 i) :: (s3, f3 i) :: (s4, f4 i) :: (s5, f5 i) :: fixed, g0 i :: mfix⟩) μ (μ i)) :: k) ⟨(s0, f0 i) :: (s1, f1 i) :: (s2, f2 i) :: (s3, f3 i) :: (s4, f4 i) :: (s5, f5 i) :: fixed, g0 i :: mfix⟩) : Run P fn R X W n (.code (.loop c) :: k) ⟨(s0, u0) :: (s1, u1) :: (s2, u2) :: (s3, u3) :: (s4, u4) :: (s5, u5) :: fixed, r0 :: mfix⟩ := by
  subst e0; subst e1; subst e2; subst e3; subst e4; subst e5
  exact run_loop φ (fun i => ⟨(s0, f0 i) :: (s1, f1 i) :: (s2, f2 i) :: (s3, f3 i) :: (s4, f4 i) :: (s5, f5 i) :: fixed, g0 i :: mfix⟩) μ i0 h0 (subMk EnvSub.refl (MemSub.cons Sel.here q0 MemSub.refl)) hr
theorem run_cutC6M1 {ι : Type} {c : Code} {fixed : List (Nat × Value)} {mfix : List Res} {s0 s1 s2 s3 s4 s5 : Nat} {u0 u1 u2 u3 u4 u5 : Value} {r0 : Res} (φ : ι → Prop) (f0 f1 f2 f3 f4 f5 : ι → Value) (g0 : ι → Res) 
    (h : Run P fn R X W n (.code c :: .stop (Fam X W n φ (fun i => ⟨(s0, f0 i) :: (s1, f1 i) :: (s2, f2 i) :: (s3, f3 i) :: (s4, f4 i) :: (s5, f5 i) :: fixed, g0 i :: mfix⟩)) :: k) ⟨(s0, u0) :: (s1, u1) :: (s2, u2) :: (s3, u3) :: (s4, u4) :: (s5, u5) :: fixed, r0 :: mfix⟩) (h' : ∀ i, φ i → Run P fn R X W n k ⟨(s0, f0 i) :: (s1, f1 i) :: (s2, f2 i) :: (s3, f3 i) :: (s4, f4 i) :: (s5, f5 i) :: fixed, g0 i :: mfix⟩) : Run P fn R X W n (.code c :: k) ⟨(s0, u0) :: (s1, u1) :: (s2, u2) :: (s3, u3) :: (s4, u4) :: (s5, u5) :: fixed, r0 :: mfix⟩ :=
  run_cut φ (fun i => ⟨(s0, f0 i) :: (s1, f1 i) :: (s2, f2 i) :: (s3, f3 i) :: (s4, f4 i) :: (s5, f5 i) :: fixed, g0 i :: mfix⟩) h h'
theorem run_loopC6M2 {ι : Type} {c : Code} {fixed : List (Nat × Value)} {mfix : List Res} {s0 s1 s2 s3 s4 s5 : Nat} {u0 u1 u2 u3 u4 u5 : Value} {r0 r1 : Res} (φ : ι → Prop) (f0 f1 f2 f3 f4 f5 : ι → Value) (g0 g1 : ι → Res) (μ : ι → Nat) (i0 : ι) (h0 : φ i0) (e0 : u0 = f0 i0) (e1 : u1 = f1 i0) (e2 : u2 = f2 i0) (e3 : u3 = f3 i0) (e4 : u4 = f4 i0) (e5 : u5 = f5 i0) (q0 : ResSub r0 (g0 i0)) (q1 : ResSub r1 (g1 i0)) 
    (hr : ∀ i, φ i → Run P fn R X W n (.code c :: .stop (Again X W n φ (fun i => ⟨(s0, f0 i) :: (s1, f1 i) :: (s2, f2 i) :: (s3, f3 i) :: (s4, f4 i) :: (s5, f5 i) :: fixed, g0 i :: g1 i :: mfix⟩) μ (μ i)) :: k) ⟨(s0, f0 i) :: (s1, f1 i) :: (s2, f2 i) :: (s3, f3 i) :: (s4, f4 i) :: (s5, f5 i) :: fixed, g0 i :: g1 i :: mfix⟩) : Run P fn R X W n (.code (.loop c) :: k) ⟨(s0, u0) :: (s1, u1) :: (s2, u2) :: (s3, u3) :: (s4, u4) :: (s5, u5) :: fixed, r0 :: r1 :: mfix⟩ := by
  subst e0; subst e1; subst e2; subst e3; subst e4; subst e5
  exact run_loop φ (fun i => ⟨(s0, f0 i) :: (s1, f1 i) :: (s2, f2 i) :: (s3, f3 i) :: (s4, f4 i) :: (s5, f5 i) :: fixed, g0 i :: g1 i :: mfix⟩) μ i0 h0 (subMk EnvSub.refl (MemSub.cons Sel.here q0 (MemSub.cons Sel.here q1 MemSub.refl))) hr
theorem run_cutC6M2 {ι : Type} {c : Code} {fixed : List (Nat × Value)} {mfix : List Res} {s0 s1 s2 s3 s4 s5 : Nat} {u0 u1 u2 u3 u4 u5 : Value} {r0 r1 : Res} (φ : ι → Prop) (f0 f1 f2 f3 f4 f5 : ι → Value) (g0 g1 : ι → Res) 
    (h : Run P fn R X W n (.code c :: .stop (Fam X W n φ (fun i => ⟨(s0, f0 i) :: (s1, f1 i) :: (s2, f2 i) :: (s3, f3 i) :: (s4, f4 i) :: (s5, f5 i) :: fixed, g0 i :: g1 i :: mfix⟩)) :: k) ⟨(s0, u0) :: (s1, u1) :: (s2, u2) :: (s3, u3) :: (s4, u4) :: (s5, u5) :: fixed, r0 :: r1 :: mfix⟩) (h' : ∀ i, φ i → Run P fn R X W n k ⟨(s0, f0 i) :: (s1, f1 i) :: (s2, f2 i) :: (s3, f3 i) :: (s4, f4 i) :: (s5, f5 i) :: fixed, g0 i :: g1 i :: mfix⟩) : Run P fn R X W n (.code c :: k) ⟨(s0, u0) :: (s1, u1) :: (s2, u2) :: (s3, u3) :: (s4, u4) :: (s5, u5) :: fixed, r0 :: r1 :: mfix⟩ :=
  run_cut φ (fun i => ⟨(s0, f0 i) :: (s1, f1 i) :: (s2, f2 i) :: (s3, f3 i) :: (s4, f4 i) :: (s5, f5 i) :: fixed, g0 i :: g1 i :: mfix⟩) h h'
theorem run_loopC6M3 {ι : Type} {c : Code} {fixed : List (Nat × Value)} {mfix : List Res} {s0 s1 s2 s3 s4 s5 : Nat} {u0 u1 u2 u3 u4 u5 : Value} {r0 r1 r2 : Res} (φ : ι → Prop) (f0 f1 f2 f3 f4 f5 : ι → Value) (g0 g1 g2 : ι → Res) (μ : ι → Nat) (i0 : ι) (h0 : φ i0) (e0 : u0 = f0 i0) (e1 : u1 = f1 i0) (e2 : u2 = f2 i0) (e3 : u3 = f3 i0) (e4 : u4 = f4 i0) (e5 : u5 = f5 i0) (q0 : ResSub r0 (g0 i0)) (q1 : ResSub r1 (g1 i0)) (q2 : ResSub r2 (g2 i0)) 
    (hr : ∀ i, φ i → Run P fn R X W n (.code c :: .stop (Again X W n φ (fun i => ⟨(s0, f0 i) :: (s1, f1 i) :: (s2, f2 i) :: (s3, f3 i) :: (s4, f4 i) :: (s5, f5 i) :: fixed, g0 i :: g1 i :: g2 i :: mfix⟩) μ (μ i)) :: k) ⟨(s0, f0 i) :: (s1, f1 i) :: (s2, f2 i) :: (s3, f3 i) :: (s4, f4 i) :: (s5, f5 i) :: fixed, g0 i :: g1 i :: g2 i :: mfix⟩) : Run P fn R X W n (.code (.loop c) :: k) ⟨(s0, u0) :: (s1, u1) :: (s2, u2) :: (s3, u3) :: (s4, u4) :: (s5, u5) :: fixed, r0 :: r1 :: r2 :: mfix⟩ := by
  subst e0; subst e1; subst e2; subst e3; subst e4; subst e5
  exact run_loop φ (fun i => ⟨(s0, f0 i) :: (s1, f1 i) :: (s2, f2 i) :: (s3, f3 i) :: (s4, f4 i) :: (s5, f5 i) :: fixed, g0 i :: g1 i :: g2 i :: mfix⟩) μ i0 h0 (subMk EnvSub.refl (MemSub.cons Sel.here q0 (MemSub.cons Sel.here q1 (MemSub.cons Sel.here q2 MemSub.refl)))) hr
theorem run_cutC6M3 {ι : Type} {c : Code} {fixed : List (Nat × Value)} {mfix : List Res} {s0 s1 s2 s3 s4 s5 : Nat} {u0 u1 u2 u3 u4 u5 : Value} {r0 r1 r2 : Res} (φ : ι → Prop) (f0 f1 f2 f3 f4 f5 : ι → Value) (g0 g1 g2 : ι → Res) 
    (h : Run P fn R X W n (.code c :: .stop (Fam X W n φ (fun i => ⟨(s0, f0 i) :: (s1, f1 i) :: (s2, f2 i) :: (s3, f3 i) :: (s4, f4 i) :: (s5, f5 i) :: fixed, g0 i :: g1 i :: g2 i :: mfix⟩)) :: k) ⟨(s0, u0) :: (s1, u1) :: (s2, u2) :: (s3, u3) :: (s4, u4) :: (s5, u5) :: fixed, r0 :: r1 :: r2 :: mfix⟩) (h' : ∀ i, φ i → Run P fn R X W n k ⟨(s0, f0 i) :: (s1, f1 i) :: (s2, f2 i) :: (s3, f3 i) :: (s4, f4 i) :: (s5, f5 i) :: fixed, g0 i :: g1 i :: g2 i :: mfix⟩) : Run P fn R X W n (.code c :: k) ⟨(s0, u0) :: (s1, u1) :: (s2, u2) :: (s3, u3) :: (s4, u4) :: (s5, u5) :: fixed, r0 :: r1 :: r2 :: mfix⟩ :=
  run_cut φ (fun i => ⟨(s0, f0 i) :: (s1, f1 i) :: (s2, f2 i) :: (s3, f3 i) :: (s4, f4 i) :: (s5, f5 i) :: fixed, g0 i :: g1 i :: g2 i :: mfix⟩) h h'
theorem run_loopC7M0 {ι : Type} {c : Code} {fixed : List (Nat × Value)} {mfix : List Res} {s0 s1 s2 s3 s4 s5 s6 : Nat} {u0 u1 u2 u3 u4 u5 u6 : Value} (φ : ι → Prop) (f0 f1 f2 f3 f4 f5 f6 : ι → Value) (μ : ι → Nat) (i0 : ι) (h0 : φ i0) (e0 : u0 = f0 i0) (e1 : u1 = f1 i0) (e2 : u2 = f2 i0) (e3 : u3 = f3 i0) (e4 : u4 = f4 i0) (e5 : u5 = f5 i0) (e6 : u6 = f6 i0) 
    (hr : ∀ i, φ i → Run P fn R X W n (.code c :: .stop (Again X W n φ (fun i => ⟨(s0, f0 i) :: (s1, f1 i) :: (s2, f2 i) :: (s3, f3 i) :: (s4, f4 i) :: (s5, f5 i) :: (s6, f6 i) :: fixed, mfix⟩) μ (μ i)) :: k) ⟨(s0, f0 i) :: (s1, f1 i) :: (s2, f2 i) :: (s3, f3 i) :: (s4, f4 i) :: (s5, f5 i) :: (s6, f6 i) :: fixed, mfix⟩) : Run P fn R X W n (.code (.loop c) :: k) ⟨(s0, u0) :: (s1, u1) :: (s2, u2) :: (s3, u3) :: (s4, u4) :: (s5, u5) :: (s6, u6) :: fixed, mfix⟩ := by
  subst e0; subst e1; subst e2; subst e3; subst e4; subst e5; subst e6
  exact run_loop φ (fun i => ⟨(s0, f0 i) :: (s1, f1 i) :: (s2, f2 i) :: (s3, f3 i) :: (s4, f4 i) :: (s5, f5 i) :: (s6, f6 i) :: fixed, mfix⟩) μ i0 h0 (subMk EnvSub.refl MemSub.refl) hr
theorem run_cutC7M0 {ι : Type} {c : Code} {fixed : List (Nat × Value)} {mfix : List Res} {s0 s1 s2 s3 s4 s5 s6 : Nat} {u0 u1 u2 u3 u4 u5 u6 : Value} (φ : ι → Prop) (f0 f1 f2 f3 f4 f5 f6 : ι → Value) 
    (h : Run P fn R X W n (.code c :: .stop (Fam X W n φ (fun i => ⟨(s0, f0 i) :: (s1, f1 i) :: (s2, f2 i) :: (s3, f3 i) :: (s4, f4 i) :: (s5, f5 i) :: (s6, f6 i) :: fixed, mfix⟩)) :: k) ⟨(s0, u0) :: (s1, u1) :: (s2, u2) :: (s3, u3) :: (s4, u4) :: (s5, u5) :: (s6, u6) :: fixed, mfix⟩) (h' : ∀ i, φ i → Run P fn R X W n k ⟨(s0, f0 i) :: (s1, f1 i) :: (s2, f2 i) :: (s3, f3 i) :: (s4, f4 i) :: (s5, f5 i) :: (s6, f6 i) :: fixed, mfix⟩) : Run P fn R X W n (.code c :: k) ⟨(s0, u0) :: (s1, u1) :: (s2, u2) :: (s3, u3) :: (s4, u4) :: (s5, u5) :: (s6, u6) :: fixed, mfix⟩ :=
  run_cut φ (fun i => ⟨(s0, f0 i) :: (s1, f1 i) :: (s2, f2 i) :: (s3, f3 i) :: (s4, f4 i) :: (s5, f5 i) :: (s6, f6 i) :: fixed, mfix⟩) h h'
theorem run_loopC7M1 {ι : Type} {c : Code} {fixed : List (Nat × Value)} {mfix : List Res} {s0 s1 s2 s3 s4 s5 s6 : Nat} {u0 u1 u2 u3 u4 u5 u6 : Value} {r0 : Res} (φ : ι → Prop) (f0 f1 f2 f3 f4 f5 f6 : ι → Value) (g0 : ι → Res) (μ : ι → Nat) (i0 : ι) (h0 : φ i0) (e0 : u0 = f0 i0) (e1 : u1 = f1 i0) (e2 : u2 = f2 i0) (e3 : u3 = f3 i0) (e4 : u4 = f4 i0) (e5 : u5 = f5 i0) (e6 : u6 = f6 i0) (q0 : ResSub r0 (g0 i0)) 
    (hr : ∀ i, φ i → Run P fn R X W n (.code c :: .stop (Again X W n φ (fun i => ⟨(s0, f0 i) :: (s1, f1 i) :: (s2, f2 i) :: (s3, f3 i) :: (s4, f4 i) :: (s5, f5 i) :: (s6, f6 i) :: fixed, g0 i :: mfix⟩) μ (μ i)) :: k) ⟨(s0, f0 i) :: (s1, f1 i) :: (s2, f2 i) :: (s3, f3 i) :: (s4, f4 i) :: (s5, f5 i) :: (s6, f6 i) :: fixed, g0 i :: mfix⟩) : Run P fn R X W n (.code (.loop c) :: k) ⟨(s0, u0) :: (s1, u1) :: (s2, u2) :: (s3, u3) :: (s4, u4) :: (s5, u5) :: (s6, u6) :: fixed, r0 :: mfix⟩ := by
  subst e0; subst e1; subst e2; subst e3; subst e4; subst e5; subst e6
  exact run_loop φ (fun i => ⟨(s0, f0 i) :: (s1, f1 i) :: (s2, f2 i) :: (s3, f3 i) :: (s4, f4 i) :: (s5, f5 i) :: (s6, f6 i) :: fixed, g0 i :: mfix⟩) μ i0 h0 (subMk EnvSub.refl (MemSub.cons Sel.here q0 MemSub.refl)) hr
theorem run_cutC7M1 {ι : Type} {c : Code} {fixed : List (Nat × Value)} {mfix : List Res} {s0 s1 s2 s3 s4 s5 s6 : Nat} {u0 u1 u2 u3 u4 u5 u6 : Value} {r0 : Res} (φ : ι → Prop) (f0 f1 f2 f3 f4 f5 f6 : ι → Value) (g0 : ι → Res) 
    (h : Run P fn R X W n (.code c :: .stop (Fam X W n φ (fun i => ⟨(s0, f0 i) :: (s1, f1 i) :: (s2, f2 i) :: (s3, f3 i) :: (s4, f4 i) :: (s5, f5 i) :: (s6, f6 i) :: fixed, g0 i :: mfix⟩)) :: k) ⟨(s0, u0) :: (s1, u1) :: (s2, u2) :: (s3, u3) :: (s4, u4) :: (s5, u5) :: (s6, u6) :: fixed, r0 :: mfix⟩) (h' : ∀ i, φ i → Run P fn R X W n k ⟨(s0, f0 i) :: (s1, f1 i) :: (s2, f2 i) :: (s3, f3 i) :: (s4, f4 i) :: (s5, f5 i) :: (s6, f6 i) :: fixed, g0 i :: mfix⟩) : Run P fn R X W n (.code c :: k) ⟨(s0, u0) :: (s1, u1) :: (s2, u2) :: (s3, u3) :: (s4, u4) :: (s5, u5) :: (s6, u6) :: fixed, r0 :: mfix⟩ :=
  run_cut φ (fun i => ⟨(s0, f0 i) :: (s1, f1 i) :: (s2, f2 i) :: (s3, f3 i) :: (s4, f4 i) :: (s5, f5 i) :: (s6, f6 i) :: fixed, g0 i :: mfix⟩) h h'
theorem run_loopC7M2 {ι : Type} {c : Code} {fixed : List (Nat × Value)} {mfix : List Res} {s0 s1 s2 s3 s4 s5 s6 : Nat} {u0 u1 u2 u3 u4 u5 u6 : Value} {r0 r1 : Res} (φ : ι → Prop) (f0 f1 f2 f3 f4 f5 f6 : ι → Value) (g0 g1 : ι → Res) (μ : ι → Nat) (i0 : ι) (h0 : φ i0) (e0 : u0 = f0 i0) (e1 : u1 = f1 i0) (e2 : u2 = f2 i0) (e3 : u3 = f3 i0) (e4 : u4 = f4 i0) (e5 : u5 = f5 i0) (e6 : u6 = f6 i0) (q0 : ResSub r0 (g0 i0)) (q1 : ResSub r1 (g1 i0)) 
    (hr : ∀ i, φ i → Run P fn R X W n (.code c :: .stop (Again X W n φ (fun i => ⟨(s0, f0 i) :: (s1, f1 i) :: (s2, f2 i) :: (s3, f3 i) :: (s4, f4 i) :: (s5, f5 i) :: (s6, f6 i) :: fixed, g0 i :: g1 i :: mfix⟩) μ (μ i)) :: k) ⟨(s0, f0 i) :: (s1, f1 i) :: (s2, f2 i) :: (s3, f3 i) :: (s4, f4 i) :: (s5, f5 i) :: (s6, f6 i) :: fixed, g0 i :: g1 i :: mfix⟩) : Run P fn R X W n (.code (.loop c) :: k) ⟨(s0, u0) :: (s1, u1) :: (s2, u2) :: (s3, u3) :: (s4, u4) :: (s5, u5) :: (s6, u6) :: fixed, r0 :: r1 :: mfix⟩ := by
  subst e0; subst e1; subst e2; subst e3; subst e4; subst e5; subst e6
  exact run_loop φ (fun i => ⟨(s0, f0 i) :: (s1, f1 i) :: (s2, f2 i) :: (s3, f3 i) :: (s4, f4 i) :: (s5, f5 i) :: (s6, f6 i) :: fixed, g0 i :: g1 i :: mfix⟩) μ i0 h0 (subMk EnvSub.refl (MemSub.cons Sel.here q0 (MemSub.cons Sel.here q1 MemSub.refl))) hr
theorem run_cutC7M2 {ι : Type} {c : Code} {fixed : List (Nat × Value)} {mfix : List Res} {s0 s1 s2 s3 s4 s5 s6 : Nat} {u0 u1 u2 u3 u4 u5 u6 : Value} {r0 r1 : Res} (φ : ι → Prop) (f0 f1 f2 f3 f4 f5 f6 : ι → Value) (g0 g1 : ι → Res) 
    (h : Run P fn R X W n (.code c :: .stop (Fam X W n φ (fun i => ⟨(s0, f0 i) :: (s1, f1 i) :: (s2, f2 i) :: (s3, f3 i) :: (s4, f4 i) :: (s5, f5 i) :: (s6, f6 i) :: fixed, g0 i :: g1 i :: mfix⟩)) :: k) ⟨(s0, u0) :: (s1, u1) :: (s2, u2) :: (s3, u3) :: (s4, u4) :: (s5, u5) :: (s6, u6) :: fixed, r0 :: r1 :: mfix⟩) (h' : ∀ i, φ i → Run P fn R X W n k ⟨(s0, f0 i) :: (s1, f1 i) :: (s2, f2 i) :: (s3, f3 i) :: (s4, f4 i) :: (s5, f5 i) :: (s6, f6 i) :: fixed, g0 i :: g1 i :: mfix⟩) : Run P fn R X W n (.code c :: k) ⟨(s0, u0) :: (s1, u1) :: (s2, u2) :: (s3, u3) :: (s4, u4) :: (s5, u5) :: (s6, u6) :: fixed, r0 :: r1 :: mfix⟩ :=
  run_cut φ (fun i => ⟨(s0, f0 i) :: (s1, f1 i) :: (s2, f2 i) :: (s3, f3 i) :: (s4, f4 i) :: (s5, f5 i) :: (s6, f6 i) :: fixed, g0 i :: g1 i :: mfix⟩) h h'
theorem run_loopC7M3 {ι : Type} {c : Code} {fixed : List (Nat × Value)} {mfix : List Res} {s0 s1 s2 s3 s4 s5 s6 : Nat} {u0 u1 u2 u3 u4 u5 u6 : Value} {r0 r1 r2 : Res} (φ : ι → Prop) (f0 f1 f2 f3 f4 f5 f6 : ι → Value) (g0 g1 g2 : ι → Res) (μ : ι → Nat) (i0 : ι) (h0 : φ i0) (e0 : u0 = f0 i0) (e1 : u1 = f1 i0) (e2 : u2 = f2 i0) (e3 : u3 = f3 i0) (e4 : u4 = f4 i0) (e5 : u5 = f5 i0) (e6 : u6 = f6 i0) (q0 : ResSub r0 (g0 i0)) (q1 : ResSub r1 (g1 i0)) (q2 : ResSub r2 (g2 i0)) 
    (hr : ∀ i, φ i → Run P fn R X W n (.code c :: .stop (Again X W n φ (fun i => ⟨(s0, f0 i) :: (s1, f1 i) :: (s2, f2 i) :: (s3, f3 i) :: (s4, f4 i) :: (s5, f5 i) :: (s6, f6 i) :: fixed, g0 i :: g1 i :: g2 i :: mfix⟩) μ (μ i)) :: k) ⟨(s0, f0 i) :: (s1, f1 i) :: (s2, f2 i) :: (s3, f3 i) :: (s4, f4 i) :: (s5, f5 i) :: (s6, f6 i) :: fixed, g0 i :: g1 i :: g2 i :: mfix⟩) : Run P fn R X W n (.code (.loop c) :: k) ⟨(s0, u0) :: (s1, u1) :: (s2, u2) :: (s3, u3) :: (s4, u4) :: (s5, u5) :: (s6, u6) :: fixed, r0 :: r1 :: r2 :: mfix⟩ := by
  subst e0; subst e1; subst e2; subst e3; subst e4; subst e5; subst e6
  exact run_loop φ (fun i => ⟨(s0, f0 i) :: (s1, f1 i) :: (s2, f2 i) :: (s3, f3 i) :: (s4, f4 i) :: (s5, f5 i) :: (s6, f6 i) :: fixed, g0 i :: g1 i :: g2 i :: mfix⟩) μ i0 h0 (subMk EnvSub.refl (MemSub.cons Sel.here q0 (MemSub.cons Sel.here q1 (MemSub.cons Sel.here q2 MemSub.refl)))) hr
theorem run_cutC7M3 {ι : Type} {c : Code} {fixed : List (Nat × Value)} {mfix : List Res} {s0 s1 s2 s3 s4 s5 s6 : Nat} {u0 u1 u2 u3 u4 u5 u6 : Value} {r0 r1 r2 : Res} (φ : ι → Prop) (f0 f1 f2 f3 f4 f5 f6 : ι → Value) (g0 g1 g2 : ι → Res) 
    (h : Run P fn R X W n (.code c :: .stop (Fam X W n φ (fun i => ⟨(s0, f0 i) :: (s1, f1 i) :: (s2, f2 i) :: (s3, f3 i) :: (s4, f4 i) :: (s5, f5 i) :: (s6, f6 i) :: fixed, g0 i :: g1 i :: g2 i :: mfix⟩)) :: k) ⟨(s0, u0) :: (s1, u1) :: (s2, u2) :: (s3, u3) :: (s4, u4) :: (s5, u5) :: (s6, u6) :: fixed, r0 :: r1 :: r2 :: mfix⟩) (h' : ∀ i, φ i → Run P fn R X W n k ⟨(s0, f0 i) :: (s1, f1 i) :: (s2, f2 i) :: (s3, f3 i) :: (s4, f4 i) :: (s5, f5 i) :: (s6, f6 i) :: fixed, g0 i :: g1 i :: g2 i :: mfix⟩) : Run P fn R X W n (.code c :: k) ⟨(s0, u0) :: (s1, u1) :: (s2, u2) :: (s3, u3) :: (s4, u4) :: (s5, u5) :: (s6, u6) :: fixed, r0 :: r1 :: r2 :: mfix⟩ :=
  run_cut φ (fun i => ⟨(s0, f0 i) :: (s1, f1 i) :: (s2, f2 i) :: (s3, f3 i) :: (s4, f4 i) :: (s5, f5 i) :: (s6, f6 i) :: fixed, g0 i :: g1 i :: g2 i :: mfix⟩) h h'
theorem run_loopC8M0 {ι : Type} {c : Code} {fixed : List (Nat × Value)} {mfix : List Res} {s0 s1 s2 s3 s4 s5 s6 s7 : Nat} {u0 u1 u2 u3 u4 u5 u6 u7 : Value} (φ : ι → Prop) (f0 f1 f2 f3 f4 f5 f6 f7 : ι → Value) (μ : ι → Nat) (i0 : ι) (h0 : φ i0) (e0 : u0 = f0 i0) (e1 : u1 = f1 i0) (e2 : u2 = f2 i0) (e3 : u3 = f3 i0) (e4 : u4 = f4 i0) (e5 : u5 = f5 i0) (e6 : u6 = f6 i0) (e7 : u7 = f7 i0) 
    (hr : ∀ i, φ i → Run P fn R X W n (.code c :: .stop (Again X W n φ (fun i => ⟨(s0, f0 i) :: (s1, f1 i) :: (s2, f2 i) :: (s3, f3 i) :: (s4, f4 i) :: (s5, f5 i) :: (s6, f6 i) :: (s7, f7 i) :: fixed, mfix⟩) μ (μ i)) :: k) ⟨(s0, f0 i) :: (s1, f1 i) :: (s2, f2 i) :: (s3, f3 i) :: (s4, f4 i) :: (s5, f5 i) :: (s6, f6 i) :: (s7, f7 i) :: fixed, mfix⟩) : Run P fn R X W n (.code (.loop c) :: k) ⟨(s0, u0) :: (s1, u1) :: (s2, u2) :: (s3, u3) :: (s4, u4) :: (s5, u5) :: (s6, u6) :: (s7, u7) :: fixed, mfix⟩ := by
  subst e0; subst e1; subst e2; subst e3; subst e4; subst e5; subst e6; subst e7
  exact run_loop φ (fun i => ⟨(s0, f0 i) :: (s1, f1 i) :: (s2, f2 i) :: (s3, f3 i) :: (s4, f4 i) :: (s5, f5 i) :: (s6, f6 i) :: (s7, f7 i) :: fixed, mfix⟩) μ i0 h0 (subMk EnvSub.refl MemSub.refl) hr
theorem run_cutC8M0 {ι : Type} {c : Code} {fixed : List (Nat × Value)} {mfix : List Res} {s0 s1 s2 s3 s4 s5 s6 s7 : Nat} {u0 u1 u2 u3 u4 u5 u6 u7 : Value} (φ : ι → Prop) (f0 f1 f2 f3 f4 f5 f6 f7 : ι → Value) 
    (h : Run P fn R X W n (.code c :: .stop (Fam X W n φ (fun i => ⟨(s0, f0 i) :: (s1, f1 i) :: (s2, f2 i) :: (s3, f3 i) :: (s4, f4 i) :: (s5, f5 i) :: (s6, f6 i) :: (s7, f7 i) :: fixed, mfix⟩)) :: k) ⟨(s0, u0) :: (s1, u1) :: (s2, u2) :: (s3, u3) :: (s4, u4) :: (s5, u5) :: (s6, u6) :: (s7, u7) :: fixed, mfix⟩) (h' : ∀ i, φ i → Run P fn R X W n k ⟨(s0, f0 i) :: (s1, f1 i) :: (s2, f2 i) :: (s3, f3 i) :: (s4, f4 i) :: (s5, f5 i) :: (s6, f6 i) :: (s7, f7 i) :: fixed, mfix⟩) : Run P fn R X W n (.code c :: k) ⟨(s0, u0) :: (s1, u1) :: (s2, u2) :: (s3, u3) :: (s4, u4) :: (s5, u5) :: (s6, u6) :: (s7, u7) :: fixed, mfix⟩ :=
  run_cut φ (fun i => ⟨(s0, f0 i) :: (s1, f1 i) :: (s2, f2 i) :: (s3, f3 i) :: (s4, f4 i) :: (s5, f5 i) :: (s6, f6 i) :: (s7, f7 i) :: fixed, mfix⟩) h h'
theorem run_loopC8M1 {ι : Type} {c : Code} {fixed : List (Nat × Value)} {mfix : List Res} {s0 s1 s2 s3 s4 s5 s6 s7 : Nat} {u0 u1 u2 u3 u4 u5 u6 u7 : Value} {r0 : Res} (φ : ι → Prop) (f0 f1 f2 f3 f4 f5 f6 f7 : ι → Value) (g0 : ι → Res) (μ : ι → Nat) (i0 : ι) (h0 : φ i0) (e0 : u0 = f0 i0) (e1 : u1 = f1 i0) (e2 : u2 = f2 i0) (e3 : u3 = f3 i0) (e4 : u4 = f4 i0) (e5 : u5 = f5 i0) (e6 : u6 = f6 i0) (e7 : u7 = f7 i0) (q0 : ResSub r0 (g0 i0)) 
    (hr : ∀ i, φ i → Run P fn R X W n (.code c :: .stop (Again X W n φ (fun i => ⟨(s0, f0 i) :: (s1, f1 i) :: (s2, f2 i) :: (s3, f3 i) :: (s4, f4 i) :: (s5, f5 i) :: (s6, f6 i) :: (s7, f7 i) :: fixed, g0 i :: mfix⟩) μ (μ i)) :: k) ⟨(s0, f0 i) :: (s1, f1 i) :: (s2, f2 i) :: (s3, f3 i) :: (s4, f4 i) :: (s5, f5 i) :: (s6, f6 i) :: (s7, f7 i) :: fixed, g0 i :: mfix⟩) : Run P fn R X W n (.code (.loop c) :: k) ⟨(s0, u0) :: (s1, u1) :: (s2, u2) :: (s3, u3) :: (s4, u4) :: (s5, u5) :: (s6, u6) :: (s7, u7) :: fixed, r0 :: mfix⟩ := by
  subst e0; subst e1; subst e2; subst e3; subst e4; subst e5; subst e6; subst e7
  exact run_loop φ (fun i => ⟨(s0, f0 i) :: (s1, f1 i) :: (s2, f2 i) :: (s3, f3 i) :: (s4, f4 i) :: (s5, f5 i) :: (s6, f6 i) :: (s7, f7 i) :: fixed, g0 i :: mfix⟩) μ i0 h0 (subMk EnvSub.refl (MemSub.cons Sel.here q0 MemSub.refl)) hr
theorem run_cutC8M1 {ι : Type} {c : Code} {fixed : List (Nat × Value)} {mfix : List Res} {s0 s1 s2 s3 s4 s5 s6 s7 : Nat} {u0 u1 u2 u3 u4 u5 u6 u7 : Value} {r0 : Res} (φ : ι → Prop) (f0 f1 f2 f3 f4 f5 f6 f7 : ι → Value) (g0 : ι → Res) 
    (h : Run P fn R X W n (.code c :: .stop (Fam X W n φ (fun i => ⟨(s0, f0 i) :: (s1, f1 i) :: (s2, f2 i) :: (s3, f3 i) :: (s4, f4 i) :: (s5, f5 i) :: (s6, f6 i) :: (s7, f7 i) :: fixed, g0 i :: mfix⟩)) :: k) ⟨(s0, u0) :: (s1, u1) :: (s2, u2) :: (s3, u3) :: (s4, u4) :: (s5, u5) :: (s6, u6) :: (s7, u7) :: fixed, r0 :: mfix⟩) (h' : ∀ i, φ i → Run P fn R X W n k ⟨(s0, f0 i) :: (s1, f1 i) :: (s2, f2 i) :: (s3, f3 i) :: (s4, f4 i) :: (s5, f5 i) :: (s6, f6 i) :: (s7, f7 i) :: fixed, g0 i :: mfix⟩) : Run P fn R X W n (.code c :: k) ⟨(s0, u0) :: (s1, u1) :: (s2, u2) :: (s3, u3) :: (s4, u4) :: (s5, u5) :: (s6, u6) :: (s7, u7) :: fixed, r0 :: mfix⟩ :=
  run_cut φ (fun i => ⟨(s0, f0 i) :: (s1, f1 i) :: (s2, f2 i) :: (s3, f3 i) :: (s4, f4 i) :: (s5, f5 i) :: (s6, f6 i) :: (s7, f7 i) :: fixed, g0 i :: mfix⟩) h h'
theorem run_loopC8M2 {ι : Type} {c : Code} {fixed : List (Nat × Value)} {mfix : List Res} {s0 s1 s2 s3 s4 s5 s6 s7 : Nat} {u0 u1 u2 u3 u4 u5 u6 u7 : Value} {r0 r1 : Res} (φ : ι → Prop) (f0 f1 f2 f3 f4 f5 f6 f7 : ι → Value) (g0 g1 : ι → Res) (μ : ι → Nat) (i0 : ι) (h0 : φ i0) (e0 : u0 = f0 i0) (e1 : u1 = f1 i0) (e2 : u2 = f2 i0) (e3 : u3 = f3 i0) (e4 : u4 = f4 i0) (e5 : u5 = f5 i0) (e6 : u6 = f6 i0) (e7 : u7 = f7 i0) (q0 : ResSub r0 (g0 i0)) (q1 : ResSub r1 (g1 i0)) 
    (hr : ∀ i, φ i → Run P fn R X W n (.code c :: .stop (Again X W n φ (fun i => ⟨(s0, f0 i) :: (s1, f1 i) :: (s2, f2 i) :: (s3, f3 i) :: (s4, f4 i) :: (s5, f5 i) :: (s6, f6 i) :: (s7, f7 i) :: fixed, g0 i :: g1 i :: mfix⟩) μ (μ i)) :: k) ⟨(s0, f0 i) :: (s1, f1 i) :: (s2, f2 i) :: (s3, f3 i) :: (s4, f4 i) :: (s5, f5 i) :: (s6, f6 i) :: (s7, f7 i) :: fixed, g0 i :: g1 i :: mfix⟩) : Run P fn R X W n (.code (.loop c) :: k) ⟨(s0, u0) :: (s1, u1) :: (s2, u2) :: (s3, u3) :: (s4, u4) :: (s5, u5) :: (s6, u6) :: (s7, u7) :: fixed, r0 :: r1 :: mfix⟩ := by
  subst e0; subst e1; subst e2; subst e3; subst e4; subst e5; subst e6; subst e7
  exact run_loop φ (fun i => ⟨(s0, f0 i) :: (s1, f1 i) :: (s2, f2 i) :: (s3, f3 i) :: (s4, f4 i) :: (s5, f5 i) :: (s6, f6 i) :: (s7, f7 i) :: fixed, g0 i :: g1 i :: mfix⟩) μ i0 h0 (subMk EnvSub.refl (MemSub.cons Sel.here q0 (MemSub.cons Sel.here q1 MemSub.refl))) hr
theorem run_cutC8M2 {ι : Type} {c : Code} {fixed : List (Nat × Value)} {mfix : List Res} {s0 s1 s2 s3 s4 s5 s6 s7 : Nat} {u0 u1 u2 u3 u4 u5 u6 u7 : Value} {r0 r1 : Res} (φ : ι → Prop) (f0 f1 f2 f3 f4 f5 f6 f7 : ι → Value) (g0 g1 : ι → Res) 
    (h : Run P fn R X W n (.code c :: .stop (Fam X W n φ (fun i => ⟨(s0, f0 i) :: (s1, f1 i) :: (s2, f2 i) :: (s3, f3 i) :: (s4, f4 i) :: (s5, f5 i) :: (s6, f6 i) :: (s7, f7 i) :: fixed, g0 i :: g1 i :: mfix⟩)) :: k) ⟨(s0, u0) :: (s1, u1) :: (s2, u2) :: (s3, u3) :: (s4, u4) :: (s5, u5) :: (s6, u6) :: (s7, u7) :: fixed, r0 :: r1 :: mfix⟩) (h' : ∀ i, φ i → Run P fn R X W n k ⟨(s0, f0 i) :: (s1, f1 i) :: (s2, f2 i) :: (s3, f3 i) :: (s4, f4 i) :: (s5, f5 i) :: (s6, f6 i) :: (s7, f7 i) :: fixed, g0 i :: g1 i :: mfix⟩) : Run P fn R X W n (.code c :: k) ⟨(s0, u0) :: (s1, u1) :: (s2, u2) :: (s3, u3) :: (s4, u4) :: (s5, u5) :: (s6, u6) :: (s7, u7) :: fixed, r0 :: r1 :: mfix⟩ :=
  run_cut φ (fun i => ⟨(s0, f0 i) :: (s1, f1 i) :: (s2, f2 i) :: (s3, f3 i) :: (s4, f4 i) :: (s5, f5 i) :: (s6, f6 i) :: (s7, f7 i) :: fixed, g0 i :: g1 i :: mfix⟩) h h'
theorem run_loopC8M3 {ι : Type} {c : Code} {fixed : List (Nat × Value)} {mfix : List Res} {s0 s1 s2 s3 s4 s5 s6 s7 : Nat} {u0 u1 u2 u3 u4 u5 u6 u7 : Value} {r0 r1 r2 : Res} (φ : ι → Prop) (f0 f1 f2 f3 f4 f5 f6 f7 : ι → Value) (g0 g1 g2 : ι → Res) (μ : ι → Nat) (i0 : ι) (h0 : φ i0) (e0 : u0 = f0 i0) (e1 : u1 = f1 i0) (e2 : u2 = f2 i0) (e3 : u3 = f3 i0) (e4 : u4 = f4 i0) (e5 : u5 = f5 i0) (e6 : u6 = f6 i0) (e7 : u7 = f7 i0) (q0 : ResSub r0 (g0 i0)) (q1 : ResSub r1 (g1 i0)) (q2 : ResSub r2 (g2 i0)) 
    (hr : ∀ i, φ i → Run P fn R X W n (.code c :: .stop (Again X W n φ (fun i => ⟨(s0, f0 i) :: (s1, f1 i) :: (s2, f2 i) :: (s3, f3 i) :: (s4, f4 i) :: (s5, f5 i) :: (s6, f6 i) :: (s7, f7 i) :: fixed, g0 i :: g1 i :: g2 i :: mfix⟩) μ (μ i)) :: k) ⟨(s0, f0 i) :: (s1, f1 i) :: (s2, f2 i) :: (s3, f3 i) :: (s4, f4 i) :: (s5, f5 i) :: (s6, f6 i) :: (s7, f7 i) :: fixed, g0 i :: g1 i :: g2 i :: mfix⟩) : Run P fn R X W n (.code (.loop c) :: k) ⟨(s0, u0) :: (s1, u1) :: (s2, u2) :: (s3, u3) :: (s4, u4) :: (s5, u5) :: (s6, u6) :: (s7, u7) :: fixed, r0 :: r1 :: r2 :: mfix⟩ := by
  subst e0; subst e1; subst e2; subst e3; subst e4; subst e5; subst e6; subst e7
  exact run_loop φ (fun i => ⟨(s0, f0 i) :: (s1, f1 i) :: (s2, f2 i) :: (s3, f3 i) :: (s4, f4 i) :: (s5, f5 i) :: (s6, f6 i) :: (s7, f7 i) :: fixed, g0 i :: g1 i :: g2 i :: mfix⟩) μ i0 h0 (subMk EnvSub.refl (MemSub.cons Sel.here q0 (MemSub.cons Sel.here q1 (MemSub.cons Sel.here q2 MemSub.refl)))) hr
theorem run_cutC8M3 {ι : Type} {c : Code} {fixed : List (Nat × Value)} {mfix : List Res} {s0 s1 s2 s3 s4 s5 s6 s7 : Nat} {u0 u1 u2 u3 u4 u5 u6 u7 : Value} {r0 r1 r2 : Res} (φ : ι → Prop) (f0 f1 f2 f3 f4 f5 f6 f7 : ι → Value) (g0 g1 g2 : ι → Res) 
    (h : Run P fn R X W n (.code c :: .stop (Fam X W n φ (fun i => ⟨(s0, f0 i) :: (s1, f1 i) :: (s2, f2 i) :: (s3, f3 i) :: (s4, f4 i) :: (s5, f5 i) :: (s6, f6 i) :: (s7, f7 i) :: fixed, g0 i :: g1 i :: g2 i :: mfix⟩)) :: k) ⟨(s0, u0) :: (s1, u1) :: (s2, u2) :: (s3, u3) :: (s4, u4) :: (s5, u5) :: (s6, u6) :: (s7, u7) :: fixed, r0 :: r1 :: r2 :: mfix⟩) (h' : ∀ i, φ i → Run P fn R X W n k ⟨(s0, f0 i) :: (s1, f1 i) :: (s2, f2 i) :: (s3, f3 i) :: (s4, f4 i) :: (s5, f5 i) :: (s6, f6 i) :: (s7, f7 i) :: fixed, g0 i :: g1 i :: g2 i :: mfix⟩) : Run P fn R X W n (.code c :: k) ⟨(s0, u0) :: (s1, u1) :: (s2, u2) :: (s3, u3) :: (s4, u4) :: (s5, u5) :: (s6, u6) :: (s7, u7) :: fixed, r0 :: r1 :: r2 :: mfix⟩ :=
  run_cut φ (fun i => ⟨(s0, f0 i) :: (s1, f1 i) :: (s2, f2 i) :: (s3, f3 i) :: (s4, f4 i) :: (s5, f5 i) :: (s6, f6 i) :: (s7, f7 i) :: fixed, g0 i :: g1 i :: g2 i :: mfix⟩) h h'
end
end Hr
end Go.Proofs.YtgphmbipakdggaaR
