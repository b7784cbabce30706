/- Regions that draw their order: quiet operations that look at no memory may come behind the heavy ones. -/
import Derived.Test.YtgphmbipakdggaaRFork
set_option linter.unusedSimpArgs false
set_option linter.unusedVariables false
namespace Go.Proofs.YtgphmbipakdggaaR
namespace Hr
open Go Go.RowKit

/-- As okOrder; (i, 3): quiet, and it looks at no memory. -/
def okOrderP (ops : Array Oper) : List (Nat × Nat) → Array Bool → Bool
  | [], listed => (Region.ready .any ops listed).isEmpty
  | (i, 0) :: r, listed => (Region.ready .any ops listed).contains i && Region.free .any ops listed i && okOrderP ops r (listed.setIfInBounds i true)
  | (i, 3) :: r, listed => (Region.ready .any ops listed).contains i && Region.free .any ops listed i && okOrderP ops r (listed.setIfInBounds i true)
  | (i, _) :: r, listed => (Region.ready .any ops listed == [i]) && okOrderP ops r (listed.setIfInBounds i true)
def okRegionP (ops : Array Oper) (order : List (Nat × Nat)) : Bool := Region.noSelect ops && Nat.beq order.length ops.size && okOrderP ops order (Array.replicate ops.size false) && okTail ops order

section
variable {P : Program} {fn : Func} {R : Ending → World → Prop} {X : Nat → Prop} {W : World} {n : Nat} {k : List K} {S : St} {env : List (Nat × Value)} {mem : List Res} {M0 : List Res} {ops : Array Oper} {ord : List (Nat × Nat)}

def DclP (X : Nat → Prop) (W : World) (M0 : List Res) (ord : List (Nat × Nat)) (j : Nat) (w1 w' : World) : Prop :=
  match tagOf ord j with
  | 0 => Kept nX w1 w'
  | 3 => Kept nX w1 w'
  | 2 => Kept X W w'
  | _ => Core X W M0 w'

/-- What is left of a drawn region: the operations of an order. -/
def RunP (P : Program) (fn : Func) (R : Ending → World → Prop) (X : Nat → Prop) (W : World) (n : Nat) (k : List K) (M0 : List Res) (ops : Array Oper) (ord order : List (Nat × Nat)) (S : St) : Prop :=
  ∀ listed, Region.noSelect ops = true → okTail ops ord = true → okOrderP ops order listed = true → Closed ops listed → ∀ a w, Sat X W n S a w → ((∃ i, tagOf ord i = 0 ∧ listed.getD i true = false) → Core X W M0 w) →
    AnyU P ops (DclP X W M0 ord) (fun a w => post P fn R k .normal a w) (Only fun a w => post P fn R k .normal a w) order.length listed a w

theorem run_pure {id : Nat} {l : List Oper} (order : List (Nat × Nat)) (hm : P.follows .mixedOrders = true) (hok : okRegionP l.toArray order = true) (hM : MemSub S.mem M0) (h : RunP P fn R X W n k M0 l.toArray order order S) :
    Run P fn R X W n (.code (.region id l.toArray true) :: k) S := by
  intro a w hs
  simp only [okRegionP, Bool.and_eq_true] at hok
  obtain ⟨⟨⟨h1, h2⟩, h3⟩, h4⟩ := hok
  have hlen : order.length = l.toArray.size := Nat.eq_of_beq_eq_true h2
  have hs' : Sat X W n S a { w with drawn := w.drawn + 1 } := hs.world (Kept.refl nX w).drew
  have hcl : Closed l.toArray (Array.replicate l.toArray.size false) := by
    intro j o hj hl
    rcases Nat.lt_or_ge j l.toArray.size with h' | h'
    · simp at h'; simp [h'] at hl
    · simp at h'; simp [h'] at hl
  have hd := h _ h1 h4 h3 hcl a _ hs' (fun _ => ⟨hs'.kept, (hM _ _ _ hs'.mem).1⟩)
  rw [hlen] at hd
  have := wp_region_any (P := P) (id := id) hm (AnyU.any (E := Only fun a w => post P fn R k .normal a w) (fun a w h => ⟨rfl, h⟩) hd)
  exact Code.wp_mono (fun e a w ⟨he, hq⟩ => by subst he; exact hq) this

theorem p_nil (h : Run P fn R X W n k S) : RunP P fn R X W n k M0 ops ord [] S := by
  intro listed _ _ hok _ a w hs _ w1 hk1
  exact ⟨by simpa [okOrderP] using hok, h a w1 (hs.world hk1)⟩

theorem p_first {i : Nat} {o : Oper} {v : Value} {r : List (Nat × Nat)} {listed : Array Bool} {a : Act} {w : World} (hi : ops[i]? = some o) (ht : tagOf ord i = 0) (hsel : Region.noSelect ops = true) (htl : okTail ops ord = true) (hok : okOrderP ops ((i, 0) :: r) listed = true) (hcl : Closed ops listed)
    (hy : YieldsU P ops (Core X W M0) o v a) (hC : Core X W M0 w)
    (hk : okOrderP ops r (listed.setIfInBounds i true) = true → Closed ops (listed.setIfInBounds i true) → AnyU P ops (DclP X W M0 ord) (fun a w => post P fn R k .normal a w) (Only fun a w => post P fn R k .normal a w) r.length (listed.setIfInBounds i true) (a.put o.dst v) w) :
    AnyU P ops (DclP X W M0 ord) (fun a w => post P fn R k .normal a w) (Only fun a w => post P fn R k .normal a w) ((i, 0) :: r).length listed a w := by
  simp only [okOrderP, Bool.and_eq_true] at hok
  obtain ⟨⟨h1, h2⟩, h3⟩ := hok
  have hr : i ∈ Region.ready .any ops listed := by simpa using h1
  refine AnyU.first (C := Core X W M0) (v := v) hi (Region.noSelect_spec hsel) (fun _ _ => Core.up) (fun w1 w' hk => by unfold DclP; rw [ht]; exact hk) (fun L j w1 w' hL hiL hj hC1 hD => ?_) _ _ _ _ hcl (Region.free_spec hi h2) hr hy hC (hk h3 (hcl.step hr))
  unfold DclP at hD
  split at hD
  · exact hC1.up hD
  · exact hC1.up hD
  · rename_i hx
    exfalso
    have := okTail_spec htl hL ht hx hj
    rcases Nat.lt_or_ge i L.size with h' | h'
    · simp [h'] at this hiL; rw [hiL] at this; cases this
    · simp [h'] at this
  · exact hD

theorem p_q {i d : Nat} {o : Oper} {v : Value} {r : List (Nat × Nat)} (hi : ops[i]? = some o) (ht : tagOf ord i = 0) (hw : Want ops env o true) (hd : o.dst = some d) (hdn : Nat.blt d n = true) (h : Q1 P X W n ⟨env, M0⟩ o v)
    (hk : RunP P fn R X W n k M0 ops ord r ⟨(d, v) :: env, mem⟩) : RunP P fn R X W n k M0 ops ord ((i, 0) :: r) ⟨env, mem⟩ := by
  intro listed hsel htl hok hcl a w hs hC
  have hr : i ∈ Region.ready .any ops listed := by simp only [okOrderP, Bool.and_eq_true] at hok; simpa using hok.1.1
  have hC' := hC ⟨i, ht, lt_of_ready hr⟩
  refine p_first hi ht hsel htl hok hcl (v := v) (.inl ⟨hw.eq hs, fun w' hw' => h a w' ⟨hs.size, hs.defers, hs.env, hw'.1, hw'.2⟩⟩) hC' fun h3 hcl' => ?_
  have := hk _ hsel htl h3 hcl' (a.put (some d) v) w (hs.put hdn v) (fun _ => hC')
  rw [hd]
  exact this

theorem p_split {r : List (Nat × Nat)} (t : Tmp) {c : Bool} (_ht : fnd S.env t = some (.bool c)) (h1 : c = true → RunP P fn R X W n k M0 ops ord r S) (h2 : c = false → RunP P fn R X W n k M0 ops ord r S) : RunP P fn R X W n k M0 ops ord r S := by
  cases c
  · exact h2 rfl
  · exact h1 rfl
theorem p_off {i d : Nat} {o : Oper} {r : List (Nat × Nat)} (hi : ops[i]? = some o) (ht : tagOf ord i = 0) (hw : Want ops env o false) (hd : o.dst = some d) (hdn : Nat.blt d n = true)
    (hk : RunP P fn R X W n k M0 ops ord r ⟨(d, undef) :: env, mem⟩) : RunP P fn R X W n k M0 ops ord ((i, 0) :: r) ⟨env, mem⟩ := by
  intro listed hsel htl hok hcl a w hs hC
  have hr : i ∈ Region.ready .any ops listed := by simp only [okOrderP, Bool.and_eq_true] at hok; simpa using hok.1.1
  have hC' := hC ⟨i, ht, lt_of_ready hr⟩
  refine p_first hi ht hsel htl hok hcl (v := undef) (.inr ⟨hw.eq hs, rfl⟩) hC' fun h3 hcl' => ?_
  have := hk _ hsel htl h3 hcl' (a.put (some d) undef) w (hs.put hdn undef) (fun _ => hC')
  rw [hd]
  exact this

theorem p_sole {i t : Nat} {o : Oper} {r : List (Nat × Nat)} {ι : Type} {φ : ι → Prop} {next : ι → St} (hi : ops[i]? = some o) (hw : Want ops env o true) (h : H1 P X W n ⟨env, mem⟩ o φ next) (hD : ∀ j w1 w', φ j → Kept X W w' → Mem X W (next j).mem w' → DclP X W M0 ord i w1 w')
    (hM : ∀ j, φ j → MemSub (next j).mem M0 ∨ tagOf ord i = 2)
    (hstep : ∀ listed, okOrderP ops ((i, t) :: r) listed = ((Region.ready .any ops listed == [i]) && okOrderP ops r (listed.setIfInBounds i true)))
    (hk : ∀ j, φ j → RunP P fn R X W n k M0 ops ord r (next j)) : RunP P fn R X W n k M0 ops ord ((i, t) :: r) ⟨env, mem⟩ := by
  intro listed hsel htl hok hcl a w hs _ w1 hk1
  have hok' := hok
  rw [hstep] at hok
  simp only [Bool.and_eq_true, beq_iff_eq] at hok
  obtain ⟨h1, h3⟩ := hok
  refine ⟨fun h0 => (by rw [h1] at h0; cases h0), fun j hj => ?_⟩
  rw [h1] at hj
  simp only [List.mem_singleton] at hj
  subst hj
  unfold wpOp
  simp only [hi]
  have hs1 := hs.world hk1
  rw [if_pos (hw.eq hs1)]
  refine .inl (h a w1 hs1 _ _ fun i' a' w' hφ hs' => ⟨hD i' w1 w' hφ hs'.kept hs'.mem, ?_⟩)
  refine hk i' hφ _ hsel htl h3 (hcl.step (by rw [h1]; simp)) a' w' hs' ?_
  rintro ⟨q, hq, hun⟩
  rcases hM i' hφ with hm | hm
  · exact ⟨hs'.kept, (hm _ _ _ hs'.mem).1⟩
  · have h5 := okTail_spec htl hcl hq hm (by rw [h1]; simp)
    have h6 := getD_set_true (i := j) h5
    rcases Nat.lt_or_ge q (listed.setIfInBounds j true).size with h' | h'
    · simp only [Array.getD_eq_getD_getElem?, Array.getElem?_eq_getElem h', Option.getD_some] at h6 hun
      rw [hun] at h6; cases h6
    · simp only [Array.getD_eq_getD_getElem?, Array.getElem?_eq_none h', Option.getD_none] at h6
      cases h6

theorem p_h {i : Nat} {o : Oper} {r : List (Nat × Nat)} {ι : Type} {φ : ι → Prop} {next : ι → St} (hi : ops[i]? = some o) (ht : tagOf ord i = 1) (hw : Want ops env o true) (h : H1 P X W n ⟨env, mem⟩ o φ next) (hM : ∀ j, φ j → MemSub (next j).mem M0)
    (hk : ∀ j, φ j → RunP P fn R X W n k M0 ops ord r (next j)) : RunP P fn R X W n k M0 ops ord ((i, 1) :: r) ⟨env, mem⟩ :=
  p_sole (t := 1) hi hw h (fun j w1 w' hφ hk hm => by unfold DclP; rw [ht]; exact ⟨hk, (hM j hφ _ _ _ hm).1⟩) (fun j hφ => .inl (hM j hφ)) (fun _ => rfl) hk
theorem p_t {i : Nat} {o : Oper} {r : List (Nat × Nat)} {ι : Type} {φ : ι → Prop} {next : ι → St} (hi : ops[i]? = some o) (ht : tagOf ord i = 2) (hw : Want ops env o true) (h : H1 P X W n ⟨env, mem⟩ o φ next)
    (hk : ∀ j, φ j → RunP P fn R X W n k M0 ops ord r (next j)) : RunP P fn R X W n k M0 ops ord ((i, 2) :: r) ⟨env, mem⟩ :=
  p_sole (t := 2) hi hw h (fun j w1 w' _ hk _ => by unfold DclP; rw [ht]; exact hk) (fun _ _ => .inr ht) (fun _ => rfl) hk
/-- A quiet operation that looks at no memory. -/
theorem p_p {i d : Nat} {o : Oper} {v : Value} {r : List (Nat × Nat)} (hi : ops[i]? = some o) (ht : tagOf ord i = 3) (hw : Want ops env o true) (hd : o.dst = some d) (hdn : Nat.blt d n = true) (h : Q1 P X W n ⟨env, []⟩ o v)
    (hk : RunP P fn R X W n k M0 ops ord r ⟨(d, v) :: env, mem⟩) : RunP P fn R X W n k M0 ops ord ((i, 3) :: r) ⟨env, mem⟩ := by
  intro listed hsel htl hok hcl a w hs hC
  simp only [okOrderP, Bool.and_eq_true] at hok
  obtain ⟨⟨h1, h2⟩, h3⟩ := hok
  have hr : i ∈ Region.ready .any ops listed := by simpa using h1
  have hy : YieldsU P ops (Core X W []) o v a := .inl ⟨hw.eq hs, fun w' hw' => h a w' ⟨hs.size, hs.defers, hs.env, hw'.1, hw'.2⟩⟩
  refine AnyU.first (C := Core X W []) (v := v) hi (Region.noSelect_spec hsel) (fun _ _ => Core.up) (fun w1 w' hk => by unfold DclP; rw [ht]; exact hk) (fun L j w1 w' hL hiL hj hC1 hD => ?_) _ _ _ _ hcl (Region.free_spec hi h2) hr hy ⟨hs.kept, Mem.nil⟩ ?_
  · unfold DclP at hD
    split at hD
    · exact hC1.up hD
    · exact hC1.up hD
    · exact ⟨hD, Mem.nil⟩
    · exact ⟨hD.1, Mem.nil⟩
  · have := hk _ hsel htl h3 (hcl.step hr) (a.put (some d) v) w (hs.put hdn v) (fun ⟨q, hq, hun⟩ => hC ⟨q, hq, ?_⟩)
    · rw [hd]
      exact this
    · by_cases hqi : i = q
      · subst hqi
        rw [hq] at ht
        cases ht
      · rwa [getD_set_ne true hqi] at hun
end
end Hr
end Go.Proofs.YtgphmbipakdggaaR
