/- Regions that draw their order, where more than one heavy operation may be ready: each order is walked. -/
import Derived.Test.YtgphmbipakdggaaRXtra
set_option linter.unusedSimpArgs false
set_option linter.unusedVariables false
namespace Go.Proofs.YtgphmbipakdggaaR
namespace Hr
open Go Go.RowKit

section
variable {P : Program} {fn : Func} {R : Ending → World → Prop} {X : Nat → Prop} {W : World} {n : Nat} {k : List K} {S : St} {env : List (Nat × Value)} {mem : List Res} {M0 : List Res} {ops : Array Oper} {listed : Array Bool} {m : Nat}

def Dk (X : Nat → Prop) (W : World) (M0 : List Res) (_ : Nat) (w1 w' : World) : Prop := Core X W M0 w1 → Core X W M0 w'
/-- What is left of a drawn region of which the listed operations are done. -/
def RunB (P : Program) (fn : Func) (R : Ending → World → Prop) (X : Nat → Prop) (W : World) (n : Nat) (k : List K) (M0 : List Res) (ops : Array Oper) (m : Nat) (listed : Array Bool) (S : St) : Prop :=
  Region.noSelect ops = true → Closed ops listed → ∀ a w, Sat X W n S a w → Core X W M0 w →
    AnyU P ops (Dk X W M0) (fun a w => post P fn R k .normal a w) (Only fun a w => post P fn R k .normal a w) m listed a w

theorem run_fork {id : Nat} {l : List Oper} (hm : P.follows .mixedOrders = true) (hok : Region.noSelect l.toArray = true) (hM : MemSub S.mem M0) (h : RunB P fn R X W n k M0 l.toArray l.toArray.size (Array.replicate l.toArray.size false) S) :
    Run P fn R X W n (.code (.region id l.toArray true) :: k) S := by
  intro a w hs
  have hs' : Sat X W n S a { w with drawn := w.drawn + 1 } := hs.world (Kept.refl nX w).drew
  have hcl : Closed l.toArray (Array.replicate l.toArray.size false) := by
    intro j o hj hl
    rcases Nat.lt_or_ge j l.toArray.size with h' | h'
    · simp at h'; simp [h'] at hl
    · simp at h'; simp [h'] at hl
  have hd := h hok hcl a _ hs' ⟨hs'.kept, (hM _ _ _ hs'.mem).1⟩
  have := wp_region_any (P := P) (id := id) hm (AnyU.any (E := Only fun a w => post P fn R k .normal a w) (fun a w h => ⟨rfl, h⟩) hd)
  exact Code.wp_mono (fun e a w ⟨he, hq⟩ => by subst he; exact hq) this

theorem b_nil (h0 : Region.ready .any ops listed = []) (h : Run P fn R X W n k S) : RunB P fn R X W n k M0 ops 0 listed S := by
  intro _ _ a w hs _ w1 hk1
  exact ⟨h0, h a w1 (hs.world hk1)⟩

theorem b_first {i : Nat} {o : Oper} {v : Value} {a : Act} {w : World} (hi : ops[i]? = some o) (hr : ((Region.ready .any ops listed).contains i && Region.free .any ops listed i) = true) (hsel : Region.noSelect ops = true) (hcl : Closed ops listed)
    (hy : YieldsU P ops (Core X W M0) o v a) (hC : Core X W M0 w)
    (hk : Closed ops (listed.setIfInBounds i true) → AnyU P ops (Dk X W M0) (fun a w => post P fn R k .normal a w) (Only fun a w => post P fn R k .normal a w) m (listed.setIfInBounds i true) (a.put o.dst v) w) :
    AnyU P ops (Dk X W M0) (fun a w => post P fn R k .normal a w) (Only fun a w => post P fn R k .normal a w) (m + 1) listed a w := by
  simp only [Bool.and_eq_true] at hr
  have hr' : i ∈ Region.ready .any ops listed := by simpa using hr.1
  exact AnyU.first (C := Core X W M0) (v := v) hi (Region.noSelect_spec hsel) (fun _ _ => Core.up) (fun w1 w' hk h => h.up hk) (fun L j w1 w' _ _ _ hC1 hD => hD hC1) _ _ _ _ hcl (Region.free_spec hi hr.2) hr' hy hC (hk (hcl.step hr'))

theorem b_q {i d : Nat} {o : Oper} {v : Value} (hi : ops[i]? = some o) (hr : ((Region.ready .any ops listed).contains i && Region.free .any ops listed i) = true) (hw : Want ops env o true) (hd : o.dst = some d) (hdn : Nat.blt d n = true) (h : Q1 P X W n ⟨env, M0⟩ o v)
    (hk : RunB P fn R X W n k M0 ops m (listed.setIfInBounds i true) ⟨(d, v) :: env, mem⟩) : RunB P fn R X W n k M0 ops (m + 1) listed ⟨env, mem⟩ := by
  intro hsel hcl a w hs hC
  refine b_first hi hr hsel hcl (v := v) (.inl ⟨hw.eq hs, fun w' hw' => h a w' ⟨hs.size, hs.defers, hs.env, hw'.1, hw'.2⟩⟩) hC fun hcl' => ?_
  have := hk hsel hcl' (a.put (some d) v) w (hs.put hdn v) hC
  rw [hd]
  exact this

/-- One heavy operation, taken now. -/
def Take (P : Program) (fn : Func) (R : Ending → World → Prop) (X : Nat → Prop) (W : World) (n : Nat) (k : List K) (M0 : List Res) (ops : Array Oper) (m : Nat) (listed : Array Bool) (i : Nat) (S : St) : Prop :=
  Region.noSelect ops = true → Closed ops listed → Closed ops (listed.setIfInBounds i true) → ∀ a w, Sat X W n S a w → Core X W M0 w →
    wpOp P ops (Only fun a w => post P fn R k .normal a w) i (fun a' w' => Dk X W M0 i w w' ∧ AnyU P ops (Dk X W M0) (fun a w => post P fn R k .normal a w) (Only fun a w => post P fn R k .normal a w) m (listed.setIfInBounds i true) a' w') a w
theorem b_h {i : Nat} {o : Oper} {ι : Type} {φ : ι → Prop} {next : ι → St} (hi : ops[i]? = some o) (hw : Want ops env o true) (h : H1 P X W n ⟨env, mem⟩ o φ next) (hM : ∀ j, φ j → MemSub (next j).mem M0)
    (hk : ∀ j, φ j → RunB P fn R X W n k M0 ops m (listed.setIfInBounds i true) (next j)) : Take P fn R X W n k M0 ops m listed i ⟨env, mem⟩ := by
  intro hsel hcl hcl' a w hs hC
  unfold wpOp
  simp only [hi]
  rw [if_pos (hw.eq hs)]
  refine .inl (h a w hs _ _ fun i' a' w' hφ hs' => ?_)
  have hC' : Core X W M0 w' := ⟨hs'.kept, (hM i' hφ _ _ _ hs'.mem).1⟩
  exact ⟨fun _ => hC', hk i' hφ hsel hcl' a' w' hs' hC'⟩
theorem b_one (i : Nat) (hr : Region.ready .any ops listed = [i]) (h : Take P fn R X W n k M0 ops m listed i S) : RunB P fn R X W n k M0 ops (m + 1) listed S := by
  intro hsel hcl a w hs hC w1 hk1
  refine ⟨fun h0 => (by rw [hr] at h0; cases h0), fun j hj => ?_⟩
  have hst := hcl.step hj
  rw [hr] at hj
  simp only [List.mem_singleton] at hj
  subst hj
  exact h hsel hcl hst a w1 (hs.world hk1) (hC.up hk1)
theorem b_two (i j : Nat) (hr : Region.ready .any ops listed = [i, j]) (h : Take P fn R X W n k M0 ops m listed i S) (h' : Take P fn R X W n k M0 ops m listed j S) : RunB P fn R X W n k M0 ops (m + 1) listed S := by
  intro hsel hcl a w hs hC w1 hk1
  refine ⟨fun h0 => (by rw [hr] at h0; cases h0), fun q hq => ?_⟩
  have hst := hcl.step hq
  rw [hr] at hq
  simp only [List.mem_cons, List.not_mem_nil, or_false] at hq
  rcases hq with rfl | rfl
  · exact h hsel hcl hst a w1 (hs.world hk1) (hC.up hk1)
  · exact h' hsel hcl hst a w1 (hs.world hk1) (hC.up hk1)
theorem b_split (t : Tmp) {c : Bool} (_ht : fnd S.env t = some (.bool c)) (h1 : c = true → RunB P fn R X W n k M0 ops m listed S) (h2 : c = false → RunB P fn R X W n k M0 ops m listed S) : RunB P fn R X W n k M0 ops m listed S := by
  cases c
  · exact h2 rfl
  · exact h1 rfl
theorem b_off {i d : Nat} {o : Oper} (hi : ops[i]? = some o) (hr : ((Region.ready .any ops listed).contains i && Region.free .any ops listed i) = true) (hw : Want ops env o false) (hd : o.dst = some d) (hdn : Nat.blt d n = true)
    (hk : RunB P fn R X W n k M0 ops m (listed.setIfInBounds i true) ⟨(d, undef) :: env, mem⟩) : RunB P fn R X W n k M0 ops (m + 1) listed ⟨env, mem⟩ := by
  intro hsel hcl a w hs hC
  refine b_first hi hr hsel hcl (v := undef) (.inr ⟨hw.eq hs, rfl⟩) hC fun hcl' => ?_
  have := hk hsel hcl' (a.put (some d) undef) w (hs.put hdn undef) hC
  rw [hd]
  exact this
end
end Hr
end Go.Proofs.YtgphmbipakdggaaR
