/- hemiolalaw29.MarksOrders answers true at every input, and each argument reads afterwards as it read before. No condition is laid on the input. -/
import Derived.Test.YtgphmbipakdggaaROpen2
import Derived.Test.YtgphmbipakdggaaRQD
set_option linter.unusedSimpArgs false
set_option linter.unusedVariables false
namespace Go.Proofs.YtgphmbipakdggaaR
open Go Go.RowKit Go.ChangeShapes Go.WideShapes Hr

set_option maxRecDepth 100000 in
theorem marksOrders_lifted (os : Os) (started : os.Started) (H : Type) (enc : TypeId × Value → H) :
    ReturnsInHanded {} Try.checked os 11 .any (Rows.marksOrdersSpec.pre6 enc Try.prog Try.f11 Rows.marksOrdersRow.domain false) (Rows.marksOrdersSpec.post enc Try.prog Try.f11 false true false false) := by
  refine returnsInHanded_of_change (C := Try.checked) own started (by kernel_rfl) Try.func11
    (ChangeSpec.witness6 (enc := enc) (C := Try.checked) false ⟨#[], #[.slice none 0 0], []⟩ 8 (by kernel_rfl) (by kernel_rfl) (by kernel_rfl) (by kernel_rfl)) ?_
  intro W base args ds gs before hval0 hW hcnd _
  have hval : ∀ (j : Nat) t v, Try.f11.params[j]? = some t → args[j]? = some v → Value.okWide Try.prog W .any base t v := hval0
  have hW' := hW
  obtain ⟨p, q, hA0, hV, hpq, hfz, hnd⟩ := hW
  have hA : DataW.TrodAll enc Try.prog W 0 (fun _ => true) true Try.f11.params.toList args.toList ds p := hA0
  rw [Try.params11] at hA hval
  obtain ⟨v0, d0, rfl, rfl, h0⟩ := trodAll_one hA
  obtain ⟨_, h0f⟩ := h0
  obtain ⟨v0q, v0q1, v0q2, rfl⟩ := okWide_slice Try.underlying37 (hval 0 37 v0 rfl rfl)
  obtain ⟨aA, al, ac, e0, wa0, wa1, wa2, wa3⟩ := open37 h0f
  simp only [Value.cells, List.cons.injEq, and_true, Value.slice.injEq, Value.int.injEq, Value.bool.injEq, Value.string.injEq, true_and] at e0
  obtain ⟨rfl, rfl, rfl⟩ := e0
  refine (law11_just al v0q v0q2 W wa2 wa0).mono fun e W' hh => ?_
  obtain ⟨he, hk⟩ := hh
  subst he
  exact ⟨_, rfl, law_post laidOut (by rw [Try.params11]; intro t ht; simp only [List.mem_cons, List.not_mem_nil, or_false] at ht; subst ht; exact ⟨by kernel_rfl, of_decide_eq_true (by kernel_rfl)⟩) (by kernel_rfl) Try.underlying4 rfl rfl hW' hk⟩
theorem marksOrders_holds : Rows.MarksOrdersSaid :=
  OpenClaim.holds_of_wide 11 Try.f11 rfl rfl rfl rfl rfl rfl rfl ⟨rfl, rfl, rfl, rfl, rfl⟩ rfl rfl rfl rfl rfl (by kernel_rfl) Try.func11 (by kernel_rfl)
    (of_decide_eq_true (by kernel_rfl)) (by unfold Func.isWrapper; first | (rw [if_pos (by decide +kernel)]; kernel_rfl) | (rw [if_neg (by decide +kernel)]; exact ⟨rfl, rfl⟩))
    (fun os started H enc _ => marksOrders_lifted os started H enc)

end Go.Proofs.YtgphmbipakdggaaR
