/- hemiolalaw28.SlurErrors answers true at every input, and each argument reads afterwards as it read before. No condition is laid on the input. -/
import Derived.Test.YtomhegnaojejnaaOpen
import Derived.Test.YtomhegnaojejnaaL
set_option linter.unusedSimpArgs false
set_option linter.unusedVariables false
namespace Go.Proofs.Ytomhegnaojejnaa
open Go Go.RowKit Go.ChangeShapes Go.WideShapes Hr

set_option maxRecDepth 100000 in
theorem slurErrors_lifted (os : Os) (started : os.Started) (H : Type) (enc : TypeId × Value → H) :
    ReturnsInHanded {} Try.checked os 6 .any (Rows.slurErrorsSpec.pre6 enc Try.prog Try.f6 Rows.slurErrorsRow.domain false) (Rows.slurErrorsSpec.post enc Try.prog Try.f6 false true false false) := by
  refine returnsInHanded_of_change (C := Try.checked) own started (by kernel_rfl) Try.func6
    (ChangeSpec.witness6 (enc := enc) (C := Try.checked) false ⟨#[], #[.slice none 0 0, .agg #[.int .u8 0, .int .u8 0]], []⟩ 8 (by kernel_rfl) (by kernel_rfl) (by kernel_rfl) (by kernel_rfl)) ?_
  intro W base args ds gs before hval0 hW hcnd _
  have hval : ∀ (j : Nat) t v, Try.f6.params[j]? = some t → args[j]? = some v → Value.okWide Try.prog W .any base t v := hval0
  have hW' := hW
  obtain ⟨p, q, hA0, hV, hpq, hfz, hnd⟩ := hW
  have hA : DataW.TrodAll enc Try.prog W 0 (fun _ => true) true Try.f6.params.toList args.toList ds p := hA0
  rw [Try.params6] at hA hval
  obtain ⟨v0, v1, d0, d1, p0, p1, rfl, rfl, hpp, h0, h1⟩ := trodAll_two hA
  obtain ⟨_, h0f⟩ := h0
  obtain ⟨v0q, v0q1, v0q2, rfl⟩ := okWide_slice Try.underlying30 (hval 0 30 v0 rfl rfl)
  obtain ⟨aA, al, ac, e0, wa0, wa1, wa2, wa3⟩ := open30 h0f
  simp only [Value.cells, List.cons.injEq, and_true, Value.slice.injEq, Value.int.injEq, Value.bool.injEq, Value.string.injEq, true_and] at e0
  obtain ⟨rfl, rfl, rfl⟩ := e0
  obtain ⟨_, h1f⟩ := h1
  obtain ⟨v1s, rfl, -⟩ := okWide_array Try.underlying51 (hval 1 51 v1 rfl rfl)
  obtain ⟨b0, b1, e1, wb0, wb1⟩ := open51 h1f
  obtain rfl : v1s = #[.int .u8 b0, .int .u8 b1] := Array.toList_inj.1 e1
  refine (law6_just al v0q v0q2 b0 b1 W wa2 (wf_bd wb0 rfl rfl) (wf_bd wb1 rfl rfl)).mono fun e W' hh => ?_
  obtain ⟨he, hk⟩ := hh
  subst he
  exact ⟨_, rfl, law_post laidOut (by rw [Try.params6]; intro t ht; simp only [List.mem_cons, List.not_mem_nil, or_false] at ht; rcases ht with rfl | rfl <;> exact ⟨by kernel_rfl, of_decide_eq_true (by kernel_rfl)⟩) (by kernel_rfl) Try.underlying4 rfl rfl hW' hk⟩
theorem slurErrors_holds : Rows.SlurErrorsSaid :=
  OpenClaim.holds_of_wide 6 Try.f6 rfl rfl rfl rfl rfl rfl rfl ⟨rfl, rfl, rfl, rfl, rfl⟩ rfl rfl rfl rfl rfl (by kernel_rfl) Try.func6 (by kernel_rfl)
    (of_decide_eq_true (by kernel_rfl)) (by unfold Func.isWrapper; first | (rw [if_pos (by decide +kernel)]; kernel_rfl) | (rw [if_neg (by decide +kernel)]; exact ⟨rfl, rfl⟩))
    (fun os started H enc _ => slurErrors_lifted os started H enc)

end Go.Proofs.Ytomhegnaojejnaa
