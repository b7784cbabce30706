/- hemiolalaw28.SlurChecks answers true at every input, and each argument reads afterwards as it read before. No condition is laid on the input. -/
import Derived.Test.YtomhegnaojejnaaOpen
import Derived.Test.YtomhegnaojejnaaK
set_option linter.unusedSimpArgs false
set_option linter.unusedVariables false
namespace Go.Proofs.Ytomhegnaojejnaa
open Go Go.RowKit Go.ChangeShapes Go.WideShapes Hr

set_option maxRecDepth 100000 in
theorem slurChecks_lifted (os : Os) (started : os.Started) (H : Type) (enc : TypeId × Value → H) :
    ReturnsInHanded {} Try.checked os 3 .any (Rows.slurChecksSpec.pre6 enc Try.prog Try.f3 Rows.slurChecksRow.domain false) (Rows.slurChecksSpec.post enc Try.prog Try.f3 false true false false) := by
  refine returnsInHanded_of_change (C := Try.checked) own started (by kernel_rfl) Try.func3
    (ChangeSpec.witness6 (enc := enc) (C := Try.checked) false ⟨#[], #[.agg #[.int .i64 0, .int .i64 0, .int .i64 0, .int .i64 0, .int .i64 0, .int .i64 0, .int .i64 0, .int .i64 0, .int .i64 0, .int .i64 0, .bool false, .bool false], .int .i64 0], []⟩ 8 (by kernel_rfl) (by kernel_rfl) (by kernel_rfl) (by kernel_rfl)) ?_
  intro W base args ds gs before hval0 hW hcnd _
  have hval : ∀ (j : Nat) t v, Try.f3.params[j]? = some t → args[j]? = some v → Value.okWide Try.prog W .any base t v := hval0
  have hW' := hW
  obtain ⟨p, q, hA0, hV, hpq, hfz, hnd⟩ := hW
  have hA : DataW.TrodAll enc Try.prog W 0 (fun _ => true) true Try.f3.params.toList args.toList ds p := hA0
  rw [Try.params3] at hA hval
  obtain ⟨v0, v1, d0, d1, p0, p1, rfl, rfl, hpp, h0, h1⟩ := trodAll_two hA
  obtain ⟨_, h0f⟩ := h0
  obtain ⟨v0s, rfl, -⟩ := okWide_struct Try.underlying25 (hval 0 25 v0 rfl rfl)
  obtain ⟨a0, a1, a2, a3, a40, a41, a5, a6, a7, a8, a9, a10, e0, wa0, wa1, wa2, wa3, wa4, wa5, wa6, wa7, wa8, wa9⟩ := open25 h0f
  obtain rfl : v0s = #[.int .i64 a0, .int .i64 a1, .int .i64 a2, .int .i64 a3, .int .i64 a40, .int .i64 a41, .int .i64 a5, .int .i64 a6, .int .i64 a7, .int .i64 a8, .bool a9, .bool a10] := Array.toList_inj.1 e0
  obtain ⟨_, h1f⟩ := h1
  obtain ⟨v1q, rfl⟩ := okWide_int Try.underlying3 (hval 1 3 v1 rfl rfl)
  obtain ⟨b, e1, wb0⟩ := open3 h1f
  simp only [Value.cells, List.cons.injEq, and_true, Value.slice.injEq, Value.int.injEq, Value.bool.injEq, Value.string.injEq, true_and] at e1
  subst e1
  refine (law3_just ⟨a0, a1, a2, a3, a40, a41, a5, a6, a7, a8, a9, a10⟩ v1q W).mono fun e W' hh => ?_
  obtain ⟨he, hk⟩ := hh
  subst he
  exact ⟨_, rfl, law_post laidOut (by rw [Try.params3]; intro t ht; simp only [List.mem_cons, List.not_mem_nil, or_false] at ht; rcases ht with rfl | rfl <;> exact ⟨by kernel_rfl, of_decide_eq_true (by kernel_rfl)⟩) (by kernel_rfl) Try.underlying4 rfl rfl hW' hk⟩
theorem slurChecks_holds : Rows.SlurChecksSaid :=
  OpenClaim.holds_of_wide 3 Try.f3 rfl rfl rfl rfl rfl rfl rfl ⟨rfl, rfl, rfl, rfl, rfl⟩ rfl rfl rfl rfl rfl (by kernel_rfl) Try.func3 (by kernel_rfl)
    (of_decide_eq_true (by kernel_rfl)) (by unfold Func.isWrapper; first | (rw [if_pos (by decide +kernel)]; kernel_rfl) | (rw [if_neg (by decide +kernel)]; exact ⟨rfl, rfl⟩))
    (fun os started H enc _ => slurChecks_lifted os started H enc)

end Go.Proofs.Ytomhegnaojejnaa
