/- hemiolalaw11.EventAdds answers true at every input, and each argument reads afterwards as it read before. No condition is laid on the input. -/
import Derived.Test.YtneadapfoaccmaaOpen
import Derived.Test.YtneadapfoaccmaaC2
set_option linter.unusedSimpArgs false
set_option linter.unusedVariables false
namespace Go.Proofs.Ytneadapfoaccmaa
open Go Go.RowKit Go.ChangeShapes Go.WideShapes Hr

set_option maxRecDepth 100000 in
theorem eventAdds_lifted (os : Os) (started : os.Started) (H : Type) (enc : TypeId × Value → H) :
    ReturnsInHanded {} Try.checked os 12 .any (Rows.eventAddsSpec.pre6 enc Try.prog Try.f12 Rows.eventAddsRow.domain false) (Rows.eventAddsSpec.post enc Try.prog Try.f12 false true false false) := by
  refine returnsInHanded_of_change (C := Try.checked) own started (by kernel_rfl) Try.func12
    (ChangeSpec.witness6 (enc := enc) (C := Try.checked) false ⟨#[], #[.agg #[.int .i64 0, .int .i64 0, .int .i64 0, .int .i64 0, .int .i64 0, .slice none 0 0, .slice none 0 0, .int .i64 0, .int .i64 0, .int .i64 0, .slice none 0 0, .int .i64 0, .int .i64 0], .agg #[.int .i64 0, .int .i64 0, .int .i64 0, .bool false, .int .i64 0]], []⟩ 8 (by kernel_rfl) (by kernel_rfl) (by kernel_rfl) (by kernel_rfl)) ?_
  intro W base args ds gs before hval0 hW hcnd _
  have hval : ∀ (j : Nat) t v, Try.f12.params[j]? = some t → args[j]? = some v → Value.okWide Try.prog W .any base t v := hval0
  have hW' := hW
  obtain ⟨p, q, hA0, hV, hpq, hfz, hnd⟩ := hW
  have hA : DataW.TrodAll enc Try.prog W 0 (fun _ => true) true Try.f12.params.toList args.toList ds p := hA0
  rw [Try.params12] at hA hval
  obtain ⟨v0, v1, d0, d1, p0, p1, rfl, rfl, hpp, h0, h1⟩ := trodAll_two hA
  obtain ⟨_, h0f⟩ := h0
  obtain ⟨v0s, rfl, -⟩ := okWide_struct Try.underlying30 (hval 0 30 v0 rfl rfl)
  obtain ⟨a00, a01, a1, a20, a21, a3A, a3l, a3c, a4A, a4l, a4c, a5, a6, a7, a8A, a8l, a8c, a9, a10, e0, wa0, wa1, wa2, wa3, wa4, wa5, wa6, wa7, wa8, wa9, wa10, wa11, wa12, wa13, wa14, wa15, wa16, wa17, wa18, wa19, wa20, wa21⟩ := open30 h0f
  obtain rfl : v0s = #[.int .i64 a00, .int .i64 a01, .int .i64 a1, .int .i64 a20, .int .i64 a21, .slice a3A a3l.length a3c, .slice a4A a4l.length a4c, .int .i64 a5, .int .i64 a6, .int .i64 a7, .slice a8A a8l.length a8c, .int .i64 a9, .int .i64 a10] := Array.toList_inj.1 e0
  obtain ⟨_, h1f⟩ := h1
  obtain ⟨v1s, rfl, -⟩ := okWide_struct Try.underlying53 (hval 1 53 v1 rfl rfl)
  obtain ⟨b00, b01, b02, b1, b2, e1, wb0, wb1, wb2, wb3⟩ := open53 h1f
  obtain rfl : v1s = #[.int .i64 b00, .int .i64 b01, .int .i64 b02, .bool b1, .int .i64 b2] := Array.toList_inj.1 e1
  refine (law12_just ⟨⟨a00, a01, a1, a20, a21, a5, a6, a7, a9, a10⟩, a3l, a4l, a8l⟩ ⟨a3A, a3c, a4A, a4c, a8A, a8c⟩ ⟨b00, b01, b02, b1, b2⟩ W ⟨wa7, wa11, wa18⟩ wa5 wa9 (wf_bd wa13 rfl rfl).2).mono fun e W' hh => ?_
  obtain ⟨he, hk⟩ := hh
  subst he
  exact ⟨_, rfl, law_post laidOut (by rw [Try.params12]; intro t ht; simp only [List.mem_cons, List.not_mem_nil, or_false] at ht; rcases ht with rfl | rfl <;> exact ⟨by kernel_rfl, of_decide_eq_true (by kernel_rfl)⟩) (by kernel_rfl) Try.underlying4 rfl rfl hW' hk⟩
theorem eventAdds_holds : Rows.EventAddsSaid :=
  OpenClaim.holds_of_wide 12 Try.f12 rfl rfl rfl rfl rfl rfl rfl ⟨rfl, rfl, rfl, rfl, rfl⟩ rfl rfl rfl rfl rfl (by kernel_rfl) Try.func12 (by kernel_rfl)
    (of_decide_eq_true (by kernel_rfl)) (by unfold Func.isWrapper; first | (rw [if_pos (by decide +kernel)]; kernel_rfl) | (rw [if_neg (by decide +kernel)]; exact ⟨rfl, rfl⟩))
    (fun os started H enc _ => eventAdds_lifted os started H enc)

end Go.Proofs.Ytneadapfoaccmaa
