/- hemiolalaw11.EventMakes answers true at every input, and each argument reads afterwards as it read before. No condition is laid on the input. -/
import Derived.Test.YtneadapfoaccmaaOpen
import Derived.Test.YtneadapfoaccmaaU
set_option linter.unusedSimpArgs false
set_option linter.unusedVariables false
namespace Go.Proofs.Ytneadapfoaccmaa
open Go Go.RowKit Go.ChangeShapes Go.WideShapes Hr

set_option maxRecDepth 100000 in
theorem eventMakes_lifted (os : Os) (started : os.Started) (H : Type) (enc : TypeId × Value → H) :
    ReturnsInHanded {} Try.checked os 8 .any (Rows.eventMakesSpec.pre6 enc Try.prog Try.f8 Rows.eventMakesRow.domain false) (Rows.eventMakesSpec.post enc Try.prog Try.f8 false true false false) := by
  refine returnsInHanded_of_change (C := Try.checked) own started (by kernel_rfl) Try.func8
    (ChangeSpec.witness6 (enc := enc) (C := Try.checked) false ⟨#[], #[.agg #[.int .i64 0, .int .i64 0], .agg #[.int .i64 0, .int .i64 0], .slice none 0 0], []⟩ 8 (by kernel_rfl) (by kernel_rfl) (by kernel_rfl) (by kernel_rfl)) ?_
  intro W base args ds gs before hval0 hW hcnd _
  have hval : ∀ (j : Nat) t v, Try.f8.params[j]? = some t → args[j]? = some v → Value.okWide Try.prog W .any base t v := hval0
  have hW' := hW
  obtain ⟨p, q, hA0, hV, hpq, hfz, hnd⟩ := hW
  have hA : DataW.TrodAll enc Try.prog W 0 (fun _ => true) true Try.f8.params.toList args.toList ds p := hA0
  rw [Try.params8] at hA hval
  obtain ⟨v0, v1, v2, d0, d1, d2, p0, p1, p2, rfl, rfl, hpp, h0, h1, h2⟩ := trodAll_three hA
  obtain ⟨_, h0f⟩ := h0
  obtain ⟨v0s, rfl, -⟩ := okWide_struct Try.underlying23 (hval 0 23 v0 rfl rfl)
  obtain ⟨a0, a1, e0, wa0, wa1⟩ := open23 h0f
  obtain rfl : v0s = #[.int .i64 a0, .int .i64 a1] := Array.toList_inj.1 e0
  obtain ⟨_, h1f⟩ := h1
  obtain ⟨v1s, rfl, -⟩ := okWide_struct Try.underlying25 (hval 1 25 v1 rfl rfl)
  obtain ⟨b0, b1, e1, wb0, wb1⟩ := open25 h1f
  obtain rfl : v1s = #[.int .i64 b0, .int .i64 b1] := Array.toList_inj.1 e1
  obtain ⟨_, h2f⟩ := h2
  obtain ⟨v2q, v2q1, v2q2, rfl⟩ := okWide_slice Try.underlying58 (hval 2 58 v2 rfl rfl)
  obtain ⟨cA, cl, cc, e2, wc0, wc1, wc2, wc3⟩ := open58 h2f
  simp only [Value.cells, List.cons.injEq, and_true, Value.slice.injEq, Value.int.injEq, Value.bool.injEq, Value.string.injEq, true_and] at e2
  obtain ⟨rfl, rfl, rfl⟩ := e2
  refine (law8_just a0 a1 b0 b1 cl v2q v2q2 W wc2 wc0 _ rfl).mono fun e W' hh => ?_
  obtain ⟨he, hk⟩ := hh
  subst he
  exact ⟨_, rfl, law_post laidOut (by rw [Try.params8]; intro t ht; simp only [List.mem_cons, List.not_mem_nil, or_false] at ht; rcases ht with rfl | rfl | rfl <;> exact ⟨by kernel_rfl, of_decide_eq_true (by kernel_rfl)⟩) (by kernel_rfl) Try.underlying4 rfl rfl hW' hk⟩
theorem eventMakes_holds : Rows.EventMakesSaid :=
  OpenClaim.holds_of_wide 8 Try.f8 rfl rfl rfl rfl rfl rfl rfl ⟨rfl, rfl, rfl, rfl, rfl⟩ rfl rfl rfl rfl rfl (by kernel_rfl) Try.func8 (by kernel_rfl)
    (of_decide_eq_true (by kernel_rfl)) (by unfold Func.isWrapper; first | (rw [if_pos (by decide +kernel)]; kernel_rfl) | (rw [if_neg (by decide +kernel)]; exact ⟨rfl, rfl⟩))
    (fun os started H enc _ => eventMakes_lifted os started H enc)

end Go.Proofs.Ytneadapfoaccmaa
