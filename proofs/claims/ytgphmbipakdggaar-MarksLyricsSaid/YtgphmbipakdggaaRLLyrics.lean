/- hemiolalaw29.MarksLyrics answers true at every input, and each argument reads afterwards as it read before. No condition is laid on the input. -/
import Derived.SizedLaws
import Derived.Test.YtgphmbipakdggaaROpen4
import Derived.Test.YtgphmbipakdggaaREK
import Derived.Test.YtgphmbipakdggaaRRows
set_option linter.unusedSimpArgs false
set_option linter.unusedVariables false
namespace Go.Proofs.YtgphmbipakdggaaR
open Go Go.RowKit Go.ChangeShapes Go.WideShapes Hr

set_option maxRecDepth 100000 in
theorem marksLyrics_lifted (os : Os) (started : os.Started) (H : Type) (enc : TypeId × Value → H) :
    ReturnsInHanded {} Try.checked os 12 .any (Rows.marksLyricsSpec.pre6 enc Try.prog Try.f12 Rows.marksLyricsRow.domain false) (Rows.marksLyricsSpec.post enc Try.prog Try.f12 false true false false) := by
  refine returnsInHanded_of_change_sized (C := Try.checked) own started (by kernel_rfl) Try.func12
    (ChangeSpec.witness6 (enc := enc) (C := Try.checked) false ⟨#[], #[.agg #[.int .i64 0, .int .i64 0, .int .i64 0, .int .i64 0, .int .i64 0, .slice none 0 0, .slice none 0 0, .int .i64 0, .int .i64 0, .int .i64 0, .slice none 0 0, .int .i64 0, .int .i64 0], .int .i64 0, .agg #[.int .i64 0, .int .i64 0, .int .i64 0, .int .i64 0]], []⟩ 8 (by kernel_rfl) (by kernel_rfl) (by kernel_rfl) (by kernel_rfl)) ?_
  intro W base args ds gs before hval0 hW hcnd hsz _
  have hval : ∀ (j : Nat) t v, Try.f12.params[j]? = some t → args[j]? = some v → Value.okWide Try.prog W .any base t v := hval0
  have hW' := hW
  obtain ⟨p, q, hA0, hV, hpq, hfz, hnd⟩ := hW
  have hA : DataW.TrodAll enc Try.prog W 0 (fun _ => true) true Try.f12.params.toList args.toList ds p := hA0
  rw [Try.params12] at hA hval
  obtain ⟨v0, v1, v2, d0, d1, d2, p0, p1, p2, rfl, rfl, hpp, h0, h1, h2⟩ := trodAll_three hA
  obtain ⟨_, h0f⟩ := h0
  obtain ⟨v0s, rfl, -⟩ := okWide_struct Try.underlying78 (hval 0 78 v0 rfl rfl)
  obtain ⟨a00, a01, a1, a20, a21, a3A, a3l, a3c, a4A, a4l, a4c, a5, a6, a7, a8A, a8l, a8c, a9, a10, e0, wa0, wa1, wa2, wa3, wa4, wa5, wa6, wa7, wa8, wa9, wa10, wa11, wa12, wa13, wa14, wa15, wa16, wa17, wa18, wa19, wa20, wa21⟩ := open78 h0f
  obtain rfl : v0s = #[.int .i64 a00, .int .i64 a01, .int .i64 a1, .int .i64 a20, .int .i64 a21, .slice a3A a3l.length a3c, .slice a4A a4l.length a4c, .int .i64 a5, .int .i64 a6, .int .i64 a7, .slice a8A a8l.length a8c, .int .i64 a9, .int .i64 a10] := Array.toList_inj.1 e0
  obtain ⟨_, h1f⟩ := h1
  obtain ⟨v1q, rfl⟩ := okWide_int Try.underlying3 (hval 1 3 v1 rfl rfl)
  obtain ⟨b, e1, wb0⟩ := open3 h1f
  simp only [Value.cells, List.cons.injEq, and_true, Value.slice.injEq, Value.int.injEq, Value.bool.injEq, Value.string.injEq, true_and] at e1
  subst e1
  obtain ⟨_, h2f⟩ := h2
  obtain ⟨v2s, rfl, -⟩ := okWide_struct Try.underlying80 (hval 2 80 v2 rfl rfl)
  obtain ⟨c0, c1, c2, c3, e2, wc0, wc1, wc2, wc3⟩ := open80 h2f
  obtain rfl : v2s = #[.int .i64 c0, .int .i64 c1, .int .i64 c2, .int .i64 c3] := Array.toList_inj.1 e2
  have hb3 := wgt78 h0f (fun k hk => by have h9 := List.all_eq_true.1 hsz k (DataW.weights_mem_each (j := 0) rfl rfl k hk); simpa using h9)
  refine (Ev.law12_just ⟨⟨a00, a01, a1, a20, a21, a5, a6, a7, a9, a10⟩, a3l, a4l, a8l⟩ ⟨a3A, a3c, a4A, a4c, a8A, a8c⟩ v1q c0 c1 c2 c3 W ⟨wa7, wa11, wa18⟩ hb3.1 hb3.2.1 hb3.2.2 (wf_bd wa13 rfl rfl).2).mono fun e W' hh => ?_
  obtain ⟨he, hk⟩ := hh
  subst he
  exact ⟨_, rfl, law_post laidOut (by rw [Try.params12]; intro t ht; simp only [List.mem_cons, List.not_mem_nil, or_false] at ht; rcases ht with rfl | rfl | rfl <;> exact ⟨by kernel_rfl, of_decide_eq_true (by kernel_rfl)⟩) (by kernel_rfl) Try.underlying4 rfl rfl hW' hk⟩
theorem marksLyrics_holds : Rows.MarksLyricsSaid :=
  OpenClaim.holds_of_wide 12 Try.f12 rfl rfl rfl rfl rfl rfl rfl ⟨rfl, rfl, rfl, rfl, rfl⟩ rfl rfl rfl rfl rfl (by kernel_rfl) Try.func12 (by kernel_rfl)
    (of_decide_eq_true (by kernel_rfl)) (by unfold Func.isWrapper; first | (rw [if_pos (by decide +kernel)]; kernel_rfl) | (rw [if_neg (by decide +kernel)]; exact ⟨rfl, rfl⟩))
    (fun os started H enc _ => marksLyrics_lifted os started H enc)

end Go.Proofs.YtgphmbipakdggaaR
