/- Two runs merged. -/
import Derived.Test.YtbkmmjpklkallaaY2
set_option linter.unusedSimpArgs false
set_option linter.unusedVariables false
namespace Go.Proofs.Ytbkmmjpklkallaa
open Go Go.RowKit Hr



set_option maxHeartbeats 4000000 in
set_option maxRecDepth 100000 in
theorem sN_sym3 (p x y s : List Note) (A : Option Addr) (n ca : Nat) (i0 j0 c0 : Int) (W : World) (hm : Mem (atAny [.own 47 7 A n ca ((p ++ (x ++ (y ++ s))).map Note.enc)]) W [.own 47 7 A n ca ((p ++ (x ++ (y ++ s))).map Note.enc)] W) (hi : i0 = (p.length : Int)) (hj : j0 = (p.length : Int) + x.length) (hc : c0 = (p.length : Int) + x.length + y.length) (hx0 : 0 < x.length) (hy0 : 0 < y.length) (hn : p.length + (x.length + (y.length + s.length)) = n) (hl : n ≤ 1000000) (hsx : Srt.Sorted (Ky.ltK keyN) x) (hsy : Srt.Sorted (Ky.ltK keyN) y) (hx1 : 1 < x.length) (hy1 : 1 < y.length) (ih : ∀ (p' x' y' s' : List Note) (i' j' c' : Int) (W : World), x'.length + y'.length < x.length + y.length → Mem (atAny [.own 47 7 A n ca ((p' ++ (x' ++ (y' ++ s'))).map Note.enc)]) W [.own 47 7 A n ca ((p' ++ (x' ++ (y' ++ s'))).map Note.enc)] W → i' = (p'.length : Int) → j' = (p'.length : Int) + x'.length → c' = (p'.length : Int) + x'.length + y'.length → 0 < x'.length → 0 < y'.length → p'.length + (x'.length + (y'.length + s'.length)) = n → Srt.Sorted (Ky.ltK keyN) x' → Srt.Sorted (Ky.ltK keyN) y' → Calls Try.prog 60 #[.slice A n ca, .int .i64 i', .int .i64 j', .int .i64 c', .func (.func 53) #[] #[]] W (Ret W (atAny [.own 47 7 A n ca ((p' ++ (x' ++ (y' ++ s'))).map Note.enc)]) (fun v m => ∃ d, Srt.Mrg (Ky.ltK keyN) p' x' y' s' d ∧ v = .tuple #[] ∧ m = [.own 47 7 A n ca ((d).map Note.enc)]))) : Calls Try.prog 60 #[.slice A n ca, .int .i64 i0, .int .i64 j0, .int .i64 c0, .func (.func 53) #[] #[]] W (Ret W (atAny [.own 47 7 A n ca ((p ++ (x ++ (y ++ s))).map Note.enc)]) (fun v m => ∃ d, Srt.Mrg (Ky.ltK keyN) p x y s d ∧ v = .tuple #[] ∧ m = [.own 47 7 A n ca ((d).map Note.enc)])) := by
  refine enterA (X := _) (vs := [.slice A n ca, .int .i64 i0, .int .i64 j0, .int .i64 c0, .func (.func 53) #[] #[]]) Try.func60 Try.ntmps60 rfl rfl hm ?_
  refine run_seq ?_
  refine run_seq ?_
  refine run_region ?_
  refine run_q (.none rfl) rfl rfl (q_move rfl rfl) ?_
  refine run_q (.none rfl) rfl rfl (q_move rfl rfl) ?_
  refine run_q (.none rfl) rfl rfl (q_sub rfl rfl rfl (by omega)) ?_
  refine run_q (.none rfl) rfl rfl (q_eql rfl rfl rfl) ?_
  refine run_nil ?_
  refine run_sub (subMk (.cons (s := 0) rfl (.cons (s := 1) rfl (.cons (s := 2) rfl (.cons (s := 3) rfl (.cons (s := 4) rfl (.cons (s := 28) rfl .nil)))))) .refl) ?_
  refine run_condF rfl (beq_eq_false_iff_ne.2 (by omega)) ?_
  refine run_skip ?_
  refine run_seq ?_
  refine run_seq ?_
  refine run_region ?_
  refine run_q (.none rfl) rfl rfl (q_move rfl rfl) ?_
  refine run_q (.none rfl) rfl rfl (q_move rfl rfl) ?_
  refine run_q (.none rfl) rfl rfl (q_sub rfl rfl rfl (by omega)) ?_
  refine run_q (.none rfl) rfl rfl (q_eql rfl rfl rfl) ?_
  refine run_nil ?_
  refine run_sub (subMk (.cons (s := 0) rfl (.cons (s := 1) rfl (.cons (s := 2) rfl (.cons (s := 3) rfl (.cons (s := 4) rfl (.cons (s := 80) rfl .nil)))))) .refl) ?_
  refine run_condF rfl (beq_eq_false_iff_ne.2 (by omega)) ?_
  refine run_skip ?_
  refine run_seq ?_
  refine run_region ?_
  refine run_q (.none rfl) rfl rfl (q_move rfl rfl) ?_
  refine run_q (.none rfl) rfl rfl (q_move rfl rfl) ?_
  refine run_q (.none rfl) rfl rfl (q_add rfl rfl rfl (by omega)) ?_
  refine run_q (.none rfl) rfl rfl (q_convert' rfl rfl Try.underlying3 Try.underlying96 (Srt.uw (by omega))) ?_
  refine run_q (.none rfl) rfl rfl (q_shr rfl rfl rfl (by omega)) ?_
  refine run_q (.none rfl) rfl rfl (q_convert' rfl rfl Try.underlying96 Try.underlying3 (by rw [Srt.shr1, IntKind.wrap_i64]; omega)) ?_
  refine run_q (.none rfl) rfl rfl (q_assign rfl rfl) ?_
  refine run_nil ?_
  refine run_sub (subMk (.cons (s := 0) rfl (.cons (s := 1) rfl (.cons (s := 2) rfl (.cons (s := 3) rfl (.cons (s := 4) rfl (.cons (s := 18) rfl .nil)))))) .refl) ?_
  refine run_seq ?_
  obtain ⟨md, hmd⟩ : ∃ h, h = (p.length + (p.length + x.length + y.length)) / 2 := ⟨_, rfl⟩
  refine run_sub (subMk (.cons (s := 0) rfl (.cons (s := 1) rfl (.cons (s := 2) rfl (.cons (s := 3) rfl (.cons (s := 4) rfl (.cons' (s := 18) (v' := .int .i64 (md : Int)) rfl (vint (by rw [Srt.shr1]; omega)) .nil)))))) .refl) ?_
  refine run_region ?_
  refine run_q (.none rfl) rfl rfl (q_move rfl rfl) ?_
  refine run_q (.none rfl) rfl rfl (q_move rfl rfl) ?_
  refine run_q (.none rfl) rfl rfl (q_add rfl rfl rfl (by omega)) ?_
  refine run_q (.none rfl) rfl rfl (q_assign rfl rfl) ?_
  refine run_nil ?_
  refine run_sub (subMk (.cons (s := 0) rfl (.cons (s := 1) rfl (.cons (s := 2) rfl (.cons (s := 3) rfl (.cons (s := 4) rfl (.cons (s := 18) rfl (.cons (s := 19) rfl .nil))))))) .refl) ?_
  refine run_seq ?_
  refine run_region ?_
  refine run_q (.none rfl) rfl rfl (q_assign rfl rfl) ?_
  refine run_q (.none rfl) rfl rfl (q_assign rfl rfl) ?_
  refine run_nil ?_
  refine run_seq ?_
  refine run_seq ?_
  refine run_region ?_
  refine run_q (.none rfl) rfl rfl (q_move rfl rfl) ?_
  refine run_q (.none rfl) rfl rfl (q_move rfl rfl) ?_
  refine run_q (.none rfl) rfl rfl (q_gtr rfl rfl rfl) ?_
  refine run_nil ?_
  refine run_sub (subMk (.cons (s := 20) rfl (.cons (s := 21) rfl (.cons (s := 0) rfl (.cons (s := 1) rfl (.cons (s := 2) rfl (.cons (s := 3) rfl (.cons (s := 4) rfl (.cons (s := 18) rfl (.cons (s := 19) rfl (.cons (s := 140) rfl .nil)))))))))) (.cons Sel.here .refl .nil)) ?_
  refine run_cutC2M0 (ι := Nat × Nat) (fun gg => (md < (p.length + x.length) ∧ gg.1 + (p.length + x.length + y.length) = md + (p.length + x.length) ∧ gg.2 = md) ∨ ((p.length + x.length) ≤ md ∧ gg.1 = p.length ∧ gg.2 = (p.length + x.length))) (fun gg => .int .i64 (gg.1 : Int)) (fun gg => .int .i64 (gg.2 : Int))  ?_ ?_
  · refine run_cond rfl (fun g140 => ?_) (fun g140 => ?_)
    · have g140' := g140
      try simp only [decide_eq_true_eq, decide_eq_false_iff_not, beq_iff_eq, beq_eq_false_iff_ne, bne_iff_ne, bne_eq_false_iff_eq, Bool.not_eq_true', Bool.not_eq_false', ne_eq, Int.not_lt, Int.not_le, Decidable.not_not] at g140'
      refine run_seq ?_
      refine run_region ?_
      refine run_q (.none rfl) rfl rfl (q_move rfl rfl) ?_
      refine run_q (.none rfl) rfl rfl (q_move rfl rfl) ?_
      refine run_q (.none rfl) rfl rfl (q_sub rfl rfl rfl (by omega)) ?_
      refine run_q (.none rfl) rfl rfl (q_assign rfl rfl) ?_
      refine run_nil ?_
      refine run_sub (subMk (.cons (s := 0) rfl (.cons (s := 1) rfl (.cons (s := 2) rfl (.cons (s := 3) rfl (.cons (s := 4) rfl (.cons (s := 18) rfl (.cons (s := 19) rfl (.cons (s := 20) rfl (.cons (s := 21) rfl (.cons (s := 140) rfl .nil)))))))))) .refl) ?_
      refine run_region ?_
      refine run_q (.none rfl) rfl rfl (q_move rfl rfl) ?_
      refine run_q (.none rfl) rfl rfl (q_assign rfl rfl) ?_
      refine run_nil ?_
      exact run_stop (md + (p.length + x.length) - (p.length + x.length + y.length), md) (by (try dsimp only); exact (.inl ⟨by omega, by omega, rfl⟩)) (subMk (.cons' (s := 20) rfl (vint (by omega)) (.cons' (s := 21) rfl (vint (by omega)) (.cons (s := 0) rfl (.cons (s := 1) rfl (.cons (s := 2) rfl (.cons (s := 3) rfl (.cons (s := 4) rfl (.cons (s := 18) rfl (.cons (s := 19) rfl (.cons (s := 140) rfl .nil)))))))))) (.cons Sel.here .refl .nil))
    · have g140' := g140
      try simp only [decide_eq_true_eq, decide_eq_false_iff_not, beq_iff_eq, beq_eq_false_iff_ne, bne_iff_ne, bne_eq_false_iff_eq, Bool.not_eq_true', Bool.not_eq_false', ne_eq, Int.not_lt, Int.not_le, Decidable.not_not] at g140'
      refine run_seq ?_
      refine run_region ?_
      refine run_q (.none rfl) rfl rfl (q_move rfl rfl) ?_
      refine run_q (.none rfl) rfl rfl (q_assign rfl rfl) ?_
      refine run_nil ?_
      refine run_region ?_
      refine run_q (.none rfl) rfl rfl (q_move rfl rfl) ?_
      refine run_q (.none rfl) rfl rfl (q_assign rfl rfl) ?_
      refine run_nil ?_
      exact run_stop (p.length, (p.length + x.length)) (by (try dsimp only); exact (.inr ⟨by omega, rfl, rfl⟩)) (subMk (.cons' (s := 20) rfl (vint (by omega)) (.cons' (s := 21) rfl (vint (by omega)) (.cons (s := 0) rfl (.cons (s := 1) rfl (.cons (s := 2) rfl (.cons (s := 3) rfl (.cons (s := 4) rfl (.cons (s := 18) rfl (.cons (s := 19) rfl (.cons (s := 140) rfl .nil)))))))))) (.cons Sel.here .refl .nil))
  · rintro ⟨lo, hi⟩ hlh
    (try dsimp only at hlh)
    show Run _ _ _ _ _ _ _ ⟨(20, .int .i64 (lo : Int)) :: (21, .int .i64 (hi : Int)) :: _, _⟩
    refine run_seq ?_
    refine run_region ?_
    refine run_q (.none rfl) rfl rfl (q_move rfl rfl) ?_
    refine run_q (.none rfl) rfl rfl (q_sub rfl rfl rfl (by omega)) ?_
    refine run_q (.none rfl) rfl rfl (q_assign rfl rfl) ?_
    refine run_nil ?_
    refine run_sub (subMk (.cons (s := 0) rfl (.cons (s := 1) rfl (.cons (s := 2) rfl (.cons (s := 3) rfl (.cons (s := 4) rfl (.cons (s := 18) rfl (.cons (s := 19) rfl (.cons (s := 20) rfl (.cons (s := 21) rfl (.cons (s := 22) rfl .nil)))))))))) .refl) ?_
    refine run_seq ?_
    refine run_block ?_
    refine run_sub (subMk (.cons (s := 20) rfl (.cons (s := 21) rfl (.cons (s := 0) rfl (.cons (s := 1) rfl (.cons (s := 2) rfl (.cons (s := 3) rfl (.cons (s := 4) rfl (.cons (s := 18) rfl (.cons (s := 19) rfl (.cons (s := 22) rfl .nil)))))))))) (.cons Sel.here .refl .nil)) ?_
    refine run_loopC2M0 (ι := Nat × Nat) (fun gg => lo ≤ gg.1 ∧ gg.1 ≤ gg.2 ∧ gg.2 ≤ hi ∧ (gg.1 = lo ∨ (Ky.ltK keyN) (nth y (md - gg.1)) (nth x (gg.1 - 1 - p.length)) = false) ∧ (gg.2 = hi ∨ (Ky.ltK keyN) (nth y (md - 1 - gg.2)) (nth x (gg.2 - p.length)) = true)) (fun gg => .int .i64 (gg.1 : Int)) (fun gg => .int .i64 (gg.2 : Int))  (fun gg => gg.2 - gg.1) (lo, hi) (by (try dsimp only); exact ⟨Nat.le_refl _, by omega, Nat.le_refl _, .inl rfl, .inl rfl⟩) rfl rfl  ?_
    rintro ⟨st, r⟩ hq
    (try dsimp only at hq)
    obtain ⟨hlo, hsr, hrh, hA, hB⟩ := hq
    show Run _ _ _ _ _ _ _ ⟨(20, .int .i64 (st : Int)) :: (21, .int .i64 (r : Int)) :: _, _⟩
    refine run_seq ?_
    refine run_seq ?_
    refine run_region ?_
    refine run_q (.none rfl) rfl rfl (q_move rfl rfl) ?_
    refine run_q (.none rfl) rfl rfl (q_move rfl rfl) ?_
    refine run_q (.none rfl) rfl rfl (q_lss rfl rfl rfl) ?_
    refine run_nil ?_
    refine run_cond rfl (fun g151 => ?_) (fun g151 => ?_)
    · have g151' := g151
      try simp only [decide_eq_true_eq, decide_eq_false_iff_not, beq_iff_eq, beq_eq_false_iff_ne, bne_iff_ne, bne_eq_false_iff_eq, Bool.not_eq_true', Bool.not_eq_false', ne_eq, Int.not_lt, Int.not_le, Decidable.not_not] at g151'
      refine run_skip ?_
      refine run_block ?_
      refine run_seq ?_
      refine run_region ?_
      refine run_q (.none rfl) rfl rfl (q_move rfl rfl) ?_
      refine run_q (.none rfl) rfl rfl (q_move rfl rfl) ?_
      refine run_q (.none rfl) rfl rfl (q_add rfl rfl rfl (by omega)) ?_
      refine run_q (.none rfl) rfl rfl (q_convert' rfl rfl Try.underlying3 Try.underlying96 (Srt.uw (by omega))) ?_
      refine run_q (.none rfl) rfl rfl (q_shr rfl rfl rfl (by omega)) ?_
      refine run_q (.none rfl) rfl rfl (q_convert' rfl rfl Try.underlying96 Try.underlying3 (by rw [Srt.shr1, IntKind.wrap_i64]; omega)) ?_
      refine run_q (.none rfl) rfl rfl (q_assign rfl rfl) ?_
      refine run_nil ?_
      refine run_sub (subMk (.cons (s := 0) rfl (.cons (s := 1) rfl (.cons (s := 2) rfl (.cons (s := 3) rfl (.cons (s := 4) rfl (.cons (s := 18) rfl (.cons (s := 19) rfl (.cons (s := 20) rfl (.cons (s := 21) rfl (.cons (s := 22) rfl (.cons (s := 23) rfl .nil))))))))))) .refl) ?_
      refine run_seq ?_
      obtain ⟨c, hcc⟩ : ∃ h, h = (st + r) / 2 := ⟨_, rfl⟩
      refine run_sub (subMk (.cons (s := 0) rfl (.cons (s := 1) rfl (.cons (s := 2) rfl (.cons (s := 3) rfl (.cons (s := 4) rfl (.cons (s := 18) rfl (.cons (s := 19) rfl (.cons (s := 20) rfl (.cons (s := 21) rfl (.cons (s := 22) rfl (.cons' (s := 23) (v' := .int .i64 (c : Int)) rfl (vint (by rw [Srt.shr1]; omega)) .nil))))))))))) .refl) ?_
      refine run_draw [(0, 0), (1, 0), (2, 0), (3, 0), (4, 0), (5, 0), (6, 0), (7, 0), (8, 0), (9, 0), (10, 0), (11, 0), (12, 0), (13, 0)] mixed (by kernel_rfl) .refl ?_
      refine d_q rfl rfl (.none rfl) rfl rfl (q_move rfl rfl) ?_
      refine d_q rfl rfl (.none rfl) rfl rfl (q_move rfl rfl) ?_
      refine d_q rfl rfl (.none rfl) rfl rfl (q_move rfl rfl) ?_
      refine d_q rfl rfl (.none rfl) rfl rfl (q_move rfl rfl) ?_
      refine d_q rfl rfl (.none rfl) rfl rfl (q_sub rfl rfl rfl (by omega)) ?_
      refine d_q rfl rfl (.none rfl) rfl rfl (q_indexS (q := ((p.length + x.length) + (md - 1 - c))) rfl Try.underlying22 sz47 rfl rfl (.own Sel.here) (by rw [List.length_map]; simp only [List.length_append]; omega) (by omega) (by omega)) ?_
      refine d_q rfl rfl (.none rfl) rfl rfl (q_loadE rfl agg47 rfl (.own Sel.here) (by rw [getmap (by simp only [List.length_append]; omega), Srt.row_y (k := md - 1 - c) rfl (by omega)]) rfl) ?_
      refine d_q rfl rfl (.none rfl) rfl rfl (q_move rfl rfl) ?_
      refine d_q rfl rfl (.none rfl) rfl rfl (q_move rfl rfl) ?_
      refine d_q rfl rfl (.none rfl) rfl rfl (q_indexS (q := c) rfl Try.underlying22 sz47 rfl rfl (.own Sel.here) (by rw [List.length_map]; simp only [List.length_append]; omega) rfl (by omega)) ?_
      refine d_q rfl rfl (.none rfl) rfl rfl (q_loadE rfl agg47 rfl (.own Sel.here) (by rw [getmap (by simp only [List.length_append]; omega), Srt.row_x (k := c - p.length) (by omega) (by omega)]) rfl) ?_
      refine d_q rfl rfl (.none rfl) rfl rfl (q_callv rfl rfl call53 (.cons rfl (.cons rfl Evs.nil)) (fun w hk hm => ord_just (nth y (md - 1 - c)) (nth x (c - p.length)) w)) ?_
      refine d_q rfl rfl (.none rfl) rfl rfl (q_lss rfl rfl rfl) ?_
      refine d_q rfl rfl (.none rfl) rfl rfl (q_not rfl rfl) ?_
      refine d_nil ?_
      refine run_sub (subMk (.cons (s := 0) rfl (.cons (s := 1) rfl (.cons (s := 2) rfl (.cons (s := 3) rfl (.cons (s := 4) rfl (.cons (s := 18) rfl (.cons (s := 19) rfl (.cons (s := 20) rfl (.cons (s := 21) rfl (.cons (s := 22) rfl (.cons (s := 23) rfl (.cons (s := 171) rfl .nil)))))))))))) .refl) ?_
      refine run_cond rfl (fun g171 => ?_) (fun g171 => ?_)
      · have g171' := g171
        try simp only [decide_eq_true_eq, decide_eq_false_iff_not, beq_iff_eq, beq_eq_false_iff_ne, bne_iff_ne, bne_eq_false_iff_eq, Bool.not_eq_true', Bool.not_eq_false', ne_eq, Int.not_lt, Int.not_le, Decidable.not_not] at g171'
        refine run_region ?_
        refine run_q (.none rfl) rfl rfl (q_move rfl rfl) ?_
        refine run_q (.none rfl) rfl rfl (q_add rfl rfl rfl (by omega)) ?_
        refine run_q (.none rfl) rfl rfl (q_assign rfl rfl) ?_
        refine run_nil ?_
        refine run_sub (subMk (.cons (s := 0) rfl (.cons (s := 1) rfl (.cons (s := 2) rfl (.cons (s := 3) rfl (.cons (s := 4) rfl (.cons (s := 18) rfl (.cons (s := 19) rfl (.cons (s := 20) rfl (.cons (s := 21) rfl (.cons (s := 22) rfl .nil)))))))))) .refl) ?_
        refine run_blk ?_
        exact run_again (c + 1, r) (by (try dsimp only); exact ⟨by omega, by omega, by omega, .inr (by rw [show md - (c + 1) = md - 1 - c from by omega, show c + 1 - 1 - p.length = c - p.length from by omega]; exact (by simpa [Ky.ltK] using g171)), hB⟩) (by (try dsimp only); omega) (subMk (.cons' (s := 20) rfl (vint (by omega)) (.cons' (s := 21) rfl rfl (.cons (s := 0) rfl (.cons (s := 1) rfl (.cons (s := 2) rfl (.cons (s := 3) rfl (.cons (s := 4) rfl (.cons (s := 18) rfl (.cons (s := 19) rfl (.cons (s := 22) rfl .nil)))))))))) (.cons Sel.here .refl .nil))
      · have g171' := g171
        try simp only [decide_eq_true_eq, decide_eq_false_iff_not, beq_iff_eq, beq_eq_false_iff_ne, bne_iff_ne, bne_eq_false_iff_eq, Bool.not_eq_true', Bool.not_eq_false', ne_eq, Int.not_lt, Int.not_le, Decidable.not_not] at g171'
        refine run_region ?_
        refine run_q (.none rfl) rfl rfl (q_move rfl rfl) ?_
        refine run_q (.none rfl) rfl rfl (q_assign rfl rfl) ?_
        refine run_nil ?_
        refine run_sub (subMk (.cons (s := 0) rfl (.cons (s := 1) rfl (.cons (s := 2) rfl (.cons (s := 3) rfl (.cons (s := 4) rfl (.cons (s := 18) rfl (.cons (s := 19) rfl (.cons (s := 20) rfl (.cons (s := 21) rfl (.cons (s := 22) rfl .nil)))))))))) .refl) ?_
        refine run_blk ?_
        exact run_again (st, c) (by (try dsimp only); exact ⟨by omega, by omega, by omega, hA, .inr (by simpa [Ky.ltK] using g171)⟩) (by (try dsimp only); omega) (subMk (.cons' (s := 20) rfl rfl (.cons' (s := 21) rfl (vint (by omega)) (.cons (s := 0) rfl (.cons (s := 1) rfl (.cons (s := 2) rfl (.cons (s := 3) rfl (.cons (s := 4) rfl (.cons (s := 18) rfl (.cons (s := 19) rfl (.cons (s := 22) rfl .nil)))))))))) (.cons Sel.here .refl .nil))
    · have g151' := g151
      try simp only [decide_eq_true_eq, decide_eq_false_iff_not, beq_iff_eq, beq_eq_false_iff_ne, bne_iff_ne, bne_eq_false_iff_eq, Bool.not_eq_true', Bool.not_eq_false', ne_eq, Int.not_lt, Int.not_le, Decidable.not_not] at g151'
      refine run_exit rfl ?_
      refine run_sub (subMk (.cons (s := 0) rfl (.cons (s := 1) rfl (.cons (s := 2) rfl (.cons (s := 3) rfl (.cons (s := 4) rfl (.cons (s := 18) rfl (.cons (s := 19) rfl (.cons (s := 20) rfl .nil)))))))) .refl) ?_
      refine run_seq ?_
      have hA3 : (st - p.length) = 0 ∨ (md - st) = y.length ∨ (Ky.ltK keyN) (nth y (md - st)) (nth x ((st - p.length) - 1)) = false := by rcases hA with h | h; (· omega); (· rw [show st - 1 - p.length = st - p.length - 1 from by omega] at h; exact .inr (.inr h))
      have hB3 : (md - st) = 0 ∨ (st - p.length) = x.length ∨ (Ky.ltK keyN) (nth y ((md - st) - 1)) (nth x (st - p.length)) = true := by rcases hB with h | h; (· omega); (· rw [show md - 1 - r = md - st - 1 from by omega, show r = st from by omega] at h; exact .inr (.inr h))
      refine run_region ?_
      refine run_q (.none rfl) rfl rfl (q_move rfl rfl) ?_
      refine run_q (.none rfl) rfl rfl (q_move rfl rfl) ?_
      refine run_q (.none rfl) rfl rfl (q_sub rfl rfl rfl (by omega)) ?_
      refine run_q (.none rfl) rfl rfl (q_assign rfl rfl) ?_
      refine run_nil ?_
      refine run_sub (subMk (.cons (s := 0) rfl (.cons (s := 1) rfl (.cons (s := 2) rfl (.cons (s := 3) rfl (.cons (s := 4) rfl (.cons (s := 18) rfl (.cons (s := 20) rfl (.cons (s := 24) rfl .nil)))))))) .refl) ?_
      refine run_seq ?_
      refine run_seq ?_
      refine run_sub (subMk (.cons (s := 0) rfl (.cons (s := 1) rfl (.cons (s := 2) rfl (.cons (s := 3) rfl (.cons (s := 4) rfl (.cons (s := 18) rfl (.cons (s := 20) rfl (.cons' (s := 24) (v' := .int .i64 (((p.length + x.length) + (md - st) : Nat) : Int)) rfl (vint (by omega)) .nil)))))))) .refl) ?_
      refine run_region ?_
      refine run_q (.none rfl) rfl rfl (q_move rfl rfl) ?_
      refine run_q (.none rfl) rfl rfl (q_move rfl rfl) ?_
      refine run_q (.none rfl) rfl rfl (q_lss rfl rfl rfl) ?_
      refine run_q (.none rfl) rfl rfl (q_move rfl rfl) ?_
      refine run_split 181 rfl (fun g181 => ?_) (fun g181 => ?_)
      · have g181' := g181
        try simp only [decide_eq_true_eq, decide_eq_false_iff_not, beq_iff_eq, beq_eq_false_iff_ne, bne_iff_ne, bne_eq_false_iff_eq, Bool.not_eq_true', Bool.not_eq_false', ne_eq, Int.not_lt, Int.not_le, Decidable.not_not] at g181'
        refine run_q (.on rfl rfl rfl g181) rfl rfl (q_move rfl rfl) ?_
        refine run_q (.on rfl rfl rfl g181) rfl rfl (q_move rfl rfl) ?_
        refine run_q (.on rfl rfl rfl g181) rfl rfl (q_lss rfl rfl rfl) ?_
        refine run_q (.none rfl) rfl rfl (q_pickT rfl rfl g181 rfl) ?_
        refine run_nil ?_
        refine run_sub (subMk (.cons (s := 0) rfl (.cons (s := 1) rfl (.cons (s := 2) rfl (.cons (s := 3) rfl (.cons (s := 4) rfl (.cons (s := 18) rfl (.cons (s := 20) rfl (.cons (s := 24) rfl (.cons (s := 185) rfl .nil))))))))) .refl) ?_
        refine run_cond rfl (fun g185 => ?_) (fun g185 => ?_)
        · have g185' := g185
          try simp only [decide_eq_true_eq, decide_eq_false_iff_not, beq_iff_eq, beq_eq_false_iff_ne, bne_iff_ne, bne_eq_false_iff_eq, Bool.not_eq_true', Bool.not_eq_false', ne_eq, Int.not_lt, Int.not_le, Decidable.not_not] at g185'
          refine run_sub (subMk .refl (.cons Sel.here (.own (xs' := ((p ++ x.take (st - p.length)) ++ (x.drop (st - p.length) ++ (y.take (md - st) ++ (y.drop (md - st) ++ s)))).map Note.enc) rfl rfl rfl (by rw [Srt.cut_rot (x := x) (y := y) (u := (st - p.length)) (v := (md - st))]; simp only [List.append_assoc])) .nil)) ?_
          refine run_region ?_
          refine run_q (.none rfl) rfl rfl (q_move rfl rfl) ?_
          refine run_q (.none rfl) rfl rfl (q_move rfl rfl) ?_
          refine run_q (.none rfl) rfl rfl (q_move rfl rfl) ?_
          refine run_q (.none rfl) rfl rfl (q_move rfl rfl) ?_
          refine run_q (.none rfl) rfl rfl (q_move rfl rfl) ?_
          refine run_h (.none rfl) (h_callX [_] _ rfl rfl rfl call61 (.cons rfl (.cons rfl (.cons rfl (.cons rfl (.cons rfl Evs.nil))))) (Sel.perm Sel.here) (Y := fun _ => atAny [_]) (fun _ _ h => h) (fun w hk hm => sN_rot (p ++ x.take (st - p.length)) (x.drop (st - p.length)) (y.take (md - st)) (y.drop (md - st) ++ s) A n ca _ _ _ w ((hm.perm (Sel.perm Sel.here)).give (rs := [_])) (by (try simp only [List.length_append, List.length_take, List.length_drop]) <;> omega) (by (try simp only [List.length_append, List.length_take, List.length_drop]) <;> omega) (by (try simp only [List.length_append, List.length_take, List.length_drop]) <;> omega) (by (try simp only [List.length_append, List.length_take, List.length_drop]) <;> omega) (by (try simp only [List.length_append, List.length_take, List.length_drop]) <;> omega) (by (try simp only [List.length_append, List.length_take, List.length_drop]) <;> omega) hl)) ?_
          rintro ⟨v, m⟩ ⟨rfl, rfl⟩
          show Run _ _ _ _ _ _ _ ⟨(191, .tuple #[]) :: _, _ :: _⟩
          refine run_nil ?_
          refine run_sub (subMk (.cons (s := 0) rfl (.cons (s := 1) rfl (.cons (s := 3) rfl (.cons (s := 4) rfl (.cons (s := 18) rfl (.cons (s := 20) rfl (.cons (s := 24) rfl .nil))))))) .refl) ?_
          refine run_seq ?_
          refine run_seq ?_
          refine run_sub (subMk .refl (.cons Sel.here (.own (xs' := (p ++ (x.take (st - p.length) ++ (y.take (md - st) ++ (x.drop (st - p.length) ++ (y.drop (md - st) ++ s))))).map Note.enc) rfl rfl rfl (by simp only [List.append_assoc])) .nil)) ?_
          refine run_region ?_
          refine run_q (.none rfl) rfl rfl (q_move rfl rfl) ?_
          refine run_q (.none rfl) rfl rfl (q_move rfl rfl) ?_
          refine run_q (.none rfl) rfl rfl (q_lss rfl rfl rfl) ?_
          refine run_q (.none rfl) rfl rfl (q_move rfl rfl) ?_
          refine run_split 195 rfl (fun g195 => ?_) (fun g195 => ?_)
          · have g195' := g195
            try simp only [decide_eq_true_eq, decide_eq_false_iff_not, beq_iff_eq, beq_eq_false_iff_ne, bne_iff_ne, bne_eq_false_iff_eq, Bool.not_eq_true', Bool.not_eq_false', ne_eq, Int.not_lt, Int.not_le, Decidable.not_not] at g195'
            refine run_q (.on rfl rfl rfl g195) rfl rfl (q_move rfl rfl) ?_
            refine run_q (.on rfl rfl rfl g195) rfl rfl (q_move rfl rfl) ?_
            refine run_q (.on rfl rfl rfl g195) rfl rfl (q_lss rfl rfl rfl) ?_
            refine run_q (.none rfl) rfl rfl (q_pickT rfl rfl g195 rfl) ?_
            refine run_nil ?_
            refine run_sub (subMk (.cons (s := 0) rfl (.cons (s := 1) rfl (.cons (s := 3) rfl (.cons (s := 4) rfl (.cons (s := 18) rfl (.cons (s := 20) rfl (.cons (s := 24) rfl (.cons (s := 199) rfl .nil)))))))) .refl) ?_
            refine run_cond rfl (fun g199 => ?_) (fun g199 => ?_)
            · have g199' := g199
              try simp only [decide_eq_true_eq, decide_eq_false_iff_not, beq_iff_eq, beq_eq_false_iff_ne, bne_iff_ne, bne_eq_false_iff_eq, Bool.not_eq_true', Bool.not_eq_false', ne_eq, Int.not_lt, Int.not_le, Decidable.not_not] at g199'
              refine run_region ?_
              refine run_q (.none rfl) rfl rfl (q_move rfl rfl) ?_
              refine run_q (.none rfl) rfl rfl (q_move rfl rfl) ?_
              refine run_q (.none rfl) rfl rfl (q_move rfl rfl) ?_
              refine run_q (.none rfl) rfl rfl (q_move rfl rfl) ?_
              refine run_q (.none rfl) rfl rfl (q_move rfl rfl) ?_
              refine run_h (.none rfl) (h_callX [_] _ rfl rfl rfl call60 (.cons rfl (.cons rfl (.cons rfl (.cons rfl (.cons rfl Evs.nil))))) (Sel.perm Sel.here) (Y := fun _ => atAny [_]) (fun _ _ h => h) (fun w hk hm => ih p (x.take (st - p.length)) (y.take (md - st)) (x.drop (st - p.length) ++ (y.drop (md - st) ++ s)) _ _ _ w (by (try simp only [List.length_append, List.length_take, List.length_drop]) <;> omega) ((hm.perm (Sel.perm Sel.here)).give (rs := [_])) (by (try simp only [List.length_append, List.length_take, List.length_drop]) <;> omega) (by (try simp only [List.length_append, List.length_take, List.length_drop]) <;> omega) (by (try simp only [List.length_append, List.length_take, List.length_drop]) <;> omega) (by (try simp only [List.length_append, List.length_take, List.length_drop]) <;> omega) (by (try simp only [List.length_append, List.length_take, List.length_drop]) <;> omega) (by (try simp only [List.length_append, List.length_take, List.length_drop]) <;> omega) (hsx.take _) (hsy.take _))) ?_
              rintro ⟨v, m⟩ ⟨d1, ⟨z1, hz1, hs1, rfl⟩, rfl, rfl⟩
              show Run _ _ _ _ _ _ _ ⟨(205, .tuple #[]) :: _, _ :: _⟩
              refine run_nil ?_
              refine run_sub (subMk (.cons (s := 0) rfl (.cons (s := 3) rfl (.cons (s := 4) rfl (.cons (s := 18) rfl (.cons (s := 24) rfl .nil))))) .refl) ?_
              refine run_seq ?_
              refine run_region ?_
              refine run_q (.none rfl) rfl rfl (q_move rfl rfl) ?_
              refine run_q (.none rfl) rfl rfl (q_move rfl rfl) ?_
              refine run_q (.none rfl) rfl rfl (q_lss rfl rfl rfl) ?_
              refine run_q (.none rfl) rfl rfl (q_move rfl rfl) ?_
              refine run_split 209 rfl (fun g209 => ?_) (fun g209 => ?_)
              · have g209' := g209
                try simp only [decide_eq_true_eq, decide_eq_false_iff_not, beq_iff_eq, beq_eq_false_iff_ne, bne_iff_ne, bne_eq_false_iff_eq, Bool.not_eq_true', Bool.not_eq_false', ne_eq, Int.not_lt, Int.not_le, Decidable.not_not] at g209'
                refine run_q (.on rfl rfl rfl g209) rfl rfl (q_move rfl rfl) ?_
                refine run_q (.on rfl rfl rfl g209) rfl rfl (q_move rfl rfl) ?_
                refine run_q (.on rfl rfl rfl g209) rfl rfl (q_lss rfl rfl rfl) ?_
                refine run_q (.none rfl) rfl rfl (q_pickT rfl rfl g209 rfl) ?_
                refine run_nil ?_
                refine run_sub (subMk (.cons (s := 0) rfl (.cons (s := 3) rfl (.cons (s := 4) rfl (.cons (s := 18) rfl (.cons (s := 24) rfl (.cons (s := 213) rfl .nil)))))) .refl) ?_
                refine run_cond rfl (fun g213 => ?_) (fun g213 => ?_)
                · have g213' := g213
                  try simp only [decide_eq_true_eq, decide_eq_false_iff_not, beq_iff_eq, beq_eq_false_iff_ne, bne_iff_ne, bne_eq_false_iff_eq, Bool.not_eq_true', Bool.not_eq_false', ne_eq, Int.not_lt, Int.not_le, Decidable.not_not] at g213'
                  refine run_sub (subMk .refl (.cons Sel.here (.own (xs' := ((p ++ z1) ++ (x.drop (st - p.length) ++ (y.drop (md - st) ++ s))).map Note.enc) rfl rfl rfl (by simp only [List.append_assoc])) .nil)) ?_
                  refine run_region ?_
                  refine run_q (.none rfl) rfl rfl (q_move rfl rfl) ?_
                  refine run_q (.none rfl) rfl rfl (q_move rfl rfl) ?_
                  refine run_q (.none rfl) rfl rfl (q_move rfl rfl) ?_
                  refine run_q (.none rfl) rfl rfl (q_move rfl rfl) ?_
                  refine run_q (.none rfl) rfl rfl (q_move rfl rfl) ?_
                  refine run_h (.none rfl) (h_callX [_] _ rfl rfl rfl call60 (.cons rfl (.cons rfl (.cons rfl (.cons rfl (.cons rfl Evs.nil))))) (Sel.perm Sel.here) (Y := fun _ => atAny [_]) (fun _ _ h => h) (fun w hk hm => ih (p ++ z1) (x.drop (st - p.length)) (y.drop (md - st)) s _ _ _ w (by (try simp only [List.length_append, List.length_take, List.length_drop]) <;> omega) ((hm.perm (Sel.perm Sel.here)).give (rs := [_])) (by have := hz1.length_eq; simp only [List.length_append, List.length_take, List.length_drop] at this ⊢; omega) (by have := hz1.length_eq; simp only [List.length_append, List.length_take, List.length_drop] at this ⊢; omega) (by have := hz1.length_eq; simp only [List.length_append, List.length_take, List.length_drop] at this ⊢; omega) (by (try simp only [List.length_append, List.length_take, List.length_drop]) <;> omega) (by (try simp only [List.length_append, List.length_take, List.length_drop]) <;> omega) (by have := hz1.length_eq; simp only [List.length_append, List.length_take, List.length_drop] at this ⊢; omega) (hsx.drop _) (hsy.drop _))) ?_
                  rintro ⟨v, m⟩ ⟨d2, ⟨z2, hz2, hs2, rfl⟩, rfl, rfl⟩
                  show Run _ _ _ _ _ _ _ ⟨(219, .tuple #[]) :: _, _ :: _⟩
                  refine run_nil ?_
                  refine run_sub (subMk .nil .refl) ?_
                  refine run_sub (subMk .refl (.cons Sel.here .refl .nil)) ?_
                  exact end0 rfl ⟨_, Srt.mrg_3 weakN hsx hsy hz1 hz2 hs1 hs2 (by omega) (by omega) hA3 hB3 (by simp only [List.append_assoc]), rfl, rfl⟩
                · have g213' := g213
                  try simp only [decide_eq_true_eq, decide_eq_false_iff_not, beq_iff_eq, beq_eq_false_iff_ne, bne_iff_ne, bne_eq_false_iff_eq, Bool.not_eq_true', Bool.not_eq_false', ne_eq, Int.not_lt, Int.not_le, Decidable.not_not] at g213'
                  refine run_skip ?_
                  refine run_sub (subMk .refl (.cons Sel.here .refl .nil)) ?_
                  exact end0 rfl ⟨_, Srt.mrg_3 weakN hsx hsy hz1 (.refl _) hs1 (Srt.back_sorted hsx hsy (by omega)) (by omega) (by omega) hA3 hB3 (by simp only [List.append_assoc]), rfl, rfl⟩
              · have g209' := g209
                try simp only [decide_eq_true_eq, decide_eq_false_iff_not, beq_iff_eq, beq_eq_false_iff_ne, bne_iff_ne, bne_eq_false_iff_eq, Bool.not_eq_true', Bool.not_eq_false', ne_eq, Int.not_lt, Int.not_le, Decidable.not_not] at g209'
                refine run_off (.no rfl rfl rfl g209) rfl rfl ?_
                refine run_off (.no rfl rfl rfl g209) rfl rfl ?_
                refine run_off (.no rfl rfl rfl g209) rfl rfl ?_
                refine run_q (.none rfl) rfl rfl (q_pickF rfl rfl g209 rfl) ?_
                refine run_nil ?_
                refine run_sub (subMk (.cons (s := 0) rfl (.cons (s := 3) rfl (.cons (s := 4) rfl (.cons (s := 18) rfl (.cons (s := 24) rfl (.cons (s := 213) rfl .nil)))))) .refl) ?_
                refine run_condF rfl rfl ?_
                refine run_skip ?_
                refine run_sub (subMk .refl (.cons Sel.here .refl .nil)) ?_
                exact end0 rfl ⟨_, Srt.mrg_3 weakN hsx hsy hz1 (.refl _) hs1 (Srt.back_sorted hsx hsy (by omega)) (by omega) (by omega) hA3 hB3 (by simp only [List.append_assoc]), rfl, rfl⟩
            · have g199' := g199
              try simp only [decide_eq_true_eq, decide_eq_false_iff_not, beq_iff_eq, beq_eq_false_iff_ne, bne_iff_ne, bne_eq_false_iff_eq, Bool.not_eq_true', Bool.not_eq_false', ne_eq, Int.not_lt, Int.not_le, Decidable.not_not] at g199'
              refine run_skip ?_
              refine run_seq ?_
              obtain ⟨z1, hz1, hs1, ez1⟩ : ∃ z, z.Perm (x.take (st - p.length) ++ y.take (md - st)) ∧ Srt.Sorted (Ky.ltK keyN) z ∧ z = x.take (st - p.length) ++ y.take (md - st) := ⟨_, .refl _, Srt.front_sorted hsx hsy (by omega), rfl⟩
              refine run_sub (subMk .refl (.cons Sel.here (.own (xs' := (p ++ (z1 ++ (x.drop (st - p.length) ++ (y.drop (md - st) ++ s)))).map Note.enc) rfl rfl rfl (by rw [ez1]; simp only [List.append_assoc])) .nil)) ?_
              refine run_region ?_
              refine run_q (.none rfl) rfl rfl (q_move rfl rfl) ?_
              refine run_q (.none rfl) rfl rfl (q_move rfl rfl) ?_
              refine run_q (.none rfl) rfl rfl (q_lss rfl rfl rfl) ?_
              refine run_q (.none rfl) rfl rfl (q_move rfl rfl) ?_
              refine run_split 209 rfl (fun g209 => ?_) (fun g209 => ?_)
              · have g209' := g209
                try simp only [decide_eq_true_eq, decide_eq_false_iff_not, beq_iff_eq, beq_eq_false_iff_ne, bne_iff_ne, bne_eq_false_iff_eq, Bool.not_eq_true', Bool.not_eq_false', ne_eq, Int.not_lt, Int.not_le, Decidable.not_not] at g209'
                refine run_q (.on rfl rfl rfl g209) rfl rfl (q_move rfl rfl) ?_
                refine run_q (.on rfl rfl rfl g209) rfl rfl (q_move rfl rfl) ?_
                refine run_q (.on rfl rfl rfl g209) rfl rfl (q_lss rfl rfl rfl) ?_
                refine run_q (.none rfl) rfl rfl (q_pickT rfl rfl g209 rfl) ?_
                refine run_nil ?_
                refine run_sub (subMk (.cons (s := 0) rfl (.cons (s := 3) rfl (.cons (s := 4) rfl (.cons (s := 18) rfl (.cons (s := 24) rfl (.cons (s := 213) rfl .nil)))))) .refl) ?_
                refine run_cond rfl (fun g213 => ?_) (fun g213 => ?_)
                · have g213' := g213
                  try simp only [decide_eq_true_eq, decide_eq_false_iff_not, beq_iff_eq, beq_eq_false_iff_ne, bne_iff_ne, bne_eq_false_iff_eq, Bool.not_eq_true', Bool.not_eq_false', ne_eq, Int.not_lt, Int.not_le, Decidable.not_not] at g213'
                  refine run_sub (subMk .refl (.cons Sel.here (.own (xs' := ((p ++ z1) ++ (x.drop (st - p.length) ++ (y.drop (md - st) ++ s))).map Note.enc) rfl rfl rfl (by simp only [List.append_assoc])) .nil)) ?_
                  refine run_region ?_
                  refine run_q (.none rfl) rfl rfl (q_move rfl rfl) ?_
                  refine run_q (.none rfl) rfl rfl (q_move rfl rfl) ?_
                  refine run_q (.none rfl) rfl rfl (q_move rfl rfl) ?_
                  refine run_q (.none rfl) rfl rfl (q_move rfl rfl) ?_
                  refine run_q (.none rfl) rfl rfl (q_move rfl rfl) ?_
                  refine run_h (.none rfl) (h_callX [_] _ rfl rfl rfl call60 (.cons rfl (.cons rfl (.cons rfl (.cons rfl (.cons rfl Evs.nil))))) (Sel.perm Sel.here) (Y := fun _ => atAny [_]) (fun _ _ h => h) (fun w hk hm => ih (p ++ z1) (x.drop (st - p.length)) (y.drop (md - st)) s _ _ _ w (by (try simp only [List.length_append, List.length_take, List.length_drop]) <;> omega) ((hm.perm (Sel.perm Sel.here)).give (rs := [_])) (by have := hz1.length_eq; simp only [List.length_append, List.length_take, List.length_drop] at this ⊢; omega) (by have := hz1.length_eq; simp only [List.length_append, List.length_take, List.length_drop] at this ⊢; omega) (by have := hz1.length_eq; simp only [List.length_append, List.length_take, List.length_drop] at this ⊢; omega) (by (try simp only [List.length_append, List.length_take, List.length_drop]) <;> omega) (by (try simp only [List.length_append, List.length_take, List.length_drop]) <;> omega) (by have := hz1.length_eq; simp only [List.length_append, List.length_take, List.length_drop] at this ⊢; omega) (hsx.drop _) (hsy.drop _))) ?_
                  rintro ⟨v, m⟩ ⟨d2, ⟨z2, hz2, hs2, rfl⟩, rfl, rfl⟩
                  show Run _ _ _ _ _ _ _ ⟨(219, .tuple #[]) :: _, _ :: _⟩
                  refine run_nil ?_
                  refine run_sub (subMk .nil .refl) ?_
                  refine run_sub (subMk .refl (.cons Sel.here .refl .nil)) ?_
                  exact end0 rfl ⟨_, Srt.mrg_3 weakN hsx hsy hz1 hz2 hs1 hs2 (by omega) (by omega) hA3 hB3 (by simp only [List.append_assoc]), rfl, rfl⟩
                · have g213' := g213
                  try simp only [decide_eq_true_eq, decide_eq_false_iff_not, beq_iff_eq, beq_eq_false_iff_ne, bne_iff_ne, bne_eq_false_iff_eq, Bool.not_eq_true', Bool.not_eq_false', ne_eq, Int.not_lt, Int.not_le, Decidable.not_not] at g213'
                  refine run_skip ?_
                  refine run_sub (subMk .refl (.cons Sel.here .refl .nil)) ?_
                  exact end0 rfl ⟨_, Srt.mrg_3 weakN hsx hsy hz1 (.refl _) hs1 (Srt.back_sorted hsx hsy (by omega)) (by omega) (by omega) hA3 hB3 (by simp only [List.append_assoc]), rfl, rfl⟩
              · have g209' := g209
                try simp only [decide_eq_true_eq, decide_eq_false_iff_not, beq_iff_eq, beq_eq_false_iff_ne, bne_iff_ne, bne_eq_false_iff_eq, Bool.not_eq_true', Bool.not_eq_false', ne_eq, Int.not_lt, Int.not_le, Decidable.not_not] at g209'
                refine run_off (.no rfl rfl rfl g209) rfl rfl ?_
                refine run_off (.no rfl rfl rfl g209) rfl rfl ?_
                refine run_off (.no rfl rfl rfl g209) rfl rfl ?_
                refine run_q (.none rfl) rfl rfl (q_pickF rfl rfl g209 rfl) ?_
                refine run_nil ?_
                refine run_sub (subMk (.cons (s := 0) rfl (.cons (s := 3) rfl (.cons (s := 4) rfl (.cons (s := 18) rfl (.cons (s := 24) rfl (.cons (s := 213) rfl .nil)))))) .refl) ?_
                refine run_condF rfl rfl ?_
                refine run_skip ?_
                refine run_sub (subMk .refl (.cons Sel.here .refl .nil)) ?_
                exact end0 rfl ⟨_, Srt.mrg_3 weakN hsx hsy hz1 (.refl _) hs1 (Srt.back_sorted hsx hsy (by omega)) (by omega) (by omega) hA3 hB3 (by simp only [List.append_assoc]), rfl, rfl⟩
          · have g195' := g195
            try simp only [decide_eq_true_eq, decide_eq_false_iff_not, beq_iff_eq, beq_eq_false_iff_ne, bne_iff_ne, bne_eq_false_iff_eq, Bool.not_eq_true', Bool.not_eq_false', ne_eq, Int.not_lt, Int.not_le, Decidable.not_not] at g195'
            refine run_off (.no rfl rfl rfl g195) rfl rfl ?_
            refine run_off (.no rfl rfl rfl g195) rfl rfl ?_
            refine run_off (.no rfl rfl rfl g195) rfl rfl ?_
            refine run_q (.none rfl) rfl rfl (q_pickF rfl rfl g195 rfl) ?_
            refine run_nil ?_
            refine run_sub (subMk (.cons (s := 0) rfl (.cons (s := 1) rfl (.cons (s := 3) rfl (.cons (s := 4) rfl (.cons (s := 18) rfl (.cons (s := 20) rfl (.cons (s := 24) rfl (.cons (s := 199) rfl .nil)))))))) .refl) ?_
            refine run_condF rfl rfl ?_
            refine run_skip ?_
            refine run_seq ?_
            obtain ⟨z1, hz1, hs1, ez1⟩ : ∃ z, z.Perm (x.take (st - p.length) ++ y.take (md - st)) ∧ Srt.Sorted (Ky.ltK keyN) z ∧ z = x.take (st - p.length) ++ y.take (md - st) := ⟨_, .refl _, Srt.front_sorted hsx hsy (by omega), rfl⟩
            refine run_sub (subMk .refl (.cons Sel.here (.own (xs' := (p ++ (z1 ++ (x.drop (st - p.length) ++ (y.drop (md - st) ++ s)))).map Note.enc) rfl rfl rfl (by rw [ez1]; simp only [List.append_assoc])) .nil)) ?_
            refine run_region ?_
            refine run_q (.none rfl) rfl rfl (q_move rfl rfl) ?_
            refine run_q (.none rfl) rfl rfl (q_move rfl rfl) ?_
            refine run_q (.none rfl) rfl rfl (q_lss rfl rfl rfl) ?_
            refine run_q (.none rfl) rfl rfl (q_move rfl rfl) ?_
            refine run_split 209 rfl (fun g209 => ?_) (fun g209 => ?_)
            · have g209' := g209
              try simp only [decide_eq_true_eq, decide_eq_false_iff_not, beq_iff_eq, beq_eq_false_iff_ne, bne_iff_ne, bne_eq_false_iff_eq, Bool.not_eq_true', Bool.not_eq_false', ne_eq, Int.not_lt, Int.not_le, Decidable.not_not] at g209'
              refine run_q (.on rfl rfl rfl g209) rfl rfl (q_move rfl rfl) ?_
              refine run_q (.on rfl rfl rfl g209) rfl rfl (q_move rfl rfl) ?_
              refine run_q (.on rfl rfl rfl g209) rfl rfl (q_lss rfl rfl rfl) ?_
              refine run_q (.none rfl) rfl rfl (q_pickT rfl rfl g209 rfl) ?_
              refine run_nil ?_
              refine run_sub (subMk (.cons (s := 0) rfl (.cons (s := 3) rfl (.cons (s := 4) rfl (.cons (s := 18) rfl (.cons (s := 24) rfl (.cons (s := 213) rfl .nil)))))) .refl) ?_
              refine run_cond rfl (fun g213 => ?_) (fun g213 => ?_)
              · have g213' := g213
                try simp only [decide_eq_true_eq, decide_eq_false_iff_not, beq_iff_eq, beq_eq_false_iff_ne, bne_iff_ne, bne_eq_false_iff_eq, Bool.not_eq_true', Bool.not_eq_false', ne_eq, Int.not_lt, Int.not_le, Decidable.not_not] at g213'
                refine run_sub (subMk .refl (.cons Sel.here (.own (xs' := ((p ++ z1) ++ (x.drop (st - p.length) ++ (y.drop (md - st) ++ s))).map Note.enc) rfl rfl rfl (by simp only [List.append_assoc])) .nil)) ?_
                refine run_region ?_
                refine run_q (.none rfl) rfl rfl (q_move rfl rfl) ?_
                refine run_q (.none rfl) rfl rfl (q_move rfl rfl) ?_
                refine run_q (.none rfl) rfl rfl (q_move rfl rfl) ?_
                refine run_q (.none rfl) rfl rfl (q_move rfl rfl) ?_
                refine run_q (.none rfl) rfl rfl (q_move rfl rfl) ?_
                refine run_h (.none rfl) (h_callX [_] _ rfl rfl rfl call60 (.cons rfl (.cons rfl (.cons rfl (.cons rfl (.cons rfl Evs.nil))))) (Sel.perm Sel.here) (Y := fun _ => atAny [_]) (fun _ _ h => h) (fun w hk hm => ih (p ++ z1) (x.drop (st - p.length)) (y.drop (md - st)) s _ _ _ w (by (try simp only [List.length_append, List.length_take, List.length_drop]) <;> omega) ((hm.perm (Sel.perm Sel.here)).give (rs := [_])) (by have := hz1.length_eq; simp only [List.length_append, List.length_take, List.length_drop] at this ⊢; omega) (by have := hz1.length_eq; simp only [List.length_append, List.length_take, List.length_drop] at this ⊢; omega) (by have := hz1.length_eq; simp only [List.length_append, List.length_take, List.length_drop] at this ⊢; omega) (by (try simp only [List.length_append, List.length_take, List.length_drop]) <;> omega) (by (try simp only [List.length_append, List.length_take, List.length_drop]) <;> omega) (by have := hz1.length_eq; simp only [List.length_append, List.length_take, List.length_drop] at this ⊢; omega) (hsx.drop _) (hsy.drop _))) ?_
                rintro ⟨v, m⟩ ⟨d2, ⟨z2, hz2, hs2, rfl⟩, rfl, rfl⟩
                show Run _ _ _ _ _ _ _ ⟨(219, .tuple #[]) :: _, _ :: _⟩
                refine run_nil ?_
                refine run_sub (subMk .nil .refl) ?_
                refine run_sub (subMk .refl (.cons Sel.here .refl .nil)) ?_
                exact end0 rfl ⟨_, Srt.mrg_3 weakN hsx hsy hz1 hz2 hs1 hs2 (by omega) (by omega) hA3 hB3 (by simp only [List.append_assoc]), rfl, rfl⟩
              · have g213' := g213
                try simp only [decide_eq_true_eq, decide_eq_false_iff_not, beq_iff_eq, beq_eq_false_iff_ne, bne_iff_ne, bne_eq_false_iff_eq, Bool.not_eq_true', Bool.not_eq_false', ne_eq, Int.not_lt, Int.not_le, Decidable.not_not] at g213'
                refine run_skip ?_
                refine run_sub (subMk .refl (.cons Sel.here .refl .nil)) ?_
                exact end0 rfl ⟨_, Srt.mrg_3 weakN hsx hsy hz1 (.refl _) hs1 (Srt.back_sorted hsx hsy (by omega)) (by omega) (by omega) hA3 hB3 (by simp only [List.append_assoc]), rfl, rfl⟩
            · have g209' := g209
              try simp only [decide_eq_true_eq, decide_eq_false_iff_not, beq_iff_eq, beq_eq_false_iff_ne, bne_iff_ne, bne_eq_false_iff_eq, Bool.not_eq_true', Bool.not_eq_false', ne_eq, Int.not_lt, Int.not_le, Decidable.not_not] at g209'
              refine run_off (.no rfl rfl rfl g209) rfl rfl ?_
              refine run_off (.no rfl rfl rfl g209) rfl rfl ?_
              refine run_off (.no rfl rfl rfl g209) rfl rfl ?_
              refine run_q (.none rfl) rfl rfl (q_pickF rfl rfl g209 rfl) ?_
              refine run_nil ?_
              refine run_sub (subMk (.cons (s := 0) rfl (.cons (s := 3) rfl (.cons (s := 4) rfl (.cons (s := 18) rfl (.cons (s := 24) rfl (.cons (s := 213) rfl .nil)))))) .refl) ?_
              refine run_condF rfl rfl ?_
              refine run_skip ?_
              refine run_sub (subMk .refl (.cons Sel.here .refl .nil)) ?_
              exact end0 rfl ⟨_, Srt.mrg_3 weakN hsx hsy hz1 (.refl _) hs1 (Srt.back_sorted hsx hsy (by omega)) (by omega) (by omega) hA3 hB3 (by simp only [List.append_assoc]), rfl, rfl⟩
        · have g185' := g185
          try simp only [decide_eq_true_eq, decide_eq_false_iff_not, beq_iff_eq, beq_eq_false_iff_ne, bne_iff_ne, bne_eq_false_iff_eq, Bool.not_eq_true', Bool.not_eq_false', ne_eq, Int.not_lt, Int.not_le, Decidable.not_not] at g185'
          refine run_skip ?_
          refine run_seq ?_
          refine run_seq ?_
          refine run_sub (subMk .refl (.cons Sel.here (.own (xs' := (p ++ (x.take (st - p.length) ++ (y.take (md - st) ++ (x.drop (st - p.length) ++ (y.drop (md - st) ++ s))))).map Note.enc) rfl rfl rfl (by rw [Srt.no_rot (x := x) (y := y) (u := (st - p.length)) (v := (md - st)) (by omega)])) .nil)) ?_
          refine run_region ?_
          refine run_q (.none rfl) rfl rfl (q_move rfl rfl) ?_
          refine run_q (.none rfl) rfl rfl (q_move rfl rfl) ?_
          refine run_q (.none rfl) rfl rfl (q_lss rfl rfl rfl) ?_
          refine run_q (.none rfl) rfl rfl (q_move rfl rfl) ?_
          refine run_split 195 rfl (fun g195 => ?_) (fun g195 => ?_)
          · have g195' := g195
            try simp only [decide_eq_true_eq, decide_eq_false_iff_not, beq_iff_eq, beq_eq_false_iff_ne, bne_iff_ne, bne_eq_false_iff_eq, Bool.not_eq_true', Bool.not_eq_false', ne_eq, Int.not_lt, Int.not_le, Decidable.not_not] at g195'
            refine run_q (.on rfl rfl rfl g195) rfl rfl (q_move rfl rfl) ?_
            refine run_q (.on rfl rfl rfl g195) rfl rfl (q_move rfl rfl) ?_
            refine run_q (.on rfl rfl rfl g195) rfl rfl (q_lss rfl rfl rfl) ?_
            refine run_q (.none rfl) rfl rfl (q_pickT rfl rfl g195 rfl) ?_
            refine run_nil ?_
            refine run_sub (subMk (.cons (s := 0) rfl (.cons (s := 1) rfl (.cons (s := 3) rfl (.cons (s := 4) rfl (.cons (s := 18) rfl (.cons (s := 20) rfl (.cons (s := 24) rfl (.cons (s := 199) rfl .nil)))))))) .refl) ?_
            refine run_cond rfl (fun g199 => ?_) (fun g199 => ?_)
            · have g199' := g199
              try simp only [decide_eq_true_eq, decide_eq_false_iff_not, beq_iff_eq, beq_eq_false_iff_ne, bne_iff_ne, bne_eq_false_iff_eq, Bool.not_eq_true', Bool.not_eq_false', ne_eq, Int.not_lt, Int.not_le, Decidable.not_not] at g199'
              refine run_region ?_
              refine run_q (.none rfl) rfl rfl (q_move rfl rfl) ?_
              refine run_q (.none rfl) rfl rfl (q_move rfl rfl) ?_
              refine run_q (.none rfl) rfl rfl (q_move rfl rfl) ?_
              refine run_q (.none rfl) rfl rfl (q_move rfl rfl) ?_
              refine run_q (.none rfl) rfl rfl (q_move rfl rfl) ?_
              refine run_h (.none rfl) (h_callX [_] _ rfl rfl rfl call60 (.cons rfl (.cons rfl (.cons rfl (.cons rfl (.cons rfl Evs.nil))))) (Sel.perm Sel.here) (Y := fun _ => atAny [_]) (fun _ _ h => h) (fun w hk hm => ih p (x.take (st - p.length)) (y.take (md - st)) (x.drop (st - p.length) ++ (y.drop (md - st) ++ s)) _ _ _ w (by (try simp only [List.length_append, List.length_take, List.length_drop]) <;> omega) ((hm.perm (Sel.perm Sel.here)).give (rs := [_])) (by (try simp only [List.length_append, List.length_take, List.length_drop]) <;> omega) (by (try simp only [List.length_append, List.length_take, List.length_drop]) <;> omega) (by (try simp only [List.length_append, List.length_take, List.length_drop]) <;> omega) (by (try simp only [List.length_append, List.length_take, List.length_drop]) <;> omega) (by (try simp only [List.length_append, List.length_take, List.length_drop]) <;> omega) (by (try simp only [List.length_append, List.length_take, List.length_drop]) <;> omega) (hsx.take _) (hsy.take _))) ?_
              rintro ⟨v, m⟩ ⟨d1, ⟨z1, hz1, hs1, rfl⟩, rfl, rfl⟩
              show Run _ _ _ _ _ _ _ ⟨(205, .tuple #[]) :: _, _ :: _⟩
              refine run_nil ?_
              refine run_sub (subMk (.cons (s := 0) rfl (.cons (s := 3) rfl (.cons (s := 4) rfl (.cons (s := 18) rfl (.cons (s := 24) rfl .nil))))) .refl) ?_
              refine run_seq ?_
              refine run_region ?_
              refine run_q (.none rfl) rfl rfl (q_move rfl rfl) ?_
              refine run_q (.none rfl) rfl rfl (q_move rfl rfl) ?_
              refine run_q (.none rfl) rfl rfl (q_lss rfl rfl rfl) ?_
              refine run_q (.none rfl) rfl rfl (q_move rfl rfl) ?_
              refine run_split 209 rfl (fun g209 => ?_) (fun g209 => ?_)
              · have g209' := g209
                try simp only [decide_eq_true_eq, decide_eq_false_iff_not, beq_iff_eq, beq_eq_false_iff_ne, bne_iff_ne, bne_eq_false_iff_eq, Bool.not_eq_true', Bool.not_eq_false', ne_eq, Int.not_lt, Int.not_le, Decidable.not_not] at g209'
                refine run_q (.on rfl rfl rfl g209) rfl rfl (q_move rfl rfl) ?_
                refine run_q (.on rfl rfl rfl g209) rfl rfl (q_move rfl rfl) ?_
                refine run_q (.on rfl rfl rfl g209) rfl rfl (q_lss rfl rfl rfl) ?_
                refine run_q (.none rfl) rfl rfl (q_pickT rfl rfl g209 rfl) ?_
                refine run_nil ?_
                refine run_sub (subMk (.cons (s := 0) rfl (.cons (s := 3) rfl (.cons (s := 4) rfl (.cons (s := 18) rfl (.cons (s := 24) rfl (.cons (s := 213) rfl .nil)))))) .refl) ?_
                refine run_cond rfl (fun g213 => ?_) (fun g213 => ?_)
                · have g213' := g213
                  try simp only [decide_eq_true_eq, decide_eq_false_iff_not, beq_iff_eq, beq_eq_false_iff_ne, bne_iff_ne, bne_eq_false_iff_eq, Bool.not_eq_true', Bool.not_eq_false', ne_eq, Int.not_lt, Int.not_le, Decidable.not_not] at g213'
                  refine run_sub (subMk .refl (.cons Sel.here (.own (xs' := ((p ++ z1) ++ (x.drop (st - p.length) ++ (y.drop (md - st) ++ s))).map Note.enc) rfl rfl rfl (by simp only [List.append_assoc])) .nil)) ?_
                  refine run_region ?_
                  refine run_q (.none rfl) rfl rfl (q_move rfl rfl) ?_
                  refine run_q (.none rfl) rfl rfl (q_move rfl rfl) ?_
                  refine run_q (.none rfl) rfl rfl (q_move rfl rfl) ?_
                  refine run_q (.none rfl) rfl rfl (q_move rfl rfl) ?_
                  refine run_q (.none rfl) rfl rfl (q_move rfl rfl) ?_
                  refine run_h (.none rfl) (h_callX [_] _ rfl rfl rfl call60 (.cons rfl (.cons rfl (.cons rfl (.cons rfl (.cons rfl Evs.nil))))) (Sel.perm Sel.here) (Y := fun _ => atAny [_]) (fun _ _ h => h) (fun w hk hm => ih (p ++ z1) (x.drop (st - p.length)) (y.drop (md - st)) s _ _ _ w (by (try simp only [List.length_append, List.length_take, List.length_drop]) <;> omega) ((hm.perm (Sel.perm Sel.here)).give (rs := [_])) (by have := hz1.length_eq; simp only [List.length_append, List.length_take, List.length_drop] at this ⊢; omega) (by have := hz1.length_eq; simp only [List.length_append, List.length_take, List.length_drop] at this ⊢; omega) (by have := hz1.length_eq; simp only [List.length_append, List.length_take, List.length_drop] at this ⊢; omega) (by (try simp only [List.length_append, List.length_take, List.length_drop]) <;> omega) (by (try simp only [List.length_append, List.length_take, List.length_drop]) <;> omega) (by have := hz1.length_eq; simp only [List.length_append, List.length_take, List.length_drop] at this ⊢; omega) (hsx.drop _) (hsy.drop _))) ?_
                  rintro ⟨v, m⟩ ⟨d2, ⟨z2, hz2, hs2, rfl⟩, rfl, rfl⟩
                  show Run _ _ _ _ _ _ _ ⟨(219, .tuple #[]) :: _, _ :: _⟩
                  refine run_nil ?_
                  refine run_sub (subMk .nil .refl) ?_
                  refine run_sub (subMk .refl (.cons Sel.here .refl .nil)) ?_
                  exact end0 rfl ⟨_, Srt.mrg_3 weakN hsx hsy hz1 hz2 hs1 hs2 (by omega) (by omega) hA3 hB3 (by simp only [List.append_assoc]), rfl, rfl⟩
                · have g213' := g213
                  try simp only [decide_eq_true_eq, decide_eq_false_iff_not, beq_iff_eq, beq_eq_false_iff_ne, bne_iff_ne, bne_eq_false_iff_eq, Bool.not_eq_true', Bool.not_eq_false', ne_eq, Int.not_lt, Int.not_le, Decidable.not_not] at g213'
                  refine run_skip ?_
                  refine run_sub (subMk .refl (.cons Sel.here .refl .nil)) ?_
                  exact end0 rfl ⟨_, Srt.mrg_3 weakN hsx hsy hz1 (.refl _) hs1 (Srt.back_sorted hsx hsy (by omega)) (by omega) (by omega) hA3 hB3 (by simp only [List.append_assoc]), rfl, rfl⟩
              · have g209' := g209
                try simp only [decide_eq_true_eq, decide_eq_false_iff_not, beq_iff_eq, beq_eq_false_iff_ne, bne_iff_ne, bne_eq_false_iff_eq, Bool.not_eq_true', Bool.not_eq_false', ne_eq, Int.not_lt, Int.not_le, Decidable.not_not] at g209'
                refine run_off (.no rfl rfl rfl g209) rfl rfl ?_
                refine run_off (.no rfl rfl rfl g209) rfl rfl ?_
                refine run_off (.no rfl rfl rfl g209) rfl rfl ?_
                refine run_q (.none rfl) rfl rfl (q_pickF rfl rfl g209 rfl) ?_
                refine run_nil ?_
                refine run_sub (subMk (.cons (s := 0) rfl (.cons (s := 3) rfl (.cons (s := 4) rfl (.cons (s := 18) rfl (.cons (s := 24) rfl (.cons (s := 213) rfl .nil)))))) .refl) ?_
                refine run_condF rfl rfl ?_
                refine run_skip ?_
                refine run_sub (subMk .refl (.cons Sel.here .refl .nil)) ?_
                exact end0 rfl ⟨_, Srt.mrg_3 weakN hsx hsy hz1 (.refl _) hs1 (Srt.back_sorted hsx hsy (by omega)) (by omega) (by omega) hA3 hB3 (by simp only [List.append_assoc]), rfl, rfl⟩
            · have g199' := g199
              try simp only [decide_eq_true_eq, decide_eq_false_iff_not, beq_iff_eq, beq_eq_false_iff_ne, bne_iff_ne, bne_eq_false_iff_eq, Bool.not_eq_true', Bool.not_eq_false', ne_eq, Int.not_lt, Int.not_le, Decidable.not_not] at g199'
              refine run_skip ?_
              refine run_seq ?_
              obtain ⟨z1, hz1, hs1, ez1⟩ : ∃ z, z.Perm (x.take (st - p.length) ++ y.take (md - st)) ∧ Srt.Sorted (Ky.ltK keyN) z ∧ z = x.take (st - p.length) ++ y.take (md - st) := ⟨_, .refl _, Srt.front_sorted hsx hsy (by omega), rfl⟩
              refine run_sub (subMk .refl (.cons Sel.here (.own (xs' := (p ++ (z1 ++ (x.drop (st - p.length) ++ (y.drop (md - st) ++ s)))).map Note.enc) rfl rfl rfl (by rw [ez1]; simp only [List.append_assoc])) .nil)) ?_
              refine run_region ?_
              refine run_q (.none rfl) rfl rfl (q_move rfl rfl) ?_
              refine run_q (.none rfl) rfl rfl (q_move rfl rfl) ?_
              refine run_q (.none rfl) rfl rfl (q_lss rfl rfl rfl) ?_
              refine run_q (.none rfl) rfl rfl (q_move rfl rfl) ?_
              refine run_split 209 rfl (fun g209 => ?_) (fun g209 => ?_)
              · have g209' := g209
                try simp only [decide_eq_true_eq, decide_eq_false_iff_not, beq_iff_eq, beq_eq_false_iff_ne, bne_iff_ne, bne_eq_false_iff_eq, Bool.not_eq_true', Bool.not_eq_false', ne_eq, Int.not_lt, Int.not_le, Decidable.not_not] at g209'
                refine run_q (.on rfl rfl rfl g209) rfl rfl (q_move rfl rfl) ?_
                refine run_q (.on rfl rfl rfl g209) rfl rfl (q_move rfl rfl) ?_
                refine run_q (.on rfl rfl rfl g209) rfl rfl (q_lss rfl rfl rfl) ?_
                refine run_q (.none rfl) rfl rfl (q_pickT rfl rfl g209 rfl) ?_
                refine run_nil ?_
                refine run_sub (subMk (.cons (s := 0) rfl (.cons (s := 3) rfl (.cons (s := 4) rfl (.cons (s := 18) rfl (.cons (s := 24) rfl (.cons (s := 213) rfl .nil)))))) .refl) ?_
                refine run_cond rfl (fun g213 => ?_) (fun g213 => ?_)
                · have g213' := g213
                  try simp only [decide_eq_true_eq, decide_eq_false_iff_not, beq_iff_eq, beq_eq_false_iff_ne, bne_iff_ne, bne_eq_false_iff_eq, Bool.not_eq_true', Bool.not_eq_false', ne_eq, Int.not_lt, Int.not_le, Decidable.not_not] at g213'
                  refine run_sub (subMk .refl (.cons Sel.here (.own (xs' := ((p ++ z1) ++ (x.drop (st - p.length) ++ (y.drop (md - st) ++ s))).map Note.enc) rfl rfl rfl (by simp only [List.append_assoc])) .nil)) ?_
                  refine run_region ?_
                  refine run_q (.none rfl) rfl rfl (q_move rfl rfl) ?_
                  refine run_q (.none rfl) rfl rfl (q_move rfl rfl) ?_
                  refine run_q (.none rfl) rfl rfl (q_move rfl rfl) ?_
                  refine run_q (.none rfl) rfl rfl (q_move rfl rfl) ?_
                  refine run_q (.none rfl) rfl rfl (q_move rfl rfl) ?_
                  refine run_h (.none rfl) (h_callX [_] _ rfl rfl rfl call60 (.cons rfl (.cons rfl (.cons rfl (.cons rfl (.cons rfl Evs.nil))))) (Sel.perm Sel.here) (Y := fun _ => atAny [_]) (fun _ _ h => h) (fun w hk hm => ih (p ++ z1) (x.drop (st - p.length)) (y.drop (md - st)) s _ _ _ w (by (try simp only [List.length_append, List.length_take, List.length_drop]) <;> omega) ((hm.perm (Sel.perm Sel.here)).give (rs := [_])) (by have := hz1.length_eq; simp only [List.length_append, List.length_take, List.length_drop] at this ⊢; omega) (by have := hz1.length_eq; simp only [List.length_append, List.length_take, List.length_drop] at this ⊢; omega) (by have := hz1.length_eq; simp only [List.length_append, List.length_take, List.length_drop] at this ⊢; omega) (by (try simp only [List.length_append, List.length_take, List.length_drop]) <;> omega) (by (try simp only [List.length_append, List.length_take, List.length_drop]) <;> omega) (by have := hz1.length_eq; simp only [List.length_append, List.length_take, List.length_drop] at this ⊢; omega) (hsx.drop _) (hsy.drop _))) ?_
                  rintro ⟨v, m⟩ ⟨d2, ⟨z2, hz2, hs2, rfl⟩, rfl, rfl⟩
                  show Run _ _ _ _ _ _ _ ⟨(219, .tuple #[]) :: _, _ :: _⟩
                  refine run_nil ?_
                  refine run_sub (subMk .nil .refl) ?_
                  refine run_sub (subMk .refl (.cons Sel.here .refl .nil)) ?_
                  exact end0 rfl ⟨_, Srt.mrg_3 weakN hsx hsy hz1 hz2 hs1 hs2 (by omega) (by omega) hA3 hB3 (by simp only [List.append_assoc]), rfl, rfl⟩
                · have g213' := g213
                  try simp only [decide_eq_true_eq, decide_eq_false_iff_not, beq_iff_eq, beq_eq_false_iff_ne, bne_iff_ne, bne_eq_false_iff_eq, Bool.not_eq_true', Bool.not_eq_false', ne_eq, Int.not_lt, Int.not_le, Decidable.not_not] at g213'
                  refine run_skip ?_
                  refine run_sub (subMk .refl (.cons Sel.here .refl .nil)) ?_
                  exact end0 rfl ⟨_, Srt.mrg_3 weakN hsx hsy hz1 (.refl _) hs1 (Srt.back_sorted hsx hsy (by omega)) (by omega) (by omega) hA3 hB3 (by simp only [List.append_assoc]), rfl, rfl⟩
              · have g209' := g209
                try simp only [decide_eq_true_eq, decide_eq_false_iff_not, beq_iff_eq, beq_eq_false_iff_ne, bne_iff_ne, bne_eq_false_iff_eq, Bool.not_eq_true', Bool.not_eq_false', ne_eq, Int.not_lt, Int.not_le, Decidable.not_not] at g209'
                refine run_off (.no rfl rfl rfl g209) rfl rfl ?_
                refine run_off (.no rfl rfl rfl g209) rfl rfl ?_
                refine run_off (.no rfl rfl rfl g209) rfl rfl ?_
                refine run_q (.none rfl) rfl rfl (q_pickF rfl rfl g209 rfl) ?_
                refine run_nil ?_
                refine run_sub (subMk (.cons (s := 0) rfl (.cons (s := 3) rfl (.cons (s := 4) rfl (.cons (s := 18) rfl (.cons (s := 24) rfl (.cons (s := 213) rfl .nil)))))) .refl) ?_
                refine run_condF rfl rfl ?_
                refine run_skip ?_
                refine run_sub (subMk .refl (.cons Sel.here .refl .nil)) ?_
                exact end0 rfl ⟨_, Srt.mrg_3 weakN hsx hsy hz1 (.refl _) hs1 (Srt.back_sorted hsx hsy (by omega)) (by omega) (by omega) hA3 hB3 (by simp only [List.append_assoc]), rfl, rfl⟩
          · have g195' := g195
            try simp only [decide_eq_true_eq, decide_eq_false_iff_not, beq_iff_eq, beq_eq_false_iff_ne, bne_iff_ne, bne_eq_false_iff_eq, Bool.not_eq_true', Bool.not_eq_false', ne_eq, Int.not_lt, Int.not_le, Decidable.not_not] at g195'
            refine run_off (.no rfl rfl rfl g195) rfl rfl ?_
            refine run_off (.no rfl rfl rfl g195) rfl rfl ?_
            refine run_off (.no rfl rfl rfl g195) rfl rfl ?_
            refine run_q (.none rfl) rfl rfl (q_pickF rfl rfl g195 rfl) ?_
            refine run_nil ?_
            refine run_sub (subMk (.cons (s := 0) rfl (.cons (s := 1) rfl (.cons (s := 3) rfl (.cons (s := 4) rfl (.cons (s := 18) rfl (.cons (s := 20) rfl (.cons (s := 24) rfl (.cons (s := 199) rfl .nil)))))))) .refl) ?_
            refine run_condF rfl rfl ?_
            refine run_skip ?_
            refine run_seq ?_
            obtain ⟨z1, hz1, hs1, ez1⟩ : ∃ z, z.Perm (x.take (st - p.length) ++ y.take (md - st)) ∧ Srt.Sorted (Ky.ltK keyN) z ∧ z = x.take (st - p.length) ++ y.take (md - st) := ⟨_, .refl _, Srt.front_sorted hsx hsy (by omega), rfl⟩
            refine run_sub (subMk .refl (.cons Sel.here (.own (xs' := (p ++ (z1 ++ (x.drop (st - p.length) ++ (y.drop (md - st) ++ s)))).map Note.enc) rfl rfl rfl (by rw [ez1]; simp only [List.append_assoc])) .nil)) ?_
            refine run_region ?_
            refine run_q (.none rfl) rfl rfl (q_move rfl rfl) ?_
            refine run_q (.none rfl) rfl rfl (q_move rfl rfl) ?_
            refine run_q (.none rfl) rfl rfl (q_lss rfl rfl rfl) ?_
            refine run_q (.none rfl) rfl rfl (q_move rfl rfl) ?_
            refine run_split 209 rfl (fun g209 => ?_) (fun g209 => ?_)
            · have g209' := g209
              try simp only [decide_eq_true_eq, decide_eq_false_iff_not, beq_iff_eq, beq_eq_false_iff_ne, bne_iff_ne, bne_eq_false_iff_eq, Bool.not_eq_true', Bool.not_eq_false', ne_eq, Int.not_lt, Int.not_le, Decidable.not_not] at g209'
              refine run_q (.on rfl rfl rfl g209) rfl rfl (q_move rfl rfl) ?_
              refine run_q (.on rfl rfl rfl g209) rfl rfl (q_move rfl rfl) ?_
              refine run_q (.on rfl rfl rfl g209) rfl rfl (q_lss rfl rfl rfl) ?_
              refine run_q (.none rfl) rfl rfl (q_pickT rfl rfl g209 rfl) ?_
              refine run_nil ?_
              refine run_sub (subMk (.cons (s := 0) rfl (.cons (s := 3) rfl (.cons (s := 4) rfl (.cons (s := 18) rfl (.cons (s := 24) rfl (.cons (s := 213) rfl .nil)))))) .refl) ?_
              refine run_cond rfl (fun g213 => ?_) (fun g213 => ?_)
              · have g213' := g213
                try simp only [decide_eq_true_eq, decide_eq_false_iff_not, beq_iff_eq, beq_eq_false_iff_ne, bne_iff_ne, bne_eq_false_iff_eq, Bool.not_eq_true', Bool.not_eq_false', ne_eq, Int.not_lt, Int.not_le, Decidable.not_not] at g213'
                refine run_sub (subMk .refl (.cons Sel.here (.own (xs' := ((p ++ z1) ++ (x.drop (st - p.length) ++ (y.drop (md - st) ++ s))).map Note.enc) rfl rfl rfl (by simp only [List.append_assoc])) .nil)) ?_
                refine run_region ?_
                refine run_q (.none rfl) rfl rfl (q_move rfl rfl) ?_
                refine run_q (.none rfl) rfl rfl (q_move rfl rfl) ?_
                refine run_q (.none rfl) rfl rfl (q_move rfl rfl) ?_
                refine run_q (.none rfl) rfl rfl (q_move rfl rfl) ?_
                refine run_q (.none rfl) rfl rfl (q_move rfl rfl) ?_
                refine run_h (.none rfl) (h_callX [_] _ rfl rfl rfl call60 (.cons rfl (.cons rfl (.cons rfl (.cons rfl (.cons rfl Evs.nil))))) (Sel.perm Sel.here) (Y := fun _ => atAny [_]) (fun _ _ h => h) (fun w hk hm => ih (p ++ z1) (x.drop (st - p.length)) (y.drop (md - st)) s _ _ _ w (by (try simp only [List.length_append, List.length_take, List.length_drop]) <;> omega) ((hm.perm (Sel.perm Sel.here)).give (rs := [_])) (by have := hz1.length_eq; simp only [List.length_append, List.length_take, List.length_drop] at this ⊢; omega) (by have := hz1.length_eq; simp only [List.length_append, List.length_take, List.length_drop] at this ⊢; omega) (by have := hz1.length_eq; simp only [List.length_append, List.length_take, List.length_drop] at this ⊢; omega) (by (try simp only [List.length_append, List.length_take, List.length_drop]) <;> omega) (by (try simp only [List.length_append, List.length_take, List.length_drop]) <;> omega) (by have := hz1.length_eq; simp only [List.length_append, List.length_take, List.length_drop] at this ⊢; omega) (hsx.drop _) (hsy.drop _))) ?_
                rintro ⟨v, m⟩ ⟨d2, ⟨z2, hz2, hs2, rfl⟩, rfl, rfl⟩
                show Run _ _ _ _ _ _ _ ⟨(219, .tuple #[]) :: _, _ :: _⟩
                refine run_nil ?_
                refine run_sub (subMk .nil .refl) ?_
                refine run_sub (subMk .refl (.cons Sel.here .refl .nil)) ?_
                exact end0 rfl ⟨_, Srt.mrg_3 weakN hsx hsy hz1 hz2 hs1 hs2 (by omega) (by omega) hA3 hB3 (by simp only [List.append_assoc]), rfl, rfl⟩
              · have g213' := g213
                try simp only [decide_eq_true_eq, decide_eq_false_iff_not, beq_iff_eq, beq_eq_false_iff_ne, bne_iff_ne, bne_eq_false_iff_eq, Bool.not_eq_true', Bool.not_eq_false', ne_eq, Int.not_lt, Int.not_le, Decidable.not_not] at g213'
                refine run_skip ?_
                refine run_sub (subMk .refl (.cons Sel.here .refl .nil)) ?_
                exact end0 rfl ⟨_, Srt.mrg_3 weakN hsx hsy hz1 (.refl _) hs1 (Srt.back_sorted hsx hsy (by omega)) (by omega) (by omega) hA3 hB3 (by simp only [List.append_assoc]), rfl, rfl⟩
            · have g209' := g209
              try simp only [decide_eq_true_eq, decide_eq_false_iff_not, beq_iff_eq, beq_eq_false_iff_ne, bne_iff_ne, bne_eq_false_iff_eq, Bool.not_eq_true', Bool.not_eq_false', ne_eq, Int.not_lt, Int.not_le, Decidable.not_not] at g209'
              refine run_off (.no rfl rfl rfl g209) rfl rfl ?_
              refine run_off (.no rfl rfl rfl g209) rfl rfl ?_
              refine run_off (.no rfl rfl rfl g209) rfl rfl ?_
              refine run_q (.none rfl) rfl rfl (q_pickF rfl rfl g209 rfl) ?_
              refine run_nil ?_
              refine run_sub (subMk (.cons (s := 0) rfl (.cons (s := 3) rfl (.cons (s := 4) rfl (.cons (s := 18) rfl (.cons (s := 24) rfl (.cons (s := 213) rfl .nil)))))) .refl) ?_
              refine run_condF rfl rfl ?_
              refine run_skip ?_
              refine run_sub (subMk .refl (.cons Sel.here .refl .nil)) ?_
              exact end0 rfl ⟨_, Srt.mrg_3 weakN hsx hsy hz1 (.refl _) hs1 (Srt.back_sorted hsx hsy (by omega)) (by omega) (by omega) hA3 hB3 (by simp only [List.append_assoc]), rfl, rfl⟩
      · have g181' := g181
        try simp only [decide_eq_true_eq, decide_eq_false_iff_not, beq_iff_eq, beq_eq_false_iff_ne, bne_iff_ne, bne_eq_false_iff_eq, Bool.not_eq_true', Bool.not_eq_false', ne_eq, Int.not_lt, Int.not_le, Decidable.not_not] at g181'
        refine run_off (.no rfl rfl rfl g181) rfl rfl ?_
        refine run_off (.no rfl rfl rfl g181) rfl rfl ?_
        refine run_off (.no rfl rfl rfl g181) rfl rfl ?_
        refine run_q (.none rfl) rfl rfl (q_pickF rfl rfl g181 rfl) ?_
        refine run_nil ?_
        refine run_sub (subMk (.cons (s := 0) rfl (.cons (s := 1) rfl (.cons (s := 2) rfl (.cons (s := 3) rfl (.cons (s := 4) rfl (.cons (s := 18) rfl (.cons (s := 20) rfl (.cons (s := 24) rfl (.cons (s := 185) rfl .nil))))))))) .refl) ?_
        refine run_condF rfl rfl ?_
        refine run_skip ?_
        refine run_seq ?_
        refine run_seq ?_
        refine run_sub (subMk .refl (.cons Sel.here (.own (xs' := (p ++ (x.take (st - p.length) ++ (y.take (md - st) ++ (x.drop (st - p.length) ++ (y.drop (md - st) ++ s))))).map Note.enc) rfl rfl rfl (by rw [Srt.no_rot (x := x) (y := y) (u := (st - p.length)) (v := (md - st)) (by omega)])) .nil)) ?_
        refine run_region ?_
        refine run_q (.none rfl) rfl rfl (q_move rfl rfl) ?_
        refine run_q (.none rfl) rfl rfl (q_move rfl rfl) ?_
        refine run_q (.none rfl) rfl rfl (q_lss rfl rfl rfl) ?_
        refine run_q (.none rfl) rfl rfl (q_move rfl rfl) ?_
        refine run_split 195 rfl (fun g195 => ?_) (fun g195 => ?_)
        · have g195' := g195
          try simp only [decide_eq_true_eq, decide_eq_false_iff_not, beq_iff_eq, beq_eq_false_iff_ne, bne_iff_ne, bne_eq_false_iff_eq, Bool.not_eq_true', Bool.not_eq_false', ne_eq, Int.not_lt, Int.not_le, Decidable.not_not] at g195'
          refine run_q (.on rfl rfl rfl g195) rfl rfl (q_move rfl rfl) ?_
          refine run_q (.on rfl rfl rfl g195) rfl rfl (q_move rfl rfl) ?_
          refine run_q (.on rfl rfl rfl g195) rfl rfl (q_lss rfl rfl rfl) ?_
          refine run_q (.none rfl) rfl rfl (q_pickT rfl rfl g195 rfl) ?_
          refine run_nil ?_
          refine run_sub (subMk (.cons (s := 0) rfl (.cons (s := 1) rfl (.cons (s := 3) rfl (.cons (s := 4) rfl (.cons (s := 18) rfl (.cons (s := 20) rfl (.cons (s := 24) rfl (.cons (s := 199) rfl .nil)))))))) .refl) ?_
          refine run_cond rfl (fun g199 => ?_) (fun g199 => ?_)
          · have g199' := g199
            try simp only [decide_eq_true_eq, decide_eq_false_iff_not, beq_iff_eq, beq_eq_false_iff_ne, bne_iff_ne, bne_eq_false_iff_eq, Bool.not_eq_true', Bool.not_eq_false', ne_eq, Int.not_lt, Int.not_le, Decidable.not_not] at g199'
            refine run_region ?_
            refine run_q (.none rfl) rfl rfl (q_move rfl rfl) ?_
            refine run_q (.none rfl) rfl rfl (q_move rfl rfl) ?_
            refine run_q (.none rfl) rfl rfl (q_move rfl rfl) ?_
            refine run_q (.none rfl) rfl rfl (q_move rfl rfl) ?_
            refine run_q (.none rfl) rfl rfl (q_move rfl rfl) ?_
            refine run_h (.none rfl) (h_callX [_] _ rfl rfl rfl call60 (.cons rfl (.cons rfl (.cons rfl (.cons rfl (.cons rfl Evs.nil))))) (Sel.perm Sel.here) (Y := fun _ => atAny [_]) (fun _ _ h => h) (fun w hk hm => ih p (x.take (st - p.length)) (y.take (md - st)) (x.drop (st - p.length) ++ (y.drop (md - st) ++ s)) _ _ _ w (by (try simp only [List.length_append, List.length_take, List.length_drop]) <;> omega) ((hm.perm (Sel.perm Sel.here)).give (rs := [_])) (by (try simp only [List.length_append, List.length_take, List.length_drop]) <;> omega) (by (try simp only [List.length_append, List.length_take, List.length_drop]) <;> omega) (by (try simp only [List.length_append, List.length_take, List.length_drop]) <;> omega) (by (try simp only [List.length_append, List.length_take, List.length_drop]) <;> omega) (by (try simp only [List.length_append, List.length_take, List.length_drop]) <;> omega) (by (try simp only [List.length_append, List.length_take, List.length_drop]) <;> omega) (hsx.take _) (hsy.take _))) ?_
            rintro ⟨v, m⟩ ⟨d1, ⟨z1, hz1, hs1, rfl⟩, rfl, rfl⟩
            show Run _ _ _ _ _ _ _ ⟨(205, .tuple #[]) :: _, _ :: _⟩
            refine run_nil ?_
            refine run_sub (subMk (.cons (s := 0) rfl (.cons (s := 3) rfl (.cons (s := 4) rfl (.cons (s := 18) rfl (.cons (s := 24) rfl .nil))))) .refl) ?_
            refine run_seq ?_
            refine run_region ?_
            refine run_q (.none rfl) rfl rfl (q_move rfl rfl) ?_
            refine run_q (.none rfl) rfl rfl (q_move rfl rfl) ?_
            refine run_q (.none rfl) rfl rfl (q_lss rfl rfl rfl) ?_
            refine run_q (.none rfl) rfl rfl (q_move rfl rfl) ?_
            refine run_split 209 rfl (fun g209 => ?_) (fun g209 => ?_)
            · have g209' := g209
              try simp only [decide_eq_true_eq, decide_eq_false_iff_not, beq_iff_eq, beq_eq_false_iff_ne, bne_iff_ne, bne_eq_false_iff_eq, Bool.not_eq_true', Bool.not_eq_false', ne_eq, Int.not_lt, Int.not_le, Decidable.not_not] at g209'
              refine run_q (.on rfl rfl rfl g209) rfl rfl (q_move rfl rfl) ?_
              refine run_q (.on rfl rfl rfl g209) rfl rfl (q_move rfl rfl) ?_
              refine run_q (.on rfl rfl rfl g209) rfl rfl (q_lss rfl rfl rfl) ?_
              refine run_q (.none rfl) rfl rfl (q_pickT rfl rfl g209 rfl) ?_
              refine run_nil ?_
              refine run_sub (subMk (.cons (s := 0) rfl (.cons (s := 3) rfl (.cons (s := 4) rfl (.cons (s := 18) rfl (.cons (s := 24) rfl (.cons (s := 213) rfl .nil)))))) .refl) ?_
              refine run_cond rfl (fun g213 => ?_) (fun g213 => ?_)
              · have g213' := g213
                try simp only [decide_eq_true_eq, decide_eq_false_iff_not, beq_iff_eq, beq_eq_false_iff_ne, bne_iff_ne, bne_eq_false_iff_eq, Bool.not_eq_true', Bool.not_eq_false', ne_eq, Int.not_lt, Int.not_le, Decidable.not_not] at g213'
                refine run_sub (subMk .refl (.cons Sel.here (.own (xs' := ((p ++ z1) ++ (x.drop (st - p.length) ++ (y.drop (md - st) ++ s))).map Note.enc) rfl rfl rfl (by simp only [List.append_assoc])) .nil)) ?_
                refine run_region ?_
                refine run_q (.none rfl) rfl rfl (q_move rfl rfl) ?_
                refine run_q (.none rfl) rfl rfl (q_move rfl rfl) ?_
                refine run_q (.none rfl) rfl rfl (q_move rfl rfl) ?_
                refine run_q (.none rfl) rfl rfl (q_move rfl rfl) ?_
                refine run_q (.none rfl) rfl rfl (q_move rfl rfl) ?_
                refine run_h (.none rfl) (h_callX [_] _ rfl rfl rfl call60 (.cons rfl (.cons rfl (.cons rfl (.cons rfl (.cons rfl Evs.nil))))) (Sel.perm Sel.here) (Y := fun _ => atAny [_]) (fun _ _ h => h) (fun w hk hm => ih (p ++ z1) (x.drop (st - p.length)) (y.drop (md - st)) s _ _ _ w (by (try simp only [List.length_append, List.length_take, List.length_drop]) <;> omega) ((hm.perm (Sel.perm Sel.here)).give (rs := [_])) (by have := hz1.length_eq; simp only [List.length_append, List.length_take, List.length_drop] at this ⊢; omega) (by have := hz1.length_eq; simp only [List.length_append, List.length_take, List.length_drop] at this ⊢; omega) (by have := hz1.length_eq; simp only [List.length_append, List.length_take, List.length_drop] at this ⊢; omega) (by (try simp only [List.length_append, List.length_take, List.length_drop]) <;> omega) (by (try simp only [List.length_append, List.length_take, List.length_drop]) <;> omega) (by have := hz1.length_eq; simp only [List.length_append, List.length_take, List.length_drop] at this ⊢; omega) (hsx.drop _) (hsy.drop _))) ?_
                rintro ⟨v, m⟩ ⟨d2, ⟨z2, hz2, hs2, rfl⟩, rfl, rfl⟩
                show Run _ _ _ _ _ _ _ ⟨(219, .tuple #[]) :: _, _ :: _⟩
                refine run_nil ?_
                refine run_sub (subMk .nil .refl) ?_
                refine run_sub (subMk .refl (.cons Sel.here .refl .nil)) ?_
                exact end0 rfl ⟨_, Srt.mrg_3 weakN hsx hsy hz1 hz2 hs1 hs2 (by omega) (by omega) hA3 hB3 (by simp only [List.append_assoc]), rfl, rfl⟩
              · have g213' := g213
                try simp only [decide_eq_true_eq, decide_eq_false_iff_not, beq_iff_eq, beq_eq_false_iff_ne, bne_iff_ne, bne_eq_false_iff_eq, Bool.not_eq_true', Bool.not_eq_false', ne_eq, Int.not_lt, Int.not_le, Decidable.not_not] at g213'
                refine run_skip ?_
                refine run_sub (subMk .refl (.cons Sel.here .refl .nil)) ?_
                exact end0 rfl ⟨_, Srt.mrg_3 weakN hsx hsy hz1 (.refl _) hs1 (Srt.back_sorted hsx hsy (by omega)) (by omega) (by omega) hA3 hB3 (by simp only [List.append_assoc]), rfl, rfl⟩
            · have g209' := g209
              try simp only [decide_eq_true_eq, decide_eq_false_iff_not, beq_iff_eq, beq_eq_false_iff_ne, bne_iff_ne, bne_eq_false_iff_eq, Bool.not_eq_true', Bool.not_eq_false', ne_eq, Int.not_lt, Int.not_le, Decidable.not_not] at g209'
              refine run_off (.no rfl rfl rfl g209) rfl rfl ?_
              refine run_off (.no rfl rfl rfl g209) rfl rfl ?_
              refine run_off (.no rfl rfl rfl g209) rfl rfl ?_
              refine run_q (.none rfl) rfl rfl (q_pickF rfl rfl g209 rfl) ?_
              refine run_nil ?_
              refine run_sub (subMk (.cons (s := 0) rfl (.cons (s := 3) rfl (.cons (s := 4) rfl (.cons (s := 18) rfl (.cons (s := 24) rfl (.cons (s := 213) rfl .nil)))))) .refl) ?_
              refine run_condF rfl rfl ?_
              refine run_skip ?_
              refine run_sub (subMk .refl (.cons Sel.here .refl .nil)) ?_
              exact end0 rfl ⟨_, Srt.mrg_3 weakN hsx hsy hz1 (.refl _) hs1 (Srt.back_sorted hsx hsy (by omega)) (by omega) (by omega) hA3 hB3 (by simp only [List.append_assoc]), rfl, rfl⟩
          · have g199' := g199
            try simp only [decide_eq_true_eq, decide_eq_false_iff_not, beq_iff_eq, beq_eq_false_iff_ne, bne_iff_ne, bne_eq_false_iff_eq, Bool.not_eq_true', Bool.not_eq_false', ne_eq, Int.not_lt, Int.not_le, Decidable.not_not] at g199'
            refine run_skip ?_
            refine run_seq ?_
            obtain ⟨z1, hz1, hs1, ez1⟩ : ∃ z, z.Perm (x.take (st - p.length) ++ y.take (md - st)) ∧ Srt.Sorted (Ky.ltK keyN) z ∧ z = x.take (st - p.length) ++ y.take (md - st) := ⟨_, .refl _, Srt.front_sorted hsx hsy (by omega), rfl⟩
            refine run_sub (subMk .refl (.cons Sel.here (.own (xs' := (p ++ (z1 ++ (x.drop (st - p.length) ++ (y.drop (md - st) ++ s)))).map Note.enc) rfl rfl rfl (by rw [ez1]; simp only [List.append_assoc])) .nil)) ?_
            refine run_region ?_
            refine run_q (.none rfl) rfl rfl (q_move rfl rfl) ?_
            refine run_q (.none rfl) rfl rfl (q_move rfl rfl) ?_
            refine run_q (.none rfl) rfl rfl (q_lss rfl rfl rfl) ?_
            refine run_q (.none rfl) rfl rfl (q_move rfl rfl) ?_
            refine run_split 209 rfl (fun g209 => ?_) (fun g209 => ?_)
            · have g209' := g209
              try simp only [decide_eq_true_eq, decide_eq_false_iff_not, beq_iff_eq, beq_eq_false_iff_ne, bne_iff_ne, bne_eq_false_iff_eq, Bool.not_eq_true', Bool.not_eq_false', ne_eq, Int.not_lt, Int.not_le, Decidable.not_not] at g209'
              refine run_q (.on rfl rfl rfl g209) rfl rfl (q_move rfl rfl) ?_
              refine run_q (.on rfl rfl rfl g209) rfl rfl (q_move rfl rfl) ?_
              refine run_q (.on rfl rfl rfl g209) rfl rfl (q_lss rfl rfl rfl) ?_
              refine run_q (.none rfl) rfl rfl (q_pickT rfl rfl g209 rfl) ?_
              refine run_nil ?_
              refine run_sub (subMk (.cons (s := 0) rfl (.cons (s := 3) rfl (.cons (s := 4) rfl (.cons (s := 18) rfl (.cons (s := 24) rfl (.cons (s := 213) rfl .nil)))))) .refl) ?_
              refine run_cond rfl (fun g213 => ?_) (fun g213 => ?_)
              · have g213' := g213
                try simp only [decide_eq_true_eq, decide_eq_false_iff_not, beq_iff_eq, beq_eq_false_iff_ne, bne_iff_ne, bne_eq_false_iff_eq, Bool.not_eq_true', Bool.not_eq_false', ne_eq, Int.not_lt, Int.not_le, Decidable.not_not] at g213'
                refine run_sub (subMk .refl (.cons Sel.here (.own (xs' := ((p ++ z1) ++ (x.drop (st - p.length) ++ (y.drop (md - st) ++ s))).map Note.enc) rfl rfl rfl (by simp only [List.append_assoc])) .nil)) ?_
                refine run_region ?_
                refine run_q (.none rfl) rfl rfl (q_move rfl rfl) ?_
                refine run_q (.none rfl) rfl rfl (q_move rfl rfl) ?_
                refine run_q (.none rfl) rfl rfl (q_move rfl rfl) ?_
                refine run_q (.none rfl) rfl rfl (q_move rfl rfl) ?_
                refine run_q (.none rfl) rfl rfl (q_move rfl rfl) ?_
                refine run_h (.none rfl) (h_callX [_] _ rfl rfl rfl call60 (.cons rfl (.cons rfl (.cons rfl (.cons rfl (.cons rfl Evs.nil))))) (Sel.perm Sel.here) (Y := fun _ => atAny [_]) (fun _ _ h => h) (fun w hk hm => ih (p ++ z1) (x.drop (st - p.length)) (y.drop (md - st)) s _ _ _ w (by (try simp only [List.length_append, List.length_take, List.length_drop]) <;> omega) ((hm.perm (Sel.perm Sel.here)).give (rs := [_])) (by have := hz1.length_eq; simp only [List.length_append, List.length_take, List.length_drop] at this ⊢; omega) (by have := hz1.length_eq; simp only [List.length_append, List.length_take, List.length_drop] at this ⊢; omega) (by have := hz1.length_eq; simp only [List.length_append, List.length_take, List.length_drop] at this ⊢; omega) (by (try simp only [List.length_append, List.length_take, List.length_drop]) <;> omega) (by (try simp only [List.length_append, List.length_take, List.length_drop]) <;> omega) (by have := hz1.length_eq; simp only [List.length_append, List.length_take, List.length_drop] at this ⊢; omega) (hsx.drop _) (hsy.drop _))) ?_
                rintro ⟨v, m⟩ ⟨d2, ⟨z2, hz2, hs2, rfl⟩, rfl, rfl⟩
                show Run _ _ _ _ _ _ _ ⟨(219, .tuple #[]) :: _, _ :: _⟩
                refine run_nil ?_
                refine run_sub (subMk .nil .refl) ?_
                refine run_sub (subMk .refl (.cons Sel.here .refl .nil)) ?_
                exact end0 rfl ⟨_, Srt.mrg_3 weakN hsx hsy hz1 hz2 hs1 hs2 (by omega) (by omega) hA3 hB3 (by simp only [List.append_assoc]), rfl, rfl⟩
              · have g213' := g213
                try simp only [decide_eq_true_eq, decide_eq_false_iff_not, beq_iff_eq, beq_eq_false_iff_ne, bne_iff_ne, bne_eq_false_iff_eq, Bool.not_eq_true', Bool.not_eq_false', ne_eq, Int.not_lt, Int.not_le, Decidable.not_not] at g213'
                refine run_skip ?_
                refine run_sub (subMk .refl (.cons Sel.here .refl .nil)) ?_
                exact end0 rfl ⟨_, Srt.mrg_3 weakN hsx hsy hz1 (.refl _) hs1 (Srt.back_sorted hsx hsy (by omega)) (by omega) (by omega) hA3 hB3 (by simp only [List.append_assoc]), rfl, rfl⟩
            · have g209' := g209
              try simp only [decide_eq_true_eq, decide_eq_false_iff_not, beq_iff_eq, beq_eq_false_iff_ne, bne_iff_ne, bne_eq_false_iff_eq, Bool.not_eq_true', Bool.not_eq_false', ne_eq, Int.not_lt, Int.not_le, Decidable.not_not] at g209'
              refine run_off (.no rfl rfl rfl g209) rfl rfl ?_
              refine run_off (.no rfl rfl rfl g209) rfl rfl ?_
              refine run_off (.no rfl rfl rfl g209) rfl rfl ?_
              refine run_q (.none rfl) rfl rfl (q_pickF rfl rfl g209 rfl) ?_
              refine run_nil ?_
              refine run_sub (subMk (.cons (s := 0) rfl (.cons (s := 3) rfl (.cons (s := 4) rfl (.cons (s := 18) rfl (.cons (s := 24) rfl (.cons (s := 213) rfl .nil)))))) .refl) ?_
              refine run_condF rfl rfl ?_
              refine run_skip ?_
              refine run_sub (subMk .refl (.cons Sel.here .refl .nil)) ?_
              exact end0 rfl ⟨_, Srt.mrg_3 weakN hsx hsy hz1 (.refl _) hs1 (Srt.back_sorted hsx hsy (by omega)) (by omega) (by omega) hA3 hB3 (by simp only [List.append_assoc]), rfl, rfl⟩
        · have g195' := g195
          try simp only [decide_eq_true_eq, decide_eq_false_iff_not, beq_iff_eq, beq_eq_false_iff_ne, bne_iff_ne, bne_eq_false_iff_eq, Bool.not_eq_true', Bool.not_eq_false', ne_eq, Int.not_lt, Int.not_le, Decidable.not_not] at g195'
          refine run_off (.no rfl rfl rfl g195) rfl rfl ?_
          refine run_off (.no rfl rfl rfl g195) rfl rfl ?_
          refine run_off (.no rfl rfl rfl g195) rfl rfl ?_
          refine run_q (.none rfl) rfl rfl (q_pickF rfl rfl g195 rfl) ?_
          refine run_nil ?_
          refine run_sub (subMk (.cons (s := 0) rfl (.cons (s := 1) rfl (.cons (s := 3) rfl (.cons (s := 4) rfl (.cons (s := 18) rfl (.cons (s := 20) rfl (.cons (s := 24) rfl (.cons (s := 199) rfl .nil)))))))) .refl) ?_
          refine run_condF rfl rfl ?_
          refine run_skip ?_
          refine run_seq ?_
          obtain ⟨z1, hz1, hs1, ez1⟩ : ∃ z, z.Perm (x.take (st - p.length) ++ y.take (md - st)) ∧ Srt.Sorted (Ky.ltK keyN) z ∧ z = x.take (st - p.length) ++ y.take (md - st) := ⟨_, .refl _, Srt.front_sorted hsx hsy (by omega), rfl⟩
          refine run_sub (subMk .refl (.cons Sel.here (.own (xs' := (p ++ (z1 ++ (x.drop (st - p.length) ++ (y.drop (md - st) ++ s)))).map Note.enc) rfl rfl rfl (by rw [ez1]; simp only [List.append_assoc])) .nil)) ?_
          refine run_region ?_
          refine run_q (.none rfl) rfl rfl (q_move rfl rfl) ?_
          refine run_q (.none rfl) rfl rfl (q_move rfl rfl) ?_
          refine run_q (.none rfl) rfl rfl (q_lss rfl rfl rfl) ?_
          refine run_q (.none rfl) rfl rfl (q_move rfl rfl) ?_
          refine run_split 209 rfl (fun g209 => ?_) (fun g209 => ?_)
          · have g209' := g209
            try simp only [decide_eq_true_eq, decide_eq_false_iff_not, beq_iff_eq, beq_eq_false_iff_ne, bne_iff_ne, bne_eq_false_iff_eq, Bool.not_eq_true', Bool.not_eq_false', ne_eq, Int.not_lt, Int.not_le, Decidable.not_not] at g209'
            refine run_q (.on rfl rfl rfl g209) rfl rfl (q_move rfl rfl) ?_
            refine run_q (.on rfl rfl rfl g209) rfl rfl (q_move rfl rfl) ?_
            refine run_q (.on rfl rfl rfl g209) rfl rfl (q_lss rfl rfl rfl) ?_
            refine run_q (.none rfl) rfl rfl (q_pickT rfl rfl g209 rfl) ?_
            refine run_nil ?_
            refine run_sub (subMk (.cons (s := 0) rfl (.cons (s := 3) rfl (.cons (s := 4) rfl (.cons (s := 18) rfl (.cons (s := 24) rfl (.cons (s := 213) rfl .nil)))))) .refl) ?_
            refine run_cond rfl (fun g213 => ?_) (fun g213 => ?_)
            · have g213' := g213
              try simp only [decide_eq_true_eq, decide_eq_false_iff_not, beq_iff_eq, beq_eq_false_iff_ne, bne_iff_ne, bne_eq_false_iff_eq, Bool.not_eq_true', Bool.not_eq_false', ne_eq, Int.not_lt, Int.not_le, Decidable.not_not] at g213'
              refine run_sub (subMk .refl (.cons Sel.here (.own (xs' := ((p ++ z1) ++ (x.drop (st - p.length) ++ (y.drop (md - st) ++ s))).map Note.enc) rfl rfl rfl (by simp only [List.append_assoc])) .nil)) ?_
              refine run_region ?_
              refine run_q (.none rfl) rfl rfl (q_move rfl rfl) ?_
              refine run_q (.none rfl) rfl rfl (q_move rfl rfl) ?_
              refine run_q (.none rfl) rfl rfl (q_move rfl rfl) ?_
              refine run_q (.none rfl) rfl rfl (q_move rfl rfl) ?_
              refine run_q (.none rfl) rfl rfl (q_move rfl rfl) ?_
              refine run_h (.none rfl) (h_callX [_] _ rfl rfl rfl call60 (.cons rfl (.cons rfl (.cons rfl (.cons rfl (.cons rfl Evs.nil))))) (Sel.perm Sel.here) (Y := fun _ => atAny [_]) (fun _ _ h => h) (fun w hk hm => ih (p ++ z1) (x.drop (st - p.length)) (y.drop (md - st)) s _ _ _ w (by (try simp only [List.length_append, List.length_take, List.length_drop]) <;> omega) ((hm.perm (Sel.perm Sel.here)).give (rs := [_])) (by have := hz1.length_eq; simp only [List.length_append, List.length_take, List.length_drop] at this ⊢; omega) (by have := hz1.length_eq; simp only [List.length_append, List.length_take, List.length_drop] at this ⊢; omega) (by have := hz1.length_eq; simp only [List.length_append, List.length_take, List.length_drop] at this ⊢; omega) (by (try simp only [List.length_append, List.length_take, List.length_drop]) <;> omega) (by (try simp only [List.length_append, List.length_take, List.length_drop]) <;> omega) (by have := hz1.length_eq; simp only [List.length_append, List.length_take, List.length_drop] at this ⊢; omega) (hsx.drop _) (hsy.drop _))) ?_
              rintro ⟨v, m⟩ ⟨d2, ⟨z2, hz2, hs2, rfl⟩, rfl, rfl⟩
              show Run _ _ _ _ _ _ _ ⟨(219, .tuple #[]) :: _, _ :: _⟩
              refine run_nil ?_
              refine run_sub (subMk .nil .refl) ?_
              refine run_sub (subMk .refl (.cons Sel.here .refl .nil)) ?_
              exact end0 rfl ⟨_, Srt.mrg_3 weakN hsx hsy hz1 hz2 hs1 hs2 (by omega) (by omega) hA3 hB3 (by simp only [List.append_assoc]), rfl, rfl⟩
            · have g213' := g213
              try simp only [decide_eq_true_eq, decide_eq_false_iff_not, beq_iff_eq, beq_eq_false_iff_ne, bne_iff_ne, bne_eq_false_iff_eq, Bool.not_eq_true', Bool.not_eq_false', ne_eq, Int.not_lt, Int.not_le, Decidable.not_not] at g213'
              refine run_skip ?_
              refine run_sub (subMk .refl (.cons Sel.here .refl .nil)) ?_
              exact end0 rfl ⟨_, Srt.mrg_3 weakN hsx hsy hz1 (.refl _) hs1 (Srt.back_sorted hsx hsy (by omega)) (by omega) (by omega) hA3 hB3 (by simp only [List.append_assoc]), rfl, rfl⟩
          · have g209' := g209
            try simp only [decide_eq_true_eq, decide_eq_false_iff_not, beq_iff_eq, beq_eq_false_iff_ne, bne_iff_ne, bne_eq_false_iff_eq, Bool.not_eq_true', Bool.not_eq_false', ne_eq, Int.not_lt, Int.not_le, Decidable.not_not] at g209'
            refine run_off (.no rfl rfl rfl g209) rfl rfl ?_
            refine run_off (.no rfl rfl rfl g209) rfl rfl ?_
            refine run_off (.no rfl rfl rfl g209) rfl rfl ?_
            refine run_q (.none rfl) rfl rfl (q_pickF rfl rfl g209 rfl) ?_
            refine run_nil ?_
            refine run_sub (subMk (.cons (s := 0) rfl (.cons (s := 3) rfl (.cons (s := 4) rfl (.cons (s := 18) rfl (.cons (s := 24) rfl (.cons (s := 213) rfl .nil)))))) .refl) ?_
            refine run_condF rfl rfl ?_
            refine run_skip ?_
            refine run_sub (subMk .refl (.cons Sel.here .refl .nil)) ?_
            exact end0 rfl ⟨_, Srt.mrg_3 weakN hsx hsy hz1 (.refl _) hs1 (Srt.back_sorted hsx hsy (by omega)) (by omega) (by omega) hA3 hB3 (by simp only [List.append_assoc]), rfl, rfl⟩

theorem sN_symN (A : Option Addr) (n ca : Nat) (hl : n ≤ 1000000) : ∀ (N : Nat) (p x y s : List Note) (i0 j0 c0 : Int) (W : World), x.length + y.length ≤ N → Mem (atAny [.own 47 7 A n ca ((p ++ (x ++ (y ++ s))).map Note.enc)]) W [.own 47 7 A n ca ((p ++ (x ++ (y ++ s))).map Note.enc)] W → i0 = (p.length : Int) → j0 = (p.length : Int) + x.length → c0 = (p.length : Int) + x.length + y.length → 0 < x.length → 0 < y.length → p.length + (x.length + (y.length + s.length)) = n → Srt.Sorted (Ky.ltK keyN) x → Srt.Sorted (Ky.ltK keyN) y →
    Calls Try.prog 60 #[.slice A n ca, .int .i64 i0, .int .i64 j0, .int .i64 c0, .func (.func 53) #[] #[]] W (Ret W (atAny [.own 47 7 A n ca ((p ++ (x ++ (y ++ s))).map Note.enc)]) (fun v m => ∃ d, Srt.Mrg (Ky.ltK keyN) p x y s d ∧ v = .tuple #[] ∧ m = [.own 47 7 A n ca ((d).map Note.enc)]))
  | 0, p, x, y, s, i0, j0, c0, W, hN, hm, hi, hj, hc, hx0, hy0, hn, hsx, hsy => by omega
  | N + 1, p, x, y, s, i0, j0, c0, W, hN, hm, hi, hj, hc, hx0, hy0, hn, hsx, hsy => by
    match x, hx0 with
    | [a], _ => exact sN_sym1 p a y s A n ca i0 j0 c0 W hm hi (by simpa using hj) (by simpa using hc) (by simpa using hn) hl hsy
    | a :: a' :: x, _ =>
      match y, hy0 with
      | [b], _ => exact sN_sym2 p (a :: a' :: x) b s A n ca i0 j0 c0 W hm hi hj (by simpa using hc) (by simp) (by simpa using hn) hl hsx
      | b :: b' :: y, _ => exact sN_sym3 p (a :: a' :: x) (b :: b' :: y) s A n ca i0 j0 c0 W hm hi hj hc (by simp) (by simp) hn hl hsx hsy (by simp) (by simp) (fun p' x' y' s' i' j' c' W' h1 h2 h3 h4 h5 h6 h7 h8 h9 h10 => sN_symN A n ca hl N p' x' y' s' i' j' c' W' (by omega) h2 h3 h4 h5 h6 h7 h8 h9 h10)

end Go.Proofs.Ytbkmmjpklkallaa
