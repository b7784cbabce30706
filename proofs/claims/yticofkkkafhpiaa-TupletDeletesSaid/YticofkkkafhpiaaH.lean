/- Sorting by insertion, in the program. -/
import Derived.Test.YticofkkkafhpiaaG
import Derived.Test.YticofkkkafhpiaaOrder
import Derived.Test.YticofkkkafhpiaaPure
set_option linter.unusedSimpArgs false
set_option linter.unusedVariables false
namespace Go.Proofs.Yticofkkkafhpiaa
open Go Go.RowKit Hr



theorem clone_ret (l : List Tup) (A : Option Addr) (ca : Nat) (W : World) (hr : Rd W A 4 (l.map Tup.enc)) (hl : l.length ≤ 1000000) : Calls Try.prog 43 #[.slice A l.length ca] W (Ret W nX (fun v m => ∃ O co, v = .slice O l.length co ∧ m = [.own 46 4 O l.length co (l.map Tup.enc)])) := by
  refine enterA (X := nX) (vs := [.slice A l.length ca]) Try.func43 Try.ntmps43 rfl rfl Mem.nil ?_
  refine run_seq ?_
  refine run_region ?_
  refine run_q (.none rfl) rfl rfl (q_assign rfl rfl) ?_
  refine run_nil ?_
  refine run_seq ?_
  refine run_seq ?_
  refine run_region ?_
  refine run_q (.none rfl) rfl rfl (q_move rfl rfl) ?_
  refine run_q (.none rfl) rfl rfl (q_eqlNil rfl rfl rfl Try.underlying22) ?_
  refine run_nil ?_
  refine run_cond rfl (fun g4 => ?_) (fun g4 => ?_)
  · have g4' := g4
    try simp only [decide_eq_true_eq, decide_eq_false_iff_not, beq_iff_eq, beq_eq_false_iff_ne, bne_iff_ne, bne_eq_false_iff_eq, Bool.not_eq_true', Bool.not_eq_false', ne_eq, Int.not_lt, Int.not_le, Decidable.not_not] at g4'
    have hl0 := rd_none hr g4
    refine run_seq ?_
    refine run_region ?_
    refine run_q (.none rfl) rfl rfl (q_assign rfl rfl) ?_
    refine run_nil ?_
    refine run_ret ?_
    refine run_sub (subMk .refl (MemSub.nilOwn 46 4)) ?_
    refine run_sub (subMk .refl (.cons Sel.here .refl .nil)) ?_
    exact end1 rfl rfl ⟨none, 0, by rw [hl0]; rfl, by rw [hl0]; rfl⟩
  · have g4' := g4
    try simp only [decide_eq_true_eq, decide_eq_false_iff_not, beq_iff_eq, beq_eq_false_iff_ne, bne_iff_ne, bne_eq_false_iff_eq, Bool.not_eq_true', Bool.not_eq_false', ne_eq, Int.not_lt, Int.not_le, Decidable.not_not] at g4'
    refine run_skip ?_
    refine run_seq ?_
    refine run_region ?_
    refine run_h (.none rfl) (h_buildSlice rfl rfl rfl Try.underlying22 info46 Parts.nil rfl (by omega)) ?_
    rintro b5 -
    refine run_q (.none rfl) rfl rfl (q_move rfl rfl) ?_
    refine run_h (.none rfl) (h_append rfl rfl rfl Try.underlying22 info46 rfl rfl Sel.here rfl (.inp hr .no) (by simp) (fun z hz => enc_len hz) (fun z hz => enc_all hz) (by omega) (by omega)) ?_
    rintro ⟨A7, c7⟩ -
    refine run_q (.none rfl) rfl rfl (q_assign rfl rfl) ?_
    refine run_nil ?_
    refine run_sub (subMk (.cons (s := 2) rfl .nil) .refl) ?_
    refine run_ret ?_
    refine run_sub (subMk .refl (.cons Sel.here .refl .nil)) ?_
    exact end1 rfl rfl ⟨A7, c7, by simp, by simp⟩

theorem insertion_ret (l : List Tup) (A : Option Addr) (ca : Nat) (W : World) (hm : Mem (atAny [.own 46 4 A l.length ca (l.map Tup.enc)]) W [.own 46 4 A l.length ca (l.map Tup.enc)] W) (hl : l.length ≤ 1000000) : Calls Try.prog 49 #[.slice A l.length ca, .int .i64 0, .int .i64 (l.length : Int), .func (.func 38) #[] #[]] W (Ret W (atAny [.own 46 4 A l.length ca (l.map Tup.enc)]) (fun v m => v = .tuple #[] ∧ m = [.own 46 4 A l.length ca ((sortR l l.length).map Tup.enc)])) := by
  refine enterA (X := _) (vs := [.slice A l.length ca, .int .i64 0, .int .i64 (l.length : Int), .func (.func 38) #[] #[]]) Try.func49 Try.ntmps49 rfl rfl hm ?_
  refine run_seq ?_
  refine run_region ?_
  refine run_q (.none rfl) rfl rfl (q_move rfl rfl) ?_
  refine run_q (.none rfl) rfl rfl (q_add rfl rfl rfl (by omega)) ?_
  refine run_q (.none rfl) rfl rfl (q_assign rfl rfl) ?_
  refine run_nil ?_
  refine run_block ?_
  refine run_sub (subMk (.cons (s := 8) rfl (.cons (s := 0) rfl (.cons (s := 1) rfl (.cons (s := 2) rfl (.cons (s := 3) rfl .nil))))) (.cons Sel.here .refl .nil)) ?_
  refine run_loopC1M1 (ι := Nat) (fun i => i = 0 ∨ i + 1 ≤ l.length) (fun i => .int .i64 ((i : Int) + 1)) (fun i => .own 46 4 A l.length ca ((srtL l i).map Tup.enc)) (fun i => l.length - i) 0 (by (try dsimp only); exact (.inl rfl)) (vint (by (try dsimp only); omega)) (.own rfl rfl rfl (by rw [srtL_zero])) ?_
  rintro i hi
  (try dsimp only at hi)
  show Run _ _ _ _ _ _ _ ⟨(8, .int .i64 ((i : Int) + 1)) :: _, .own 46 4 A l.length ca ((srtL l i).map Tup.enc) :: _⟩
  refine run_seq ?_
  refine run_seq ?_
  refine run_region ?_
  refine run_q (.none rfl) rfl rfl (q_move rfl rfl) ?_
  refine run_q (.none rfl) rfl rfl (q_move rfl rfl) ?_
  refine run_q (.none rfl) rfl rfl (q_lss rfl rfl rfl) ?_
  refine run_nil ?_
  refine run_cond rfl (fun g14 => ?_) (fun g14 => ?_)
  · have g14' := g14
    try simp only [decide_eq_true_eq, decide_eq_false_iff_not, beq_iff_eq, beq_eq_false_iff_ne, bne_iff_ne, bne_eq_false_iff_eq, Bool.not_eq_true', Bool.not_eq_false', ne_eq, Int.not_lt, Int.not_le, Decidable.not_not] at g14'
    refine run_skip ?_
    refine run_seq ?_
    refine run_block ?_
    refine run_seq ?_
    refine run_region ?_
    refine run_q (.none rfl) rfl rfl (q_move rfl rfl) ?_
    refine run_q (.none rfl) rfl rfl (q_assign rfl rfl) ?_
    refine run_nil ?_
    refine run_sub (subMk (.cons (s := 0) rfl (.cons (s := 1) rfl (.cons (s := 2) rfl (.cons (s := 3) rfl (.cons (s := 8) rfl (.cons (s := 9) rfl .nil)))))) .refl) ?_
    refine run_block ?_
    refine run_sub (subMk (.cons (s := 9) rfl (.cons (s := 0) rfl (.cons (s := 1) rfl (.cons (s := 2) rfl (.cons (s := 3) rfl (.cons (s := 8) rfl .nil)))))) (.cons Sel.here .refl .nil)) ?_
    refine run_loopC1M1 (ι := Nat) (fun j => j ≤ i + 1 ∧ posN (sortR l (i + 1)) (nth l (i + 1)) (i + 1) = posN (sortR l (i + 1)) (nth l (i + 1)) j) (fun j => .int .i64 (j : Int)) (fun j => .own 46 4 A l.length ca ((midL (sortR l (i + 1)) (nth l (i + 1)) (l.drop (i + 2)) j).map Tup.enc)) (fun j => j) (i + 1) (by (try dsimp only); exact ⟨by omega, rfl⟩) (vint (by (try dsimp only); omega)) (.own rfl rfl rfl (by rw [srtL_mid (by omega)])) ?_
    rintro j hq
    (try dsimp only at hq)
    obtain ⟨hj, hpos⟩ := hq
    show Run _ _ _ _ _ _ _ ⟨(9, .int .i64 (j : Int)) :: _, .own 46 4 A l.length ca ((midL (sortR l (i + 1)) (nth l (i + 1)) (l.drop (i + 2)) j).map Tup.enc) :: _⟩
    refine run_seq ?_
    refine run_seq ?_
    refine run_draw [(0, 0), (1, 0), (2, 0), (3, 0), (4, 0), (5, 0), (6, 0), (7, 0), (8, 0), (9, 0), (10, 0), (11, 0), (12, 0), (13, 0), (14, 0), (15, 0), (16, 0)] mixed (by kernel_rfl) .refl ?_
    refine d_q rfl rfl (.none rfl) rfl rfl (q_move rfl rfl) ?_
    refine d_q rfl rfl (.none rfl) rfl rfl (q_move rfl rfl) ?_
    refine d_q rfl rfl (.none rfl) rfl rfl (q_gtr rfl rfl rfl) ?_
    refine d_q rfl rfl (.none rfl) rfl rfl (q_move rfl rfl) ?_
    refine d_split 21 rfl (fun g21 => ?_) (fun g21 => ?_)
    · have g21' := g21
      try simp only [decide_eq_true_eq, decide_eq_false_iff_not, beq_iff_eq, beq_eq_false_iff_ne, bne_iff_ne, bne_eq_false_iff_eq, Bool.not_eq_true', Bool.not_eq_false', ne_eq, Int.not_lt, Int.not_le, Decidable.not_not] at g21'
      obtain ⟨j, rfl⟩ : ∃ q, j = q + 1 := ⟨j - 1, by omega⟩
      have hsl := sortR_len l (i + 1)
      have hml : (midL (sortR l (i + 1)) (nth l (i + 1)) (l.drop (i + 2)) (j + 1)).length = l.length := by rw [midL_len (by omega), hsl, List.length_drop]; omega
      refine d_q rfl rfl (.on rfl rfl rfl g21) rfl rfl (q_move rfl rfl) ?_
      refine d_q rfl rfl (.on rfl rfl rfl g21) rfl rfl (q_move rfl rfl) ?_
      refine d_q rfl rfl (.on rfl rfl rfl g21) rfl rfl (q_move rfl rfl) ?_
      refine d_q rfl rfl (.on rfl rfl rfl g21) rfl rfl (q_indexS (q := (j + 1)) rfl Try.underlying22 sz46 rfl rfl (.own Sel.here) (by rw [List.length_map]; exact hml) rfl (by omega)) ?_
      refine d_q rfl rfl (.on rfl rfl rfl g21) rfl rfl (q_loadE rfl agg46 rfl (.own Sel.here) (by rw [getmap (by omega), midL_at (by omega)]) rfl) ?_
      refine d_q rfl rfl (.on rfl rfl rfl g21) rfl rfl (q_move rfl rfl) ?_
      refine d_q rfl rfl (.on rfl rfl rfl g21) rfl rfl (q_move rfl rfl) ?_
      refine d_q rfl rfl (.on rfl rfl rfl g21) rfl rfl (q_sub rfl rfl rfl (by omega)) ?_
      refine d_q rfl rfl (.on rfl rfl rfl g21) rfl rfl (q_indexS (q := j) rfl Try.underlying22 sz46 rfl rfl (.own Sel.here) (by rw [List.length_map]; exact hml) (by omega) (by omega)) ?_
      refine d_q rfl rfl (.on rfl rfl rfl g21) rfl rfl (q_loadE rfl agg46 rfl (.own Sel.here) (by rw [getmap (by omega), midL_below (by omega)]) rfl) ?_
      refine d_q rfl rfl (.on rfl rfl rfl g21) rfl rfl (q_callv rfl rfl call38 (.cons rfl (.cons rfl Evs.nil)) (fun w hk hm => order_just (nth l (i + 1)) (nth (sortR l (i + 1)) j) w)) ?_
      refine d_q rfl rfl (.on rfl rfl rfl g21) rfl rfl (q_lss rfl rfl rfl) ?_
      refine d_q rfl rfl (.none rfl) rfl rfl (q_pickT rfl rfl g21 rfl) ?_
      refine d_nil ?_
      refine run_sub (subMk (.cons (s := 0) rfl (.cons (s := 1) rfl (.cons (s := 2) rfl (.cons (s := 3) rfl (.cons (s := 8) rfl (.cons (s := 9) rfl (.cons (s := 34) rfl .nil))))))) .refl) ?_
      refine run_cond rfl (fun g34 => ?_) (fun g34 => ?_)
      · have g34' := g34
        try simp only [decide_eq_true_eq, decide_eq_false_iff_not, beq_iff_eq, beq_eq_false_iff_ne, bne_iff_ne, bne_eq_false_iff_eq, Bool.not_eq_true', Bool.not_eq_false', ne_eq, Int.not_lt, Int.not_le, Decidable.not_not] at g34'
        refine run_skip ?_
        refine run_seq ?_
        refine run_block ?_
        refine run_pure [(0, 0), (1, 0), (2, 3), (3, 3), (4, 3), (5, 0), (6, 0), (7, 0), (8, 0), (9, 0), (10, 0), (11, 0), (12, 0), (13, 0), (14, 0), (15, 2), (16, 2), (17, 2)] mixed (by kernel_rfl) .refl ?_
        refine p_q rfl rfl (.none rfl) rfl rfl (q_move rfl rfl) ?_
        refine p_q rfl rfl (.none rfl) rfl rfl (q_move rfl rfl) ?_
        refine p_p rfl rfl (.none rfl) rfl rfl (q_move rfl rfl) ?_
        refine p_p rfl rfl (.none rfl) rfl rfl (q_move rfl rfl) ?_
        refine p_p rfl rfl (.none rfl) rfl rfl (q_sub rfl rfl rfl (by omega)) ?_
        refine p_q rfl rfl (.none rfl) rfl rfl (q_move rfl rfl) ?_
        refine p_q rfl rfl (.none rfl) rfl rfl (q_move rfl rfl) ?_
        refine p_q rfl rfl (.none rfl) rfl rfl (q_sub rfl rfl rfl (by omega)) ?_
        refine p_q rfl rfl (.none rfl) rfl rfl (q_indexS (q := j) rfl Try.underlying22 sz46 rfl rfl (.own Sel.here) (by rw [List.length_map]; exact hml) (by omega) (by omega)) ?_
        refine p_q rfl rfl (.none rfl) rfl rfl (q_loadE rfl agg46 rfl (.own Sel.here) (by rw [getmap (by omega), midL_below (by omega)]) rfl) ?_
        refine p_q rfl rfl (.none rfl) rfl rfl (q_move rfl rfl) ?_
        refine p_q rfl rfl (.none rfl) rfl rfl (q_move rfl rfl) ?_
        refine p_q rfl rfl (.none rfl) rfl rfl (q_indexS (q := (j + 1)) rfl Try.underlying22 sz46 rfl rfl (.own Sel.here) (by rw [List.length_map]; exact hml) rfl (by omega)) ?_
        refine p_q rfl rfl (.none rfl) rfl rfl (q_loadE rfl agg46 rfl (.own Sel.here) (by rw [getmap (by omega), midL_at (by omega)]) rfl) ?_
        refine p_q rfl rfl (.none rfl) rfl rfl (q_indexS (q := (j + 1)) rfl Try.underlying22 sz46 rfl rfl (.own Sel.here) (by rw [List.length_map]; exact hml) rfl (by omega)) ?_
        refine p_t rfl rfl (.none rfl) (h_storeE rfl rfl sz46 rfl rfl rfl rfl rfl Sel.here (by omega)) ?_
        rintro - -
        refine p_t rfl rfl (.none rfl) (.of_q rfl rfl (q_indexS (q := j) rfl Try.underlying22 sz46 rfl rfl (.own Sel.here) (by rw [List.length_set, List.length_map]; exact hml) (by omega) (by omega))) ?_
        rintro - -
        refine p_t rfl rfl (.none rfl) (h_storeE rfl rfl sz46 rfl rfl rfl rfl rfl Sel.here (by omega)) ?_
        rintro - -
        refine p_nil ?_
        refine run_sub (subMk (.cons (s := 0) rfl (.cons (s := 1) rfl (.cons (s := 2) rfl (.cons (s := 3) rfl (.cons (s := 8) rfl (.cons (s := 9) rfl .nil)))))) .refl) ?_
        refine run_blk ?_
        refine run_region ?_
        refine run_q (.none rfl) rfl rfl (q_move rfl rfl) ?_
        refine run_q (.none rfl) rfl rfl (q_sub rfl rfl rfl (by omega)) ?_
        refine run_q (.none rfl) rfl rfl (q_assign rfl rfl) ?_
        refine run_nil ?_
        exact run_again j (by (try dsimp only); exact ⟨by omega, by rw [hpos, posN_skip (ordV_neg.1 (by simpa using g34))]⟩) (by (try dsimp only); omega) (subMk (.cons' (s := 9) rfl (vint (by omega)) (.cons (s := 0) rfl (.cons (s := 1) rfl (.cons (s := 2) rfl (.cons (s := 3) rfl (.cons (s := 8) rfl .nil)))))) (.cons Sel.here (.own rfl rfl rfl (by rw [← midL_swap (j := j) (by omega), List.map_set, List.map_set]; rfl)) .nil))
      · have g34' := g34
        try simp only [decide_eq_true_eq, decide_eq_false_iff_not, beq_iff_eq, beq_eq_false_iff_ne, bne_iff_ne, bne_eq_false_iff_eq, Bool.not_eq_true', Bool.not_eq_false', ne_eq, Int.not_lt, Int.not_le, Decidable.not_not] at g34'
        have hpe : posN (sortR l (i + 1)) (nth l (i + 1)) (i + 1) = j + 1 := by rw [hpos, posN_stop (fun hx => by have := ordV_neg.2 hx; omega)]
        refine run_exit rfl ?_
        refine run_blk ?_
        refine run_region ?_
        refine run_q (.none rfl) rfl rfl (q_move rfl rfl) ?_
        refine run_q (.none rfl) rfl rfl (q_add rfl rfl rfl (by omega)) ?_
        refine run_q (.none rfl) rfl rfl (q_assign rfl rfl) ?_
        refine run_nil ?_
        refine run_sub (subMk (.cons (s := 0) rfl (.cons (s := 1) rfl (.cons (s := 2) rfl (.cons (s := 3) rfl (.cons (s := 8) rfl .nil))))) .refl) ?_
        exact run_again (i + 1) (by (try dsimp only); exact (.inr (by omega))) (by (try dsimp only); omega) (subMk (.cons' (s := 8) rfl (vint (by omega)) (.cons (s := 0) rfl (.cons (s := 1) rfl (.cons (s := 2) rfl (.cons (s := 3) rfl .nil))))) (.cons Sel.here (.own rfl rfl rfl (by rw [srtL_next (by omega) hpe])) .nil))
    · have g21' := g21
      try simp only [decide_eq_true_eq, decide_eq_false_iff_not, beq_iff_eq, beq_eq_false_iff_ne, bne_iff_ne, bne_eq_false_iff_eq, Bool.not_eq_true', Bool.not_eq_false', ne_eq, Int.not_lt, Int.not_le, Decidable.not_not] at g21'
      obtain rfl : j = 0 := by omega
      have hpe : posN (sortR l (i + 1)) (nth l (i + 1)) (i + 1) = 0 := by rw [hpos]; rfl
      refine d_off rfl rfl (.no rfl rfl rfl g21) rfl rfl ?_
      refine d_off rfl rfl (.no rfl rfl rfl g21) rfl rfl ?_
      refine d_off rfl rfl (.no rfl rfl rfl g21) rfl rfl ?_
      refine d_off rfl rfl (.no rfl rfl rfl g21) rfl rfl ?_
      refine d_off rfl rfl (.no rfl rfl rfl g21) rfl rfl ?_
      refine d_off rfl rfl (.no rfl rfl rfl g21) rfl rfl ?_
      refine d_off rfl rfl (.no rfl rfl rfl g21) rfl rfl ?_
      refine d_off rfl rfl (.no rfl rfl rfl g21) rfl rfl ?_
      refine d_off rfl rfl (.no rfl rfl rfl g21) rfl rfl ?_
      refine d_off rfl rfl (.no rfl rfl rfl g21) rfl rfl ?_
      refine d_off rfl rfl (.no rfl rfl rfl g21) rfl rfl ?_
      refine d_off rfl rfl (.no rfl rfl rfl g21) rfl rfl ?_
      refine d_q rfl rfl (.none rfl) rfl rfl (q_pickF rfl rfl g21 rfl) ?_
      refine d_nil ?_
      refine run_sub (subMk (.cons (s := 0) rfl (.cons (s := 1) rfl (.cons (s := 2) rfl (.cons (s := 3) rfl (.cons (s := 8) rfl (.cons (s := 9) rfl (.cons (s := 34) rfl .nil))))))) .refl) ?_
      refine run_condF rfl rfl ?_
      refine run_exit rfl ?_
      refine run_blk ?_
      refine run_region ?_
      refine run_q (.none rfl) rfl rfl (q_move rfl rfl) ?_
      refine run_q (.none rfl) rfl rfl (q_add rfl rfl rfl (by omega)) ?_
      refine run_q (.none rfl) rfl rfl (q_assign rfl rfl) ?_
      refine run_nil ?_
      refine run_sub (subMk (.cons (s := 0) rfl (.cons (s := 1) rfl (.cons (s := 2) rfl (.cons (s := 3) rfl (.cons (s := 8) rfl .nil))))) .refl) ?_
      exact run_again (i + 1) (by (try dsimp only); exact (.inr (by omega))) (by (try dsimp only); omega) (subMk (.cons' (s := 8) rfl (vint (by omega)) (.cons (s := 0) rfl (.cons (s := 1) rfl (.cons (s := 2) rfl (.cons (s := 3) rfl .nil))))) (.cons Sel.here (.own rfl rfl rfl (by rw [srtL_next (by omega) hpe])) .nil))
  · have g14' := g14
    try simp only [decide_eq_true_eq, decide_eq_false_iff_not, beq_iff_eq, beq_eq_false_iff_ne, bne_iff_ne, bne_eq_false_iff_eq, Bool.not_eq_true', Bool.not_eq_false', ne_eq, Int.not_lt, Int.not_le, Decidable.not_not] at g14'
    refine run_exit rfl ?_
    refine run_sub (subMk .nil .refl) ?_
    refine run_sub (subMk .refl (.cons Sel.here .refl .nil)) ?_
    exact end0 rfl ⟨rfl, by rw [srtL_last (by omega)]⟩

end Go.Proofs.Yticofkkkafhpiaa
