/- The reference's order. -/
import Derived.Test.YtomhegnaojejnaaL
import Derived.Test.YtomhegnaojejnaaAry
set_option linter.unusedSimpArgs false
set_option linter.unusedVariables false
namespace Go.Proofs.Ytomhegnaojejnaa
open Go Go.RowKit Hr

theorem info107 : Hr.Info Try.prog 107 [.int .i64 0, .int .i64 0, .int .i64 0, .int .i64 0, .int .i64 0, .int .i64 0, .int .i64 0] 7 56 := Hr.Info.of (by kernel_rfl)
theorem built107p0p1p2p3p4p5p6 (x0y : Int) (x1y : Int) (x2y : Int) (x3y : Int) (x4y : Int) (x5y : Int) (x6y : Int) : Try.prog.built 107 [(0, .int .i64 x0y), (1, .int .i64 x1y), (2, .int .i64 x2y), (3, .int .i64 x3y), (4, .int .i64 x4y), (5, .int .i64 x5y), (6, .int .i64 x6y)] = some #[.int .i64 x0y, .int .i64 x1y, .int .i64 x2y, .int .i64 x3y, .int .i64 x4y, .int .i64 x5y, .int .i64 x6y] := by kernel_rfl
theorem sz107 : Hr.Sz Try.prog 107 7 := Hr.Sz.of (by kernel_rfl)
theorem agg107 : Hr.Agg Try.prog 107 7 := ⟨fun w => by simp [isAgg, run_underlying Try.underlying107], Hr.Sz.of (by kernel_rfl)⟩
theorem call61 : Hr.Callable Try.prog 61 := fun args w => by kernel_rfl
theorem call41 : Hr.Callable Try.prog 41 := fun args w => by kernel_rfl

set_option maxRecDepth 100000 in
theorem key_just (a : Spn) (W : World) (ha : NN a) : Calls Try.prog 61 #[a.val] W (Hr.Just W (.agg #[.int .i64 a.cls, .int .i64 (a.lst - a.fst), .int .i64 a.fst, .int .i64 a.stf, .int .i64 a.site, .int .i64 a.num, .int .i64 a.idx])) := by
  unfold NN at ha
  refine Just.of_ret ?_
  refine enterA (X := nX) (vs := [a.val]) Try.func61 Try.ntmps61 rfl rfl Mem.nil ?_
  refine run_seq ?_
  refine run_region ?_
  refine run_h (.none rfl) (h_box rfl rfl rfl rfl rfl) ?_
  rintro b1 -
  refine run_h (.none rfl) (h_alloc rfl rfl rfl info107) ?_
  rintro b2 -
  refine run_nil ?_
  refine run_seq ?_
  refine run_region ?_
  refine run_q (.none rfl) rfl rfl (q_fieldB (d := 0) rfl Try.underlying25 rfl rfl sz3 rfl) ?_
  refine run_q (.none rfl) rfl rfl (q_loadB rfl one3 rfl (.there Sel.here) rfl) ?_
  refine run_q (.none rfl) rfl rfl (q_fieldB (d := 7) rfl Try.underlying25 rfl rfl sz3 rfl) ?_
  refine run_q (.none rfl) rfl rfl (q_loadB rfl one3 rfl (.there Sel.here) rfl) ?_
  refine run_q (.none rfl) rfl rfl (q_fieldB (d := 6) rfl Try.underlying25 rfl rfl sz3 rfl) ?_
  refine run_q (.none rfl) rfl rfl (q_loadB rfl one3 rfl (.there Sel.here) rfl) ?_
  refine run_q (.none rfl) rfl rfl (q_sub rfl rfl rfl (by omega)) ?_
  refine run_q (.none rfl) rfl rfl (q_fieldB (d := 6) rfl Try.underlying25 rfl rfl sz3 rfl) ?_
  refine run_q (.none rfl) rfl rfl (q_loadB rfl one3 rfl (.there Sel.here) rfl) ?_
  refine run_q (.none rfl) rfl rfl (q_fieldB (d := 2) rfl Try.underlying25 rfl rfl sz3 rfl) ?_
  refine run_q (.none rfl) rfl rfl (q_loadB rfl one3 rfl (.there Sel.here) rfl) ?_
  refine run_q (.none rfl) rfl rfl (q_fieldB (d := 4) rfl Try.underlying25 rfl rfl sz23 rfl) ?_
  refine run_q (.none rfl) rfl rfl (q_fieldB (d := 4) rfl Try.underlying23 rfl rfl sz3 rfl) ?_
  refine run_q (.none rfl) rfl rfl (q_loadB rfl one3 rfl (.there Sel.here) rfl) ?_
  refine run_q (.none rfl) rfl rfl (q_fieldB (d := 4) rfl Try.underlying25 rfl rfl sz23 rfl) ?_
  refine run_q (.none rfl) rfl rfl (q_fieldB (d := 5) rfl Try.underlying23 rfl rfl sz3 rfl) ?_
  refine run_q (.none rfl) rfl rfl (q_loadB rfl one3 rfl (.there Sel.here) rfl) ?_
  refine run_q (.none rfl) rfl rfl (q_fieldB (d := 1) rfl Try.underlying25 rfl rfl sz3 rfl) ?_
  refine run_q (.none rfl) rfl rfl (q_loadB rfl one3 rfl (.there Sel.here) rfl) ?_
  refine run_q (.none rfl) rfl rfl (q_build rfl (.cons rfl (.cons rfl (.cons rfl (.cons rfl (.cons rfl (.cons rfl (.cons rfl PV.nil))))))) (built107p0p1p2p3p4p5p6 _ _ _ _ _ _ _)) ?_
  refine run_h (.none rfl) (h_storeB rfl rfl sz107 rfl rfl rfl rfl rfl Sel.here rfl) ?_
  rintro - -
  refine run_nil ?_
  refine run_sub (subMk (.cons (s := 2) rfl .nil) .refl) ?_
  refine run_ret ?_
  exact endG rfl (.cellN rfl agg107 Sel.here (.cons rfl (.cons rfl (.cons rfl (.cons rfl (.cons rfl (.cons rfl (.cons rfl CellsAt.nil))))))) rfl Outs.nil) _ .nil rfl

set_option maxHeartbeats 1000000 in
set_option maxRecDepth 100000 in
theorem less_just (a b : Spn) (W : World) (ha : NN a) (hb : NN b) : Calls Try.prog 41 #[a.val, b.val] W (Hr.Just W (.bool ((Ky.ltK keyS) a b))) := by
  refine Just.of_ret ?_
  refine enterA (X := nX) (vs := [a.val, b.val]) Try.func41 Try.ntmps41 rfl rfl Mem.nil ?_
  refine run_seq ?_
  refine run_region ?_
  refine run_h (.none rfl) (h_box rfl rfl rfl rfl rfl) ?_
  rintro b2 -
  refine run_h (.none rfl) (h_box rfl rfl rfl rfl rfl) ?_
  rintro b3 -
  refine run_q (.none rfl) rfl rfl (q_assign rfl rfl) ?_
  refine run_nil ?_
  refine run_seq ?_
  refine run_fork mixed (by kernel_rfl) .refl ?_
  refine b_q (i := 0) rfl (by kernel_rfl) (.none rfl) rfl rfl (q_loadBN rfl agg25 rfl (.there Sel.here) (.cons rfl (.cons rfl (.cons rfl (.cons rfl (.cons rfl (.cons rfl (.cons rfl (.cons rfl (.cons rfl (.cons rfl (.cons rfl (.cons rfl CellsAt.nil)))))))))))) rfl) ?_
  refine b_q (i := 1) rfl (by kernel_rfl) (.none rfl) rfl rfl (q_call rfl call61 (.cons rfl Evs.nil) (fun w hk hm => key_just a w ha)) ?_
  refine b_q (i := 2) rfl (by kernel_rfl) (.none rfl) rfl rfl (q_loadBN rfl agg25 rfl Sel.here (.cons rfl (.cons rfl (.cons rfl (.cons rfl (.cons rfl (.cons rfl (.cons rfl (.cons rfl (.cons rfl (.cons rfl (.cons rfl (.cons rfl CellsAt.nil)))))))))))) rfl) ?_
  refine b_q (i := 3) rfl (by kernel_rfl) (.none rfl) rfl rfl (q_call rfl call61 (.cons rfl Evs.nil) (fun w hk hm => key_just b w hb)) ?_
  refine b_two 4 5 (by kernel_rfl) ?_ ?_
  · refine b_h rfl (.none rfl) (h_alloc rfl rfl rfl info107) (fun _ _ => (.sub (by repeat (first | exact List.Sublist.refl _ | apply List.Sublist.cons)))) ?_
    rintro b5 -
    refine b_one 5 (by kernel_rfl) ?_
    refine b_h rfl (.none rfl) (h_alloc rfl rfl rfl info107) (fun _ _ => (.sub (by repeat (first | exact List.Sublist.refl _ | apply List.Sublist.cons)))) ?_
    rintro b6 -
    refine b_one 6 (by kernel_rfl) ?_
    refine b_h rfl (.none rfl) (h_storeB rfl rfl sz107 rfl rfl rfl rfl rfl (.there Sel.here) rfl) (fun _ _ => (.sub (by repeat (first | exact List.Sublist.refl _ | apply List.Sublist.cons)))) ?_
    rintro - -
    refine b_one 7 (by kernel_rfl) ?_
    refine b_h rfl (.none rfl) (h_storeB rfl rfl sz107 rfl rfl rfl rfl rfl (.there Sel.here) rfl) (fun _ _ => (.sub (by repeat (first | exact List.Sublist.refl _ | apply List.Sublist.cons)))) ?_
    rintro - -
    refine b_nil (by kernel_rfl) ?_
    refine run_sub (subMk (.cons (s := 4) rfl (.cons (s := 5) rfl (.cons (s := 6) rfl .nil))) .refl) ?_
    refine run_seq ?_
    refine run_seq ?_
    refine run_region ?_
    refine run_q (.none rfl) rfl rfl (q_assign rfl rfl) ?_
    refine run_nil ?_
    refine run_block ?_
    refine run_sub (subMk (.cons (s := 7) rfl (.cons (s := 4) rfl (.cons (s := 5) rfl (.cons (s := 6) rfl .nil)))) (.cons Sel.here .refl (.cons Sel.here .refl (.cons Sel.here .refl (.cons Sel.here .refl .nil))))) ?_
    refine run_loopC1M0 (ι := Nat) (fun k => k ≤ 7 ∧ Ky.lex (keyS a) (keyS b) = Ky.lex ((keyS a).drop k) ((keyS b).drop k)) (fun k => .int .i64 (k : Int))  (fun k => 7 - k) 0 (by (try dsimp only); exact ⟨by omega, rfl⟩) rfl  ?_
    rintro k hq
    (try dsimp only at hq)
    obtain ⟨hk, hE⟩ := hq
    show Run _ _ _ _ _ _ _ ⟨(7, .int .i64 (k : Int)) :: _, _⟩
    refine run_seq ?_
    refine run_seq ?_
    refine run_region ?_
    refine run_q (.none rfl) rfl rfl (q_move rfl rfl) ?_
    refine run_q (.none rfl) rfl rfl (q_lss rfl rfl rfl) ?_
    refine run_nil ?_
    refine run_cond rfl (fun g13 => ?_) (fun g13 => ?_)
    · have g13' := g13
      try simp only [decide_eq_true_eq, decide_eq_false_iff_not, beq_iff_eq, beq_eq_false_iff_ne, bne_iff_ne, bne_eq_false_iff_eq, Bool.not_eq_true', Bool.not_eq_false', ne_eq, Int.not_lt, Int.not_le, Decidable.not_not] at g13'
      have hk7 : k < 7 := by omega
      refine run_skip ?_
      refine run_seq ?_
      refine run_block ?_
      refine run_seq ?_
      refine run_draw [(0, 0), (1, 0), (2, 0), (3, 0), (4, 0), (5, 0), (6, 0)] mixed (by kernel_rfl) .refl ?_
      refine d_q rfl rfl (.none rfl) rfl rfl (q_move rfl rfl) ?_
      refine d_q rfl rfl (.none rfl) rfl rfl (q_indexBD (q := k) rfl Try.underlying107 sz3 rfl rfl rfl (by omega)) ?_
      refine d_q rfl rfl (.none rfl) rfl rfl (q_loadC rfl one3 rfl (RdS.blkRow (.there Sel.here) (.cons rfl (.cons rfl (.cons rfl (.cons rfl (.cons rfl (.cons rfl (.cons rfl CellsAt.nil)))))))) (show ((keyS a).map encI)[k]? = some (encI (nth (keyS a) k)) from getmap (by show k < 7; omega))) ?_
      refine d_q rfl rfl (.none rfl) rfl rfl (q_move rfl rfl) ?_
      refine d_q rfl rfl (.none rfl) rfl rfl (q_indexBD (q := k) rfl Try.underlying107 sz3 rfl rfl rfl (by omega)) ?_
      refine d_q rfl rfl (.none rfl) rfl rfl (q_loadC rfl one3 rfl (RdS.blkRow Sel.here (.cons rfl (.cons rfl (.cons rfl (.cons rfl (.cons rfl (.cons rfl (.cons rfl CellsAt.nil)))))))) (show ((keyS b).map encI)[k]? = some (encI (nth (keyS b) k)) from getmap (by show k < 7; omega))) ?_
      refine d_q rfl rfl (.none rfl) rfl rfl (q_neq rfl rfl rfl) ?_
      refine d_nil ?_
      refine run_sub (subMk (.cons (s := 4) rfl (.cons (s := 5) rfl (.cons (s := 6) rfl (.cons (s := 7) rfl (.cons (s := 22) rfl .nil))))) .refl) ?_
      refine run_cond rfl (fun g22 => ?_) (fun g22 => ?_)
      · have g22' := g22
        try simp only [decide_eq_true_eq, decide_eq_false_iff_not, beq_iff_eq, beq_eq_false_iff_ne, bne_iff_ne, bne_eq_false_iff_eq, Bool.not_eq_true', Bool.not_eq_false', ne_eq, Int.not_lt, Int.not_le, Decidable.not_not] at g22'
        refine run_seq ?_
        refine run_draw [(0, 0), (1, 0), (2, 0), (3, 0), (4, 0), (5, 0), (6, 0), (7, 0)] mixed (by kernel_rfl) .refl ?_
        refine d_q rfl rfl (.none rfl) rfl rfl (q_move rfl rfl) ?_
        refine d_q rfl rfl (.none rfl) rfl rfl (q_indexBD (q := k) rfl Try.underlying107 sz3 rfl rfl rfl (by omega)) ?_
        refine d_q rfl rfl (.none rfl) rfl rfl (q_loadC rfl one3 rfl (RdS.blkRow (.there Sel.here) (.cons rfl (.cons rfl (.cons rfl (.cons rfl (.cons rfl (.cons rfl (.cons rfl CellsAt.nil)))))))) (show ((keyS a).map encI)[k]? = some (encI (nth (keyS a) k)) from getmap (by show k < 7; omega))) ?_
        refine d_q rfl rfl (.none rfl) rfl rfl (q_move rfl rfl) ?_
        refine d_q rfl rfl (.none rfl) rfl rfl (q_indexBD (q := k) rfl Try.underlying107 sz3 rfl rfl rfl (by omega)) ?_
        refine d_q rfl rfl (.none rfl) rfl rfl (q_loadC rfl one3 rfl (RdS.blkRow Sel.here (.cons rfl (.cons rfl (.cons rfl (.cons rfl (.cons rfl (.cons rfl (.cons rfl CellsAt.nil)))))))) (show ((keyS b).map encI)[k]? = some (encI (nth (keyS b) k)) from getmap (by show k < 7; omega))) ?_
        refine d_q rfl rfl (.none rfl) rfl rfl (q_lss rfl rfl rfl) ?_
        refine d_q rfl rfl (.none rfl) rfl rfl (q_assign rfl rfl) ?_
        refine d_nil ?_
        refine run_sub (subMk (.cons (s := 4) rfl (.cons (s := 5) rfl (.cons (s := 6) rfl (.cons (s := 7) rfl .nil)))) .refl) ?_
        refine run_ret ?_
        exact end1 rfl rfl (congrArg Value.bool (less_end hE hk7 g22').symm)
      · have g22' := g22
        try simp only [decide_eq_true_eq, decide_eq_false_iff_not, beq_iff_eq, beq_eq_false_iff_ne, bne_iff_ne, bne_eq_false_iff_eq, Bool.not_eq_true', Bool.not_eq_false', ne_eq, Int.not_lt, Int.not_le, Decidable.not_not] at g22'
        refine run_skip ?_
        refine run_blk ?_
        refine run_region ?_
        refine run_q (.none rfl) rfl rfl (q_move rfl rfl) ?_
        refine run_q (.none rfl) rfl rfl (q_add rfl rfl rfl (by omega)) ?_
        refine run_q (.none rfl) rfl rfl (q_assign rfl rfl) ?_
        refine run_nil ?_
        refine run_sub (subMk (.cons (s := 4) rfl (.cons (s := 5) rfl (.cons (s := 6) rfl (.cons (s := 7) rfl .nil)))) .refl) ?_
        exact run_again (k + 1) (by (try dsimp only); exact ⟨by omega, by rw [hE, Ky.lex_eq (show k < (keyS a).length from hk7) (show k < (keyS b).length from hk7) g22']⟩) (by (try dsimp only); omega) (subMk (.cons' (s := 7) rfl (vint (by omega)) (.cons (s := 4) rfl (.cons (s := 5) rfl (.cons (s := 6) rfl .nil)))) (.cons Sel.here .refl (.cons Sel.here .refl (.cons Sel.here .refl (.cons Sel.here .refl .nil)))))
    · have g13' := g13
      try simp only [decide_eq_true_eq, decide_eq_false_iff_not, beq_iff_eq, beq_eq_false_iff_ne, bne_iff_ne, bne_eq_false_iff_eq, Bool.not_eq_true', Bool.not_eq_false', ne_eq, Int.not_lt, Int.not_le, Decidable.not_not] at g13'
      refine run_exit rfl ?_
      refine run_sub (subMk (.cons (s := 4) rfl .nil) .refl) ?_
      refine run_seq ?_
      refine run_region ?_
      refine run_q (.none rfl) rfl rfl (q_assign rfl rfl) ?_
      refine run_nil ?_
      refine run_ret ?_
      exact end1 rfl rfl (congrArg Value.bool (less_eq (by rw [hE, Ky.lex_end (show 7 ≤ k by omega)])).symm)
  · refine b_h rfl (.none rfl) (h_alloc rfl rfl rfl info107) (fun _ _ => (.sub (by repeat (first | exact List.Sublist.refl _ | apply List.Sublist.cons)))) ?_
    rintro b6 -
    refine b_one 4 (by kernel_rfl) ?_
    refine b_h rfl (.none rfl) (h_alloc rfl rfl rfl info107) (fun _ _ => (.sub (by repeat (first | exact List.Sublist.refl _ | apply List.Sublist.cons)))) ?_
    rintro b5 -
    refine b_one 6 (by kernel_rfl) ?_
    refine b_h rfl (.none rfl) (h_storeB rfl rfl sz107 rfl rfl rfl rfl rfl Sel.here rfl) (fun _ _ => (.sub (by repeat (first | exact List.Sublist.refl _ | apply List.Sublist.cons)))) ?_
    rintro - -
    refine b_one 7 (by kernel_rfl) ?_
    refine b_h rfl (.none rfl) (h_storeB rfl rfl sz107 rfl rfl rfl rfl rfl (.there Sel.here) rfl) (fun _ _ => (.sub (by repeat (first | exact List.Sublist.refl _ | apply List.Sublist.cons)))) ?_
    rintro - -
    refine b_nil (by kernel_rfl) ?_
    refine run_sub (subMk (.cons (s := 4) rfl (.cons (s := 5) rfl (.cons (s := 6) rfl .nil))) .refl) ?_
    refine run_seq ?_
    refine run_seq ?_
    refine run_region ?_
    refine run_q (.none rfl) rfl rfl (q_assign rfl rfl) ?_
    refine run_nil ?_
    refine run_block ?_
    refine run_sub (subMk (.cons (s := 7) rfl (.cons (s := 4) rfl (.cons (s := 5) rfl (.cons (s := 6) rfl .nil)))) (.cons Sel.here .refl (.cons Sel.here .refl (.cons Sel.here .refl (.cons Sel.here .refl .nil))))) ?_
    refine run_loopC1M0 (ι := Nat) (fun k => k ≤ 7 ∧ Ky.lex (keyS a) (keyS b) = Ky.lex ((keyS a).drop k) ((keyS b).drop k)) (fun k => .int .i64 (k : Int))  (fun k => 7 - k) 0 (by (try dsimp only); exact ⟨by omega, rfl⟩) rfl  ?_
    rintro k hq
    (try dsimp only at hq)
    obtain ⟨hk, hE⟩ := hq
    show Run _ _ _ _ _ _ _ ⟨(7, .int .i64 (k : Int)) :: _, _⟩
    refine run_seq ?_
    refine run_seq ?_
    refine run_region ?_
    refine run_q (.none rfl) rfl rfl (q_move rfl rfl) ?_
    refine run_q (.none rfl) rfl rfl (q_lss rfl rfl rfl) ?_
    refine run_nil ?_
    refine run_cond rfl (fun g13 => ?_) (fun g13 => ?_)
    · have g13' := g13
      try simp only [decide_eq_true_eq, decide_eq_false_iff_not, beq_iff_eq, beq_eq_false_iff_ne, bne_iff_ne, bne_eq_false_iff_eq, Bool.not_eq_true', Bool.not_eq_false', ne_eq, Int.not_lt, Int.not_le, Decidable.not_not] at g13'
      have hk7 : k < 7 := by omega
      refine run_skip ?_
      refine run_seq ?_
      refine run_block ?_
      refine run_seq ?_
      refine run_draw [(0, 0), (1, 0), (2, 0), (3, 0), (4, 0), (5, 0), (6, 0)] mixed (by kernel_rfl) .refl ?_
      refine d_q rfl rfl (.none rfl) rfl rfl (q_move rfl rfl) ?_
      refine d_q rfl rfl (.none rfl) rfl rfl (q_indexBD (q := k) rfl Try.underlying107 sz3 rfl rfl rfl (by omega)) ?_
      refine d_q rfl rfl (.none rfl) rfl rfl (q_loadC rfl one3 rfl (RdS.blkRow (.there Sel.here) (.cons rfl (.cons rfl (.cons rfl (.cons rfl (.cons rfl (.cons rfl (.cons rfl CellsAt.nil)))))))) (show ((keyS a).map encI)[k]? = some (encI (nth (keyS a) k)) from getmap (by show k < 7; omega))) ?_
      refine d_q rfl rfl (.none rfl) rfl rfl (q_move rfl rfl) ?_
      refine d_q rfl rfl (.none rfl) rfl rfl (q_indexBD (q := k) rfl Try.underlying107 sz3 rfl rfl rfl (by omega)) ?_
      refine d_q rfl rfl (.none rfl) rfl rfl (q_loadC rfl one3 rfl (RdS.blkRow Sel.here (.cons rfl (.cons rfl (.cons rfl (.cons rfl (.cons rfl (.cons rfl (.cons rfl CellsAt.nil)))))))) (show ((keyS b).map encI)[k]? = some (encI (nth (keyS b) k)) from getmap (by show k < 7; omega))) ?_
      refine d_q rfl rfl (.none rfl) rfl rfl (q_neq rfl rfl rfl) ?_
      refine d_nil ?_
      refine run_sub (subMk (.cons (s := 4) rfl (.cons (s := 5) rfl (.cons (s := 6) rfl (.cons (s := 7) rfl (.cons (s := 22) rfl .nil))))) .refl) ?_
      refine run_cond rfl (fun g22 => ?_) (fun g22 => ?_)
      · have g22' := g22
        try simp only [decide_eq_true_eq, decide_eq_false_iff_not, beq_iff_eq, beq_eq_false_iff_ne, bne_iff_ne, bne_eq_false_iff_eq, Bool.not_eq_true', Bool.not_eq_false', ne_eq, Int.not_lt, Int.not_le, Decidable.not_not] at g22'
        refine run_seq ?_
        refine run_draw [(0, 0), (1, 0), (2, 0), (3, 0), (4, 0), (5, 0), (6, 0), (7, 0)] mixed (by kernel_rfl) .refl ?_
        refine d_q rfl rfl (.none rfl) rfl rfl (q_move rfl rfl) ?_
        refine d_q rfl rfl (.none rfl) rfl rfl (q_indexBD (q := k) rfl Try.underlying107 sz3 rfl rfl rfl (by omega)) ?_
        refine d_q rfl rfl (.none rfl) rfl rfl (q_loadC rfl one3 rfl (RdS.blkRow (.there Sel.here) (.cons rfl (.cons rfl (.cons rfl (.cons rfl (.cons rfl (.cons rfl (.cons rfl CellsAt.nil)))))))) (show ((keyS a).map encI)[k]? = some (encI (nth (keyS a) k)) from getmap (by show k < 7; omega))) ?_
        refine d_q rfl rfl (.none rfl) rfl rfl (q_move rfl rfl) ?_
        refine d_q rfl rfl (.none rfl) rfl rfl (q_indexBD (q := k) rfl Try.underlying107 sz3 rfl rfl rfl (by omega)) ?_
        refine d_q rfl rfl (.none rfl) rfl rfl (q_loadC rfl one3 rfl (RdS.blkRow Sel.here (.cons rfl (.cons rfl (.cons rfl (.cons rfl (.cons rfl (.cons rfl (.cons rfl CellsAt.nil)))))))) (show ((keyS b).map encI)[k]? = some (encI (nth (keyS b) k)) from getmap (by show k < 7; omega))) ?_
        refine d_q rfl rfl (.none rfl) rfl rfl (q_lss rfl rfl rfl) ?_
        refine d_q rfl rfl (.none rfl) rfl rfl (q_assign rfl rfl) ?_
        refine d_nil ?_
        refine run_sub (subMk (.cons (s := 4) rfl (.cons (s := 5) rfl (.cons (s := 6) rfl (.cons (s := 7) rfl .nil)))) .refl) ?_
        refine run_ret ?_
        exact end1 rfl rfl (congrArg Value.bool (less_end hE hk7 g22').symm)
      · have g22' := g22
        try simp only [decide_eq_true_eq, decide_eq_false_iff_not, beq_iff_eq, beq_eq_false_iff_ne, bne_iff_ne, bne_eq_false_iff_eq, Bool.not_eq_true', Bool.not_eq_false', ne_eq, Int.not_lt, Int.not_le, Decidable.not_not] at g22'
        refine run_skip ?_
        refine run_blk ?_
        refine run_region ?_
        refine run_q (.none rfl) rfl rfl (q_move rfl rfl) ?_
        refine run_q (.none rfl) rfl rfl (q_add rfl rfl rfl (by omega)) ?_
        refine run_q (.none rfl) rfl rfl (q_assign rfl rfl) ?_
        refine run_nil ?_
        refine run_sub (subMk (.cons (s := 4) rfl (.cons (s := 5) rfl (.cons (s := 6) rfl (.cons (s := 7) rfl .nil)))) .refl) ?_
        exact run_again (k + 1) (by (try dsimp only); exact ⟨by omega, by rw [hE, Ky.lex_eq (show k < (keyS a).length from hk7) (show k < (keyS b).length from hk7) g22']⟩) (by (try dsimp only); omega) (subMk (.cons' (s := 7) rfl (vint (by omega)) (.cons (s := 4) rfl (.cons (s := 5) rfl (.cons (s := 6) rfl .nil)))) (.cons Sel.here .refl (.cons Sel.here .refl (.cons Sel.here .refl (.cons Sel.here .refl .nil)))))
    · have g13' := g13
      try simp only [decide_eq_true_eq, decide_eq_false_iff_not, beq_iff_eq, beq_eq_false_iff_ne, bne_iff_ne, bne_eq_false_iff_eq, Bool.not_eq_true', Bool.not_eq_false', ne_eq, Int.not_lt, Int.not_le, Decidable.not_not] at g13'
      refine run_exit rfl ?_
      refine run_sub (subMk (.cons (s := 4) rfl .nil) .refl) ?_
      refine run_seq ?_
      refine run_region ?_
      refine run_q (.none rfl) rfl rfl (q_assign rfl rfl) ?_
      refine run_nil ?_
      refine run_ret ?_
      exact end1 rfl rfl (congrArg Value.bool (less_eq (by rw [hE, Ky.lex_end (show 7 ≤ k by omega)])).symm)

set_option maxHeartbeats 1000000 in
set_option maxRecDepth 100000 in
theorem reforder_ret (l : List Spn) (A : Option Addr) (ca : Nat) (W : World) (hr : Rd W A 12 (l.map Spn.enc)) (hl : l.length ≤ 20) (hN : ∀ x ∈ l, NN x) : Calls Try.prog 16 #[.slice A l.length ca] W (Ret W nX (fun v m => ∃ O co, v = .slice O l.length co ∧ m = [.own 25 12 O l.length co ((ordS l).map Spn.enc)])) := by
  refine enterA (X := nX) (vs := [.slice A l.length ca]) Try.func16 Try.ntmps16 rfl rfl Mem.nil ?_
  refine run_seq ?_
  refine run_region ?_
  refine run_q (.none rfl) rfl rfl (q_assign rfl rfl) ?_
  refine run_nil ?_
  refine run_seq ?_
  refine run_region ?_
  refine run_q (.none rfl) rfl rfl (q_assign rfl rfl) ?_
  refine run_nil ?_
  refine run_seq ?_
  refine run_seq ?_
  refine run_region ?_
  refine run_q (.none rfl) rfl rfl (q_assign rfl rfl) ?_
  refine run_nil ?_
  refine run_block ?_
  refine run_sub (subMk .refl (MemSub.nilOwn 25 12)) ?_
  refine run_sub (subMk (.cons (s := 4) rfl (.cons (s := 3) rfl (.cons (s := 0) rfl (.cons (s := 2) rfl .nil)))) (.cons Sel.here .refl .nil)) ?_
  refine run_loopC2M1 (ι := Nat × (Option Addr) × Nat) (fun gg => gg.1 ≤ l.length) (fun gg => .int .i64 (gg.1 : Int)) (fun gg => .slice gg.2.1 gg.1 gg.2.2) (fun gg => .own 25 12 gg.2.1 gg.1 gg.2.2 ((Srt.sort (Ky.ltK keyS) l gg.1).map Spn.enc)) (fun gg => l.length - gg.1) (0, none, 0) (by (try dsimp only); exact (by omega)) rfl rfl (.own rfl rfl rfl rfl) ?_
  rintro ⟨i, O, co⟩ hi
  (try dsimp only at hi)
  show Run _ _ _ _ _ _ _ ⟨(4, .int .i64 (i : Int)) :: (3, .slice O i co) :: _, .own 25 12 O i co ((Srt.sort (Ky.ltK keyS) l i).map Spn.enc) :: _⟩
  refine run_seq ?_
  refine run_seq ?_
  refine run_region ?_
  refine run_q (.none rfl) rfl rfl (q_move rfl rfl) ?_
  refine run_q (.none rfl) rfl rfl (q_move rfl rfl) ?_
  refine run_q (.none rfl) rfl rfl (q_len rfl Try.underlying30 rfl) ?_
  refine run_q (.none rfl) rfl rfl (q_lss rfl rfl rfl) ?_
  refine run_nil ?_
  refine run_sub (subMk (.cons (s := 0) rfl (.cons (s := 2) rfl (.cons (s := 3) rfl (.cons (s := 4) rfl (.cons (s := 9) rfl .nil))))) .refl) ?_
  refine run_cond rfl (fun g9 => ?_) (fun g9 => ?_)
  · have g9' := g9
    try simp only [decide_eq_true_eq, decide_eq_false_iff_not, beq_iff_eq, beq_eq_false_iff_ne, bne_iff_ne, bne_eq_false_iff_eq, Bool.not_eq_true', Bool.not_eq_false', ne_eq, Int.not_lt, Int.not_le, Decidable.not_not] at g9'
    refine run_skip ?_
    refine run_seq ?_
    refine run_block ?_
    refine run_seq ?_
    refine run_region ?_
    refine run_q (.none rfl) rfl rfl (q_move rfl rfl) ?_
    refine run_q (.none rfl) rfl rfl (q_len rfl Try.underlying30 rfl) ?_
    refine run_q (.none rfl) rfl rfl (q_assign rfl rfl) ?_
    refine run_nil ?_
    refine run_sub (subMk (.cons (s := 0) rfl (.cons (s := 2) rfl (.cons (s := 3) rfl (.cons (s := 4) rfl (.cons (s := 5) rfl .nil))))) .refl) ?_
    refine run_seq ?_
    refine run_block ?_
    refine run_sub (subMk (.cons (s := 5) rfl (.cons (s := 0) rfl (.cons (s := 2) rfl (.cons (s := 3) rfl (.cons (s := 4) rfl .nil))))) (.cons Sel.here .refl .nil)) ?_
    refine run_loopC1M0 (ι := Nat) (fun j => j ≤ i ∧ Srt.pos (Ky.ltK keyS) (Srt.sort (Ky.ltK keyS) l i) (nth l i) i = Srt.pos (Ky.ltK keyS) (Srt.sort (Ky.ltK keyS) l i) (nth l i) j) (fun j => .int .i64 (j : Int))  (fun j => j) i (by (try dsimp only); exact ⟨by omega, rfl⟩) rfl  ?_
    rintro j hq
    (try dsimp only at hq)
    obtain ⟨hj, hpos⟩ := hq
    show Run _ _ _ _ _ _ _ ⟨(5, .int .i64 (j : Int)) :: _, _⟩
    refine run_seq ?_
    refine run_seq ?_
    refine run_draw [(0, 0), (1, 0), (2, 0), (3, 0), (4, 0), (5, 0), (6, 0), (7, 0), (8, 0), (9, 0), (10, 0), (11, 0), (12, 0), (13, 0)] mixed (by kernel_rfl) .refl ?_
    refine d_q rfl rfl (.none rfl) rfl rfl (q_move rfl rfl) ?_
    refine d_q rfl rfl (.none rfl) rfl rfl (q_gtr rfl rfl rfl) ?_
    refine d_q rfl rfl (.none rfl) rfl rfl (q_move rfl rfl) ?_
    refine d_split 16 rfl (fun g16 => ?_) (fun g16 => ?_)
    · have g16' := g16
      try simp only [decide_eq_true_eq, decide_eq_false_iff_not, beq_iff_eq, beq_eq_false_iff_ne, bne_iff_ne, bne_eq_false_iff_eq, Bool.not_eq_true', Bool.not_eq_false', ne_eq, Int.not_lt, Int.not_le, Decidable.not_not] at g16'
      refine d_q rfl rfl (.on rfl rfl rfl g16) rfl rfl (q_move rfl rfl) ?_
      refine d_q rfl rfl (.on rfl rfl rfl g16) rfl rfl (q_move rfl rfl) ?_
      refine d_q rfl rfl (.on rfl rfl rfl g16) rfl rfl (q_indexS (q := i) rfl Try.underlying30 sz25 rfl rfl (.inp hr .no) (by simp <;> omega) rfl (by omega)) ?_
      refine d_q rfl rfl (.on rfl rfl rfl g16) rfl rfl (q_loadE rfl agg25 rfl (.inp hr .no) (getmap (by omega)) rfl) ?_
      refine d_q rfl rfl (.on rfl rfl rfl g16) rfl rfl (q_move rfl rfl) ?_
      refine d_q rfl rfl (.on rfl rfl rfl g16) rfl rfl (q_move rfl rfl) ?_
      refine d_q rfl rfl (.on rfl rfl rfl g16) rfl rfl (q_sub rfl rfl rfl (by omega)) ?_
      refine d_q rfl rfl (.on rfl rfl rfl g16) rfl rfl (q_indexS (q := (j - 1)) rfl Try.underlying30 sz25 rfl rfl (.own Sel.here) (by rw [List.length_map, Srt.sort_len]) (by omega) (by omega)) ?_
      refine d_q rfl rfl (.on rfl rfl rfl g16) rfl rfl (q_loadE rfl agg25 rfl (.own Sel.here) (getmap (by rw [Srt.sort_len]; omega)) rfl) ?_
      refine d_q rfl rfl (.on rfl rfl rfl g16) rfl rfl (q_call rfl call41 (.cons rfl (.cons rfl Evs.nil)) (fun w hk hm => less_just (nth l i) (nth (Srt.sort (Ky.ltK keyS) l i) (j - 1)) w (hN _ (nth_mem (by omega))) (hN _ (sort_memK (by omega) (nth_mem (by rw [Srt.sort_len]; omega)))))) ?_
      refine d_q rfl rfl (.none rfl) rfl rfl (q_pickT rfl rfl g16 rfl) ?_
      refine d_nil ?_
      refine run_sub (subMk (.cons (s := 0) rfl (.cons (s := 2) rfl (.cons (s := 3) rfl (.cons (s := 4) rfl (.cons (s := 5) rfl (.cons (s := 27) rfl .nil)))))) .refl) ?_
      refine run_cond rfl (fun g27 => ?_) (fun g27 => ?_)
      · have g27' := g27
        try simp only [decide_eq_true_eq, decide_eq_false_iff_not, beq_iff_eq, beq_eq_false_iff_ne, bne_iff_ne, bne_eq_false_iff_eq, Bool.not_eq_true', Bool.not_eq_false', ne_eq, Int.not_lt, Int.not_le, Decidable.not_not] at g27'
        refine run_skip ?_
        refine run_block ?_
        refine run_region ?_
        refine run_q (.none rfl) rfl rfl (q_move rfl rfl) ?_
        refine run_q (.none rfl) rfl rfl (q_sub rfl rfl rfl (by omega)) ?_
        refine run_q (.none rfl) rfl rfl (q_assign rfl rfl) ?_
        refine run_nil ?_
        refine run_sub (subMk (.cons (s := 0) rfl (.cons (s := 2) rfl (.cons (s := 3) rfl (.cons (s := 4) rfl (.cons (s := 5) rfl .nil))))) .refl) ?_
        refine run_blk ?_
        exact run_again (j - 1) (by (try dsimp only); exact ⟨by omega, by rw [hpos, Srt.pos_skip' (by omega) g27]⟩) (by (try dsimp only); omega) (subMk (.cons' (s := 5) rfl (vint (by omega)) (.cons (s := 0) rfl (.cons (s := 2) rfl (.cons (s := 3) rfl (.cons (s := 4) rfl .nil))))) (.cons Sel.here .refl .nil))
      · have g27' := g27
        try simp only [decide_eq_true_eq, decide_eq_false_iff_not, beq_iff_eq, beq_eq_false_iff_ne, bne_iff_ne, bne_eq_false_iff_eq, Bool.not_eq_true', Bool.not_eq_false', ne_eq, Int.not_lt, Int.not_le, Decidable.not_not] at g27'
        have hpe : Srt.pos (Ky.ltK keyS) (Srt.sort (Ky.ltK keyS) l i) (nth l i) i = j := by rw [hpos, Srt.pos_stop' (by omega) g27]
        refine run_exit rfl ?_
        refine run_ownLe Sel.here (fun hle => ?_)
        refine run_fork mixed (by kernel_rfl) .refl ?_
        refine b_q (i := 1) rfl (by kernel_rfl) (.none rfl) rfl rfl (q_move rfl rfl) ?_
        refine b_q (i := 2) rfl (by kernel_rfl) (.none rfl) rfl rfl (q_move rfl rfl) ?_
        refine b_q (i := 3) rfl (by kernel_rfl) (.none rfl) rfl rfl (q_sliceH rfl Try.underlying30 sz25 rfl rfl (by omega)) ?_
        refine b_q (i := 5) rfl (by kernel_rfl) (.none rfl) rfl rfl (q_move rfl rfl) ?_
        refine b_q (i := 6) rfl (by kernel_rfl) (.none rfl) rfl rfl (q_move rfl rfl) ?_
        refine b_q (i := 7) rfl (by kernel_rfl) (.none rfl) rfl rfl (q_indexS (q := i) rfl Try.underlying30 sz25 rfl rfl (.inp hr .no) (by simp <;> omega) rfl (by omega)) ?_
        refine b_q (i := 8) rfl (by kernel_rfl) (.none rfl) rfl rfl (q_loadE rfl agg25 rfl (.inp hr .no) (getmap (by omega)) rfl) ?_
        refine b_q (i := 11) rfl (by kernel_rfl) (.none rfl) rfl rfl (q_move rfl rfl) ?_
        refine b_q (i := 12) rfl (by kernel_rfl) (.none rfl) rfl rfl (q_move rfl rfl) ?_
        refine b_q (i := 13) rfl (by kernel_rfl) (.none rfl) rfl rfl (q_sliceL rfl Try.underlying30 sz25 rfl rfl (by omega)) ?_
        refine b_two 0 9 (by kernel_rfl) ?_ ?_
        · refine b_h rfl (.none rfl) (h_buildSlice rfl rfl rfl Try.underlying30 info25 Parts.nil rfl (by omega)) (fun _ _ => (.sub (by repeat (first | exact List.Sublist.refl _ | apply List.Sublist.cons)))) ?_
          rintro b30 -
          refine b_two 4 9 (by kernel_rfl) ?_ ?_
          · refine b_h rfl (.none rfl) (h_append rfl rfl rfl Try.underlying30 info25 rfl rfl Sel.here rfl ((RdS.own (.there Sel.here)).take j) (by simp [Srt.sort_len]; omega) (fun z hz => Spn_len (List.mem_of_mem_take hz)) (fun z hz => Spn_all (List.mem_of_mem_take hz)) (by omega) (by omega)) (fun _ _ => (.sub (by repeat (first | exact List.Sublist.refl _ | apply List.Sublist.cons)))) ?_
            rintro ⟨A34, c34⟩ -
            refine b_one 9 (by kernel_rfl) ?_
            refine b_h rfl (.none rfl) (h_buildSlice rfl rfl rfl Try.underlying30 info25 (.cons rfl rfl rfl rfl Parts.nil) rfl (by omega)) (fun _ _ => (.sub (by repeat (first | exact List.Sublist.refl _ | apply List.Sublist.cons)))) ?_
            rintro b39 -
            refine b_one 10 (by kernel_rfl) ?_
            refine b_h rfl (.none rfl) (h_append rfl rfl rfl Try.underlying30 info25 rfl rfl (.there Sel.here) rfl (.own Sel.here) rfl (all1 rfl) (all1 rfl) (by omega) (by omega)) (fun _ _ => (.sub (by repeat (first | exact List.Sublist.refl _ | apply List.Sublist.cons)))) ?_
            rintro ⟨A40, c40⟩ -
            refine b_one 14 (by kernel_rfl) ?_
            refine b_h rfl (.none rfl) (h_append rfl rfl rfl Try.underlying30 info25 rfl rfl Sel.here rfl ((RdS.own (.there (.there Sel.here))).cut (l := j) (c := co) (by rw [List.length_map, Srt.sort_len]; exact hle)) (by simp [Srt.sort_len]) (fun z hz => Spn_len (List.mem_of_mem_drop hz)) (fun z hz => Spn_all (List.mem_of_mem_drop hz)) (by omega) (by omega)) (fun _ _ => (.sub (by repeat (first | exact List.Sublist.refl _ | apply List.Sublist.cons)))) ?_
            rintro ⟨A44, c44⟩ -
            refine b_q (i := 15) rfl (by kernel_rfl) (.none rfl) rfl rfl (q_assign rfl rfl) ?_
            refine b_nil (by kernel_rfl) ?_
            refine run_sub (subMk (.cons (s := 0) rfl (.cons (s := 2) rfl (.cons (s := 3) rfl (.cons (s := 4) rfl .nil)))) .refl) ?_
            refine run_blk ?_
            refine run_region ?_
            refine run_q (.none rfl) rfl rfl (q_move rfl rfl) ?_
            refine run_q (.none rfl) rfl rfl (q_add rfl rfl rfl (by omega)) ?_
            refine run_q (.none rfl) rfl rfl (q_assign rfl rfl) ?_
            refine run_nil ?_
            exact run_again (i + 1, A44, c44) (by (try dsimp only); exact (by omega)) (by (try dsimp only); omega) (subMk (.cons' (s := 4) rfl (vint (by omega)) (.cons' (s := 3) rfl (by congr 1; omega) (.cons (s := 0) rfl (.cons (s := 2) rfl .nil)))) (.cons Sel.here (.own rfl (by omega) rfl (by rw [Srt.sort, Srt.ins, Srt.sort_len, hpe]; simp [List.map_take, List.map_drop, vlist, Spn.enc])) .nil))
          · refine b_h rfl (.none rfl) (h_buildSlice rfl rfl rfl Try.underlying30 info25 (.cons rfl rfl rfl rfl Parts.nil) rfl (by omega)) (fun _ _ => (.sub (by repeat (first | exact List.Sublist.refl _ | apply List.Sublist.cons)))) ?_
            rintro b39 -
            refine b_one 4 (by kernel_rfl) ?_
            refine b_h rfl (.none rfl) (h_append rfl rfl rfl Try.underlying30 info25 rfl rfl (.there Sel.here) rfl ((RdS.own (.there (.there Sel.here))).take j) (by simp [Srt.sort_len]; omega) (fun z hz => Spn_len (List.mem_of_mem_take hz)) (fun z hz => Spn_all (List.mem_of_mem_take hz)) (by omega) (by omega)) (fun _ _ => (.sub (by repeat (first | exact List.Sublist.refl _ | apply List.Sublist.cons)))) ?_
            rintro ⟨A34, c34⟩ -
            refine b_one 10 (by kernel_rfl) ?_
            refine b_h rfl (.none rfl) (h_append rfl rfl rfl Try.underlying30 info25 rfl rfl Sel.here rfl (.own (.there Sel.here)) rfl (all1 rfl) (all1 rfl) (by omega) (by omega)) (fun _ _ => (.sub (by repeat (first | exact List.Sublist.refl _ | apply List.Sublist.cons)))) ?_
            rintro ⟨A40, c40⟩ -
            refine b_one 14 (by kernel_rfl) ?_
            refine b_h rfl (.none rfl) (h_append rfl rfl rfl Try.underlying30 info25 rfl rfl Sel.here rfl ((RdS.own (.there (.there Sel.here))).cut (l := j) (c := co) (by rw [List.length_map, Srt.sort_len]; exact hle)) (by simp [Srt.sort_len]) (fun z hz => Spn_len (List.mem_of_mem_drop hz)) (fun z hz => Spn_all (List.mem_of_mem_drop hz)) (by omega) (by omega)) (fun _ _ => (.sub (by repeat (first | exact List.Sublist.refl _ | apply List.Sublist.cons)))) ?_
            rintro ⟨A44, c44⟩ -
            refine b_q (i := 15) rfl (by kernel_rfl) (.none rfl) rfl rfl (q_assign rfl rfl) ?_
            refine b_nil (by kernel_rfl) ?_
            refine run_sub (subMk (.cons (s := 0) rfl (.cons (s := 2) rfl (.cons (s := 3) rfl (.cons (s := 4) rfl .nil)))) .refl) ?_
            refine run_blk ?_
            refine run_region ?_
            refine run_q (.none rfl) rfl rfl (q_move rfl rfl) ?_
            refine run_q (.none rfl) rfl rfl (q_add rfl rfl rfl (by omega)) ?_
            refine run_q (.none rfl) rfl rfl (q_assign rfl rfl) ?_
            refine run_nil ?_
            exact run_again (i + 1, A44, c44) (by (try dsimp only); exact (by omega)) (by (try dsimp only); omega) (subMk (.cons' (s := 4) rfl (vint (by omega)) (.cons' (s := 3) rfl (by congr 1; omega) (.cons (s := 0) rfl (.cons (s := 2) rfl .nil)))) (.cons Sel.here (.own rfl (by omega) rfl (by rw [Srt.sort, Srt.ins, Srt.sort_len, hpe]; simp [List.map_take, List.map_drop, vlist, Spn.enc])) .nil))
        · refine b_h rfl (.none rfl) (h_buildSlice rfl rfl rfl Try.underlying30 info25 (.cons rfl rfl rfl rfl Parts.nil) rfl (by omega)) (fun _ _ => (.sub (by repeat (first | exact List.Sublist.refl _ | apply List.Sublist.cons)))) ?_
          rintro b39 -
          refine b_one 0 (by kernel_rfl) ?_
          refine b_h rfl (.none rfl) (h_buildSlice rfl rfl rfl Try.underlying30 info25 Parts.nil rfl (by omega)) (fun _ _ => (.sub (by repeat (first | exact List.Sublist.refl _ | apply List.Sublist.cons)))) ?_
          rintro b30 -
          refine b_one 4 (by kernel_rfl) ?_
          refine b_h rfl (.none rfl) (h_append rfl rfl rfl Try.underlying30 info25 rfl rfl Sel.here rfl ((RdS.own (.there (.there Sel.here))).take j) (by simp [Srt.sort_len]; omega) (fun z hz => Spn_len (List.mem_of_mem_take hz)) (fun z hz => Spn_all (List.mem_of_mem_take hz)) (by omega) (by omega)) (fun _ _ => (.sub (by repeat (first | exact List.Sublist.refl _ | apply List.Sublist.cons)))) ?_
          rintro ⟨A34, c34⟩ -
          refine b_one 10 (by kernel_rfl) ?_
          refine b_h rfl (.none rfl) (h_append rfl rfl rfl Try.underlying30 info25 rfl rfl Sel.here rfl (.own (.there Sel.here)) rfl (all1 rfl) (all1 rfl) (by omega) (by omega)) (fun _ _ => (.sub (by repeat (first | exact List.Sublist.refl _ | apply List.Sublist.cons)))) ?_
          rintro ⟨A40, c40⟩ -
          refine b_one 14 (by kernel_rfl) ?_
          refine b_h rfl (.none rfl) (h_append rfl rfl rfl Try.underlying30 info25 rfl rfl Sel.here rfl ((RdS.own (.there (.there Sel.here))).cut (l := j) (c := co) (by rw [List.length_map, Srt.sort_len]; exact hle)) (by simp [Srt.sort_len]) (fun z hz => Spn_len (List.mem_of_mem_drop hz)) (fun z hz => Spn_all (List.mem_of_mem_drop hz)) (by omega) (by omega)) (fun _ _ => (.sub (by repeat (first | exact List.Sublist.refl _ | apply List.Sublist.cons)))) ?_
          rintro ⟨A44, c44⟩ -
          refine b_q (i := 15) rfl (by kernel_rfl) (.none rfl) rfl rfl (q_assign rfl rfl) ?_
          refine b_nil (by kernel_rfl) ?_
          refine run_sub (subMk (.cons (s := 0) rfl (.cons (s := 2) rfl (.cons (s := 3) rfl (.cons (s := 4) rfl .nil)))) .refl) ?_
          refine run_blk ?_
          refine run_region ?_
          refine run_q (.none rfl) rfl rfl (q_move rfl rfl) ?_
          refine run_q (.none rfl) rfl rfl (q_add rfl rfl rfl (by omega)) ?_
          refine run_q (.none rfl) rfl rfl (q_assign rfl rfl) ?_
          refine run_nil ?_
          exact run_again (i + 1, A44, c44) (by (try dsimp only); exact (by omega)) (by (try dsimp only); omega) (subMk (.cons' (s := 4) rfl (vint (by omega)) (.cons' (s := 3) rfl (by congr 1; omega) (.cons (s := 0) rfl (.cons (s := 2) rfl .nil)))) (.cons Sel.here (.own rfl (by omega) rfl (by rw [Srt.sort, Srt.ins, Srt.sort_len, hpe]; simp [List.map_take, List.map_drop, vlist, Spn.enc])) .nil))
    · have g16' := g16
      try simp only [decide_eq_true_eq, decide_eq_false_iff_not, beq_iff_eq, beq_eq_false_iff_ne, bne_iff_ne, bne_eq_false_iff_eq, Bool.not_eq_true', Bool.not_eq_false', ne_eq, Int.not_lt, Int.not_le, Decidable.not_not] at g16'
      have hpe : Srt.pos (Ky.ltK keyS) (Srt.sort (Ky.ltK keyS) l i) (nth l i) i = j := by rw [hpos, show j = 0 from by omega]; rfl
      refine d_off rfl rfl (.no rfl rfl rfl g16) rfl rfl ?_
      refine d_off rfl rfl (.no rfl rfl rfl g16) rfl rfl ?_
      refine d_off rfl rfl (.no rfl rfl rfl g16) rfl rfl ?_
      refine d_off rfl rfl (.no rfl rfl rfl g16) rfl rfl ?_
      refine d_off rfl rfl (.no rfl rfl rfl g16) rfl rfl ?_
      refine d_off rfl rfl (.no rfl rfl rfl g16) rfl rfl ?_
      refine d_off rfl rfl (.no rfl rfl rfl g16) rfl rfl ?_
      refine d_off rfl rfl (.no rfl rfl rfl g16) rfl rfl ?_
      refine d_off rfl rfl (.no rfl rfl rfl g16) rfl rfl ?_
      refine d_off rfl rfl (.no rfl rfl rfl g16) rfl rfl ?_
      refine d_q rfl rfl (.none rfl) rfl rfl (q_pickF rfl rfl g16 rfl) ?_
      refine d_nil ?_
      refine run_sub (subMk (.cons (s := 0) rfl (.cons (s := 2) rfl (.cons (s := 3) rfl (.cons (s := 4) rfl (.cons (s := 5) rfl (.cons (s := 27) rfl .nil)))))) .refl) ?_
      refine run_condF rfl rfl ?_
      refine run_exit rfl ?_
      refine run_ownLe Sel.here (fun hle => ?_)
      refine run_fork mixed (by kernel_rfl) .refl ?_
      refine b_q (i := 1) rfl (by kernel_rfl) (.none rfl) rfl rfl (q_move rfl rfl) ?_
      refine b_q (i := 2) rfl (by kernel_rfl) (.none rfl) rfl rfl (q_move rfl rfl) ?_
      refine b_q (i := 3) rfl (by kernel_rfl) (.none rfl) rfl rfl (q_sliceH rfl Try.underlying30 sz25 rfl rfl (by omega)) ?_
      refine b_q (i := 5) rfl (by kernel_rfl) (.none rfl) rfl rfl (q_move rfl rfl) ?_
      refine b_q (i := 6) rfl (by kernel_rfl) (.none rfl) rfl rfl (q_move rfl rfl) ?_
      refine b_q (i := 7) rfl (by kernel_rfl) (.none rfl) rfl rfl (q_indexS (q := i) rfl Try.underlying30 sz25 rfl rfl (.inp hr .no) (by simp <;> omega) rfl (by omega)) ?_
      refine b_q (i := 8) rfl (by kernel_rfl) (.none rfl) rfl rfl (q_loadE rfl agg25 rfl (.inp hr .no) (getmap (by omega)) rfl) ?_
      refine b_q (i := 11) rfl (by kernel_rfl) (.none rfl) rfl rfl (q_move rfl rfl) ?_
      refine b_q (i := 12) rfl (by kernel_rfl) (.none rfl) rfl rfl (q_move rfl rfl) ?_
      refine b_q (i := 13) rfl (by kernel_rfl) (.none rfl) rfl rfl (q_sliceL rfl Try.underlying30 sz25 rfl rfl (by omega)) ?_
      refine b_two 0 9 (by kernel_rfl) ?_ ?_
      · refine b_h rfl (.none rfl) (h_buildSlice rfl rfl rfl Try.underlying30 info25 Parts.nil rfl (by omega)) (fun _ _ => (.sub (by repeat (first | exact List.Sublist.refl _ | apply List.Sublist.cons)))) ?_
        rintro b30 -
        refine b_two 4 9 (by kernel_rfl) ?_ ?_
        · refine b_h rfl (.none rfl) (h_append rfl rfl rfl Try.underlying30 info25 rfl rfl Sel.here rfl ((RdS.own (.there Sel.here)).take j) (by simp [Srt.sort_len]; omega) (fun z hz => Spn_len (List.mem_of_mem_take hz)) (fun z hz => Spn_all (List.mem_of_mem_take hz)) (by omega) (by omega)) (fun _ _ => (.sub (by repeat (first | exact List.Sublist.refl _ | apply List.Sublist.cons)))) ?_
          rintro ⟨A34, c34⟩ -
          refine b_one 9 (by kernel_rfl) ?_
          refine b_h rfl (.none rfl) (h_buildSlice rfl rfl rfl Try.underlying30 info25 (.cons rfl rfl rfl rfl Parts.nil) rfl (by omega)) (fun _ _ => (.sub (by repeat (first | exact List.Sublist.refl _ | apply List.Sublist.cons)))) ?_
          rintro b39 -
          refine b_one 10 (by kernel_rfl) ?_
          refine b_h rfl (.none rfl) (h_append rfl rfl rfl Try.underlying30 info25 rfl rfl (.there Sel.here) rfl (.own Sel.here) rfl (all1 rfl) (all1 rfl) (by omega) (by omega)) (fun _ _ => (.sub (by repeat (first | exact List.Sublist.refl _ | apply List.Sublist.cons)))) ?_
          rintro ⟨A40, c40⟩ -
          refine b_one 14 (by kernel_rfl) ?_
          refine b_h rfl (.none rfl) (h_append rfl rfl rfl Try.underlying30 info25 rfl rfl Sel.here rfl ((RdS.own (.there (.there Sel.here))).cut (l := j) (c := co) (by rw [List.length_map, Srt.sort_len]; exact hle)) (by simp [Srt.sort_len]) (fun z hz => Spn_len (List.mem_of_mem_drop hz)) (fun z hz => Spn_all (List.mem_of_mem_drop hz)) (by omega) (by omega)) (fun _ _ => (.sub (by repeat (first | exact List.Sublist.refl _ | apply List.Sublist.cons)))) ?_
          rintro ⟨A44, c44⟩ -
          refine b_q (i := 15) rfl (by kernel_rfl) (.none rfl) rfl rfl (q_assign rfl rfl) ?_
          refine b_nil (by kernel_rfl) ?_
          refine run_sub (subMk (.cons (s := 0) rfl (.cons (s := 2) rfl (.cons (s := 3) rfl (.cons (s := 4) rfl .nil)))) .refl) ?_
          refine run_blk ?_
          refine run_region ?_
          refine run_q (.none rfl) rfl rfl (q_move rfl rfl) ?_
          refine run_q (.none rfl) rfl rfl (q_add rfl rfl rfl (by omega)) ?_
          refine run_q (.none rfl) rfl rfl (q_assign rfl rfl) ?_
          refine run_nil ?_
          exact run_again (i + 1, A44, c44) (by (try dsimp only); exact (by omega)) (by (try dsimp only); omega) (subMk (.cons' (s := 4) rfl (vint (by omega)) (.cons' (s := 3) rfl (by congr 1; omega) (.cons (s := 0) rfl (.cons (s := 2) rfl .nil)))) (.cons Sel.here (.own rfl (by omega) rfl (by rw [Srt.sort, Srt.ins, Srt.sort_len, hpe]; simp [List.map_take, List.map_drop, vlist, Spn.enc])) .nil))
        · refine b_h rfl (.none rfl) (h_buildSlice rfl rfl rfl Try.underlying30 info25 (.cons rfl rfl rfl rfl Parts.nil) rfl (by omega)) (fun _ _ => (.sub (by repeat (first | exact List.Sublist.refl _ | apply List.Sublist.cons)))) ?_
          rintro b39 -
          refine b_one 4 (by kernel_rfl) ?_
          refine b_h rfl (.none rfl) (h_append rfl rfl rfl Try.underlying30 info25 rfl rfl (.there Sel.here) rfl ((RdS.own (.there (.there Sel.here))).take j) (by simp [Srt.sort_len]; omega) (fun z hz => Spn_len (List.mem_of_mem_take hz)) (fun z hz => Spn_all (List.mem_of_mem_take hz)) (by omega) (by omega)) (fun _ _ => (.sub (by repeat (first | exact List.Sublist.refl _ | apply List.Sublist.cons)))) ?_
          rintro ⟨A34, c34⟩ -
          refine b_one 10 (by kernel_rfl) ?_
          refine b_h rfl (.none rfl) (h_append rfl rfl rfl Try.underlying30 info25 rfl rfl Sel.here rfl (.own (.there Sel.here)) rfl (all1 rfl) (all1 rfl) (by omega) (by omega)) (fun _ _ => (.sub (by repeat (first | exact List.Sublist.refl _ | apply List.Sublist.cons)))) ?_
          rintro ⟨A40, c40⟩ -
          refine b_one 14 (by kernel_rfl) ?_
          refine b_h rfl (.none rfl) (h_append rfl rfl rfl Try.underlying30 info25 rfl rfl Sel.here rfl ((RdS.own (.there (.there Sel.here))).cut (l := j) (c := co) (by rw [List.length_map, Srt.sort_len]; exact hle)) (by simp [Srt.sort_len]) (fun z hz => Spn_len (List.mem_of_mem_drop hz)) (fun z hz => Spn_all (List.mem_of_mem_drop hz)) (by omega) (by omega)) (fun _ _ => (.sub (by repeat (first | exact List.Sublist.refl _ | apply List.Sublist.cons)))) ?_
          rintro ⟨A44, c44⟩ -
          refine b_q (i := 15) rfl (by kernel_rfl) (.none rfl) rfl rfl (q_assign rfl rfl) ?_
          refine b_nil (by kernel_rfl) ?_
          refine run_sub (subMk (.cons (s := 0) rfl (.cons (s := 2) rfl (.cons (s := 3) rfl (.cons (s := 4) rfl .nil)))) .refl) ?_
          refine run_blk ?_
          refine run_region ?_
          refine run_q (.none rfl) rfl rfl (q_move rfl rfl) ?_
          refine run_q (.none rfl) rfl rfl (q_add rfl rfl rfl (by omega)) ?_
          refine run_q (.none rfl) rfl rfl (q_assign rfl rfl) ?_
          refine run_nil ?_
          exact run_again (i + 1, A44, c44) (by (try dsimp only); exact (by omega)) (by (try dsimp only); omega) (subMk (.cons' (s := 4) rfl (vint (by omega)) (.cons' (s := 3) rfl (by congr 1; omega) (.cons (s := 0) rfl (.cons (s := 2) rfl .nil)))) (.cons Sel.here (.own rfl (by omega) rfl (by rw [Srt.sort, Srt.ins, Srt.sort_len, hpe]; simp [List.map_take, List.map_drop, vlist, Spn.enc])) .nil))
      · refine b_h rfl (.none rfl) (h_buildSlice rfl rfl rfl Try.underlying30 info25 (.cons rfl rfl rfl rfl Parts.nil) rfl (by omega)) (fun _ _ => (.sub (by repeat (first | exact List.Sublist.refl _ | apply List.Sublist.cons)))) ?_
        rintro b39 -
        refine b_one 0 (by kernel_rfl) ?_
        refine b_h rfl (.none rfl) (h_buildSlice rfl rfl rfl Try.underlying30 info25 Parts.nil rfl (by omega)) (fun _ _ => (.sub (by repeat (first | exact List.Sublist.refl _ | apply List.Sublist.cons)))) ?_
        rintro b30 -
        refine b_one 4 (by kernel_rfl) ?_
        refine b_h rfl (.none rfl) (h_append rfl rfl rfl Try.underlying30 info25 rfl rfl Sel.here rfl ((RdS.own (.there (.there Sel.here))).take j) (by simp [Srt.sort_len]; omega) (fun z hz => Spn_len (List.mem_of_mem_take hz)) (fun z hz => Spn_all (List.mem_of_mem_take hz)) (by omega) (by omega)) (fun _ _ => (.sub (by repeat (first | exact List.Sublist.refl _ | apply List.Sublist.cons)))) ?_
        rintro ⟨A34, c34⟩ -
        refine b_one 10 (by kernel_rfl) ?_
        refine b_h rfl (.none rfl) (h_append rfl rfl rfl Try.underlying30 info25 rfl rfl Sel.here rfl (.own (.there Sel.here)) rfl (all1 rfl) (all1 rfl) (by omega) (by omega)) (fun _ _ => (.sub (by repeat (first | exact List.Sublist.refl _ | apply List.Sublist.cons)))) ?_
        rintro ⟨A40, c40⟩ -
        refine b_one 14 (by kernel_rfl) ?_
        refine b_h rfl (.none rfl) (h_append rfl rfl rfl Try.underlying30 info25 rfl rfl Sel.here rfl ((RdS.own (.there (.there Sel.here))).cut (l := j) (c := co) (by rw [List.length_map, Srt.sort_len]; exact hle)) (by simp [Srt.sort_len]) (fun z hz => Spn_len (List.mem_of_mem_drop hz)) (fun z hz => Spn_all (List.mem_of_mem_drop hz)) (by omega) (by omega)) (fun _ _ => (.sub (by repeat (first | exact List.Sublist.refl _ | apply List.Sublist.cons)))) ?_
        rintro ⟨A44, c44⟩ -
        refine b_q (i := 15) rfl (by kernel_rfl) (.none rfl) rfl rfl (q_assign rfl rfl) ?_
        refine b_nil (by kernel_rfl) ?_
        refine run_sub (subMk (.cons (s := 0) rfl (.cons (s := 2) rfl (.cons (s := 3) rfl (.cons (s := 4) rfl .nil)))) .refl) ?_
        refine run_blk ?_
        refine run_region ?_
        refine run_q (.none rfl) rfl rfl (q_move rfl rfl) ?_
        refine run_q (.none rfl) rfl rfl (q_add rfl rfl rfl (by omega)) ?_
        refine run_q (.none rfl) rfl rfl (q_assign rfl rfl) ?_
        refine run_nil ?_
        exact run_again (i + 1, A44, c44) (by (try dsimp only); exact (by omega)) (by (try dsimp only); omega) (subMk (.cons' (s := 4) rfl (vint (by omega)) (.cons' (s := 3) rfl (by congr 1; omega) (.cons (s := 0) rfl (.cons (s := 2) rfl .nil)))) (.cons Sel.here (.own rfl (by omega) rfl (by rw [Srt.sort, Srt.ins, Srt.sort_len, hpe]; simp [List.map_take, List.map_drop, vlist, Spn.enc])) .nil))
  · have g9' := g9
    try simp only [decide_eq_true_eq, decide_eq_false_iff_not, beq_iff_eq, beq_eq_false_iff_ne, bne_iff_ne, bne_eq_false_iff_eq, Bool.not_eq_true', Bool.not_eq_false', ne_eq, Int.not_lt, Int.not_le, Decidable.not_not] at g9'
    refine run_exit rfl ?_
    refine run_sub (subMk (.cons (s := 2) rfl (.cons (s := 3) rfl .nil)) .refl) ?_
    refine run_seq ?_
    refine run_region ?_
    refine run_q (.none rfl) rfl rfl (q_move rfl rfl) ?_
    refine run_q (.none rfl) rfl rfl (q_assign rfl rfl) ?_
    refine run_nil ?_
    refine run_ret ?_
    refine run_sub (subMk .refl (.cons Sel.here (.own (m' := l.length) (xs' := (ordS l).map Spn.enc) rfl (by omega) rfl (by rw [ordS, show l.length = i from by omega])) .nil)) ?_
    exact end1 rfl rfl ⟨O, co, by rw [show i = l.length from by omega], rfl⟩

end Go.Proofs.Ytomhegnaojejnaa
