/- Three laws, in the program. -/
import Derived.Test.YtgphmbipakdggaaRF
import Derived.Test.YtgphmbipakdggaaREqs
set_option linter.unusedSimpArgs false
set_option linter.unusedVariables false
namespace Go.Proofs.YtgphmbipakdggaaR
open Go Go.RowKit Hr

theorem call13 : Hr.Callable Try.prog 13 := fun args w => by kernel_rfl
theorem call15 : Hr.Callable Try.prog 15 := fun args w => by kernel_rfl
theorem eqg25 : Try.prog.eqGuardType Try.prog.depth 25 = false := by kernel_rfl
theorem stood25 : Try.prog.stoodInHeld 25 = false := by kernel_rfl
theorem stood23 : Try.prog.stoodInHeld 23 = false := by kernel_rfl
set_option maxRecDepth 100000 in
theorem eqs23d9999 (a0 a1 b0 b1 : Int) (w : World) : (Op.equalIn 9999 23 (.agg #[.int .i64 a0, .int .i64 a1]) (.agg #[.int .i64 b0, .int .i64 b1])).run Try.prog w = .ok (a0 == b0 && (a1 == b1)) w := by
  rw [run_equalIn_struct w 9998 23 _ _ (by simp only [Program.fieldsOf, Try.underlying23]) stood23]
  simp only [Program.fieldsOf, Try.underlying23]
  exact Eq.trans (eqF_cons (by decide) (part_one one3 rfl) (part_one one3 rfl) (run_equalIn_int w 9997 3 .i64 .i64 a0 b0 Try.underlying3) (eqF_cons (by decide) (part_one one3 rfl) (part_one one3 rfl) (run_equalIn_int w 9997 3 .i64 .i64 a1 b1 Try.underlying3) eqF_nil)) (by simp only [Bool.and_true, Bool.and_assoc])
set_option maxRecDepth 100000 in
theorem eqs25 (a0 a1 a2 a3 a4 a5 a6 a7 a8 a9 a10 a11 a12 b0 b1 b2 b3 b4 b5 b6 b7 b8 b9 b10 b11 b12 : Int) (w : World) : (Op.equalIn 10000 25 (.agg #[.int .i64 a0, .int .i64 a1, .int .i64 a2, .int .i64 a3, .int .i64 a4, .int .i64 a5, .int .i64 a6, .int .i64 a7, .int .i64 a8, .int .i64 a9, .int .i64 a10, .int .i64 a11, .int .i64 a12]) (.agg #[.int .i64 b0, .int .i64 b1, .int .i64 b2, .int .i64 b3, .int .i64 b4, .int .i64 b5, .int .i64 b6, .int .i64 b7, .int .i64 b8, .int .i64 b9, .int .i64 b10, .int .i64 b11, .int .i64 b12])).run Try.prog w = .ok (a0 == b0 && (a1 == b1 && (a2 == b2 && (a3 == b3 && (a4 == b4 && (a5 == b5 && (a6 == b6 && (a7 == b7 && (a8 == b8 && (a9 == b9 && (a10 == b10 && (a11 == b11 && (a12 == b12))))))))))))) w := by
  rw [run_equalIn_struct w 9999 25 _ _ (by simp only [Program.fieldsOf, Try.underlying25]) stood25]
  simp only [Program.fieldsOf, Try.underlying25]
  exact Eq.trans (eqF_cons (by decide) (part_one one3 rfl) (part_one one3 rfl) (run_equalIn_int w 9998 3 .i64 .i64 a0 b0 Try.underlying3) (eqF_cons (by decide) (part_one one3 rfl) (part_one one3 rfl) (run_equalIn_int w 9998 3 .i64 .i64 a1 b1 Try.underlying3) (eqF_cons (by decide) (part_one one3 rfl) (part_one one3 rfl) (run_equalIn_int w 9998 3 .i64 .i64 a2 b2 Try.underlying3) (eqF_cons (by decide) (part_one one3 rfl) (part_one one3 rfl) (run_equalIn_int w 9998 3 .i64 .i64 a3 b3 Try.underlying3) (eqF_cons (by decide) (part_one one3 rfl) (part_one one3 rfl) (run_equalIn_int w 9998 3 .i64 .i64 a4 b4 Try.underlying3) (eqF_cons (by decide) (part_one one3 rfl) (part_one one3 rfl) (run_equalIn_int w 9998 3 .i64 .i64 a5 b5 Try.underlying3) (eqF_cons (by decide) (part_one one3 rfl) (part_one one3 rfl) (run_equalIn_int w 9998 3 .i64 .i64 a6 b6 Try.underlying3) (eqF_cons (by decide) (part_one one3 rfl) (part_one one3 rfl) (run_equalIn_int w 9998 3 .i64 .i64 a7 b7 Try.underlying3) (eqF_cons (by decide) (part_agg agg23 rfl) (part_agg agg23 rfl) (eqs23d9999 a8 a9 b8 b9 w) (eqF_cons (by decide) (part_one one3 rfl) (part_one one3 rfl) (run_equalIn_int w 9998 3 .i64 .i64 a10 b10 Try.underlying3) (eqF_cons (by decide) (part_one one3 rfl) (part_one one3 rfl) (run_equalIn_int w 9998 3 .i64 .i64 a11 b11 Try.underlying3) (eqF_cons (by decide) (part_one one3 rfl) (part_one one3 rfl) (run_equalIn_int w 9998 3 .i64 .i64 a12 b12 Try.underlying3) eqF_nil)))))))))))) (by simp only [Bool.and_true, Bool.and_assoc])
theorem built25p0p1p2p3p4p5p6p8p11 (x0y : Int) (x1y : Int) (x2y : Int) (x3y : Int) (x4y : Int) (x5y : Int) (x6y : Int) (x8y0 : Int) (x8y1 : Int) (x11y : Int) : Try.prog.built 25 [(0, .int .i64 x0y), (1, .int .i64 x1y), (2, .int .i64 x2y), (3, .int .i64 x3y), (4, .int .i64 x4y), (5, .int .i64 x5y), (6, .int .i64 x6y), (8, .agg #[.int .i64 x8y0, .int .i64 x8y1]), (11, .int .i64 x11y)] = some #[.int .i64 x0y, .int .i64 x1y, .int .i64 x2y, .int .i64 x3y, .int .i64 x4y, .int .i64 x5y, .int .i64 x6y, .int .i64 0, .int .i64 x8y0, .int .i64 x8y1, .int .i64 0, .int .i64 0, .int .i64 x11y] := by kernel_rfl
theorem call23 : Hr.Callable Try.prog 23 := fun args w => by kernel_rfl

set_option maxRecDepth 100000 in
theorem law3_just (x : Req) (n : Int) (W : World)  : Calls Try.prog 3 #[x.val, .int .i64 n] W (Hr.Just W (.bool true)) := by
  refine Just.of_ret ?_
  refine enterA (X := nX) (vs := [x.val, .int .i64 n]) Try.func3 Try.ntmps3 rfl rfl Mem.nil ?_
  refine run_seq ?_
  refine run_region ?_
  refine run_h (.none rfl) (h_box rfl rfl rfl rfl rfl) ?_
  rintro b2 -
  refine run_q (.none rfl) rfl rfl (q_assign rfl rfl) ?_
  refine run_nil ?_
  refine run_seq ?_
  refine run_draw [(0, 0), (1, 0), (2, 0), (3, 0), (4, 0), (5, 0), (6, 0), (7, 0), (8, 0), (9, 0), (10, 0)] mixed (by kernel_rfl) .refl ?_
  refine d_q rfl rfl (.none rfl) rfl rfl (q_call rfl call13 Evs.nil (fun w hk hm => known_just w)) ?_
  refine d_q rfl rfl (.none rfl) rfl rfl (q_move rfl rfl) ?_
  refine d_q rfl rfl (.on rfl rfl rfl rfl) rfl rfl (q_loadBN rfl agg25 rfl Sel.here (.cons rfl (.cons rfl (.cons rfl (.cons rfl (.cons rfl (.cons rfl (.cons rfl (.cons rfl (.cons rfl (.cons rfl (.cons rfl (.cons rfl (.cons rfl CellsAt.nil))))))))))))) rfl) ?_
  refine d_q rfl rfl (.on rfl rfl rfl rfl) rfl rfl (q_move rfl rfl) ?_
  refine d_q rfl rfl (.on rfl rfl rfl rfl) rfl rfl (q_call rfl call14 (.cons rfl (.cons rfl Evs.nil)) (fun w hk hm => check_just x n w)) ?_
  refine d_q rfl rfl (.on rfl rfl rfl rfl) rfl rfl (q_loadBN rfl agg25 rfl Sel.here (.cons rfl (.cons rfl (.cons rfl (.cons rfl (.cons rfl (.cons rfl (.cons rfl (.cons rfl (.cons rfl (.cons rfl (.cons rfl (.cons rfl (.cons rfl CellsAt.nil))))))))))))) rfl) ?_
  refine d_q rfl rfl (.on rfl rfl rfl rfl) rfl rfl (q_move rfl rfl) ?_
  refine d_q rfl rfl (.on rfl rfl rfl rfl) rfl rfl (q_call rfl call15 (.cons rfl (.cons rfl Evs.nil)) (fun w hk hm => refcheck_just x n w)) ?_
  refine d_q rfl rfl (.on rfl rfl rfl rfl) rfl rfl (q_eql rfl rfl rfl) ?_
  refine d_q rfl rfl (.none rfl) rfl rfl (q_pickT rfl rfl rfl rfl) ?_
  refine d_q rfl rfl (.none rfl) rfl rfl (q_assign rfl rfl) ?_
  refine d_nil ?_
  refine run_sub (subMk (.cons (s := 4) rfl .nil) .refl) ?_
  refine run_ret ?_
  exact end1 rfl rfl (by simp)

set_option maxHeartbeats 2000000 in
set_option maxRecDepth 100000 in
theorem law4_just (k site num i t f l : Int) (W : World)  : Calls Try.prog 4 #[.int .i64 k, .agg #[.int .i64 site, .int .i64 num], .agg #[.int .i64 i, .int .i64 t, .int .i64 f, .int .i64 l]] W (Hr.Just W (.bool true)) := by
  refine Just.of_ret ?_
  refine enterA (X := nX) (vs := [.int .i64 k, .agg #[.int .i64 site, .int .i64 num], .agg #[.int .i64 i, .int .i64 t, .int .i64 f, .int .i64 l]]) Try.func4 Try.ntmps4 rfl rfl Mem.nil ?_
  refine run_seq ?_
  refine run_region ?_
  refine run_h (.none rfl) (h_box rfl rfl rfl rfl rfl) ?_
  rintro b4 -
  refine run_h (.none rfl) (h_box rfl rfl rfl rfl rfl) ?_
  rintro b5 -
  refine run_q (.none rfl) rfl rfl (q_assign rfl rfl) ?_
  refine run_nil ?_
  refine run_seq ?_
  refine run_region ?_
  refine run_q (.none rfl) rfl rfl (q_move rfl rfl) ?_
  refine run_q (.none rfl) rfl rfl (q_loadBN rfl agg23 rfl (.there Sel.here) (.cons rfl (.cons rfl CellsAt.nil)) rfl) ?_
  refine run_q (.none rfl) rfl rfl (q_indexB (q := 0) (d := 0) rfl Try.underlying30 sz3 rfl rfl rfl (by decide) rfl) ?_
  refine run_q (.none rfl) rfl rfl (q_loadB rfl one3 rfl Sel.here rfl) ?_
  refine run_q (.none rfl) rfl rfl (q_indexB (q := 1) (d := 1) rfl Try.underlying30 sz3 rfl rfl rfl (by decide) rfl) ?_
  refine run_q (.none rfl) rfl rfl (q_loadB rfl one3 rfl Sel.here rfl) ?_
  refine run_q (.none rfl) rfl rfl (q_indexB (q := 2) (d := 2) rfl Try.underlying30 sz3 rfl rfl rfl (by decide) rfl) ?_
  refine run_q (.none rfl) rfl rfl (q_loadB rfl one3 rfl Sel.here rfl) ?_
  refine run_q (.none rfl) rfl rfl (q_indexB (q := 3) (d := 3) rfl Try.underlying30 sz3 rfl rfl rfl (by decide) rfl) ?_
  refine run_q (.none rfl) rfl rfl (q_loadB rfl one3 rfl Sel.here rfl) ?_
  refine run_q (.none rfl) rfl rfl (q_call rfl call16 (.cons rfl (.cons rfl (.cons rfl (.cons rfl (.cons rfl (.cons rfl Evs.nil)))))) (fun w hk hm => line_just k site num i t f l w)) ?_
  refine run_q (.none rfl) rfl rfl (q_move rfl rfl) ?_
  refine run_q (.none rfl) rfl rfl (q_extract rfl rfl rfl) ?_
  refine run_q (.none rfl) rfl rfl (q_extract rfl rfl rfl) ?_
  refine run_h (.none rfl) (h_alloc rfl rfl rfl info25) ?_
  rintro b7 -
  refine run_h (.none rfl) (h_storeB rfl rfl sz25 rfl rfl rfl rfl rfl Sel.here rfl) ?_
  rintro - -
  refine run_q (.none rfl) rfl rfl (q_assign rfl rfl) ?_
  refine run_nil ?_
  refine run_sub (subMk (.cons (s := 0) rfl (.cons (s := 4) rfl (.cons (s := 5) rfl (.cons (s := 6) rfl (.cons (s := 7) rfl (.cons (s := 8) rfl .nil)))))) .refl) ?_
  refine run_seq ?_
  refine run_seq ?_
  refine run_region ?_
  refine run_q (.none rfl) rfl rfl (q_call rfl call13 Evs.nil (fun w hk hm => known_just w)) ?_
  refine run_q (.none rfl) rfl rfl (q_not rfl rfl) ?_
  refine run_nil ?_
  refine run_condF rfl rfl ?_
  refine run_skip ?_
  refine run_seq ?_
  refine run_region ?_
  refine run_q (.none rfl) rfl rfl (q_assign rfl rfl) ?_
  refine run_q (.none rfl) rfl rfl (q_assign rfl rfl) ?_
  refine run_nil ?_
  refine run_seq ?_
  refine run_seq ?_
  refine run_region ?_
  refine run_q (.none rfl) rfl rfl (q_move rfl rfl) ?_
  refine run_nil ?_
  refine run_sub (subMk (.cons (s := 4) rfl (.cons (s := 5) rfl (.cons (s := 6) rfl (.cons (s := 7) rfl (.cons (s := 8) rfl (.cons (s := 9) rfl (.cons (s := 10) rfl (.cons (s := 27) rfl .nil)))))))) .refl) ?_
  refine run_block ?_
  refine run_seq ?_
  refine run_seq ?_
  refine run_region ?_
  refine run_q (.none rfl) rfl rfl (q_eql rfl rfl rfl) ?_
  refine run_q (.none rfl) rfl rfl (q_assign rfl rfl) ?_
  refine run_nil ?_
  refine run_cond rfl (fun g35 => ?_) (fun g35 => ?_)
  · have g35' := g35
    try simp only [decide_eq_true_eq, decide_eq_false_iff_not, beq_iff_eq, beq_eq_false_iff_ne, bne_iff_ne, bne_eq_false_iff_eq, Bool.not_eq_true', Bool.not_eq_false', ne_eq, Int.not_lt, Int.not_le, Decidable.not_not] at g35'
    refine run_skip ?_
    refine run_condT rfl g35 ?_
    refine run_region ?_
    refine run_q (.none rfl) rfl rfl (q_assign rfl rfl) ?_
    refine run_nil ?_
    refine run_sub (subMk (.cons (s := 4) rfl (.cons (s := 5) rfl (.cons (s := 6) rfl (.cons (s := 7) rfl (.cons (s := 8) rfl (.cons (s := 9) rfl (.cons (s := 10) rfl .nil))))))) .refl) ?_
    refine run_blk ?_
    refine run_seq ?_
    refine run_seq ?_
    refine run_region ?_
    refine run_q (.none rfl) rfl rfl (q_indexB (q := 0) (d := 0) rfl Try.underlying30 sz3 rfl rfl rfl (by decide) rfl) ?_
    refine run_q (.none rfl) rfl rfl (q_loadB rfl one3 rfl (.there Sel.here) rfl) ?_
    refine run_q (.none rfl) rfl rfl (q_lss rfl rfl rfl) ?_
    refine run_q (.none rfl) rfl rfl (q_move rfl rfl) ?_
    refine run_split 49 rfl (fun g49 => ?_) (fun g49 => ?_)
    · have g49' := g49
      try simp only [decide_eq_true_eq, decide_eq_false_iff_not, beq_iff_eq, beq_eq_false_iff_ne, bne_iff_ne, bne_eq_false_iff_eq, Bool.not_eq_true', Bool.not_eq_false', ne_eq, Int.not_lt, Int.not_le, Decidable.not_not] at g49'
      refine run_off (.no rfl rfl rfl g49) rfl rfl ?_
      refine run_off (.no rfl rfl rfl g49) rfl rfl ?_
      refine run_off (.no rfl rfl rfl g49) rfl rfl ?_
      refine run_q (.none rfl) rfl rfl (q_pickT rfl rfl g49 rfl) ?_
      refine run_q (.none rfl) rfl rfl (q_move rfl rfl) ?_
      refine run_off (.no rfl rfl rfl rfl) rfl rfl ?_
      refine run_off (.no rfl rfl rfl rfl) rfl rfl ?_
      refine run_off (.no rfl rfl rfl rfl) rfl rfl ?_
      refine run_q (.none rfl) rfl rfl (q_pickT rfl rfl rfl rfl) ?_
      refine run_q (.none rfl) rfl rfl (q_move rfl rfl) ?_
      refine run_off (.no rfl rfl rfl rfl) rfl rfl ?_
      refine run_off (.no rfl rfl rfl rfl) rfl rfl ?_
      refine run_off (.no rfl rfl rfl rfl) rfl rfl ?_
      refine run_off (.no rfl rfl rfl rfl) rfl rfl ?_
      refine run_off (.no rfl rfl rfl rfl) rfl rfl ?_
      refine run_q (.none rfl) rfl rfl (q_pickT rfl rfl rfl rfl) ?_
      refine run_nil ?_
      refine run_sub (subMk (.cons (s := 4) rfl (.cons (s := 5) rfl (.cons (s := 6) rfl (.cons (s := 7) rfl (.cons (s := 8) rfl (.cons (s := 9) rfl (.cons (s := 10) rfl (.cons (s := 65) rfl .nil)))))))) .refl) ?_
      refine run_condT rfl rfl ?_
      refine run_seq ?_
      have hL : lineV k site num i t f l = (default, 2) := by subst g35'; rw [lineV, if_neg (by decide), if_pos (by omega)]
      refine run_region ?_
      refine run_q (.none rfl) rfl rfl (q_loadBN rfl agg25 rfl Sel.here (.cons rfl (.cons rfl (.cons rfl (.cons rfl (.cons rfl (.cons rfl (.cons rfl (.cons rfl (.cons rfl (.cons rfl (.cons rfl (.cons rfl (.cons rfl CellsAt.nil))))))))))))) rfl) ?_
      refine run_q (.none rfl) rfl rfl (q_build rfl PV.nil (built25)) ?_
      refine run_q (.none rfl) rfl rfl (q_eqlS rfl rfl rfl eqg25 (fun w => eqs25 _ _ _ _ _ _ _ _ _ _ _ _ _ _ _ _ _ _ _ _ _ _ _ _ _ _ w)) ?_
      refine run_q (.none rfl) rfl rfl (q_move rfl rfl) ?_
      refine run_q (.on rfl rfl rfl (by rw [hL]; rfl)) rfl rfl (q_move rfl rfl) ?_
      refine run_q (.on rfl rfl rfl (by rw [hL]; rfl)) rfl rfl (q_eql rfl rfl rfl) ?_
      refine run_q (.none rfl) rfl rfl (q_pickT rfl rfl (by rw [hL]; rfl) rfl) ?_
      refine run_q (.none rfl) rfl rfl (q_assign rfl rfl) ?_
      refine run_nil ?_
      refine run_sub (subMk (.cons (s := 4) rfl (.cons (s := 5) rfl (.cons (s := 6) rfl (.cons (s := 7) rfl (.cons (s := 8) rfl (.cons (s := 9) rfl (.cons (s := 10) rfl .nil))))))) .refl) ?_
      refine run_ret ?_
      exact end1 rfl rfl (by rw [hL]; simp)
    · have g49' := g49
      try simp only [decide_eq_true_eq, decide_eq_false_iff_not, beq_iff_eq, beq_eq_false_iff_ne, bne_iff_ne, bne_eq_false_iff_eq, Bool.not_eq_true', Bool.not_eq_false', ne_eq, Int.not_lt, Int.not_le, Decidable.not_not] at g49'
      refine run_q (.on rfl rfl rfl g49) rfl rfl (q_indexB (q := 1) (d := 1) rfl Try.underlying30 sz3 rfl rfl rfl (by decide) rfl) ?_
      refine run_q (.on rfl rfl rfl g49) rfl rfl (q_loadB rfl one3 rfl (.there Sel.here) rfl) ?_
      refine run_q (.on rfl rfl rfl g49) rfl rfl (q_lss rfl rfl rfl) ?_
      refine run_q (.none rfl) rfl rfl (q_pickF rfl rfl g49 rfl) ?_
      refine run_q (.none rfl) rfl rfl (q_move rfl rfl) ?_
      refine run_split 54 rfl (fun g54 => ?_) (fun g54 => ?_)
      · have g54' := g54
        try simp only [decide_eq_true_eq, decide_eq_false_iff_not, beq_iff_eq, beq_eq_false_iff_ne, bne_iff_ne, bne_eq_false_iff_eq, Bool.not_eq_true', Bool.not_eq_false', ne_eq, Int.not_lt, Int.not_le, Decidable.not_not] at g54'
        refine run_off (.no rfl rfl rfl g54) rfl rfl ?_
        refine run_off (.no rfl rfl rfl g54) rfl rfl ?_
        refine run_off (.no rfl rfl rfl g54) rfl rfl ?_
        refine run_q (.none rfl) rfl rfl (q_pickT rfl rfl g54 rfl) ?_
        refine run_q (.none rfl) rfl rfl (q_move rfl rfl) ?_
        refine run_off (.no rfl rfl rfl rfl) rfl rfl ?_
        refine run_off (.no rfl rfl rfl rfl) rfl rfl ?_
        refine run_off (.no rfl rfl rfl rfl) rfl rfl ?_
        refine run_off (.no rfl rfl rfl rfl) rfl rfl ?_
        refine run_off (.no rfl rfl rfl rfl) rfl rfl ?_
        refine run_q (.none rfl) rfl rfl (q_pickT rfl rfl rfl rfl) ?_
        refine run_nil ?_
        refine run_sub (subMk (.cons (s := 4) rfl (.cons (s := 5) rfl (.cons (s := 6) rfl (.cons (s := 7) rfl (.cons (s := 8) rfl (.cons (s := 9) rfl (.cons (s := 10) rfl (.cons (s := 65) rfl .nil)))))))) .refl) ?_
        refine run_condT rfl rfl ?_
        refine run_seq ?_
        have hL : lineV k site num i t f l = (default, 2) := by subst g35'; rw [lineV, if_neg (by decide), if_pos (by omega)]
        refine run_region ?_
        refine run_q (.none rfl) rfl rfl (q_loadBN rfl agg25 rfl Sel.here (.cons rfl (.cons rfl (.cons rfl (.cons rfl (.cons rfl (.cons rfl (.cons rfl (.cons rfl (.cons rfl (.cons rfl (.cons rfl (.cons rfl (.cons rfl CellsAt.nil))))))))))))) rfl) ?_
        refine run_q (.none rfl) rfl rfl (q_build rfl PV.nil (built25)) ?_
        refine run_q (.none rfl) rfl rfl (q_eqlS rfl rfl rfl eqg25 (fun w => eqs25 _ _ _ _ _ _ _ _ _ _ _ _ _ _ _ _ _ _ _ _ _ _ _ _ _ _ w)) ?_
        refine run_q (.none rfl) rfl rfl (q_move rfl rfl) ?_
        refine run_q (.on rfl rfl rfl (by rw [hL]; rfl)) rfl rfl (q_move rfl rfl) ?_
        refine run_q (.on rfl rfl rfl (by rw [hL]; rfl)) rfl rfl (q_eql rfl rfl rfl) ?_
        refine run_q (.none rfl) rfl rfl (q_pickT rfl rfl (by rw [hL]; rfl) rfl) ?_
        refine run_q (.none rfl) rfl rfl (q_assign rfl rfl) ?_
        refine run_nil ?_
        refine run_sub (subMk (.cons (s := 4) rfl (.cons (s := 5) rfl (.cons (s := 6) rfl (.cons (s := 7) rfl (.cons (s := 8) rfl (.cons (s := 9) rfl (.cons (s := 10) rfl .nil))))))) .refl) ?_
        refine run_ret ?_
        exact end1 rfl rfl (by rw [hL]; simp)
      · have g54' := g54
        try simp only [decide_eq_true_eq, decide_eq_false_iff_not, beq_iff_eq, beq_eq_false_iff_ne, bne_iff_ne, bne_eq_false_iff_eq, Bool.not_eq_true', Bool.not_eq_false', ne_eq, Int.not_lt, Int.not_le, Decidable.not_not] at g54'
        refine run_q (.on rfl rfl rfl g54) rfl rfl (q_indexB (q := 2) (d := 2) rfl Try.underlying30 sz3 rfl rfl rfl (by decide) rfl) ?_
        refine run_q (.on rfl rfl rfl g54) rfl rfl (q_loadB rfl one3 rfl (.there Sel.here) rfl) ?_
        refine run_q (.on rfl rfl rfl g54) rfl rfl (q_lss rfl rfl rfl) ?_
        refine run_q (.none rfl) rfl rfl (q_pickF rfl rfl g54 rfl) ?_
        refine run_q (.none rfl) rfl rfl (q_move rfl rfl) ?_
        refine run_split 59 rfl (fun g59 => ?_) (fun g59 => ?_)
        · have g59' := g59
          try simp only [decide_eq_true_eq, decide_eq_false_iff_not, beq_iff_eq, beq_eq_false_iff_ne, bne_iff_ne, bne_eq_false_iff_eq, Bool.not_eq_true', Bool.not_eq_false', ne_eq, Int.not_lt, Int.not_le, Decidable.not_not] at g59'
          refine run_off (.no rfl rfl rfl g59) rfl rfl ?_
          refine run_off (.no rfl rfl rfl g59) rfl rfl ?_
          refine run_off (.no rfl rfl rfl g59) rfl rfl ?_
          refine run_off (.no rfl rfl rfl g59) rfl rfl ?_
          refine run_off (.no rfl rfl rfl g59) rfl rfl ?_
          refine run_q (.none rfl) rfl rfl (q_pickT rfl rfl g59 rfl) ?_
          refine run_nil ?_
          refine run_sub (subMk (.cons (s := 4) rfl (.cons (s := 5) rfl (.cons (s := 6) rfl (.cons (s := 7) rfl (.cons (s := 8) rfl (.cons (s := 9) rfl (.cons (s := 10) rfl (.cons (s := 65) rfl .nil)))))))) .refl) ?_
          refine run_condT rfl rfl ?_
          refine run_seq ?_
          have hL : lineV k site num i t f l = (default, 2) := by subst g35'; rw [lineV, if_neg (by decide), if_pos (by omega)]
          refine run_region ?_
          refine run_q (.none rfl) rfl rfl (q_loadBN rfl agg25 rfl Sel.here (.cons rfl (.cons rfl (.cons rfl (.cons rfl (.cons rfl (.cons rfl (.cons rfl (.cons rfl (.cons rfl (.cons rfl (.cons rfl (.cons rfl (.cons rfl CellsAt.nil))))))))))))) rfl) ?_
          refine run_q (.none rfl) rfl rfl (q_build rfl PV.nil (built25)) ?_
          refine run_q (.none rfl) rfl rfl (q_eqlS rfl rfl rfl eqg25 (fun w => eqs25 _ _ _ _ _ _ _ _ _ _ _ _ _ _ _ _ _ _ _ _ _ _ _ _ _ _ w)) ?_
          refine run_q (.none rfl) rfl rfl (q_move rfl rfl) ?_
          refine run_q (.on rfl rfl rfl (by rw [hL]; rfl)) rfl rfl (q_move rfl rfl) ?_
          refine run_q (.on rfl rfl rfl (by rw [hL]; rfl)) rfl rfl (q_eql rfl rfl rfl) ?_
          refine run_q (.none rfl) rfl rfl (q_pickT rfl rfl (by rw [hL]; rfl) rfl) ?_
          refine run_q (.none rfl) rfl rfl (q_assign rfl rfl) ?_
          refine run_nil ?_
          refine run_sub (subMk (.cons (s := 4) rfl (.cons (s := 5) rfl (.cons (s := 6) rfl (.cons (s := 7) rfl (.cons (s := 8) rfl (.cons (s := 9) rfl (.cons (s := 10) rfl .nil))))))) .refl) ?_
          refine run_ret ?_
          exact end1 rfl rfl (by rw [hL]; simp)
        · have g59' := g59
          try simp only [decide_eq_true_eq, decide_eq_false_iff_not, beq_iff_eq, beq_eq_false_iff_ne, bne_iff_ne, bne_eq_false_iff_eq, Bool.not_eq_true', Bool.not_eq_false', ne_eq, Int.not_lt, Int.not_le, Decidable.not_not] at g59'
          refine run_q (.on rfl rfl rfl g59) rfl rfl (q_indexB (q := 3) (d := 3) rfl Try.underlying30 sz3 rfl rfl rfl (by decide) rfl) ?_
          refine run_q (.on rfl rfl rfl g59) rfl rfl (q_loadB rfl one3 rfl (.there Sel.here) rfl) ?_
          refine run_q (.on rfl rfl rfl g59) rfl rfl (q_indexB (q := 2) (d := 2) rfl Try.underlying30 sz3 rfl rfl rfl (by decide) rfl) ?_
          refine run_q (.on rfl rfl rfl g59) rfl rfl (q_loadB rfl one3 rfl (.there Sel.here) rfl) ?_
          refine run_q (.on rfl rfl rfl g59) rfl rfl (q_lss rfl rfl rfl) ?_
          refine run_q (.none rfl) rfl rfl (q_pickF rfl rfl g59 rfl) ?_
          refine run_nil ?_
          refine run_sub (subMk (.cons (s := 4) rfl (.cons (s := 5) rfl (.cons (s := 6) rfl (.cons (s := 7) rfl (.cons (s := 8) rfl (.cons (s := 9) rfl (.cons (s := 10) rfl (.cons (s := 65) rfl .nil)))))))) .refl) ?_
          refine run_cond rfl (fun g65 => ?_) (fun g65 => ?_)
          · have g65' := g65
            try simp only [decide_eq_true_eq, decide_eq_false_iff_not, beq_iff_eq, beq_eq_false_iff_ne, bne_iff_ne, bne_eq_false_iff_eq, Bool.not_eq_true', Bool.not_eq_false', ne_eq, Int.not_lt, Int.not_le, Decidable.not_not] at g65'
            refine run_seq ?_
            have hL : lineV k site num i t f l = (default, 2) := by subst g35'; rw [lineV, if_neg (by decide), if_pos (by omega)]
            refine run_region ?_
            refine run_q (.none rfl) rfl rfl (q_loadBN rfl agg25 rfl Sel.here (.cons rfl (.cons rfl (.cons rfl (.cons rfl (.cons rfl (.cons rfl (.cons rfl (.cons rfl (.cons rfl (.cons rfl (.cons rfl (.cons rfl (.cons rfl CellsAt.nil))))))))))))) rfl) ?_
            refine run_q (.none rfl) rfl rfl (q_build rfl PV.nil (built25)) ?_
            refine run_q (.none rfl) rfl rfl (q_eqlS rfl rfl rfl eqg25 (fun w => eqs25 _ _ _ _ _ _ _ _ _ _ _ _ _ _ _ _ _ _ _ _ _ _ _ _ _ _ w)) ?_
            refine run_q (.none rfl) rfl rfl (q_move rfl rfl) ?_
            refine run_q (.on rfl rfl rfl (by rw [hL]; rfl)) rfl rfl (q_move rfl rfl) ?_
            refine run_q (.on rfl rfl rfl (by rw [hL]; rfl)) rfl rfl (q_eql rfl rfl rfl) ?_
            refine run_q (.none rfl) rfl rfl (q_pickT rfl rfl (by rw [hL]; rfl) rfl) ?_
            refine run_q (.none rfl) rfl rfl (q_assign rfl rfl) ?_
            refine run_nil ?_
            refine run_sub (subMk (.cons (s := 4) rfl (.cons (s := 5) rfl (.cons (s := 6) rfl (.cons (s := 7) rfl (.cons (s := 8) rfl (.cons (s := 9) rfl (.cons (s := 10) rfl .nil))))))) .refl) ?_
            refine run_ret ?_
            exact end1 rfl rfl (by rw [hL]; simp)
          · have g65' := g65
            try simp only [decide_eq_true_eq, decide_eq_false_iff_not, beq_iff_eq, beq_eq_false_iff_ne, bne_iff_ne, bne_eq_false_iff_eq, Bool.not_eq_true', Bool.not_eq_false', ne_eq, Int.not_lt, Int.not_le, Decidable.not_not] at g65'
            refine run_skip ?_
            refine run_seq ?_
            have hL : lineV k site num i t f l = (⟨55, i, t, f, l, -1, -1 * 136, 0, site, num, 0, 0, 32⟩, 0) := by subst g35'; rw [lineV, if_neg (by decide), if_neg (by omega)]; rfl
            refine run_region ?_
            refine run_q (.none rfl) rfl rfl (q_move rfl rfl) ?_
            refine run_q (.none rfl) rfl rfl (q_eql rfl rfl rfl) ?_
            refine run_q (.none rfl) rfl rfl (q_move rfl rfl) ?_
            refine run_q (.on rfl rfl rfl (by rw [hL]; rfl)) rfl rfl (q_loadBN rfl agg25 rfl Sel.here (.cons rfl (.cons rfl (.cons rfl (.cons rfl (.cons rfl (.cons rfl (.cons rfl (.cons rfl (.cons rfl (.cons rfl (.cons rfl (.cons rfl (.cons rfl CellsAt.nil))))))))))))) rfl) ?_
            refine run_q (.on rfl rfl rfl (by rw [hL]; rfl)) rfl rfl (q_move rfl rfl) ?_
            refine run_q (.on rfl rfl rfl (by rw [hL]; rfl)) rfl rfl (q_indexB (q := 0) (d := 0) rfl Try.underlying30 sz3 rfl rfl rfl (by decide) rfl) ?_
            refine run_q (.on rfl rfl rfl (by rw [hL]; rfl)) rfl rfl (q_loadB rfl one3 rfl (.there Sel.here) rfl) ?_
            refine run_q (.on rfl rfl rfl (by rw [hL]; rfl)) rfl rfl (q_indexB (q := 1) (d := 1) rfl Try.underlying30 sz3 rfl rfl rfl (by decide) rfl) ?_
            refine run_q (.on rfl rfl rfl (by rw [hL]; rfl)) rfl rfl (q_loadB rfl one3 rfl (.there Sel.here) rfl) ?_
            refine run_q (.on rfl rfl rfl (by rw [hL]; rfl)) rfl rfl (q_indexB (q := 2) (d := 2) rfl Try.underlying30 sz3 rfl rfl rfl (by decide) rfl) ?_
            refine run_q (.on rfl rfl rfl (by rw [hL]; rfl)) rfl rfl (q_loadB rfl one3 rfl (.there Sel.here) rfl) ?_
            refine run_q (.on rfl rfl rfl (by rw [hL]; rfl)) rfl rfl (q_indexB (q := 3) (d := 3) rfl Try.underlying30 sz3 rfl rfl rfl (by decide) rfl) ?_
            refine run_q (.on rfl rfl rfl (by rw [hL]; rfl)) rfl rfl (q_loadB rfl one3 rfl (.there Sel.here) rfl) ?_
            refine run_q (.on rfl rfl rfl (by rw [hL]; rfl)) rfl rfl (q_move rfl rfl) ?_
            refine run_q (.on rfl rfl rfl (by rw [hL]; rfl)) rfl rfl (q_move rfl rfl) ?_
            refine run_q (.on rfl rfl rfl (by rw [hL]; rfl)) rfl rfl (q_mul rfl rfl rfl (by omega)) ?_
            refine run_q (.on rfl rfl rfl (by rw [hL]; rfl)) rfl rfl (q_loadBN rfl agg23 rfl (.there (.there Sel.here)) (.cons rfl (.cons rfl CellsAt.nil)) rfl) ?_
            refine run_q (.on rfl rfl rfl (by rw [hL]; rfl)) rfl rfl (q_build rfl (.cons rfl (.cons rfl (.cons rfl (.cons rfl (.cons rfl (.cons rfl (.cons rfl (.cons rfl (.cons rfl PV.nil))))))))) (built25p0p1p2p3p4p5p6p8p11 _ _ _ _ _ _ _ _ _ _)) ?_
            refine run_q (.on rfl rfl rfl (by rw [hL]; rfl)) rfl rfl (q_eqlS rfl rfl rfl eqg25 (fun w => eqs25 _ _ _ _ _ _ _ _ _ _ _ _ _ _ _ _ _ _ _ _ _ _ _ _ _ _ w)) ?_
            refine run_q (.none rfl) rfl rfl (q_pickT rfl rfl (by rw [hL]; rfl) rfl) ?_
            refine run_q (.none rfl) rfl rfl (q_assign rfl rfl) ?_
            refine run_nil ?_
            refine run_sub (subMk (.cons (s := 6) rfl .nil) .refl) ?_
            refine run_ret ?_
            exact end1 rfl rfl (by rw [hL]; simp)
  · have g35' := g35
    try simp only [decide_eq_true_eq, decide_eq_false_iff_not, beq_iff_eq, beq_eq_false_iff_ne, bne_iff_ne, bne_eq_false_iff_eq, Bool.not_eq_true', Bool.not_eq_false', ne_eq, Int.not_lt, Int.not_le, Decidable.not_not] at g35'
    refine run_region ?_
    refine run_q (.none rfl) rfl rfl (q_eql rfl rfl rfl) ?_
    refine run_q (.none rfl) rfl rfl (q_assign rfl rfl) ?_
    refine run_nil ?_
    refine run_cond rfl (fun g35 => ?_) (fun g35 => ?_)
    · have g35' := g35
      try simp only [decide_eq_true_eq, decide_eq_false_iff_not, beq_iff_eq, beq_eq_false_iff_ne, bne_iff_ne, bne_eq_false_iff_eq, Bool.not_eq_true', Bool.not_eq_false', ne_eq, Int.not_lt, Int.not_le, Decidable.not_not] at g35'
      refine run_region ?_
      refine run_q (.none rfl) rfl rfl (q_assign rfl rfl) ?_
      refine run_nil ?_
      refine run_sub (subMk (.cons (s := 4) rfl (.cons (s := 5) rfl (.cons (s := 6) rfl (.cons (s := 7) rfl (.cons (s := 8) rfl (.cons (s := 9) rfl (.cons (s := 10) rfl .nil))))))) .refl) ?_
      refine run_blk ?_
      refine run_seq ?_
      refine run_seq ?_
      refine run_region ?_
      refine run_q (.none rfl) rfl rfl (q_indexB (q := 0) (d := 0) rfl Try.underlying30 sz3 rfl rfl rfl (by decide) rfl) ?_
      refine run_q (.none rfl) rfl rfl (q_loadB rfl one3 rfl (.there Sel.here) rfl) ?_
      refine run_q (.none rfl) rfl rfl (q_lss rfl rfl rfl) ?_
      refine run_q (.none rfl) rfl rfl (q_move rfl rfl) ?_
      refine run_split 49 rfl (fun g49 => ?_) (fun g49 => ?_)
      · have g49' := g49
        try simp only [decide_eq_true_eq, decide_eq_false_iff_not, beq_iff_eq, beq_eq_false_iff_ne, bne_iff_ne, bne_eq_false_iff_eq, Bool.not_eq_true', Bool.not_eq_false', ne_eq, Int.not_lt, Int.not_le, Decidable.not_not] at g49'
        refine run_off (.no rfl rfl rfl g49) rfl rfl ?_
        refine run_off (.no rfl rfl rfl g49) rfl rfl ?_
        refine run_off (.no rfl rfl rfl g49) rfl rfl ?_
        refine run_q (.none rfl) rfl rfl (q_pickT rfl rfl g49 rfl) ?_
        refine run_q (.none rfl) rfl rfl (q_move rfl rfl) ?_
        refine run_off (.no rfl rfl rfl rfl) rfl rfl ?_
        refine run_off (.no rfl rfl rfl rfl) rfl rfl ?_
        refine run_off (.no rfl rfl rfl rfl) rfl rfl ?_
        refine run_q (.none rfl) rfl rfl (q_pickT rfl rfl rfl rfl) ?_
        refine run_q (.none rfl) rfl rfl (q_move rfl rfl) ?_
        refine run_off (.no rfl rfl rfl rfl) rfl rfl ?_
        refine run_off (.no rfl rfl rfl rfl) rfl rfl ?_
        refine run_off (.no rfl rfl rfl rfl) rfl rfl ?_
        refine run_off (.no rfl rfl rfl rfl) rfl rfl ?_
        refine run_off (.no rfl rfl rfl rfl) rfl rfl ?_
        refine run_q (.none rfl) rfl rfl (q_pickT rfl rfl rfl rfl) ?_
        refine run_nil ?_
        refine run_sub (subMk (.cons (s := 4) rfl (.cons (s := 5) rfl (.cons (s := 6) rfl (.cons (s := 7) rfl (.cons (s := 8) rfl (.cons (s := 9) rfl (.cons (s := 10) rfl (.cons (s := 65) rfl .nil)))))))) .refl) ?_
        refine run_condT rfl rfl ?_
        refine run_seq ?_
        have hL : lineV k site num i t f l = (default, 2) := by subst g35'; rw [lineV, if_neg (by decide), if_pos (by omega)]
        refine run_region ?_
        refine run_q (.none rfl) rfl rfl (q_loadBN rfl agg25 rfl Sel.here (.cons rfl (.cons rfl (.cons rfl (.cons rfl (.cons rfl (.cons rfl (.cons rfl (.cons rfl (.cons rfl (.cons rfl (.cons rfl (.cons rfl (.cons rfl CellsAt.nil))))))))))))) rfl) ?_
        refine run_q (.none rfl) rfl rfl (q_build rfl PV.nil (built25)) ?_
        refine run_q (.none rfl) rfl rfl (q_eqlS rfl rfl rfl eqg25 (fun w => eqs25 _ _ _ _ _ _ _ _ _ _ _ _ _ _ _ _ _ _ _ _ _ _ _ _ _ _ w)) ?_
        refine run_q (.none rfl) rfl rfl (q_move rfl rfl) ?_
        refine run_q (.on rfl rfl rfl (by rw [hL]; rfl)) rfl rfl (q_move rfl rfl) ?_
        refine run_q (.on rfl rfl rfl (by rw [hL]; rfl)) rfl rfl (q_eql rfl rfl rfl) ?_
        refine run_q (.none rfl) rfl rfl (q_pickT rfl rfl (by rw [hL]; rfl) rfl) ?_
        refine run_q (.none rfl) rfl rfl (q_assign rfl rfl) ?_
        refine run_nil ?_
        refine run_sub (subMk (.cons (s := 4) rfl (.cons (s := 5) rfl (.cons (s := 6) rfl (.cons (s := 7) rfl (.cons (s := 8) rfl (.cons (s := 9) rfl (.cons (s := 10) rfl .nil))))))) .refl) ?_
        refine run_ret ?_
        exact end1 rfl rfl (by rw [hL]; simp)
      · have g49' := g49
        try simp only [decide_eq_true_eq, decide_eq_false_iff_not, beq_iff_eq, beq_eq_false_iff_ne, bne_iff_ne, bne_eq_false_iff_eq, Bool.not_eq_true', Bool.not_eq_false', ne_eq, Int.not_lt, Int.not_le, Decidable.not_not] at g49'
        refine run_q (.on rfl rfl rfl g49) rfl rfl (q_indexB (q := 1) (d := 1) rfl Try.underlying30 sz3 rfl rfl rfl (by decide) rfl) ?_
        refine run_q (.on rfl rfl rfl g49) rfl rfl (q_loadB rfl one3 rfl (.there Sel.here) rfl) ?_
        refine run_q (.on rfl rfl rfl g49) rfl rfl (q_lss rfl rfl rfl) ?_
        refine run_q (.none rfl) rfl rfl (q_pickF rfl rfl g49 rfl) ?_
        refine run_q (.none rfl) rfl rfl (q_move rfl rfl) ?_
        refine run_split 54 rfl (fun g54 => ?_) (fun g54 => ?_)
        · have g54' := g54
          try simp only [decide_eq_true_eq, decide_eq_false_iff_not, beq_iff_eq, beq_eq_false_iff_ne, bne_iff_ne, bne_eq_false_iff_eq, Bool.not_eq_true', Bool.not_eq_false', ne_eq, Int.not_lt, Int.not_le, Decidable.not_not] at g54'
          refine run_off (.no rfl rfl rfl g54) rfl rfl ?_
          refine run_off (.no rfl rfl rfl g54) rfl rfl ?_
          refine run_off (.no rfl rfl rfl g54) rfl rfl ?_
          refine run_q (.none rfl) rfl rfl (q_pickT rfl rfl g54 rfl) ?_
          refine run_q (.none rfl) rfl rfl (q_move rfl rfl) ?_
          refine run_off (.no rfl rfl rfl rfl) rfl rfl ?_
          refine run_off (.no rfl rfl rfl rfl) rfl rfl ?_
          refine run_off (.no rfl rfl rfl rfl) rfl rfl ?_
          refine run_off (.no rfl rfl rfl rfl) rfl rfl ?_
          refine run_off (.no rfl rfl rfl rfl) rfl rfl ?_
          refine run_q (.none rfl) rfl rfl (q_pickT rfl rfl rfl rfl) ?_
          refine run_nil ?_
          refine run_sub (subMk (.cons (s := 4) rfl (.cons (s := 5) rfl (.cons (s := 6) rfl (.cons (s := 7) rfl (.cons (s := 8) rfl (.cons (s := 9) rfl (.cons (s := 10) rfl (.cons (s := 65) rfl .nil)))))))) .refl) ?_
          refine run_condT rfl rfl ?_
          refine run_seq ?_
          have hL : lineV k site num i t f l = (default, 2) := by subst g35'; rw [lineV, if_neg (by decide), if_pos (by omega)]
          refine run_region ?_
          refine run_q (.none rfl) rfl rfl (q_loadBN rfl agg25 rfl Sel.here (.cons rfl (.cons rfl (.cons rfl (.cons rfl (.cons rfl (.cons rfl (.cons rfl (.cons rfl (.cons rfl (.cons rfl (.cons rfl (.cons rfl (.cons rfl CellsAt.nil))))))))))))) rfl) ?_
          refine run_q (.none rfl) rfl rfl (q_build rfl PV.nil (built25)) ?_
          refine run_q (.none rfl) rfl rfl (q_eqlS rfl rfl rfl eqg25 (fun w => eqs25 _ _ _ _ _ _ _ _ _ _ _ _ _ _ _ _ _ _ _ _ _ _ _ _ _ _ w)) ?_
          refine run_q (.none rfl) rfl rfl (q_move rfl rfl) ?_
          refine run_q (.on rfl rfl rfl (by rw [hL]; rfl)) rfl rfl (q_move rfl rfl) ?_
          refine run_q (.on rfl rfl rfl (by rw [hL]; rfl)) rfl rfl (q_eql rfl rfl rfl) ?_
          refine run_q (.none rfl) rfl rfl (q_pickT rfl rfl (by rw [hL]; rfl) rfl) ?_
          refine run_q (.none rfl) rfl rfl (q_assign rfl rfl) ?_
          refine run_nil ?_
          refine run_sub (subMk (.cons (s := 4) rfl (.cons (s := 5) rfl (.cons (s := 6) rfl (.cons (s := 7) rfl (.cons (s := 8) rfl (.cons (s := 9) rfl (.cons (s := 10) rfl .nil))))))) .refl) ?_
          refine run_ret ?_
          exact end1 rfl rfl (by rw [hL]; simp)
        · have g54' := g54
          try simp only [decide_eq_true_eq, decide_eq_false_iff_not, beq_iff_eq, beq_eq_false_iff_ne, bne_iff_ne, bne_eq_false_iff_eq, Bool.not_eq_true', Bool.not_eq_false', ne_eq, Int.not_lt, Int.not_le, Decidable.not_not] at g54'
          refine run_q (.on rfl rfl rfl g54) rfl rfl (q_indexB (q := 2) (d := 2) rfl Try.underlying30 sz3 rfl rfl rfl (by decide) rfl) ?_
          refine run_q (.on rfl rfl rfl g54) rfl rfl (q_loadB rfl one3 rfl (.there Sel.here) rfl) ?_
          refine run_q (.on rfl rfl rfl g54) rfl rfl (q_lss rfl rfl rfl) ?_
          refine run_q (.none rfl) rfl rfl (q_pickF rfl rfl g54 rfl) ?_
          refine run_q (.none rfl) rfl rfl (q_move rfl rfl) ?_
          refine run_split 59 rfl (fun g59 => ?_) (fun g59 => ?_)
          · have g59' := g59
            try simp only [decide_eq_true_eq, decide_eq_false_iff_not, beq_iff_eq, beq_eq_false_iff_ne, bne_iff_ne, bne_eq_false_iff_eq, Bool.not_eq_true', Bool.not_eq_false', ne_eq, Int.not_lt, Int.not_le, Decidable.not_not] at g59'
            refine run_off (.no rfl rfl rfl g59) rfl rfl ?_
            refine run_off (.no rfl rfl rfl g59) rfl rfl ?_
            refine run_off (.no rfl rfl rfl g59) rfl rfl ?_
            refine run_off (.no rfl rfl rfl g59) rfl rfl ?_
            refine run_off (.no rfl rfl rfl g59) rfl rfl ?_
            refine run_q (.none rfl) rfl rfl (q_pickT rfl rfl g59 rfl) ?_
            refine run_nil ?_
            refine run_sub (subMk (.cons (s := 4) rfl (.cons (s := 5) rfl (.cons (s := 6) rfl (.cons (s := 7) rfl (.cons (s := 8) rfl (.cons (s := 9) rfl (.cons (s := 10) rfl (.cons (s := 65) rfl .nil)))))))) .refl) ?_
            refine run_condT rfl rfl ?_
            refine run_seq ?_
            have hL : lineV k site num i t f l = (default, 2) := by subst g35'; rw [lineV, if_neg (by decide), if_pos (by omega)]
            refine run_region ?_
            refine run_q (.none rfl) rfl rfl (q_loadBN rfl agg25 rfl Sel.here (.cons rfl (.cons rfl (.cons rfl (.cons rfl (.cons rfl (.cons rfl (.cons rfl (.cons rfl (.cons rfl (.cons rfl (.cons rfl (.cons rfl (.cons rfl CellsAt.nil))))))))))))) rfl) ?_
            refine run_q (.none rfl) rfl rfl (q_build rfl PV.nil (built25)) ?_
            refine run_q (.none rfl) rfl rfl (q_eqlS rfl rfl rfl eqg25 (fun w => eqs25 _ _ _ _ _ _ _ _ _ _ _ _ _ _ _ _ _ _ _ _ _ _ _ _ _ _ w)) ?_
            refine run_q (.none rfl) rfl rfl (q_move rfl rfl) ?_
            refine run_q (.on rfl rfl rfl (by rw [hL]; rfl)) rfl rfl (q_move rfl rfl) ?_
            refine run_q (.on rfl rfl rfl (by rw [hL]; rfl)) rfl rfl (q_eql rfl rfl rfl) ?_
            refine run_q (.none rfl) rfl rfl (q_pickT rfl rfl (by rw [hL]; rfl) rfl) ?_
            refine run_q (.none rfl) rfl rfl (q_assign rfl rfl) ?_
            refine run_nil ?_
            refine run_sub (subMk (.cons (s := 4) rfl (.cons (s := 5) rfl (.cons (s := 6) rfl (.cons (s := 7) rfl (.cons (s := 8) rfl (.cons (s := 9) rfl (.cons (s := 10) rfl .nil))))))) .refl) ?_
            refine run_ret ?_
            exact end1 rfl rfl (by rw [hL]; simp)
          · have g59' := g59
            try simp only [decide_eq_true_eq, decide_eq_false_iff_not, beq_iff_eq, beq_eq_false_iff_ne, bne_iff_ne, bne_eq_false_iff_eq, Bool.not_eq_true', Bool.not_eq_false', ne_eq, Int.not_lt, Int.not_le, Decidable.not_not] at g59'
            refine run_q (.on rfl rfl rfl g59) rfl rfl (q_indexB (q := 3) (d := 3) rfl Try.underlying30 sz3 rfl rfl rfl (by decide) rfl) ?_
            refine run_q (.on rfl rfl rfl g59) rfl rfl (q_loadB rfl one3 rfl (.there Sel.here) rfl) ?_
            refine run_q (.on rfl rfl rfl g59) rfl rfl (q_indexB (q := 2) (d := 2) rfl Try.underlying30 sz3 rfl rfl rfl (by decide) rfl) ?_
            refine run_q (.on rfl rfl rfl g59) rfl rfl (q_loadB rfl one3 rfl (.there Sel.here) rfl) ?_
            refine run_q (.on rfl rfl rfl g59) rfl rfl (q_lss rfl rfl rfl) ?_
            refine run_q (.none rfl) rfl rfl (q_pickF rfl rfl g59 rfl) ?_
            refine run_nil ?_
            refine run_sub (subMk (.cons (s := 4) rfl (.cons (s := 5) rfl (.cons (s := 6) rfl (.cons (s := 7) rfl (.cons (s := 8) rfl (.cons (s := 9) rfl (.cons (s := 10) rfl (.cons (s := 65) rfl .nil)))))))) .refl) ?_
            refine run_cond rfl (fun g65 => ?_) (fun g65 => ?_)
            · have g65' := g65
              try simp only [decide_eq_true_eq, decide_eq_false_iff_not, beq_iff_eq, beq_eq_false_iff_ne, bne_iff_ne, bne_eq_false_iff_eq, Bool.not_eq_true', Bool.not_eq_false', ne_eq, Int.not_lt, Int.not_le, Decidable.not_not] at g65'
              refine run_seq ?_
              have hL : lineV k site num i t f l = (default, 2) := by subst g35'; rw [lineV, if_neg (by decide), if_pos (by omega)]
              refine run_region ?_
              refine run_q (.none rfl) rfl rfl (q_loadBN rfl agg25 rfl Sel.here (.cons rfl (.cons rfl (.cons rfl (.cons rfl (.cons rfl (.cons rfl (.cons rfl (.cons rfl (.cons rfl (.cons rfl (.cons rfl (.cons rfl (.cons rfl CellsAt.nil))))))))))))) rfl) ?_
              refine run_q (.none rfl) rfl rfl (q_build rfl PV.nil (built25)) ?_
              refine run_q (.none rfl) rfl rfl (q_eqlS rfl rfl rfl eqg25 (fun w => eqs25 _ _ _ _ _ _ _ _ _ _ _ _ _ _ _ _ _ _ _ _ _ _ _ _ _ _ w)) ?_
              refine run_q (.none rfl) rfl rfl (q_move rfl rfl) ?_
              refine run_q (.on rfl rfl rfl (by rw [hL]; rfl)) rfl rfl (q_move rfl rfl) ?_
              refine run_q (.on rfl rfl rfl (by rw [hL]; rfl)) rfl rfl (q_eql rfl rfl rfl) ?_
              refine run_q (.none rfl) rfl rfl (q_pickT rfl rfl (by rw [hL]; rfl) rfl) ?_
              refine run_q (.none rfl) rfl rfl (q_assign rfl rfl) ?_
              refine run_nil ?_
              refine run_sub (subMk (.cons (s := 4) rfl (.cons (s := 5) rfl (.cons (s := 6) rfl (.cons (s := 7) rfl (.cons (s := 8) rfl (.cons (s := 9) rfl (.cons (s := 10) rfl .nil))))))) .refl) ?_
              refine run_ret ?_
              exact end1 rfl rfl (by rw [hL]; simp)
            · have g65' := g65
              try simp only [decide_eq_true_eq, decide_eq_false_iff_not, beq_iff_eq, beq_eq_false_iff_ne, bne_iff_ne, bne_eq_false_iff_eq, Bool.not_eq_true', Bool.not_eq_false', ne_eq, Int.not_lt, Int.not_le, Decidable.not_not] at g65'
              refine run_skip ?_
              refine run_seq ?_
              have hL : lineV k site num i t f l = (⟨55, i, t, f, l, -1, -1 * 136, 0, site, num, 0, 0, 32⟩, 0) := by subst g35'; rw [lineV, if_neg (by decide), if_neg (by omega)]; rfl
              refine run_region ?_
              refine run_q (.none rfl) rfl rfl (q_move rfl rfl) ?_
              refine run_q (.none rfl) rfl rfl (q_eql rfl rfl rfl) ?_
              refine run_q (.none rfl) rfl rfl (q_move rfl rfl) ?_
              refine run_q (.on rfl rfl rfl (by rw [hL]; rfl)) rfl rfl (q_loadBN rfl agg25 rfl Sel.here (.cons rfl (.cons rfl (.cons rfl (.cons rfl (.cons rfl (.cons rfl (.cons rfl (.cons rfl (.cons rfl (.cons rfl (.cons rfl (.cons rfl (.cons rfl CellsAt.nil))))))))))))) rfl) ?_
              refine run_q (.on rfl rfl rfl (by rw [hL]; rfl)) rfl rfl (q_move rfl rfl) ?_
              refine run_q (.on rfl rfl rfl (by rw [hL]; rfl)) rfl rfl (q_indexB (q := 0) (d := 0) rfl Try.underlying30 sz3 rfl rfl rfl (by decide) rfl) ?_
              refine run_q (.on rfl rfl rfl (by rw [hL]; rfl)) rfl rfl (q_loadB rfl one3 rfl (.there Sel.here) rfl) ?_
              refine run_q (.on rfl rfl rfl (by rw [hL]; rfl)) rfl rfl (q_indexB (q := 1) (d := 1) rfl Try.underlying30 sz3 rfl rfl rfl (by decide) rfl) ?_
              refine run_q (.on rfl rfl rfl (by rw [hL]; rfl)) rfl rfl (q_loadB rfl one3 rfl (.there Sel.here) rfl) ?_
              refine run_q (.on rfl rfl rfl (by rw [hL]; rfl)) rfl rfl (q_indexB (q := 2) (d := 2) rfl Try.underlying30 sz3 rfl rfl rfl (by decide) rfl) ?_
              refine run_q (.on rfl rfl rfl (by rw [hL]; rfl)) rfl rfl (q_loadB rfl one3 rfl (.there Sel.here) rfl) ?_
              refine run_q (.on rfl rfl rfl (by rw [hL]; rfl)) rfl rfl (q_indexB (q := 3) (d := 3) rfl Try.underlying30 sz3 rfl rfl rfl (by decide) rfl) ?_
              refine run_q (.on rfl rfl rfl (by rw [hL]; rfl)) rfl rfl (q_loadB rfl one3 rfl (.there Sel.here) rfl) ?_
              refine run_q (.on rfl rfl rfl (by rw [hL]; rfl)) rfl rfl (q_move rfl rfl) ?_
              refine run_q (.on rfl rfl rfl (by rw [hL]; rfl)) rfl rfl (q_move rfl rfl) ?_
              refine run_q (.on rfl rfl rfl (by rw [hL]; rfl)) rfl rfl (q_mul rfl rfl rfl (by omega)) ?_
              refine run_q (.on rfl rfl rfl (by rw [hL]; rfl)) rfl rfl (q_loadBN rfl agg23 rfl (.there (.there Sel.here)) (.cons rfl (.cons rfl CellsAt.nil)) rfl) ?_
              refine run_q (.on rfl rfl rfl (by rw [hL]; rfl)) rfl rfl (q_build rfl (.cons rfl (.cons rfl (.cons rfl (.cons rfl (.cons rfl (.cons rfl (.cons rfl (.cons rfl (.cons rfl PV.nil))))))))) (built25p0p1p2p3p4p5p6p8p11 _ _ _ _ _ _ _ _ _ _)) ?_
              refine run_q (.on rfl rfl rfl (by rw [hL]; rfl)) rfl rfl (q_eqlS rfl rfl rfl eqg25 (fun w => eqs25 _ _ _ _ _ _ _ _ _ _ _ _ _ _ _ _ _ _ _ _ _ _ _ _ _ _ w)) ?_
              refine run_q (.none rfl) rfl rfl (q_pickT rfl rfl (by rw [hL]; rfl) rfl) ?_
              refine run_q (.none rfl) rfl rfl (q_assign rfl rfl) ?_
              refine run_nil ?_
              refine run_sub (subMk (.cons (s := 6) rfl .nil) .refl) ?_
              refine run_ret ?_
              exact end1 rfl rfl (by rw [hL]; simp)
    · have g35' := g35
      try simp only [decide_eq_true_eq, decide_eq_false_iff_not, beq_iff_eq, beq_eq_false_iff_ne, bne_iff_ne, bne_eq_false_iff_eq, Bool.not_eq_true', Bool.not_eq_false', ne_eq, Int.not_lt, Int.not_le, Decidable.not_not] at g35'
      refine run_seq ?_
      refine run_region ?_
      refine run_q (.none rfl) rfl rfl (q_eql rfl rfl rfl) ?_
      refine run_q (.none rfl) rfl rfl (q_assign rfl rfl) ?_
      refine run_nil ?_
      refine run_sub (subMk (.cons (s := 4) rfl (.cons (s := 5) rfl (.cons (s := 6) rfl (.cons (s := 7) rfl (.cons (s := 8) rfl (.cons (s := 9) rfl (.cons (s := 10) rfl (.cons (s := 27) rfl (.cons (s := 38) rfl .nil))))))))) .refl) ?_
      refine run_cond rfl (fun g38 => ?_) (fun g38 => ?_)
      · have g38' := g38
        try simp only [decide_eq_true_eq, decide_eq_false_iff_not, beq_iff_eq, beq_eq_false_iff_ne, bne_iff_ne, bne_eq_false_iff_eq, Bool.not_eq_true', Bool.not_eq_false', ne_eq, Int.not_lt, Int.not_le, Decidable.not_not] at g38'
        refine run_region ?_
        refine run_q (.none rfl) rfl rfl (q_assign rfl rfl) ?_
        refine run_nil ?_
        refine run_blk ?_
        refine run_seq ?_
        refine run_seq ?_
        refine run_region ?_
        refine run_q (.none rfl) rfl rfl (q_indexB (q := 0) (d := 0) rfl Try.underlying30 sz3 rfl rfl rfl (by decide) rfl) ?_
        refine run_q (.none rfl) rfl rfl (q_loadB rfl one3 rfl (.there Sel.here) rfl) ?_
        refine run_q (.none rfl) rfl rfl (q_lss rfl rfl rfl) ?_
        refine run_q (.none rfl) rfl rfl (q_move rfl rfl) ?_
        refine run_split 49 rfl (fun g49 => ?_) (fun g49 => ?_)
        · have g49' := g49
          try simp only [decide_eq_true_eq, decide_eq_false_iff_not, beq_iff_eq, beq_eq_false_iff_ne, bne_iff_ne, bne_eq_false_iff_eq, Bool.not_eq_true', Bool.not_eq_false', ne_eq, Int.not_lt, Int.not_le, Decidable.not_not] at g49'
          refine run_off (.no rfl rfl rfl g49) rfl rfl ?_
          refine run_off (.no rfl rfl rfl g49) rfl rfl ?_
          refine run_off (.no rfl rfl rfl g49) rfl rfl ?_
          refine run_q (.none rfl) rfl rfl (q_pickT rfl rfl g49 rfl) ?_
          refine run_q (.none rfl) rfl rfl (q_move rfl rfl) ?_
          refine run_off (.no rfl rfl rfl rfl) rfl rfl ?_
          refine run_off (.no rfl rfl rfl rfl) rfl rfl ?_
          refine run_off (.no rfl rfl rfl rfl) rfl rfl ?_
          refine run_q (.none rfl) rfl rfl (q_pickT rfl rfl rfl rfl) ?_
          refine run_q (.none rfl) rfl rfl (q_move rfl rfl) ?_
          refine run_off (.no rfl rfl rfl rfl) rfl rfl ?_
          refine run_off (.no rfl rfl rfl rfl) rfl rfl ?_
          refine run_off (.no rfl rfl rfl rfl) rfl rfl ?_
          refine run_off (.no rfl rfl rfl rfl) rfl rfl ?_
          refine run_off (.no rfl rfl rfl rfl) rfl rfl ?_
          refine run_q (.none rfl) rfl rfl (q_pickT rfl rfl rfl rfl) ?_
          refine run_nil ?_
          refine run_sub (subMk (.cons (s := 4) rfl (.cons (s := 5) rfl (.cons (s := 6) rfl (.cons (s := 7) rfl (.cons (s := 8) rfl (.cons (s := 9) rfl (.cons (s := 10) rfl (.cons (s := 65) rfl .nil)))))))) .refl) ?_
          refine run_condT rfl rfl ?_
          refine run_seq ?_
          have hL : lineV k site num i t f l = (default, 2) := by subst g38'; rw [lineV, if_neg (by decide), if_pos (by omega)]
          refine run_region ?_
          refine run_q (.none rfl) rfl rfl (q_loadBN rfl agg25 rfl Sel.here (.cons rfl (.cons rfl (.cons rfl (.cons rfl (.cons rfl (.cons rfl (.cons rfl (.cons rfl (.cons rfl (.cons rfl (.cons rfl (.cons rfl (.cons rfl CellsAt.nil))))))))))))) rfl) ?_
          refine run_q (.none rfl) rfl rfl (q_build rfl PV.nil (built25)) ?_
          refine run_q (.none rfl) rfl rfl (q_eqlS rfl rfl rfl eqg25 (fun w => eqs25 _ _ _ _ _ _ _ _ _ _ _ _ _ _ _ _ _ _ _ _ _ _ _ _ _ _ w)) ?_
          refine run_q (.none rfl) rfl rfl (q_move rfl rfl) ?_
          refine run_q (.on rfl rfl rfl (by rw [hL]; rfl)) rfl rfl (q_move rfl rfl) ?_
          refine run_q (.on rfl rfl rfl (by rw [hL]; rfl)) rfl rfl (q_eql rfl rfl rfl) ?_
          refine run_q (.none rfl) rfl rfl (q_pickT rfl rfl (by rw [hL]; rfl) rfl) ?_
          refine run_q (.none rfl) rfl rfl (q_assign rfl rfl) ?_
          refine run_nil ?_
          refine run_sub (subMk (.cons (s := 4) rfl (.cons (s := 5) rfl (.cons (s := 6) rfl (.cons (s := 7) rfl (.cons (s := 8) rfl (.cons (s := 9) rfl (.cons (s := 10) rfl .nil))))))) .refl) ?_
          refine run_ret ?_
          exact end1 rfl rfl (by rw [hL]; simp)
        · have g49' := g49
          try simp only [decide_eq_true_eq, decide_eq_false_iff_not, beq_iff_eq, beq_eq_false_iff_ne, bne_iff_ne, bne_eq_false_iff_eq, Bool.not_eq_true', Bool.not_eq_false', ne_eq, Int.not_lt, Int.not_le, Decidable.not_not] at g49'
          refine run_q (.on rfl rfl rfl g49) rfl rfl (q_indexB (q := 1) (d := 1) rfl Try.underlying30 sz3 rfl rfl rfl (by decide) rfl) ?_
          refine run_q (.on rfl rfl rfl g49) rfl rfl (q_loadB rfl one3 rfl (.there Sel.here) rfl) ?_
          refine run_q (.on rfl rfl rfl g49) rfl rfl (q_lss rfl rfl rfl) ?_
          refine run_q (.none rfl) rfl rfl (q_pickF rfl rfl g49 rfl) ?_
          refine run_q (.none rfl) rfl rfl (q_move rfl rfl) ?_
          refine run_split 54 rfl (fun g54 => ?_) (fun g54 => ?_)
          · have g54' := g54
            try simp only [decide_eq_true_eq, decide_eq_false_iff_not, beq_iff_eq, beq_eq_false_iff_ne, bne_iff_ne, bne_eq_false_iff_eq, Bool.not_eq_true', Bool.not_eq_false', ne_eq, Int.not_lt, Int.not_le, Decidable.not_not] at g54'
            refine run_off (.no rfl rfl rfl g54) rfl rfl ?_
            refine run_off (.no rfl rfl rfl g54) rfl rfl ?_
            refine run_off (.no rfl rfl rfl g54) rfl rfl ?_
            refine run_q (.none rfl) rfl rfl (q_pickT rfl rfl g54 rfl) ?_
            refine run_q (.none rfl) rfl rfl (q_move rfl rfl) ?_
            refine run_off (.no rfl rfl rfl rfl) rfl rfl ?_
            refine run_off (.no rfl rfl rfl rfl) rfl rfl ?_
            refine run_off (.no rfl rfl rfl rfl) rfl rfl ?_
            refine run_off (.no rfl rfl rfl rfl) rfl rfl ?_
            refine run_off (.no rfl rfl rfl rfl) rfl rfl ?_
            refine run_q (.none rfl) rfl rfl (q_pickT rfl rfl rfl rfl) ?_
            refine run_nil ?_
            refine run_sub (subMk (.cons (s := 4) rfl (.cons (s := 5) rfl (.cons (s := 6) rfl (.cons (s := 7) rfl (.cons (s := 8) rfl (.cons (s := 9) rfl (.cons (s := 10) rfl (.cons (s := 65) rfl .nil)))))))) .refl) ?_
            refine run_condT rfl rfl ?_
            refine run_seq ?_
            have hL : lineV k site num i t f l = (default, 2) := by subst g38'; rw [lineV, if_neg (by decide), if_pos (by omega)]
            refine run_region ?_
            refine run_q (.none rfl) rfl rfl (q_loadBN rfl agg25 rfl Sel.here (.cons rfl (.cons rfl (.cons rfl (.cons rfl (.cons rfl (.cons rfl (.cons rfl (.cons rfl (.cons rfl (.cons rfl (.cons rfl (.cons rfl (.cons rfl CellsAt.nil))))))))))))) rfl) ?_
            refine run_q (.none rfl) rfl rfl (q_build rfl PV.nil (built25)) ?_
            refine run_q (.none rfl) rfl rfl (q_eqlS rfl rfl rfl eqg25 (fun w => eqs25 _ _ _ _ _ _ _ _ _ _ _ _ _ _ _ _ _ _ _ _ _ _ _ _ _ _ w)) ?_
            refine run_q (.none rfl) rfl rfl (q_move rfl rfl) ?_
            refine run_q (.on rfl rfl rfl (by rw [hL]; rfl)) rfl rfl (q_move rfl rfl) ?_
            refine run_q (.on rfl rfl rfl (by rw [hL]; rfl)) rfl rfl (q_eql rfl rfl rfl) ?_
            refine run_q (.none rfl) rfl rfl (q_pickT rfl rfl (by rw [hL]; rfl) rfl) ?_
            refine run_q (.none rfl) rfl rfl (q_assign rfl rfl) ?_
            refine run_nil ?_
            refine run_sub (subMk (.cons (s := 4) rfl (.cons (s := 5) rfl (.cons (s := 6) rfl (.cons (s := 7) rfl (.cons (s := 8) rfl (.cons (s := 9) rfl (.cons (s := 10) rfl .nil))))))) .refl) ?_
            refine run_ret ?_
            exact end1 rfl rfl (by rw [hL]; simp)
          · have g54' := g54
            try simp only [decide_eq_true_eq, decide_eq_false_iff_not, beq_iff_eq, beq_eq_false_iff_ne, bne_iff_ne, bne_eq_false_iff_eq, Bool.not_eq_true', Bool.not_eq_false', ne_eq, Int.not_lt, Int.not_le, Decidable.not_not] at g54'
            refine run_q (.on rfl rfl rfl g54) rfl rfl (q_indexB (q := 2) (d := 2) rfl Try.underlying30 sz3 rfl rfl rfl (by decide) rfl) ?_
            refine run_q (.on rfl rfl rfl g54) rfl rfl (q_loadB rfl one3 rfl (.there Sel.here) rfl) ?_
            refine run_q (.on rfl rfl rfl g54) rfl rfl (q_lss rfl rfl rfl) ?_
            refine run_q (.none rfl) rfl rfl (q_pickF rfl rfl g54 rfl) ?_
            refine run_q (.none rfl) rfl rfl (q_move rfl rfl) ?_
            refine run_split 59 rfl (fun g59 => ?_) (fun g59 => ?_)
            · have g59' := g59
              try simp only [decide_eq_true_eq, decide_eq_false_iff_not, beq_iff_eq, beq_eq_false_iff_ne, bne_iff_ne, bne_eq_false_iff_eq, Bool.not_eq_true', Bool.not_eq_false', ne_eq, Int.not_lt, Int.not_le, Decidable.not_not] at g59'
              refine run_off (.no rfl rfl rfl g59) rfl rfl ?_
              refine run_off (.no rfl rfl rfl g59) rfl rfl ?_
              refine run_off (.no rfl rfl rfl g59) rfl rfl ?_
              refine run_off (.no rfl rfl rfl g59) rfl rfl ?_
              refine run_off (.no rfl rfl rfl g59) rfl rfl ?_
              refine run_q (.none rfl) rfl rfl (q_pickT rfl rfl g59 rfl) ?_
              refine run_nil ?_
              refine run_sub (subMk (.cons (s := 4) rfl (.cons (s := 5) rfl (.cons (s := 6) rfl (.cons (s := 7) rfl (.cons (s := 8) rfl (.cons (s := 9) rfl (.cons (s := 10) rfl (.cons (s := 65) rfl .nil)))))))) .refl) ?_
              refine run_condT rfl rfl ?_
              refine run_seq ?_
              have hL : lineV k site num i t f l = (default, 2) := by subst g38'; rw [lineV, if_neg (by decide), if_pos (by omega)]
              refine run_region ?_
              refine run_q (.none rfl) rfl rfl (q_loadBN rfl agg25 rfl Sel.here (.cons rfl (.cons rfl (.cons rfl (.cons rfl (.cons rfl (.cons rfl (.cons rfl (.cons rfl (.cons rfl (.cons rfl (.cons rfl (.cons rfl (.cons rfl CellsAt.nil))))))))))))) rfl) ?_
              refine run_q (.none rfl) rfl rfl (q_build rfl PV.nil (built25)) ?_
              refine run_q (.none rfl) rfl rfl (q_eqlS rfl rfl rfl eqg25 (fun w => eqs25 _ _ _ _ _ _ _ _ _ _ _ _ _ _ _ _ _ _ _ _ _ _ _ _ _ _ w)) ?_
              refine run_q (.none rfl) rfl rfl (q_move rfl rfl) ?_
              refine run_q (.on rfl rfl rfl (by rw [hL]; rfl)) rfl rfl (q_move rfl rfl) ?_
              refine run_q (.on rfl rfl rfl (by rw [hL]; rfl)) rfl rfl (q_eql rfl rfl rfl) ?_
              refine run_q (.none rfl) rfl rfl (q_pickT rfl rfl (by rw [hL]; rfl) rfl) ?_
              refine run_q (.none rfl) rfl rfl (q_assign rfl rfl) ?_
              refine run_nil ?_
              refine run_sub (subMk (.cons (s := 4) rfl (.cons (s := 5) rfl (.cons (s := 6) rfl (.cons (s := 7) rfl (.cons (s := 8) rfl (.cons (s := 9) rfl (.cons (s := 10) rfl .nil))))))) .refl) ?_
              refine run_ret ?_
              exact end1 rfl rfl (by rw [hL]; simp)
            · have g59' := g59
              try simp only [decide_eq_true_eq, decide_eq_false_iff_not, beq_iff_eq, beq_eq_false_iff_ne, bne_iff_ne, bne_eq_false_iff_eq, Bool.not_eq_true', Bool.not_eq_false', ne_eq, Int.not_lt, Int.not_le, Decidable.not_not] at g59'
              refine run_q (.on rfl rfl rfl g59) rfl rfl (q_indexB (q := 3) (d := 3) rfl Try.underlying30 sz3 rfl rfl rfl (by decide) rfl) ?_
              refine run_q (.on rfl rfl rfl g59) rfl rfl (q_loadB rfl one3 rfl (.there Sel.here) rfl) ?_
              refine run_q (.on rfl rfl rfl g59) rfl rfl (q_indexB (q := 2) (d := 2) rfl Try.underlying30 sz3 rfl rfl rfl (by decide) rfl) ?_
              refine run_q (.on rfl rfl rfl g59) rfl rfl (q_loadB rfl one3 rfl (.there Sel.here) rfl) ?_
              refine run_q (.on rfl rfl rfl g59) rfl rfl (q_lss rfl rfl rfl) ?_
              refine run_q (.none rfl) rfl rfl (q_pickF rfl rfl g59 rfl) ?_
              refine run_nil ?_
              refine run_sub (subMk (.cons (s := 4) rfl (.cons (s := 5) rfl (.cons (s := 6) rfl (.cons (s := 7) rfl (.cons (s := 8) rfl (.cons (s := 9) rfl (.cons (s := 10) rfl (.cons (s := 65) rfl .nil)))))))) .refl) ?_
              refine run_cond rfl (fun g65 => ?_) (fun g65 => ?_)
              · have g65' := g65
                try simp only [decide_eq_true_eq, decide_eq_false_iff_not, beq_iff_eq, beq_eq_false_iff_ne, bne_iff_ne, bne_eq_false_iff_eq, Bool.not_eq_true', Bool.not_eq_false', ne_eq, Int.not_lt, Int.not_le, Decidable.not_not] at g65'
                refine run_seq ?_
                have hL : lineV k site num i t f l = (default, 2) := by subst g38'; rw [lineV, if_neg (by decide), if_pos (by omega)]
                refine run_region ?_
                refine run_q (.none rfl) rfl rfl (q_loadBN rfl agg25 rfl Sel.here (.cons rfl (.cons rfl (.cons rfl (.cons rfl (.cons rfl (.cons rfl (.cons rfl (.cons rfl (.cons rfl (.cons rfl (.cons rfl (.cons rfl (.cons rfl CellsAt.nil))))))))))))) rfl) ?_
                refine run_q (.none rfl) rfl rfl (q_build rfl PV.nil (built25)) ?_
                refine run_q (.none rfl) rfl rfl (q_eqlS rfl rfl rfl eqg25 (fun w => eqs25 _ _ _ _ _ _ _ _ _ _ _ _ _ _ _ _ _ _ _ _ _ _ _ _ _ _ w)) ?_
                refine run_q (.none rfl) rfl rfl (q_move rfl rfl) ?_
                refine run_q (.on rfl rfl rfl (by rw [hL]; rfl)) rfl rfl (q_move rfl rfl) ?_
                refine run_q (.on rfl rfl rfl (by rw [hL]; rfl)) rfl rfl (q_eql rfl rfl rfl) ?_
                refine run_q (.none rfl) rfl rfl (q_pickT rfl rfl (by rw [hL]; rfl) rfl) ?_
                refine run_q (.none rfl) rfl rfl (q_assign rfl rfl) ?_
                refine run_nil ?_
                refine run_sub (subMk (.cons (s := 4) rfl (.cons (s := 5) rfl (.cons (s := 6) rfl (.cons (s := 7) rfl (.cons (s := 8) rfl (.cons (s := 9) rfl (.cons (s := 10) rfl .nil))))))) .refl) ?_
                refine run_ret ?_
                exact end1 rfl rfl (by rw [hL]; simp)
              · have g65' := g65
                try simp only [decide_eq_true_eq, decide_eq_false_iff_not, beq_iff_eq, beq_eq_false_iff_ne, bne_iff_ne, bne_eq_false_iff_eq, Bool.not_eq_true', Bool.not_eq_false', ne_eq, Int.not_lt, Int.not_le, Decidable.not_not] at g65'
                refine run_skip ?_
                refine run_seq ?_
                have hL : lineV k site num i t f l = (⟨57, i, t, f, l, -1, -1 * 136, 0, site, num, 0, 0, 32⟩, 0) := by subst g38'; rw [lineV, if_neg (by decide), if_neg (by omega)]; rfl
                refine run_region ?_
                refine run_q (.none rfl) rfl rfl (q_move rfl rfl) ?_
                refine run_q (.none rfl) rfl rfl (q_eql rfl rfl rfl) ?_
                refine run_q (.none rfl) rfl rfl (q_move rfl rfl) ?_
                refine run_q (.on rfl rfl rfl (by rw [hL]; rfl)) rfl rfl (q_loadBN rfl agg25 rfl Sel.here (.cons rfl (.cons rfl (.cons rfl (.cons rfl (.cons rfl (.cons rfl (.cons rfl (.cons rfl (.cons rfl (.cons rfl (.cons rfl (.cons rfl (.cons rfl CellsAt.nil))))))))))))) rfl) ?_
                refine run_q (.on rfl rfl rfl (by rw [hL]; rfl)) rfl rfl (q_move rfl rfl) ?_
                refine run_q (.on rfl rfl rfl (by rw [hL]; rfl)) rfl rfl (q_indexB (q := 0) (d := 0) rfl Try.underlying30 sz3 rfl rfl rfl (by decide) rfl) ?_
                refine run_q (.on rfl rfl rfl (by rw [hL]; rfl)) rfl rfl (q_loadB rfl one3 rfl (.there Sel.here) rfl) ?_
                refine run_q (.on rfl rfl rfl (by rw [hL]; rfl)) rfl rfl (q_indexB (q := 1) (d := 1) rfl Try.underlying30 sz3 rfl rfl rfl (by decide) rfl) ?_
                refine run_q (.on rfl rfl rfl (by rw [hL]; rfl)) rfl rfl (q_loadB rfl one3 rfl (.there Sel.here) rfl) ?_
                refine run_q (.on rfl rfl rfl (by rw [hL]; rfl)) rfl rfl (q_indexB (q := 2) (d := 2) rfl Try.underlying30 sz3 rfl rfl rfl (by decide) rfl) ?_
                refine run_q (.on rfl rfl rfl (by rw [hL]; rfl)) rfl rfl (q_loadB rfl one3 rfl (.there Sel.here) rfl) ?_
                refine run_q (.on rfl rfl rfl (by rw [hL]; rfl)) rfl rfl (q_indexB (q := 3) (d := 3) rfl Try.underlying30 sz3 rfl rfl rfl (by decide) rfl) ?_
                refine run_q (.on rfl rfl rfl (by rw [hL]; rfl)) rfl rfl (q_loadB rfl one3 rfl (.there Sel.here) rfl) ?_
                refine run_q (.on rfl rfl rfl (by rw [hL]; rfl)) rfl rfl (q_move rfl rfl) ?_
                refine run_q (.on rfl rfl rfl (by rw [hL]; rfl)) rfl rfl (q_move rfl rfl) ?_
                refine run_q (.on rfl rfl rfl (by rw [hL]; rfl)) rfl rfl (q_mul rfl rfl rfl (by omega)) ?_
                refine run_q (.on rfl rfl rfl (by rw [hL]; rfl)) rfl rfl (q_loadBN rfl agg23 rfl (.there (.there Sel.here)) (.cons rfl (.cons rfl CellsAt.nil)) rfl) ?_
                refine run_q (.on rfl rfl rfl (by rw [hL]; rfl)) rfl rfl (q_build rfl (.cons rfl (.cons rfl (.cons rfl (.cons rfl (.cons rfl (.cons rfl (.cons rfl (.cons rfl (.cons rfl PV.nil))))))))) (built25p0p1p2p3p4p5p6p8p11 _ _ _ _ _ _ _ _ _ _)) ?_
                refine run_q (.on rfl rfl rfl (by rw [hL]; rfl)) rfl rfl (q_eqlS rfl rfl rfl eqg25 (fun w => eqs25 _ _ _ _ _ _ _ _ _ _ _ _ _ _ _ _ _ _ _ _ _ _ _ _ _ _ w)) ?_
                refine run_q (.none rfl) rfl rfl (q_pickT rfl rfl (by rw [hL]; rfl) rfl) ?_
                refine run_q (.none rfl) rfl rfl (q_assign rfl rfl) ?_
                refine run_nil ?_
                refine run_sub (subMk (.cons (s := 6) rfl .nil) .refl) ?_
                refine run_ret ?_
                exact end1 rfl rfl (by rw [hL]; simp)
      · have g38' := g38
        try simp only [decide_eq_true_eq, decide_eq_false_iff_not, beq_iff_eq, beq_eq_false_iff_ne, bne_iff_ne, bne_eq_false_iff_eq, Bool.not_eq_true', Bool.not_eq_false', ne_eq, Int.not_lt, Int.not_le, Decidable.not_not] at g38'
        refine run_seq ?_
        refine run_region ?_
        refine run_q (.none rfl) rfl rfl (q_eql rfl rfl rfl) ?_
        refine run_q (.none rfl) rfl rfl (q_assign rfl rfl) ?_
        refine run_nil ?_
        refine run_cond rfl (fun g40 => ?_) (fun g40 => ?_)
        · have g40' := g40
          try simp only [decide_eq_true_eq, decide_eq_false_iff_not, beq_iff_eq, beq_eq_false_iff_ne, bne_iff_ne, bne_eq_false_iff_eq, Bool.not_eq_true', Bool.not_eq_false', ne_eq, Int.not_lt, Int.not_le, Decidable.not_not] at g40'
          refine run_region ?_
          refine run_q (.none rfl) rfl rfl (q_assign rfl rfl) ?_
          refine run_nil ?_
          refine run_sub (subMk (.cons (s := 4) rfl (.cons (s := 5) rfl (.cons (s := 6) rfl (.cons (s := 7) rfl (.cons (s := 8) rfl (.cons (s := 9) rfl (.cons (s := 10) rfl .nil))))))) .refl) ?_
          refine run_blk ?_
          refine run_seq ?_
          refine run_seq ?_
          refine run_region ?_
          refine run_q (.none rfl) rfl rfl (q_indexB (q := 0) (d := 0) rfl Try.underlying30 sz3 rfl rfl rfl (by decide) rfl) ?_
          refine run_q (.none rfl) rfl rfl (q_loadB rfl one3 rfl (.there Sel.here) rfl) ?_
          refine run_q (.none rfl) rfl rfl (q_lss rfl rfl rfl) ?_
          refine run_q (.none rfl) rfl rfl (q_move rfl rfl) ?_
          refine run_split 49 rfl (fun g49 => ?_) (fun g49 => ?_)
          · have g49' := g49
            try simp only [decide_eq_true_eq, decide_eq_false_iff_not, beq_iff_eq, beq_eq_false_iff_ne, bne_iff_ne, bne_eq_false_iff_eq, Bool.not_eq_true', Bool.not_eq_false', ne_eq, Int.not_lt, Int.not_le, Decidable.not_not] at g49'
            refine run_off (.no rfl rfl rfl g49) rfl rfl ?_
            refine run_off (.no rfl rfl rfl g49) rfl rfl ?_
            refine run_off (.no rfl rfl rfl g49) rfl rfl ?_
            refine run_q (.none rfl) rfl rfl (q_pickT rfl rfl g49 rfl) ?_
            refine run_q (.none rfl) rfl rfl (q_move rfl rfl) ?_
            refine run_off (.no rfl rfl rfl rfl) rfl rfl ?_
            refine run_off (.no rfl rfl rfl rfl) rfl rfl ?_
            refine run_off (.no rfl rfl rfl rfl) rfl rfl ?_
            refine run_q (.none rfl) rfl rfl (q_pickT rfl rfl rfl rfl) ?_
            refine run_q (.none rfl) rfl rfl (q_move rfl rfl) ?_
            refine run_off (.no rfl rfl rfl rfl) rfl rfl ?_
            refine run_off (.no rfl rfl rfl rfl) rfl rfl ?_
            refine run_off (.no rfl rfl rfl rfl) rfl rfl ?_
            refine run_off (.no rfl rfl rfl rfl) rfl rfl ?_
            refine run_off (.no rfl rfl rfl rfl) rfl rfl ?_
            refine run_q (.none rfl) rfl rfl (q_pickT rfl rfl rfl rfl) ?_
            refine run_nil ?_
            refine run_sub (subMk (.cons (s := 4) rfl (.cons (s := 5) rfl (.cons (s := 6) rfl (.cons (s := 7) rfl (.cons (s := 8) rfl (.cons (s := 9) rfl (.cons (s := 10) rfl (.cons (s := 65) rfl .nil)))))))) .refl) ?_
            refine run_condT rfl rfl ?_
            refine run_seq ?_
            have hL : lineV k site num i t f l = (default, 2) := by subst g40'; rw [lineV, if_neg (by decide), if_pos (by omega)]
            refine run_region ?_
            refine run_q (.none rfl) rfl rfl (q_loadBN rfl agg25 rfl Sel.here (.cons rfl (.cons rfl (.cons rfl (.cons rfl (.cons rfl (.cons rfl (.cons rfl (.cons rfl (.cons rfl (.cons rfl (.cons rfl (.cons rfl (.cons rfl CellsAt.nil))))))))))))) rfl) ?_
            refine run_q (.none rfl) rfl rfl (q_build rfl PV.nil (built25)) ?_
            refine run_q (.none rfl) rfl rfl (q_eqlS rfl rfl rfl eqg25 (fun w => eqs25 _ _ _ _ _ _ _ _ _ _ _ _ _ _ _ _ _ _ _ _ _ _ _ _ _ _ w)) ?_
            refine run_q (.none rfl) rfl rfl (q_move rfl rfl) ?_
            refine run_q (.on rfl rfl rfl (by rw [hL]; rfl)) rfl rfl (q_move rfl rfl) ?_
            refine run_q (.on rfl rfl rfl (by rw [hL]; rfl)) rfl rfl (q_eql rfl rfl rfl) ?_
            refine run_q (.none rfl) rfl rfl (q_pickT rfl rfl (by rw [hL]; rfl) rfl) ?_
            refine run_q (.none rfl) rfl rfl (q_assign rfl rfl) ?_
            refine run_nil ?_
            refine run_sub (subMk (.cons (s := 4) rfl (.cons (s := 5) rfl (.cons (s := 6) rfl (.cons (s := 7) rfl (.cons (s := 8) rfl (.cons (s := 9) rfl (.cons (s := 10) rfl .nil))))))) .refl) ?_
            refine run_ret ?_
            exact end1 rfl rfl (by rw [hL]; simp)
          · have g49' := g49
            try simp only [decide_eq_true_eq, decide_eq_false_iff_not, beq_iff_eq, beq_eq_false_iff_ne, bne_iff_ne, bne_eq_false_iff_eq, Bool.not_eq_true', Bool.not_eq_false', ne_eq, Int.not_lt, Int.not_le, Decidable.not_not] at g49'
            refine run_q (.on rfl rfl rfl g49) rfl rfl (q_indexB (q := 1) (d := 1) rfl Try.underlying30 sz3 rfl rfl rfl (by decide) rfl) ?_
            refine run_q (.on rfl rfl rfl g49) rfl rfl (q_loadB rfl one3 rfl (.there Sel.here) rfl) ?_
            refine run_q (.on rfl rfl rfl g49) rfl rfl (q_lss rfl rfl rfl) ?_
            refine run_q (.none rfl) rfl rfl (q_pickF rfl rfl g49 rfl) ?_
            refine run_q (.none rfl) rfl rfl (q_move rfl rfl) ?_
            refine run_split 54 rfl (fun g54 => ?_) (fun g54 => ?_)
            · have g54' := g54
              try simp only [decide_eq_true_eq, decide_eq_false_iff_not, beq_iff_eq, beq_eq_false_iff_ne, bne_iff_ne, bne_eq_false_iff_eq, Bool.not_eq_true', Bool.not_eq_false', ne_eq, Int.not_lt, Int.not_le, Decidable.not_not] at g54'
              refine run_off (.no rfl rfl rfl g54) rfl rfl ?_
              refine run_off (.no rfl rfl rfl g54) rfl rfl ?_
              refine run_off (.no rfl rfl rfl g54) rfl rfl ?_
              refine run_q (.none rfl) rfl rfl (q_pickT rfl rfl g54 rfl) ?_
              refine run_q (.none rfl) rfl rfl (q_move rfl rfl) ?_
              refine run_off (.no rfl rfl rfl rfl) rfl rfl ?_
              refine run_off (.no rfl rfl rfl rfl) rfl rfl ?_
              refine run_off (.no rfl rfl rfl rfl) rfl rfl ?_
              refine run_off (.no rfl rfl rfl rfl) rfl rfl ?_
              refine run_off (.no rfl rfl rfl rfl) rfl rfl ?_
              refine run_q (.none rfl) rfl rfl (q_pickT rfl rfl rfl rfl) ?_
              refine run_nil ?_
              refine run_sub (subMk (.cons (s := 4) rfl (.cons (s := 5) rfl (.cons (s := 6) rfl (.cons (s := 7) rfl (.cons (s := 8) rfl (.cons (s := 9) rfl (.cons (s := 10) rfl (.cons (s := 65) rfl .nil)))))))) .refl) ?_
              refine run_condT rfl rfl ?_
              refine run_seq ?_
              have hL : lineV k site num i t f l = (default, 2) := by subst g40'; rw [lineV, if_neg (by decide), if_pos (by omega)]
              refine run_region ?_
              refine run_q (.none rfl) rfl rfl (q_loadBN rfl agg25 rfl Sel.here (.cons rfl (.cons rfl (.cons rfl (.cons rfl (.cons rfl (.cons rfl (.cons rfl (.cons rfl (.cons rfl (.cons rfl (.cons rfl (.cons rfl (.cons rfl CellsAt.nil))))))))))))) rfl) ?_
              refine run_q (.none rfl) rfl rfl (q_build rfl PV.nil (built25)) ?_
              refine run_q (.none rfl) rfl rfl (q_eqlS rfl rfl rfl eqg25 (fun w => eqs25 _ _ _ _ _ _ _ _ _ _ _ _ _ _ _ _ _ _ _ _ _ _ _ _ _ _ w)) ?_
              refine run_q (.none rfl) rfl rfl (q_move rfl rfl) ?_
              refine run_q (.on rfl rfl rfl (by rw [hL]; rfl)) rfl rfl (q_move rfl rfl) ?_
              refine run_q (.on rfl rfl rfl (by rw [hL]; rfl)) rfl rfl (q_eql rfl rfl rfl) ?_
              refine run_q (.none rfl) rfl rfl (q_pickT rfl rfl (by rw [hL]; rfl) rfl) ?_
              refine run_q (.none rfl) rfl rfl (q_assign rfl rfl) ?_
              refine run_nil ?_
              refine run_sub (subMk (.cons (s := 4) rfl (.cons (s := 5) rfl (.cons (s := 6) rfl (.cons (s := 7) rfl (.cons (s := 8) rfl (.cons (s := 9) rfl (.cons (s := 10) rfl .nil))))))) .refl) ?_
              refine run_ret ?_
              exact end1 rfl rfl (by rw [hL]; simp)
            · have g54' := g54
              try simp only [decide_eq_true_eq, decide_eq_false_iff_not, beq_iff_eq, beq_eq_false_iff_ne, bne_iff_ne, bne_eq_false_iff_eq, Bool.not_eq_true', Bool.not_eq_false', ne_eq, Int.not_lt, Int.not_le, Decidable.not_not] at g54'
              refine run_q (.on rfl rfl rfl g54) rfl rfl (q_indexB (q := 2) (d := 2) rfl Try.underlying30 sz3 rfl rfl rfl (by decide) rfl) ?_
              refine run_q (.on rfl rfl rfl g54) rfl rfl (q_loadB rfl one3 rfl (.there Sel.here) rfl) ?_
              refine run_q (.on rfl rfl rfl g54) rfl rfl (q_lss rfl rfl rfl) ?_
              refine run_q (.none rfl) rfl rfl (q_pickF rfl rfl g54 rfl) ?_
              refine run_q (.none rfl) rfl rfl (q_move rfl rfl) ?_
              refine run_split 59 rfl (fun g59 => ?_) (fun g59 => ?_)
              · have g59' := g59
                try simp only [decide_eq_true_eq, decide_eq_false_iff_not, beq_iff_eq, beq_eq_false_iff_ne, bne_iff_ne, bne_eq_false_iff_eq, Bool.not_eq_true', Bool.not_eq_false', ne_eq, Int.not_lt, Int.not_le, Decidable.not_not] at g59'
                refine run_off (.no rfl rfl rfl g59) rfl rfl ?_
                refine run_off (.no rfl rfl rfl g59) rfl rfl ?_
                refine run_off (.no rfl rfl rfl g59) rfl rfl ?_
                refine run_off (.no rfl rfl rfl g59) rfl rfl ?_
                refine run_off (.no rfl rfl rfl g59) rfl rfl ?_
                refine run_q (.none rfl) rfl rfl (q_pickT rfl rfl g59 rfl) ?_
                refine run_nil ?_
                refine run_sub (subMk (.cons (s := 4) rfl (.cons (s := 5) rfl (.cons (s := 6) rfl (.cons (s := 7) rfl (.cons (s := 8) rfl (.cons (s := 9) rfl (.cons (s := 10) rfl (.cons (s := 65) rfl .nil)))))))) .refl) ?_
                refine run_condT rfl rfl ?_
                refine run_seq ?_
                have hL : lineV k site num i t f l = (default, 2) := by subst g40'; rw [lineV, if_neg (by decide), if_pos (by omega)]
                refine run_region ?_
                refine run_q (.none rfl) rfl rfl (q_loadBN rfl agg25 rfl Sel.here (.cons rfl (.cons rfl (.cons rfl (.cons rfl (.cons rfl (.cons rfl (.cons rfl (.cons rfl (.cons rfl (.cons rfl (.cons rfl (.cons rfl (.cons rfl CellsAt.nil))))))))))))) rfl) ?_
                refine run_q (.none rfl) rfl rfl (q_build rfl PV.nil (built25)) ?_
                refine run_q (.none rfl) rfl rfl (q_eqlS rfl rfl rfl eqg25 (fun w => eqs25 _ _ _ _ _ _ _ _ _ _ _ _ _ _ _ _ _ _ _ _ _ _ _ _ _ _ w)) ?_
                refine run_q (.none rfl) rfl rfl (q_move rfl rfl) ?_
                refine run_q (.on rfl rfl rfl (by rw [hL]; rfl)) rfl rfl (q_move rfl rfl) ?_
                refine run_q (.on rfl rfl rfl (by rw [hL]; rfl)) rfl rfl (q_eql rfl rfl rfl) ?_
                refine run_q (.none rfl) rfl rfl (q_pickT rfl rfl (by rw [hL]; rfl) rfl) ?_
                refine run_q (.none rfl) rfl rfl (q_assign rfl rfl) ?_
                refine run_nil ?_
                refine run_sub (subMk (.cons (s := 4) rfl (.cons (s := 5) rfl (.cons (s := 6) rfl (.cons (s := 7) rfl (.cons (s := 8) rfl (.cons (s := 9) rfl (.cons (s := 10) rfl .nil))))))) .refl) ?_
                refine run_ret ?_
                exact end1 rfl rfl (by rw [hL]; simp)
              · have g59' := g59
                try simp only [decide_eq_true_eq, decide_eq_false_iff_not, beq_iff_eq, beq_eq_false_iff_ne, bne_iff_ne, bne_eq_false_iff_eq, Bool.not_eq_true', Bool.not_eq_false', ne_eq, Int.not_lt, Int.not_le, Decidable.not_not] at g59'
                refine run_q (.on rfl rfl rfl g59) rfl rfl (q_indexB (q := 3) (d := 3) rfl Try.underlying30 sz3 rfl rfl rfl (by decide) rfl) ?_
                refine run_q (.on rfl rfl rfl g59) rfl rfl (q_loadB rfl one3 rfl (.there Sel.here) rfl) ?_
                refine run_q (.on rfl rfl rfl g59) rfl rfl (q_indexB (q := 2) (d := 2) rfl Try.underlying30 sz3 rfl rfl rfl (by decide) rfl) ?_
                refine run_q (.on rfl rfl rfl g59) rfl rfl (q_loadB rfl one3 rfl (.there Sel.here) rfl) ?_
                refine run_q (.on rfl rfl rfl g59) rfl rfl (q_lss rfl rfl rfl) ?_
                refine run_q (.none rfl) rfl rfl (q_pickF rfl rfl g59 rfl) ?_
                refine run_nil ?_
                refine run_sub (subMk (.cons (s := 4) rfl (.cons (s := 5) rfl (.cons (s := 6) rfl (.cons (s := 7) rfl (.cons (s := 8) rfl (.cons (s := 9) rfl (.cons (s := 10) rfl (.cons (s := 65) rfl .nil)))))))) .refl) ?_
                refine run_cond rfl (fun g65 => ?_) (fun g65 => ?_)
                · have g65' := g65
                  try simp only [decide_eq_true_eq, decide_eq_false_iff_not, beq_iff_eq, beq_eq_false_iff_ne, bne_iff_ne, bne_eq_false_iff_eq, Bool.not_eq_true', Bool.not_eq_false', ne_eq, Int.not_lt, Int.not_le, Decidable.not_not] at g65'
                  refine run_seq ?_
                  have hL : lineV k site num i t f l = (default, 2) := by subst g40'; rw [lineV, if_neg (by decide), if_pos (by omega)]
                  refine run_region ?_
                  refine run_q (.none rfl) rfl rfl (q_loadBN rfl agg25 rfl Sel.here (.cons rfl (.cons rfl (.cons rfl (.cons rfl (.cons rfl (.cons rfl (.cons rfl (.cons rfl (.cons rfl (.cons rfl (.cons rfl (.cons rfl (.cons rfl CellsAt.nil))))))))))))) rfl) ?_
                  refine run_q (.none rfl) rfl rfl (q_build rfl PV.nil (built25)) ?_
                  refine run_q (.none rfl) rfl rfl (q_eqlS rfl rfl rfl eqg25 (fun w => eqs25 _ _ _ _ _ _ _ _ _ _ _ _ _ _ _ _ _ _ _ _ _ _ _ _ _ _ w)) ?_
                  refine run_q (.none rfl) rfl rfl (q_move rfl rfl) ?_
                  refine run_q (.on rfl rfl rfl (by rw [hL]; rfl)) rfl rfl (q_move rfl rfl) ?_
                  refine run_q (.on rfl rfl rfl (by rw [hL]; rfl)) rfl rfl (q_eql rfl rfl rfl) ?_
                  refine run_q (.none rfl) rfl rfl (q_pickT rfl rfl (by rw [hL]; rfl) rfl) ?_
                  refine run_q (.none rfl) rfl rfl (q_assign rfl rfl) ?_
                  refine run_nil ?_
                  refine run_sub (subMk (.cons (s := 4) rfl (.cons (s := 5) rfl (.cons (s := 6) rfl (.cons (s := 7) rfl (.cons (s := 8) rfl (.cons (s := 9) rfl (.cons (s := 10) rfl .nil))))))) .refl) ?_
                  refine run_ret ?_
                  exact end1 rfl rfl (by rw [hL]; simp)
                · have g65' := g65
                  try simp only [decide_eq_true_eq, decide_eq_false_iff_not, beq_iff_eq, beq_eq_false_iff_ne, bne_iff_ne, bne_eq_false_iff_eq, Bool.not_eq_true', Bool.not_eq_false', ne_eq, Int.not_lt, Int.not_le, Decidable.not_not] at g65'
                  refine run_skip ?_
                  refine run_seq ?_
                  have hL : lineV k site num i t f l = (⟨58, i, t, f, l, -1, -1 * 136, 0, site, num, 0, 0, 32⟩, 0) := by subst g40'; rw [lineV, if_neg (by decide), if_neg (by omega)]; rfl
                  refine run_region ?_
                  refine run_q (.none rfl) rfl rfl (q_move rfl rfl) ?_
                  refine run_q (.none rfl) rfl rfl (q_eql rfl rfl rfl) ?_
                  refine run_q (.none rfl) rfl rfl (q_move rfl rfl) ?_
                  refine run_q (.on rfl rfl rfl (by rw [hL]; rfl)) rfl rfl (q_loadBN rfl agg25 rfl Sel.here (.cons rfl (.cons rfl (.cons rfl (.cons rfl (.cons rfl (.cons rfl (.cons rfl (.cons rfl (.cons rfl (.cons rfl (.cons rfl (.cons rfl (.cons rfl CellsAt.nil))))))))))))) rfl) ?_
                  refine run_q (.on rfl rfl rfl (by rw [hL]; rfl)) rfl rfl (q_move rfl rfl) ?_
                  refine run_q (.on rfl rfl rfl (by rw [hL]; rfl)) rfl rfl (q_indexB (q := 0) (d := 0) rfl Try.underlying30 sz3 rfl rfl rfl (by decide) rfl) ?_
                  refine run_q (.on rfl rfl rfl (by rw [hL]; rfl)) rfl rfl (q_loadB rfl one3 rfl (.there Sel.here) rfl) ?_
                  refine run_q (.on rfl rfl rfl (by rw [hL]; rfl)) rfl rfl (q_indexB (q := 1) (d := 1) rfl Try.underlying30 sz3 rfl rfl rfl (by decide) rfl) ?_
                  refine run_q (.on rfl rfl rfl (by rw [hL]; rfl)) rfl rfl (q_loadB rfl one3 rfl (.there Sel.here) rfl) ?_
                  refine run_q (.on rfl rfl rfl (by rw [hL]; rfl)) rfl rfl (q_indexB (q := 2) (d := 2) rfl Try.underlying30 sz3 rfl rfl rfl (by decide) rfl) ?_
                  refine run_q (.on rfl rfl rfl (by rw [hL]; rfl)) rfl rfl (q_loadB rfl one3 rfl (.there Sel.here) rfl) ?_
                  refine run_q (.on rfl rfl rfl (by rw [hL]; rfl)) rfl rfl (q_indexB (q := 3) (d := 3) rfl Try.underlying30 sz3 rfl rfl rfl (by decide) rfl) ?_
                  refine run_q (.on rfl rfl rfl (by rw [hL]; rfl)) rfl rfl (q_loadB rfl one3 rfl (.there Sel.here) rfl) ?_
                  refine run_q (.on rfl rfl rfl (by rw [hL]; rfl)) rfl rfl (q_move rfl rfl) ?_
                  refine run_q (.on rfl rfl rfl (by rw [hL]; rfl)) rfl rfl (q_move rfl rfl) ?_
                  refine run_q (.on rfl rfl rfl (by rw [hL]; rfl)) rfl rfl (q_mul rfl rfl rfl (by omega)) ?_
                  refine run_q (.on rfl rfl rfl (by rw [hL]; rfl)) rfl rfl (q_loadBN rfl agg23 rfl (.there (.there Sel.here)) (.cons rfl (.cons rfl CellsAt.nil)) rfl) ?_
                  refine run_q (.on rfl rfl rfl (by rw [hL]; rfl)) rfl rfl (q_build rfl (.cons rfl (.cons rfl (.cons rfl (.cons rfl (.cons rfl (.cons rfl (.cons rfl (.cons rfl (.cons rfl PV.nil))))))))) (built25p0p1p2p3p4p5p6p8p11 _ _ _ _ _ _ _ _ _ _)) ?_
                  refine run_q (.on rfl rfl rfl (by rw [hL]; rfl)) rfl rfl (q_eqlS rfl rfl rfl eqg25 (fun w => eqs25 _ _ _ _ _ _ _ _ _ _ _ _ _ _ _ _ _ _ _ _ _ _ _ _ _ _ w)) ?_
                  refine run_q (.none rfl) rfl rfl (q_pickT rfl rfl (by rw [hL]; rfl) rfl) ?_
                  refine run_q (.none rfl) rfl rfl (q_assign rfl rfl) ?_
                  refine run_nil ?_
                  refine run_sub (subMk (.cons (s := 6) rfl .nil) .refl) ?_
                  refine run_ret ?_
                  exact end1 rfl rfl (by rw [hL]; simp)
        · have g40' := g40
          try simp only [decide_eq_true_eq, decide_eq_false_iff_not, beq_iff_eq, beq_eq_false_iff_ne, bne_iff_ne, bne_eq_false_iff_eq, Bool.not_eq_true', Bool.not_eq_false', ne_eq, Int.not_lt, Int.not_le, Decidable.not_not] at g40'
          refine run_seq ?_
          refine run_region ?_
          refine run_q (.none rfl) rfl rfl (q_eql rfl rfl rfl) ?_
          refine run_q (.none rfl) rfl rfl (q_assign rfl rfl) ?_
          refine run_nil ?_
          refine run_sub (subMk (.cons (s := 4) rfl (.cons (s := 5) rfl (.cons (s := 6) rfl (.cons (s := 7) rfl (.cons (s := 8) rfl (.cons (s := 9) rfl (.cons (s := 10) rfl (.cons (s := 27) rfl (.cons (s := 42) rfl .nil))))))))) .refl) ?_
          refine run_cond rfl (fun g42 => ?_) (fun g42 => ?_)
          · have g42' := g42
            try simp only [decide_eq_true_eq, decide_eq_false_iff_not, beq_iff_eq, beq_eq_false_iff_ne, bne_iff_ne, bne_eq_false_iff_eq, Bool.not_eq_true', Bool.not_eq_false', ne_eq, Int.not_lt, Int.not_le, Decidable.not_not] at g42'
            refine run_region ?_
            refine run_q (.none rfl) rfl rfl (q_assign rfl rfl) ?_
            refine run_q (.none rfl) rfl rfl (q_assign rfl rfl) ?_
            refine run_nil ?_
            refine run_blk ?_
            refine run_seq ?_
            refine run_seq ?_
            refine run_region ?_
            refine run_q (.none rfl) rfl rfl (q_indexB (q := 0) (d := 0) rfl Try.underlying30 sz3 rfl rfl rfl (by decide) rfl) ?_
            refine run_q (.none rfl) rfl rfl (q_loadB rfl one3 rfl (.there Sel.here) rfl) ?_
            refine run_q (.none rfl) rfl rfl (q_lss rfl rfl rfl) ?_
            refine run_q (.none rfl) rfl rfl (q_move rfl rfl) ?_
            refine run_split 49 rfl (fun g49 => ?_) (fun g49 => ?_)
            · have g49' := g49
              try simp only [decide_eq_true_eq, decide_eq_false_iff_not, beq_iff_eq, beq_eq_false_iff_ne, bne_iff_ne, bne_eq_false_iff_eq, Bool.not_eq_true', Bool.not_eq_false', ne_eq, Int.not_lt, Int.not_le, Decidable.not_not] at g49'
              refine run_off (.no rfl rfl rfl g49) rfl rfl ?_
              refine run_off (.no rfl rfl rfl g49) rfl rfl ?_
              refine run_off (.no rfl rfl rfl g49) rfl rfl ?_
              refine run_q (.none rfl) rfl rfl (q_pickT rfl rfl g49 rfl) ?_
              refine run_q (.none rfl) rfl rfl (q_move rfl rfl) ?_
              refine run_off (.no rfl rfl rfl rfl) rfl rfl ?_
              refine run_off (.no rfl rfl rfl rfl) rfl rfl ?_
              refine run_off (.no rfl rfl rfl rfl) rfl rfl ?_
              refine run_q (.none rfl) rfl rfl (q_pickT rfl rfl rfl rfl) ?_
              refine run_q (.none rfl) rfl rfl (q_move rfl rfl) ?_
              refine run_off (.no rfl rfl rfl rfl) rfl rfl ?_
              refine run_off (.no rfl rfl rfl rfl) rfl rfl ?_
              refine run_off (.no rfl rfl rfl rfl) rfl rfl ?_
              refine run_off (.no rfl rfl rfl rfl) rfl rfl ?_
              refine run_off (.no rfl rfl rfl rfl) rfl rfl ?_
              refine run_q (.none rfl) rfl rfl (q_pickT rfl rfl rfl rfl) ?_
              refine run_nil ?_
              refine run_sub (subMk (.cons (s := 4) rfl (.cons (s := 5) rfl (.cons (s := 6) rfl (.cons (s := 7) rfl (.cons (s := 8) rfl (.cons (s := 9) rfl (.cons (s := 10) rfl (.cons (s := 65) rfl .nil)))))))) .refl) ?_
              refine run_condT rfl rfl ?_
              refine run_seq ?_
              have hL : lineV k site num i t f l = (default, 2) := by subst g42'; rw [lineV, if_neg (by decide), if_pos (by omega)]
              refine run_region ?_
              refine run_q (.none rfl) rfl rfl (q_loadBN rfl agg25 rfl Sel.here (.cons rfl (.cons rfl (.cons rfl (.cons rfl (.cons rfl (.cons rfl (.cons rfl (.cons rfl (.cons rfl (.cons rfl (.cons rfl (.cons rfl (.cons rfl CellsAt.nil))))))))))))) rfl) ?_
              refine run_q (.none rfl) rfl rfl (q_build rfl PV.nil (built25)) ?_
              refine run_q (.none rfl) rfl rfl (q_eqlS rfl rfl rfl eqg25 (fun w => eqs25 _ _ _ _ _ _ _ _ _ _ _ _ _ _ _ _ _ _ _ _ _ _ _ _ _ _ w)) ?_
              refine run_q (.none rfl) rfl rfl (q_move rfl rfl) ?_
              refine run_q (.on rfl rfl rfl (by rw [hL]; rfl)) rfl rfl (q_move rfl rfl) ?_
              refine run_q (.on rfl rfl rfl (by rw [hL]; rfl)) rfl rfl (q_eql rfl rfl rfl) ?_
              refine run_q (.none rfl) rfl rfl (q_pickT rfl rfl (by rw [hL]; rfl) rfl) ?_
              refine run_q (.none rfl) rfl rfl (q_assign rfl rfl) ?_
              refine run_nil ?_
              refine run_sub (subMk (.cons (s := 4) rfl (.cons (s := 5) rfl (.cons (s := 6) rfl (.cons (s := 7) rfl (.cons (s := 8) rfl (.cons (s := 9) rfl (.cons (s := 10) rfl .nil))))))) .refl) ?_
              refine run_ret ?_
              exact end1 rfl rfl (by rw [hL]; simp)
            · have g49' := g49
              try simp only [decide_eq_true_eq, decide_eq_false_iff_not, beq_iff_eq, beq_eq_false_iff_ne, bne_iff_ne, bne_eq_false_iff_eq, Bool.not_eq_true', Bool.not_eq_false', ne_eq, Int.not_lt, Int.not_le, Decidable.not_not] at g49'
              refine run_q (.on rfl rfl rfl g49) rfl rfl (q_indexB (q := 1) (d := 1) rfl Try.underlying30 sz3 rfl rfl rfl (by decide) rfl) ?_
              refine run_q (.on rfl rfl rfl g49) rfl rfl (q_loadB rfl one3 rfl (.there Sel.here) rfl) ?_
              refine run_q (.on rfl rfl rfl g49) rfl rfl (q_lss rfl rfl rfl) ?_
              refine run_q (.none rfl) rfl rfl (q_pickF rfl rfl g49 rfl) ?_
              refine run_q (.none rfl) rfl rfl (q_move rfl rfl) ?_
              refine run_split 54 rfl (fun g54 => ?_) (fun g54 => ?_)
              · have g54' := g54
                try simp only [decide_eq_true_eq, decide_eq_false_iff_not, beq_iff_eq, beq_eq_false_iff_ne, bne_iff_ne, bne_eq_false_iff_eq, Bool.not_eq_true', Bool.not_eq_false', ne_eq, Int.not_lt, Int.not_le, Decidable.not_not] at g54'
                refine run_off (.no rfl rfl rfl g54) rfl rfl ?_
                refine run_off (.no rfl rfl rfl g54) rfl rfl ?_
                refine run_off (.no rfl rfl rfl g54) rfl rfl ?_
                refine run_q (.none rfl) rfl rfl (q_pickT rfl rfl g54 rfl) ?_
                refine run_q (.none rfl) rfl rfl (q_move rfl rfl) ?_
                refine run_off (.no rfl rfl rfl rfl) rfl rfl ?_
                refine run_off (.no rfl rfl rfl rfl) rfl rfl ?_
                refine run_off (.no rfl rfl rfl rfl) rfl rfl ?_
                refine run_off (.no rfl rfl rfl rfl) rfl rfl ?_
                refine run_off (.no rfl rfl rfl rfl) rfl rfl ?_
                refine run_q (.none rfl) rfl rfl (q_pickT rfl rfl rfl rfl) ?_
                refine run_nil ?_
                refine run_sub (subMk (.cons (s := 4) rfl (.cons (s := 5) rfl (.cons (s := 6) rfl (.cons (s := 7) rfl (.cons (s := 8) rfl (.cons (s := 9) rfl (.cons (s := 10) rfl (.cons (s := 65) rfl .nil)))))))) .refl) ?_
                refine run_condT rfl rfl ?_
                refine run_seq ?_
                have hL : lineV k site num i t f l = (default, 2) := by subst g42'; rw [lineV, if_neg (by decide), if_pos (by omega)]
                refine run_region ?_
                refine run_q (.none rfl) rfl rfl (q_loadBN rfl agg25 rfl Sel.here (.cons rfl (.cons rfl (.cons rfl (.cons rfl (.cons rfl (.cons rfl (.cons rfl (.cons rfl (.cons rfl (.cons rfl (.cons rfl (.cons rfl (.cons rfl CellsAt.nil))))))))))))) rfl) ?_
                refine run_q (.none rfl) rfl rfl (q_build rfl PV.nil (built25)) ?_
                refine run_q (.none rfl) rfl rfl (q_eqlS rfl rfl rfl eqg25 (fun w => eqs25 _ _ _ _ _ _ _ _ _ _ _ _ _ _ _ _ _ _ _ _ _ _ _ _ _ _ w)) ?_
                refine run_q (.none rfl) rfl rfl (q_move rfl rfl) ?_
                refine run_q (.on rfl rfl rfl (by rw [hL]; rfl)) rfl rfl (q_move rfl rfl) ?_
                refine run_q (.on rfl rfl rfl (by rw [hL]; rfl)) rfl rfl (q_eql rfl rfl rfl) ?_
                refine run_q (.none rfl) rfl rfl (q_pickT rfl rfl (by rw [hL]; rfl) rfl) ?_
                refine run_q (.none rfl) rfl rfl (q_assign rfl rfl) ?_
                refine run_nil ?_
                refine run_sub (subMk (.cons (s := 4) rfl (.cons (s := 5) rfl (.cons (s := 6) rfl (.cons (s := 7) rfl (.cons (s := 8) rfl (.cons (s := 9) rfl (.cons (s := 10) rfl .nil))))))) .refl) ?_
                refine run_ret ?_
                exact end1 rfl rfl (by rw [hL]; simp)
              · have g54' := g54
                try simp only [decide_eq_true_eq, decide_eq_false_iff_not, beq_iff_eq, beq_eq_false_iff_ne, bne_iff_ne, bne_eq_false_iff_eq, Bool.not_eq_true', Bool.not_eq_false', ne_eq, Int.not_lt, Int.not_le, Decidable.not_not] at g54'
                refine run_q (.on rfl rfl rfl g54) rfl rfl (q_indexB (q := 2) (d := 2) rfl Try.underlying30 sz3 rfl rfl rfl (by decide) rfl) ?_
                refine run_q (.on rfl rfl rfl g54) rfl rfl (q_loadB rfl one3 rfl (.there Sel.here) rfl) ?_
                refine run_q (.on rfl rfl rfl g54) rfl rfl (q_lss rfl rfl rfl) ?_
                refine run_q (.none rfl) rfl rfl (q_pickF rfl rfl g54 rfl) ?_
                refine run_q (.none rfl) rfl rfl (q_move rfl rfl) ?_
                refine run_split 59 rfl (fun g59 => ?_) (fun g59 => ?_)
                · have g59' := g59
                  try simp only [decide_eq_true_eq, decide_eq_false_iff_not, beq_iff_eq, beq_eq_false_iff_ne, bne_iff_ne, bne_eq_false_iff_eq, Bool.not_eq_true', Bool.not_eq_false', ne_eq, Int.not_lt, Int.not_le, Decidable.not_not] at g59'
                  refine run_off (.no rfl rfl rfl g59) rfl rfl ?_
                  refine run_off (.no rfl rfl rfl g59) rfl rfl ?_
                  refine run_off (.no rfl rfl rfl g59) rfl rfl ?_
                  refine run_off (.no rfl rfl rfl g59) rfl rfl ?_
                  refine run_off (.no rfl rfl rfl g59) rfl rfl ?_
                  refine run_q (.none rfl) rfl rfl (q_pickT rfl rfl g59 rfl) ?_
                  refine run_nil ?_
                  refine run_sub (subMk (.cons (s := 4) rfl (.cons (s := 5) rfl (.cons (s := 6) rfl (.cons (s := 7) rfl (.cons (s := 8) rfl (.cons (s := 9) rfl (.cons (s := 10) rfl (.cons (s := 65) rfl .nil)))))))) .refl) ?_
                  refine run_condT rfl rfl ?_
                  refine run_seq ?_
                  have hL : lineV k site num i t f l = (default, 2) := by subst g42'; rw [lineV, if_neg (by decide), if_pos (by omega)]
                  refine run_region ?_
                  refine run_q (.none rfl) rfl rfl (q_loadBN rfl agg25 rfl Sel.here (.cons rfl (.cons rfl (.cons rfl (.cons rfl (.cons rfl (.cons rfl (.cons rfl (.cons rfl (.cons rfl (.cons rfl (.cons rfl (.cons rfl (.cons rfl CellsAt.nil))))))))))))) rfl) ?_
                  refine run_q (.none rfl) rfl rfl (q_build rfl PV.nil (built25)) ?_
                  refine run_q (.none rfl) rfl rfl (q_eqlS rfl rfl rfl eqg25 (fun w => eqs25 _ _ _ _ _ _ _ _ _ _ _ _ _ _ _ _ _ _ _ _ _ _ _ _ _ _ w)) ?_
                  refine run_q (.none rfl) rfl rfl (q_move rfl rfl) ?_
                  refine run_q (.on rfl rfl rfl (by rw [hL]; rfl)) rfl rfl (q_move rfl rfl) ?_
                  refine run_q (.on rfl rfl rfl (by rw [hL]; rfl)) rfl rfl (q_eql rfl rfl rfl) ?_
                  refine run_q (.none rfl) rfl rfl (q_pickT rfl rfl (by rw [hL]; rfl) rfl) ?_
                  refine run_q (.none rfl) rfl rfl (q_assign rfl rfl) ?_
                  refine run_nil ?_
                  refine run_sub (subMk (.cons (s := 4) rfl (.cons (s := 5) rfl (.cons (s := 6) rfl (.cons (s := 7) rfl (.cons (s := 8) rfl (.cons (s := 9) rfl (.cons (s := 10) rfl .nil))))))) .refl) ?_
                  refine run_ret ?_
                  exact end1 rfl rfl (by rw [hL]; simp)
                · have g59' := g59
                  try simp only [decide_eq_true_eq, decide_eq_false_iff_not, beq_iff_eq, beq_eq_false_iff_ne, bne_iff_ne, bne_eq_false_iff_eq, Bool.not_eq_true', Bool.not_eq_false', ne_eq, Int.not_lt, Int.not_le, Decidable.not_not] at g59'
                  refine run_q (.on rfl rfl rfl g59) rfl rfl (q_indexB (q := 3) (d := 3) rfl Try.underlying30 sz3 rfl rfl rfl (by decide) rfl) ?_
                  refine run_q (.on rfl rfl rfl g59) rfl rfl (q_loadB rfl one3 rfl (.there Sel.here) rfl) ?_
                  refine run_q (.on rfl rfl rfl g59) rfl rfl (q_indexB (q := 2) (d := 2) rfl Try.underlying30 sz3 rfl rfl rfl (by decide) rfl) ?_
                  refine run_q (.on rfl rfl rfl g59) rfl rfl (q_loadB rfl one3 rfl (.there Sel.here) rfl) ?_
                  refine run_q (.on rfl rfl rfl g59) rfl rfl (q_lss rfl rfl rfl) ?_
                  refine run_q (.none rfl) rfl rfl (q_pickF rfl rfl g59 rfl) ?_
                  refine run_nil ?_
                  refine run_sub (subMk (.cons (s := 4) rfl (.cons (s := 5) rfl (.cons (s := 6) rfl (.cons (s := 7) rfl (.cons (s := 8) rfl (.cons (s := 9) rfl (.cons (s := 10) rfl (.cons (s := 65) rfl .nil)))))))) .refl) ?_
                  refine run_cond rfl (fun g65 => ?_) (fun g65 => ?_)
                  · have g65' := g65
                    try simp only [decide_eq_true_eq, decide_eq_false_iff_not, beq_iff_eq, beq_eq_false_iff_ne, bne_iff_ne, bne_eq_false_iff_eq, Bool.not_eq_true', Bool.not_eq_false', ne_eq, Int.not_lt, Int.not_le, Decidable.not_not] at g65'
                    refine run_seq ?_
                    have hL : lineV k site num i t f l = (default, 2) := by subst g42'; rw [lineV, if_neg (by decide), if_pos (by omega)]
                    refine run_region ?_
                    refine run_q (.none rfl) rfl rfl (q_loadBN rfl agg25 rfl Sel.here (.cons rfl (.cons rfl (.cons rfl (.cons rfl (.cons rfl (.cons rfl (.cons rfl (.cons rfl (.cons rfl (.cons rfl (.cons rfl (.cons rfl (.cons rfl CellsAt.nil))))))))))))) rfl) ?_
                    refine run_q (.none rfl) rfl rfl (q_build rfl PV.nil (built25)) ?_
                    refine run_q (.none rfl) rfl rfl (q_eqlS rfl rfl rfl eqg25 (fun w => eqs25 _ _ _ _ _ _ _ _ _ _ _ _ _ _ _ _ _ _ _ _ _ _ _ _ _ _ w)) ?_
                    refine run_q (.none rfl) rfl rfl (q_move rfl rfl) ?_
                    refine run_q (.on rfl rfl rfl (by rw [hL]; rfl)) rfl rfl (q_move rfl rfl) ?_
                    refine run_q (.on rfl rfl rfl (by rw [hL]; rfl)) rfl rfl (q_eql rfl rfl rfl) ?_
                    refine run_q (.none rfl) rfl rfl (q_pickT rfl rfl (by rw [hL]; rfl) rfl) ?_
                    refine run_q (.none rfl) rfl rfl (q_assign rfl rfl) ?_
                    refine run_nil ?_
                    refine run_sub (subMk (.cons (s := 4) rfl (.cons (s := 5) rfl (.cons (s := 6) rfl (.cons (s := 7) rfl (.cons (s := 8) rfl (.cons (s := 9) rfl (.cons (s := 10) rfl .nil))))))) .refl) ?_
                    refine run_ret ?_
                    exact end1 rfl rfl (by rw [hL]; simp)
                  · have g65' := g65
                    try simp only [decide_eq_true_eq, decide_eq_false_iff_not, beq_iff_eq, beq_eq_false_iff_ne, bne_iff_ne, bne_eq_false_iff_eq, Bool.not_eq_true', Bool.not_eq_false', ne_eq, Int.not_lt, Int.not_le, Decidable.not_not] at g65'
                    refine run_skip ?_
                    refine run_seq ?_
                    have hL : lineV k site num i t f l = (⟨58, i, t, f, l, 1, 1 * 136, 0, site, num, 0, 0, 32⟩, 0) := by subst g42'; rw [lineV, if_neg (by decide), if_neg (by omega)]; rfl
                    refine run_region ?_
                    refine run_q (.none rfl) rfl rfl (q_move rfl rfl) ?_
                    refine run_q (.none rfl) rfl rfl (q_eql rfl rfl rfl) ?_
                    refine run_q (.none rfl) rfl rfl (q_move rfl rfl) ?_
                    refine run_q (.on rfl rfl rfl (by rw [hL]; rfl)) rfl rfl (q_loadBN rfl agg25 rfl Sel.here (.cons rfl (.cons rfl (.cons rfl (.cons rfl (.cons rfl (.cons rfl (.cons rfl (.cons rfl (.cons rfl (.cons rfl (.cons rfl (.cons rfl (.cons rfl CellsAt.nil))))))))))))) rfl) ?_
                    refine run_q (.on rfl rfl rfl (by rw [hL]; rfl)) rfl rfl (q_move rfl rfl) ?_
                    refine run_q (.on rfl rfl rfl (by rw [hL]; rfl)) rfl rfl (q_indexB (q := 0) (d := 0) rfl Try.underlying30 sz3 rfl rfl rfl (by decide) rfl) ?_
                    refine run_q (.on rfl rfl rfl (by rw [hL]; rfl)) rfl rfl (q_loadB rfl one3 rfl (.there Sel.here) rfl) ?_
                    refine run_q (.on rfl rfl rfl (by rw [hL]; rfl)) rfl rfl (q_indexB (q := 1) (d := 1) rfl Try.underlying30 sz3 rfl rfl rfl (by decide) rfl) ?_
                    refine run_q (.on rfl rfl rfl (by rw [hL]; rfl)) rfl rfl (q_loadB rfl one3 rfl (.there Sel.here) rfl) ?_
                    refine run_q (.on rfl rfl rfl (by rw [hL]; rfl)) rfl rfl (q_indexB (q := 2) (d := 2) rfl Try.underlying30 sz3 rfl rfl rfl (by decide) rfl) ?_
                    refine run_q (.on rfl rfl rfl (by rw [hL]; rfl)) rfl rfl (q_loadB rfl one3 rfl (.there Sel.here) rfl) ?_
                    refine run_q (.on rfl rfl rfl (by rw [hL]; rfl)) rfl rfl (q_indexB (q := 3) (d := 3) rfl Try.underlying30 sz3 rfl rfl rfl (by decide) rfl) ?_
                    refine run_q (.on rfl rfl rfl (by rw [hL]; rfl)) rfl rfl (q_loadB rfl one3 rfl (.there Sel.here) rfl) ?_
                    refine run_q (.on rfl rfl rfl (by rw [hL]; rfl)) rfl rfl (q_move rfl rfl) ?_
                    refine run_q (.on rfl rfl rfl (by rw [hL]; rfl)) rfl rfl (q_move rfl rfl) ?_
                    refine run_q (.on rfl rfl rfl (by rw [hL]; rfl)) rfl rfl (q_mul rfl rfl rfl (by omega)) ?_
                    refine run_q (.on rfl rfl rfl (by rw [hL]; rfl)) rfl rfl (q_loadBN rfl agg23 rfl (.there (.there Sel.here)) (.cons rfl (.cons rfl CellsAt.nil)) rfl) ?_
                    refine run_q (.on rfl rfl rfl (by rw [hL]; rfl)) rfl rfl (q_build rfl (.cons rfl (.cons rfl (.cons rfl (.cons rfl (.cons rfl (.cons rfl (.cons rfl (.cons rfl (.cons rfl PV.nil))))))))) (built25p0p1p2p3p4p5p6p8p11 _ _ _ _ _ _ _ _ _ _)) ?_
                    refine run_q (.on rfl rfl rfl (by rw [hL]; rfl)) rfl rfl (q_eqlS rfl rfl rfl eqg25 (fun w => eqs25 _ _ _ _ _ _ _ _ _ _ _ _ _ _ _ _ _ _ _ _ _ _ _ _ _ _ w)) ?_
                    refine run_q (.none rfl) rfl rfl (q_pickT rfl rfl (by rw [hL]; rfl) rfl) ?_
                    refine run_q (.none rfl) rfl rfl (q_assign rfl rfl) ?_
                    refine run_nil ?_
                    refine run_sub (subMk (.cons (s := 6) rfl .nil) .refl) ?_
                    refine run_ret ?_
                    exact end1 rfl rfl (by rw [hL]; simp)
          · have g42' := g42
            try simp only [decide_eq_true_eq, decide_eq_false_iff_not, beq_iff_eq, beq_eq_false_iff_ne, bne_iff_ne, bne_eq_false_iff_eq, Bool.not_eq_true', Bool.not_eq_false', ne_eq, Int.not_lt, Int.not_le, Decidable.not_not] at g42'
            refine run_seq ?_
            refine run_region ?_
            refine run_q (.none rfl) rfl rfl (q_eql rfl rfl rfl) ?_
            refine run_q (.none rfl) rfl rfl (q_assign rfl rfl) ?_
            refine run_nil ?_
            refine run_sub (subMk (.cons (s := 4) rfl (.cons (s := 5) rfl (.cons (s := 6) rfl (.cons (s := 7) rfl (.cons (s := 8) rfl (.cons (s := 9) rfl (.cons (s := 10) rfl (.cons (s := 44) rfl .nil)))))))) .refl) ?_
            refine run_cond rfl (fun g44 => ?_) (fun g44 => ?_)
            · have g44' := g44
              try simp only [decide_eq_true_eq, decide_eq_false_iff_not, beq_iff_eq, beq_eq_false_iff_ne, bne_iff_ne, bne_eq_false_iff_eq, Bool.not_eq_true', Bool.not_eq_false', ne_eq, Int.not_lt, Int.not_le, Decidable.not_not] at g44'
              refine run_region ?_
              refine run_q (.none rfl) rfl rfl (q_assign rfl rfl) ?_
              refine run_q (.none rfl) rfl rfl (q_assign rfl rfl) ?_
              refine run_nil ?_
              refine run_blk ?_
              refine run_seq ?_
              refine run_seq ?_
              refine run_region ?_
              refine run_q (.none rfl) rfl rfl (q_indexB (q := 0) (d := 0) rfl Try.underlying30 sz3 rfl rfl rfl (by decide) rfl) ?_
              refine run_q (.none rfl) rfl rfl (q_loadB rfl one3 rfl (.there Sel.here) rfl) ?_
              refine run_q (.none rfl) rfl rfl (q_lss rfl rfl rfl) ?_
              refine run_q (.none rfl) rfl rfl (q_move rfl rfl) ?_
              refine run_split 49 rfl (fun g49 => ?_) (fun g49 => ?_)
              · have g49' := g49
                try simp only [decide_eq_true_eq, decide_eq_false_iff_not, beq_iff_eq, beq_eq_false_iff_ne, bne_iff_ne, bne_eq_false_iff_eq, Bool.not_eq_true', Bool.not_eq_false', ne_eq, Int.not_lt, Int.not_le, Decidable.not_not] at g49'
                refine run_off (.no rfl rfl rfl g49) rfl rfl ?_
                refine run_off (.no rfl rfl rfl g49) rfl rfl ?_
                refine run_off (.no rfl rfl rfl g49) rfl rfl ?_
                refine run_q (.none rfl) rfl rfl (q_pickT rfl rfl g49 rfl) ?_
                refine run_q (.none rfl) rfl rfl (q_move rfl rfl) ?_
                refine run_off (.no rfl rfl rfl rfl) rfl rfl ?_
                refine run_off (.no rfl rfl rfl rfl) rfl rfl ?_
                refine run_off (.no rfl rfl rfl rfl) rfl rfl ?_
                refine run_q (.none rfl) rfl rfl (q_pickT rfl rfl rfl rfl) ?_
                refine run_q (.none rfl) rfl rfl (q_move rfl rfl) ?_
                refine run_off (.no rfl rfl rfl rfl) rfl rfl ?_
                refine run_off (.no rfl rfl rfl rfl) rfl rfl ?_
                refine run_off (.no rfl rfl rfl rfl) rfl rfl ?_
                refine run_off (.no rfl rfl rfl rfl) rfl rfl ?_
                refine run_off (.no rfl rfl rfl rfl) rfl rfl ?_
                refine run_q (.none rfl) rfl rfl (q_pickT rfl rfl rfl rfl) ?_
                refine run_nil ?_
                refine run_sub (subMk (.cons (s := 4) rfl (.cons (s := 5) rfl (.cons (s := 6) rfl (.cons (s := 7) rfl (.cons (s := 8) rfl (.cons (s := 9) rfl (.cons (s := 10) rfl (.cons (s := 65) rfl .nil)))))))) .refl) ?_
                refine run_condT rfl rfl ?_
                refine run_seq ?_
                have hL : lineV k site num i t f l = (default, 2) := by subst g44'; rw [lineV, if_neg (by decide), if_pos (by omega)]
                refine run_region ?_
                refine run_q (.none rfl) rfl rfl (q_loadBN rfl agg25 rfl Sel.here (.cons rfl (.cons rfl (.cons rfl (.cons rfl (.cons rfl (.cons rfl (.cons rfl (.cons rfl (.cons rfl (.cons rfl (.cons rfl (.cons rfl (.cons rfl CellsAt.nil))))))))))))) rfl) ?_
                refine run_q (.none rfl) rfl rfl (q_build rfl PV.nil (built25)) ?_
                refine run_q (.none rfl) rfl rfl (q_eqlS rfl rfl rfl eqg25 (fun w => eqs25 _ _ _ _ _ _ _ _ _ _ _ _ _ _ _ _ _ _ _ _ _ _ _ _ _ _ w)) ?_
                refine run_q (.none rfl) rfl rfl (q_move rfl rfl) ?_
                refine run_q (.on rfl rfl rfl (by rw [hL]; rfl)) rfl rfl (q_move rfl rfl) ?_
                refine run_q (.on rfl rfl rfl (by rw [hL]; rfl)) rfl rfl (q_eql rfl rfl rfl) ?_
                refine run_q (.none rfl) rfl rfl (q_pickT rfl rfl (by rw [hL]; rfl) rfl) ?_
                refine run_q (.none rfl) rfl rfl (q_assign rfl rfl) ?_
                refine run_nil ?_
                refine run_sub (subMk (.cons (s := 4) rfl (.cons (s := 5) rfl (.cons (s := 6) rfl (.cons (s := 7) rfl (.cons (s := 8) rfl (.cons (s := 9) rfl (.cons (s := 10) rfl .nil))))))) .refl) ?_
                refine run_ret ?_
                exact end1 rfl rfl (by rw [hL]; simp)
              · have g49' := g49
                try simp only [decide_eq_true_eq, decide_eq_false_iff_not, beq_iff_eq, beq_eq_false_iff_ne, bne_iff_ne, bne_eq_false_iff_eq, Bool.not_eq_true', Bool.not_eq_false', ne_eq, Int.not_lt, Int.not_le, Decidable.not_not] at g49'
                refine run_q (.on rfl rfl rfl g49) rfl rfl (q_indexB (q := 1) (d := 1) rfl Try.underlying30 sz3 rfl rfl rfl (by decide) rfl) ?_
                refine run_q (.on rfl rfl rfl g49) rfl rfl (q_loadB rfl one3 rfl (.there Sel.here) rfl) ?_
                refine run_q (.on rfl rfl rfl g49) rfl rfl (q_lss rfl rfl rfl) ?_
                refine run_q (.none rfl) rfl rfl (q_pickF rfl rfl g49 rfl) ?_
                refine run_q (.none rfl) rfl rfl (q_move rfl rfl) ?_
                refine run_split 54 rfl (fun g54 => ?_) (fun g54 => ?_)
                · have g54' := g54
                  try simp only [decide_eq_true_eq, decide_eq_false_iff_not, beq_iff_eq, beq_eq_false_iff_ne, bne_iff_ne, bne_eq_false_iff_eq, Bool.not_eq_true', Bool.not_eq_false', ne_eq, Int.not_lt, Int.not_le, Decidable.not_not] at g54'
                  refine run_off (.no rfl rfl rfl g54) rfl rfl ?_
                  refine run_off (.no rfl rfl rfl g54) rfl rfl ?_
                  refine run_off (.no rfl rfl rfl g54) rfl rfl ?_
                  refine run_q (.none rfl) rfl rfl (q_pickT rfl rfl g54 rfl) ?_
                  refine run_q (.none rfl) rfl rfl (q_move rfl rfl) ?_
                  refine run_off (.no rfl rfl rfl rfl) rfl rfl ?_
                  refine run_off (.no rfl rfl rfl rfl) rfl rfl ?_
                  refine run_off (.no rfl rfl rfl rfl) rfl rfl ?_
                  refine run_off (.no rfl rfl rfl rfl) rfl rfl ?_
                  refine run_off (.no rfl rfl rfl rfl) rfl rfl ?_
                  refine run_q (.none rfl) rfl rfl (q_pickT rfl rfl rfl rfl) ?_
                  refine run_nil ?_
                  refine run_sub (subMk (.cons (s := 4) rfl (.cons (s := 5) rfl (.cons (s := 6) rfl (.cons (s := 7) rfl (.cons (s := 8) rfl (.cons (s := 9) rfl (.cons (s := 10) rfl (.cons (s := 65) rfl .nil)))))))) .refl) ?_
                  refine run_condT rfl rfl ?_
                  refine run_seq ?_
                  have hL : lineV k site num i t f l = (default, 2) := by subst g44'; rw [lineV, if_neg (by decide), if_pos (by omega)]
                  refine run_region ?_
                  refine run_q (.none rfl) rfl rfl (q_loadBN rfl agg25 rfl Sel.here (.cons rfl (.cons rfl (.cons rfl (.cons rfl (.cons rfl (.cons rfl (.cons rfl (.cons rfl (.cons rfl (.cons rfl (.cons rfl (.cons rfl (.cons rfl CellsAt.nil))))))))))))) rfl) ?_
                  refine run_q (.none rfl) rfl rfl (q_build rfl PV.nil (built25)) ?_
                  refine run_q (.none rfl) rfl rfl (q_eqlS rfl rfl rfl eqg25 (fun w => eqs25 _ _ _ _ _ _ _ _ _ _ _ _ _ _ _ _ _ _ _ _ _ _ _ _ _ _ w)) ?_
                  refine run_q (.none rfl) rfl rfl (q_move rfl rfl) ?_
                  refine run_q (.on rfl rfl rfl (by rw [hL]; rfl)) rfl rfl (q_move rfl rfl) ?_
                  refine run_q (.on rfl rfl rfl (by rw [hL]; rfl)) rfl rfl (q_eql rfl rfl rfl) ?_
                  refine run_q (.none rfl) rfl rfl (q_pickT rfl rfl (by rw [hL]; rfl) rfl) ?_
                  refine run_q (.none rfl) rfl rfl (q_assign rfl rfl) ?_
                  refine run_nil ?_
                  refine run_sub (subMk (.cons (s := 4) rfl (.cons (s := 5) rfl (.cons (s := 6) rfl (.cons (s := 7) rfl (.cons (s := 8) rfl (.cons (s := 9) rfl (.cons (s := 10) rfl .nil))))))) .refl) ?_
                  refine run_ret ?_
                  exact end1 rfl rfl (by rw [hL]; simp)
                · have g54' := g54
                  try simp only [decide_eq_true_eq, decide_eq_false_iff_not, beq_iff_eq, beq_eq_false_iff_ne, bne_iff_ne, bne_eq_false_iff_eq, Bool.not_eq_true', Bool.not_eq_false', ne_eq, Int.not_lt, Int.not_le, Decidable.not_not] at g54'
                  refine run_q (.on rfl rfl rfl g54) rfl rfl (q_indexB (q := 2) (d := 2) rfl Try.underlying30 sz3 rfl rfl rfl (by decide) rfl) ?_
                  refine run_q (.on rfl rfl rfl g54) rfl rfl (q_loadB rfl one3 rfl (.there Sel.here) rfl) ?_
                  refine run_q (.on rfl rfl rfl g54) rfl rfl (q_lss rfl rfl rfl) ?_
                  refine run_q (.none rfl) rfl rfl (q_pickF rfl rfl g54 rfl) ?_
                  refine run_q (.none rfl) rfl rfl (q_move rfl rfl) ?_
                  refine run_split 59 rfl (fun g59 => ?_) (fun g59 => ?_)
                  · have g59' := g59
                    try simp only [decide_eq_true_eq, decide_eq_false_iff_not, beq_iff_eq, beq_eq_false_iff_ne, bne_iff_ne, bne_eq_false_iff_eq, Bool.not_eq_true', Bool.not_eq_false', ne_eq, Int.not_lt, Int.not_le, Decidable.not_not] at g59'
                    refine run_off (.no rfl rfl rfl g59) rfl rfl ?_
                    refine run_off (.no rfl rfl rfl g59) rfl rfl ?_
                    refine run_off (.no rfl rfl rfl g59) rfl rfl ?_
                    refine run_off (.no rfl rfl rfl g59) rfl rfl ?_
                    refine run_off (.no rfl rfl rfl g59) rfl rfl ?_
                    refine run_q (.none rfl) rfl rfl (q_pickT rfl rfl g59 rfl) ?_
                    refine run_nil ?_
                    refine run_sub (subMk (.cons (s := 4) rfl (.cons (s := 5) rfl (.cons (s := 6) rfl (.cons (s := 7) rfl (.cons (s := 8) rfl (.cons (s := 9) rfl (.cons (s := 10) rfl (.cons (s := 65) rfl .nil)))))))) .refl) ?_
                    refine run_condT rfl rfl ?_
                    refine run_seq ?_
                    have hL : lineV k site num i t f l = (default, 2) := by subst g44'; rw [lineV, if_neg (by decide), if_pos (by omega)]
                    refine run_region ?_
                    refine run_q (.none rfl) rfl rfl (q_loadBN rfl agg25 rfl Sel.here (.cons rfl (.cons rfl (.cons rfl (.cons rfl (.cons rfl (.cons rfl (.cons rfl (.cons rfl (.cons rfl (.cons rfl (.cons rfl (.cons rfl (.cons rfl CellsAt.nil))))))))))))) rfl) ?_
                    refine run_q (.none rfl) rfl rfl (q_build rfl PV.nil (built25)) ?_
                    refine run_q (.none rfl) rfl rfl (q_eqlS rfl rfl rfl eqg25 (fun w => eqs25 _ _ _ _ _ _ _ _ _ _ _ _ _ _ _ _ _ _ _ _ _ _ _ _ _ _ w)) ?_
                    refine run_q (.none rfl) rfl rfl (q_move rfl rfl) ?_
                    refine run_q (.on rfl rfl rfl (by rw [hL]; rfl)) rfl rfl (q_move rfl rfl) ?_
                    refine run_q (.on rfl rfl rfl (by rw [hL]; rfl)) rfl rfl (q_eql rfl rfl rfl) ?_
                    refine run_q (.none rfl) rfl rfl (q_pickT rfl rfl (by rw [hL]; rfl) rfl) ?_
                    refine run_q (.none rfl) rfl rfl (q_assign rfl rfl) ?_
                    refine run_nil ?_
                    refine run_sub (subMk (.cons (s := 4) rfl (.cons (s := 5) rfl (.cons (s := 6) rfl (.cons (s := 7) rfl (.cons (s := 8) rfl (.cons (s := 9) rfl (.cons (s := 10) rfl .nil))))))) .refl) ?_
                    refine run_ret ?_
                    exact end1 rfl rfl (by rw [hL]; simp)
                  · have g59' := g59
                    try simp only [decide_eq_true_eq, decide_eq_false_iff_not, beq_iff_eq, beq_eq_false_iff_ne, bne_iff_ne, bne_eq_false_iff_eq, Bool.not_eq_true', Bool.not_eq_false', ne_eq, Int.not_lt, Int.not_le, Decidable.not_not] at g59'
                    refine run_q (.on rfl rfl rfl g59) rfl rfl (q_indexB (q := 3) (d := 3) rfl Try.underlying30 sz3 rfl rfl rfl (by decide) rfl) ?_
                    refine run_q (.on rfl rfl rfl g59) rfl rfl (q_loadB rfl one3 rfl (.there Sel.here) rfl) ?_
                    refine run_q (.on rfl rfl rfl g59) rfl rfl (q_indexB (q := 2) (d := 2) rfl Try.underlying30 sz3 rfl rfl rfl (by decide) rfl) ?_
                    refine run_q (.on rfl rfl rfl g59) rfl rfl (q_loadB rfl one3 rfl (.there Sel.here) rfl) ?_
                    refine run_q (.on rfl rfl rfl g59) rfl rfl (q_lss rfl rfl rfl) ?_
                    refine run_q (.none rfl) rfl rfl (q_pickF rfl rfl g59 rfl) ?_
                    refine run_nil ?_
                    refine run_sub (subMk (.cons (s := 4) rfl (.cons (s := 5) rfl (.cons (s := 6) rfl (.cons (s := 7) rfl (.cons (s := 8) rfl (.cons (s := 9) rfl (.cons (s := 10) rfl (.cons (s := 65) rfl .nil)))))))) .refl) ?_
                    refine run_cond rfl (fun g65 => ?_) (fun g65 => ?_)
                    · have g65' := g65
                      try simp only [decide_eq_true_eq, decide_eq_false_iff_not, beq_iff_eq, beq_eq_false_iff_ne, bne_iff_ne, bne_eq_false_iff_eq, Bool.not_eq_true', Bool.not_eq_false', ne_eq, Int.not_lt, Int.not_le, Decidable.not_not] at g65'
                      refine run_seq ?_
                      have hL : lineV k site num i t f l = (default, 2) := by subst g44'; rw [lineV, if_neg (by decide), if_pos (by omega)]
                      refine run_region ?_
                      refine run_q (.none rfl) rfl rfl (q_loadBN rfl agg25 rfl Sel.here (.cons rfl (.cons rfl (.cons rfl (.cons rfl (.cons rfl (.cons rfl (.cons rfl (.cons rfl (.cons rfl (.cons rfl (.cons rfl (.cons rfl (.cons rfl CellsAt.nil))))))))))))) rfl) ?_
                      refine run_q (.none rfl) rfl rfl (q_build rfl PV.nil (built25)) ?_
                      refine run_q (.none rfl) rfl rfl (q_eqlS rfl rfl rfl eqg25 (fun w => eqs25 _ _ _ _ _ _ _ _ _ _ _ _ _ _ _ _ _ _ _ _ _ _ _ _ _ _ w)) ?_
                      refine run_q (.none rfl) rfl rfl (q_move rfl rfl) ?_
                      refine run_q (.on rfl rfl rfl (by rw [hL]; rfl)) rfl rfl (q_move rfl rfl) ?_
                      refine run_q (.on rfl rfl rfl (by rw [hL]; rfl)) rfl rfl (q_eql rfl rfl rfl) ?_
                      refine run_q (.none rfl) rfl rfl (q_pickT rfl rfl (by rw [hL]; rfl) rfl) ?_
                      refine run_q (.none rfl) rfl rfl (q_assign rfl rfl) ?_
                      refine run_nil ?_
                      refine run_sub (subMk (.cons (s := 4) rfl (.cons (s := 5) rfl (.cons (s := 6) rfl (.cons (s := 7) rfl (.cons (s := 8) rfl (.cons (s := 9) rfl (.cons (s := 10) rfl .nil))))))) .refl) ?_
                      refine run_ret ?_
                      exact end1 rfl rfl (by rw [hL]; simp)
                    · have g65' := g65
                      try simp only [decide_eq_true_eq, decide_eq_false_iff_not, beq_iff_eq, beq_eq_false_iff_ne, bne_iff_ne, bne_eq_false_iff_eq, Bool.not_eq_true', Bool.not_eq_false', ne_eq, Int.not_lt, Int.not_le, Decidable.not_not] at g65'
                      refine run_skip ?_
                      refine run_seq ?_
                      have hL : lineV k site num i t f l = (⟨53, i, t, f, l, 1, 1 * 136, 0, site, num, 0, 0, 32⟩, 0) := by subst g44'; rw [lineV, if_neg (by decide), if_neg (by omega)]; rfl
                      refine run_region ?_
                      refine run_q (.none rfl) rfl rfl (q_move rfl rfl) ?_
                      refine run_q (.none rfl) rfl rfl (q_eql rfl rfl rfl) ?_
                      refine run_q (.none rfl) rfl rfl (q_move rfl rfl) ?_
                      refine run_q (.on rfl rfl rfl (by rw [hL]; rfl)) rfl rfl (q_loadBN rfl agg25 rfl Sel.here (.cons rfl (.cons rfl (.cons rfl (.cons rfl (.cons rfl (.cons rfl (.cons rfl (.cons rfl (.cons rfl (.cons rfl (.cons rfl (.cons rfl (.cons rfl CellsAt.nil))))))))))))) rfl) ?_
                      refine run_q (.on rfl rfl rfl (by rw [hL]; rfl)) rfl rfl (q_move rfl rfl) ?_
                      refine run_q (.on rfl rfl rfl (by rw [hL]; rfl)) rfl rfl (q_indexB (q := 0) (d := 0) rfl Try.underlying30 sz3 rfl rfl rfl (by decide) rfl) ?_
                      refine run_q (.on rfl rfl rfl (by rw [hL]; rfl)) rfl rfl (q_loadB rfl one3 rfl (.there Sel.here) rfl) ?_
                      refine run_q (.on rfl rfl rfl (by rw [hL]; rfl)) rfl rfl (q_indexB (q := 1) (d := 1) rfl Try.underlying30 sz3 rfl rfl rfl (by decide) rfl) ?_
                      refine run_q (.on rfl rfl rfl (by rw [hL]; rfl)) rfl rfl (q_loadB rfl one3 rfl (.there Sel.here) rfl) ?_
                      refine run_q (.on rfl rfl rfl (by rw [hL]; rfl)) rfl rfl (q_indexB (q := 2) (d := 2) rfl Try.underlying30 sz3 rfl rfl rfl (by decide) rfl) ?_
                      refine run_q (.on rfl rfl rfl (by rw [hL]; rfl)) rfl rfl (q_loadB rfl one3 rfl (.there Sel.here) rfl) ?_
                      refine run_q (.on rfl rfl rfl (by rw [hL]; rfl)) rfl rfl (q_indexB (q := 3) (d := 3) rfl Try.underlying30 sz3 rfl rfl rfl (by decide) rfl) ?_
                      refine run_q (.on rfl rfl rfl (by rw [hL]; rfl)) rfl rfl (q_loadB rfl one3 rfl (.there Sel.here) rfl) ?_
                      refine run_q (.on rfl rfl rfl (by rw [hL]; rfl)) rfl rfl (q_move rfl rfl) ?_
                      refine run_q (.on rfl rfl rfl (by rw [hL]; rfl)) rfl rfl (q_move rfl rfl) ?_
                      refine run_q (.on rfl rfl rfl (by rw [hL]; rfl)) rfl rfl (q_mul rfl rfl rfl (by omega)) ?_
                      refine run_q (.on rfl rfl rfl (by rw [hL]; rfl)) rfl rfl (q_loadBN rfl agg23 rfl (.there (.there Sel.here)) (.cons rfl (.cons rfl CellsAt.nil)) rfl) ?_
                      refine run_q (.on rfl rfl rfl (by rw [hL]; rfl)) rfl rfl (q_build rfl (.cons rfl (.cons rfl (.cons rfl (.cons rfl (.cons rfl (.cons rfl (.cons rfl (.cons rfl (.cons rfl PV.nil))))))))) (built25p0p1p2p3p4p5p6p8p11 _ _ _ _ _ _ _ _ _ _)) ?_
                      refine run_q (.on rfl rfl rfl (by rw [hL]; rfl)) rfl rfl (q_eqlS rfl rfl rfl eqg25 (fun w => eqs25 _ _ _ _ _ _ _ _ _ _ _ _ _ _ _ _ _ _ _ _ _ _ _ _ _ _ w)) ?_
                      refine run_q (.none rfl) rfl rfl (q_pickT rfl rfl (by rw [hL]; rfl) rfl) ?_
                      refine run_q (.none rfl) rfl rfl (q_assign rfl rfl) ?_
                      refine run_nil ?_
                      refine run_sub (subMk (.cons (s := 6) rfl .nil) .refl) ?_
                      refine run_ret ?_
                      exact end1 rfl rfl (by rw [hL]; simp)
            · have g44' := g44
              try simp only [decide_eq_true_eq, decide_eq_false_iff_not, beq_iff_eq, beq_eq_false_iff_ne, bne_iff_ne, bne_eq_false_iff_eq, Bool.not_eq_true', Bool.not_eq_false', ne_eq, Int.not_lt, Int.not_le, Decidable.not_not] at g44'
              refine run_seq ?_
              have hL : lineV k site num i t f l = (default, 11) := by rw [lineV, if_pos (by rw [lineC, if_neg (by omega), if_neg (by omega), if_neg (by omega), if_neg (by omega)])]
              refine run_region ?_
              refine run_q (.none rfl) rfl rfl (q_loadBN rfl agg25 rfl Sel.here (.cons rfl (.cons rfl (.cons rfl (.cons rfl (.cons rfl (.cons rfl (.cons rfl (.cons rfl (.cons rfl (.cons rfl (.cons rfl (.cons rfl (.cons rfl CellsAt.nil))))))))))))) rfl) ?_
              refine run_q (.none rfl) rfl rfl (q_build rfl PV.nil (built25)) ?_
              refine run_q (.none rfl) rfl rfl (q_eqlS rfl rfl rfl eqg25 (fun w => eqs25 _ _ _ _ _ _ _ _ _ _ _ _ _ _ _ _ _ _ _ _ _ _ _ _ _ _ w)) ?_
              refine run_q (.none rfl) rfl rfl (q_move rfl rfl) ?_
              refine run_q (.on rfl rfl rfl (by rw [hL]; rfl)) rfl rfl (q_move rfl rfl) ?_
              refine run_q (.on rfl rfl rfl (by rw [hL]; rfl)) rfl rfl (q_eql rfl rfl rfl) ?_
              refine run_q (.none rfl) rfl rfl (q_pickT rfl rfl (by rw [hL]; rfl) rfl) ?_
              refine run_q (.none rfl) rfl rfl (q_assign rfl rfl) ?_
              refine run_nil ?_
              refine run_sub (subMk (.cons (s := 4) rfl (.cons (s := 5) rfl (.cons (s := 6) rfl (.cons (s := 7) rfl (.cons (s := 8) rfl (.cons (s := 9) rfl (.cons (s := 10) rfl .nil))))))) .refl) ?_
              refine run_ret ?_
              exact end1 rfl rfl (by rw [hL]; simp)

set_option maxRecDepth 100000 in
theorem extent7_just (xs : List Req) (X : Option Addr) (cx : Nat) (c : Int) (W : World) (hx : Rd W X 13 (xs.map Req.enc)) (hxl : xs.length ≤ 1000000) : Calls Try.prog 23 #[.slice X xs.length cx, .int .i64 c] W (Hr.Just W (.tuple #[.int .i64 (exL c xs xs.length), .int .i64 (exR c xs xs.length)])) := by
  refine Just.of_ret ?_
  refine enterA (X := nX) (vs := [.slice X xs.length cx, .int .i64 c]) Try.func23 Try.ntmps23 rfl rfl Mem.nil ?_
  refine run_seq ?_
  refine run_region ?_
  refine run_q (.none rfl) rfl rfl (q_assign rfl rfl) ?_
  refine run_q (.none rfl) rfl rfl (q_assign rfl rfl) ?_
  refine run_nil ?_
  refine run_seq ?_
  refine run_seq ?_
  refine run_region ?_
  refine run_q (.none rfl) rfl rfl (q_move rfl rfl) ?_
  refine run_q (.none rfl) rfl rfl (q_len rfl Try.underlying37 rfl) ?_
  refine run_q (.none rfl) rfl rfl (q_move rfl rfl) ?_
  refine run_nil ?_
  refine run_block ?_
  refine run_sub (subMk (.cons (s := 10) rfl (.cons (s := 4) rfl (.cons (s := 5) rfl (.cons (s := 1) rfl (.cons (s := 8) rfl (.cons (s := 9) rfl .nil)))))) .nil) ?_
  refine run_loopC3M0 (ι := Nat) (fun k => k ≤ xs.length) (fun k => .int .i64 (k : Int)) (fun k => .int .i64 (exL c xs k)) (fun k => .int .i64 (exR c xs k))  (fun k => xs.length - k) 0 (by (try dsimp only); exact (by omega)) rfl rfl rfl  ?_
  rintro k hk
  (try dsimp only at hk)
  show Run _ _ _ _ _ _ _ ⟨(10, .int .i64 (k : Int)) :: (4, .int .i64 (exL c xs k)) :: (5, .int .i64 (exR c xs k)) :: _, _⟩
  refine run_seq ?_
  refine run_region ?_
  refine run_q (.none rfl) rfl rfl (q_lss rfl rfl rfl) ?_
  refine run_nil ?_
  refine run_seq ?_
  refine run_cond rfl (fun g11 => ?_) (fun g11 => ?_)
  · have g11' := g11
    try simp only [decide_eq_true_eq, decide_eq_false_iff_not, beq_iff_eq, beq_eq_false_iff_ne, bne_iff_ne, bne_eq_false_iff_eq, Bool.not_eq_true', Bool.not_eq_false', ne_eq, Int.not_lt, Int.not_le, Decidable.not_not] at g11'
    refine run_skip ?_
    refine run_seq ?_
    refine run_block ?_
    refine run_seq ?_
    refine run_region ?_
    refine run_q (.none rfl) rfl rfl (q_indexS (q := k) rfl Try.underlying37 sz25 rfl rfl (.inp hx .no) (by simp <;> omega) rfl (by omega)) ?_
    refine run_q (.none rfl) rfl rfl (q_loadE rfl agg25 rfl (.inp hx .no) (getmap (by omega)) rfl) ?_
    refine run_h (.none rfl) (h_alloc rfl rfl rfl info25) ?_
    rintro b7 -
    refine run_h (.none rfl) (h_storeB rfl rfl sz25 rfl rfl rfl rfl rfl Sel.here rfl) ?_
    rintro - -
    refine run_nil ?_
    refine run_sub (subMk (.cons (s := 1) rfl (.cons (s := 4) rfl (.cons (s := 5) rfl (.cons (s := 7) rfl (.cons (s := 8) rfl (.cons (s := 9) rfl (.cons (s := 10) rfl .nil))))))) .refl) ?_
    refine run_seq ?_
    refine run_seq ?_
    refine run_region ?_
    refine run_q (.none rfl) rfl rfl (q_fieldB (d := 3) rfl Try.underlying25 rfl rfl sz3 rfl) ?_
    refine run_q (.none rfl) rfl rfl (q_loadB rfl one3 rfl Sel.here rfl) ?_
    refine run_q (.none rfl) rfl rfl (q_move rfl rfl) ?_
    refine run_q (.none rfl) rfl rfl (q_eql rfl rfl rfl) ?_
    refine run_nil ?_
    refine run_sub (subMk (.cons (s := 1) rfl (.cons (s := 4) rfl (.cons (s := 5) rfl (.cons (s := 7) rfl (.cons (s := 8) rfl (.cons (s := 9) rfl (.cons (s := 10) rfl (.cons (s := 17) rfl .nil)))))))) .refl) ?_
    refine run_cond rfl (fun g17 => ?_) (fun g17 => ?_)
    · have g17' := g17
      try simp only [decide_eq_true_eq, decide_eq_false_iff_not, beq_iff_eq, beq_eq_false_iff_ne, bne_iff_ne, bne_eq_false_iff_eq, Bool.not_eq_true', Bool.not_eq_false', ne_eq, Int.not_lt, Int.not_le, Decidable.not_not] at g17'
      refine run_region ?_
      refine run_q (.none rfl) rfl rfl (q_move rfl rfl) ?_
      refine run_q (.none rfl) rfl rfl (q_fieldB (d := 10) rfl Try.underlying25 rfl rfl sz3 rfl) ?_
      refine run_q (.none rfl) rfl rfl (q_loadB rfl one3 rfl Sel.here rfl) ?_
      refine run_q (.none rfl) rfl rfl (q_max2 rfl rfl rfl) ?_
      refine run_q (.none rfl) rfl rfl (q_assign rfl rfl) ?_
      refine run_nil ?_
      refine run_sub (subMk (.cons (s := 1) rfl (.cons (s := 4) rfl (.cons (s := 5) rfl (.cons (s := 7) rfl (.cons (s := 8) rfl (.cons (s := 9) rfl (.cons (s := 10) rfl .nil))))))) .refl) ?_
      refine run_seq ?_
      refine run_region ?_
      refine run_q (.none rfl) rfl rfl (q_fieldB (d := 4) rfl Try.underlying25 rfl rfl sz3 rfl) ?_
      refine run_q (.none rfl) rfl rfl (q_loadB rfl one3 rfl Sel.here rfl) ?_
      refine run_q (.none rfl) rfl rfl (q_move rfl rfl) ?_
      refine run_q (.none rfl) rfl rfl (q_eql rfl rfl rfl) ?_
      refine run_nil ?_
      refine run_sub (subMk (.cons (s := 1) rfl (.cons (s := 4) rfl (.cons (s := 5) rfl (.cons (s := 7) rfl (.cons (s := 8) rfl (.cons (s := 9) rfl (.cons (s := 10) rfl (.cons (s := 25) rfl .nil)))))))) .refl) ?_
      refine run_cond rfl (fun g25 => ?_) (fun g25 => ?_)
      · have g25' := g25
        try simp only [decide_eq_true_eq, decide_eq_false_iff_not, beq_iff_eq, beq_eq_false_iff_ne, bne_iff_ne, bne_eq_false_iff_eq, Bool.not_eq_true', Bool.not_eq_false', ne_eq, Int.not_lt, Int.not_le, Decidable.not_not] at g25'
        refine run_region ?_
        refine run_q (.none rfl) rfl rfl (q_move rfl rfl) ?_
        refine run_q (.none rfl) rfl rfl (q_fieldB (d := 11) rfl Try.underlying25 rfl rfl sz3 rfl) ?_
        refine run_q (.none rfl) rfl rfl (q_loadB rfl one3 rfl Sel.here rfl) ?_
        refine run_q (.none rfl) rfl rfl (q_max2 rfl rfl rfl) ?_
        refine run_q (.none rfl) rfl rfl (q_assign rfl rfl) ?_
        refine run_nil ?_
        refine run_sub (subMk (.cons (s := 1) rfl (.cons (s := 4) rfl (.cons (s := 5) rfl (.cons (s := 8) rfl (.cons (s := 9) rfl (.cons (s := 10) rfl .nil)))))) .refl) ?_
        refine run_blk ?_
        refine run_region ?_
        refine run_q (.none rfl) rfl rfl (q_add rfl rfl rfl (by omega)) ?_
        refine run_q (.none rfl) rfl rfl (q_move rfl rfl) ?_
        refine run_nil ?_
        exact run_again (k + 1) (by (try dsimp only); exact (by omega)) (by (try dsimp only); omega) (subMk (.cons' (s := 10) rfl (vint (by omega)) (.cons' (s := 4) rfl (vint (exL_yes g17')) (.cons' (s := 5) rfl (vint (exR_yes g25')) (.cons (s := 1) rfl (.cons (s := 8) rfl (.cons (s := 9) rfl .nil)))))) .nil)
      · have g25' := g25
        try simp only [decide_eq_true_eq, decide_eq_false_iff_not, beq_iff_eq, beq_eq_false_iff_ne, bne_iff_ne, bne_eq_false_iff_eq, Bool.not_eq_true', Bool.not_eq_false', ne_eq, Int.not_lt, Int.not_le, Decidable.not_not] at g25'
        refine run_skip ?_
        refine run_blk ?_
        refine run_region ?_
        refine run_q (.none rfl) rfl rfl (q_add rfl rfl rfl (by omega)) ?_
        refine run_q (.none rfl) rfl rfl (q_move rfl rfl) ?_
        refine run_nil ?_
        refine run_sub (subMk (.cons (s := 1) rfl (.cons (s := 4) rfl (.cons (s := 5) rfl (.cons (s := 8) rfl (.cons (s := 9) rfl (.cons (s := 10) rfl .nil)))))) .refl) ?_
        exact run_again (k + 1) (by (try dsimp only); exact (by omega)) (by (try dsimp only); omega) (subMk (.cons' (s := 10) rfl (vint (by omega)) (.cons' (s := 4) rfl (vint (exL_yes g17')) (.cons' (s := 5) rfl (vint (exR_no g25')) (.cons (s := 1) rfl (.cons (s := 8) rfl (.cons (s := 9) rfl .nil)))))) .nil)
    · have g17' := g17
      try simp only [decide_eq_true_eq, decide_eq_false_iff_not, beq_iff_eq, beq_eq_false_iff_ne, bne_iff_ne, bne_eq_false_iff_eq, Bool.not_eq_true', Bool.not_eq_false', ne_eq, Int.not_lt, Int.not_le, Decidable.not_not] at g17'
      refine run_skip ?_
      refine run_seq ?_
      refine run_region ?_
      refine run_q (.none rfl) rfl rfl (q_fieldB (d := 4) rfl Try.underlying25 rfl rfl sz3 rfl) ?_
      refine run_q (.none rfl) rfl rfl (q_loadB rfl one3 rfl Sel.here rfl) ?_
      refine run_q (.none rfl) rfl rfl (q_move rfl rfl) ?_
      refine run_q (.none rfl) rfl rfl (q_eql rfl rfl rfl) ?_
      refine run_nil ?_
      refine run_sub (subMk (.cons (s := 1) rfl (.cons (s := 4) rfl (.cons (s := 5) rfl (.cons (s := 7) rfl (.cons (s := 8) rfl (.cons (s := 9) rfl (.cons (s := 10) rfl (.cons (s := 25) rfl .nil)))))))) .refl) ?_
      refine run_cond rfl (fun g25 => ?_) (fun g25 => ?_)
      · have g25' := g25
        try simp only [decide_eq_true_eq, decide_eq_false_iff_not, beq_iff_eq, beq_eq_false_iff_ne, bne_iff_ne, bne_eq_false_iff_eq, Bool.not_eq_true', Bool.not_eq_false', ne_eq, Int.not_lt, Int.not_le, Decidable.not_not] at g25'
        refine run_region ?_
        refine run_q (.none rfl) rfl rfl (q_move rfl rfl) ?_
        refine run_q (.none rfl) rfl rfl (q_fieldB (d := 11) rfl Try.underlying25 rfl rfl sz3 rfl) ?_
        refine run_q (.none rfl) rfl rfl (q_loadB rfl one3 rfl Sel.here rfl) ?_
        refine run_q (.none rfl) rfl rfl (q_max2 rfl rfl rfl) ?_
        refine run_q (.none rfl) rfl rfl (q_assign rfl rfl) ?_
        refine run_nil ?_
        refine run_sub (subMk (.cons (s := 1) rfl (.cons (s := 4) rfl (.cons (s := 5) rfl (.cons (s := 8) rfl (.cons (s := 9) rfl (.cons (s := 10) rfl .nil)))))) .refl) ?_
        refine run_blk ?_
        refine run_region ?_
        refine run_q (.none rfl) rfl rfl (q_add rfl rfl rfl (by omega)) ?_
        refine run_q (.none rfl) rfl rfl (q_move rfl rfl) ?_
        refine run_nil ?_
        exact run_again (k + 1) (by (try dsimp only); exact (by omega)) (by (try dsimp only); omega) (subMk (.cons' (s := 10) rfl (vint (by omega)) (.cons' (s := 4) rfl (vint (exL_no g17')) (.cons' (s := 5) rfl (vint (exR_yes g25')) (.cons (s := 1) rfl (.cons (s := 8) rfl (.cons (s := 9) rfl .nil)))))) .nil)
      · have g25' := g25
        try simp only [decide_eq_true_eq, decide_eq_false_iff_not, beq_iff_eq, beq_eq_false_iff_ne, bne_iff_ne, bne_eq_false_iff_eq, Bool.not_eq_true', Bool.not_eq_false', ne_eq, Int.not_lt, Int.not_le, Decidable.not_not] at g25'
        refine run_skip ?_
        refine run_blk ?_
        refine run_region ?_
        refine run_q (.none rfl) rfl rfl (q_add rfl rfl rfl (by omega)) ?_
        refine run_q (.none rfl) rfl rfl (q_move rfl rfl) ?_
        refine run_nil ?_
        refine run_sub (subMk (.cons (s := 1) rfl (.cons (s := 4) rfl (.cons (s := 5) rfl (.cons (s := 8) rfl (.cons (s := 9) rfl (.cons (s := 10) rfl .nil)))))) .refl) ?_
        exact run_again (k + 1) (by (try dsimp only); exact (by omega)) (by (try dsimp only); omega) (subMk (.cons' (s := 10) rfl (vint (by omega)) (.cons' (s := 4) rfl (vint (exL_no g17')) (.cons' (s := 5) rfl (vint (exR_no g25')) (.cons (s := 1) rfl (.cons (s := 8) rfl (.cons (s := 9) rfl .nil)))))) .nil)
  · have g11' := g11
    try simp only [decide_eq_true_eq, decide_eq_false_iff_not, beq_iff_eq, beq_eq_false_iff_ne, bne_iff_ne, bne_eq_false_iff_eq, Bool.not_eq_true', Bool.not_eq_false', ne_eq, Int.not_lt, Int.not_le, Decidable.not_not] at g11'
    refine run_exit rfl ?_
    refine run_sub (subMk (.cons (s := 4) rfl (.cons (s := 5) rfl .nil)) .refl) ?_
    refine run_seq ?_
    refine run_region ?_
    refine run_q (.none rfl) rfl rfl (q_move rfl rfl) ?_
    refine run_q (.none rfl) rfl rfl (q_move rfl rfl) ?_
    refine run_q (.none rfl) rfl rfl (q_assign rfl rfl) ?_
    refine run_q (.none rfl) rfl rfl (q_assign rfl rfl) ?_
    refine run_nil ?_
    refine run_ret ?_
    exact end2 rfl rfl rfl (by rw [show xs.length = k from by omega])

set_option maxRecDepth 100000 in
theorem law7_just (l : List Req) (X : Option Addr) (cx : Nat) (c : Int) (W : World) (hr : Rd W X 13 (l.map Req.enc)) (hcx : l.length ≤ cx) (xs : List Req) (hxs : xs = l.take 20) : Calls Try.prog 7 #[.slice X l.length cx, .int .i64 c] W (Hr.Just W (.bool true)) := by
  have hx := rd_take hr hxs
  have hxl : xs.length = min l.length 20 := by rw [hxs]; simp [Nat.min_comm]
  refine Just.of_ret ?_
  refine enterA (X := nX) (vs := [.slice X l.length cx, .int .i64 c]) Try.func7 Try.ntmps7 rfl rfl Mem.nil ?_
  refine run_seq ?_
  refine run_region ?_
  refine run_q (.none rfl) rfl rfl (q_assign rfl rfl) ?_
  refine run_nil ?_
  refine run_seq ?_
  refine run_region ?_
  refine run_q (.none rfl) rfl rfl (q_move rfl rfl) ?_
  refine run_q (.none rfl) rfl rfl (q_move rfl rfl) ?_
  refine run_q (.none rfl) rfl rfl (q_len rfl Try.underlying37 rfl) ?_
  refine run_q (.none rfl) rfl rfl (q_min2 rfl rfl rfl) ?_
  refine run_q (.none rfl) rfl rfl (q_sliceH rfl Try.underlying37 sz25 rfl rfl (by omega)) ?_
  refine run_q (.none rfl) rfl rfl (q_assign rfl rfl) ?_
  refine run_nil ?_
  refine run_sub (subMk (.cons (s := 0) rfl (.cons (s := 1) rfl (.cons (s := 4) rfl .nil))) .refl) ?_
  refine run_seq ?_
  refine run_sub (subMk (.cons' (s := 0) (v' := .slice X xs.length cx) rfl (by rw [hxl]; congr 1; omega) (.cons (s := 1) rfl (.cons (s := 4) rfl .nil))) .refl) ?_
  refine run_region ?_
  refine run_q (.none rfl) rfl rfl (q_move rfl rfl) ?_
  refine run_q (.none rfl) rfl rfl (q_move rfl rfl) ?_
  refine run_q (.none rfl) rfl rfl (q_call rfl call23 (.cons rfl (.cons rfl Evs.nil)) (fun w hk hm => extent7_just xs X cx c w (hx.kept0 hk) (by omega))) ?_
  refine run_q (.none rfl) rfl rfl (q_move rfl rfl) ?_
  refine run_q (.none rfl) rfl rfl (q_extract rfl rfl rfl) ?_
  refine run_q (.none rfl) rfl rfl (q_extract rfl rfl rfl) ?_
  refine run_q (.none rfl) rfl rfl (q_assign rfl rfl) ?_
  refine run_q (.none rfl) rfl rfl (q_assign rfl rfl) ?_
  refine run_nil ?_
  refine run_sub (subMk (.cons (s := 0) rfl (.cons (s := 1) rfl (.cons (s := 4) rfl (.cons (s := 5) rfl (.cons (s := 6) rfl .nil))))) .refl) ?_
  refine run_seq ?_
  refine run_region ?_
  refine run_q (.none rfl) rfl rfl (q_assign rfl rfl) ?_
  refine run_q (.none rfl) rfl rfl (q_assign rfl rfl) ?_
  refine run_nil ?_
  refine run_seq ?_
  refine run_seq ?_
  refine run_region ?_
  refine run_q (.none rfl) rfl rfl (q_assign rfl rfl) ?_
  refine run_nil ?_
  refine run_block ?_
  refine run_sub (subMk (.cons (s := 9) rfl (.cons (s := 7) rfl (.cons (s := 8) rfl (.cons (s := 0) rfl (.cons (s := 1) rfl (.cons (s := 4) rfl (.cons (s := 5) rfl (.cons (s := 6) rfl .nil)))))))) .nil) ?_
  refine run_loopC3M0 (ι := Nat) (fun k => k ≤ xs.length) (fun k => .int .i64 (k : Int)) (fun k => .int .i64 (exL c xs k)) (fun k => .int .i64 (exR c xs k))  (fun k => xs.length - k) 0 (by (try dsimp only); exact (by omega)) rfl rfl rfl  ?_
  rintro k hk
  (try dsimp only at hk)
  show Run _ _ _ _ _ _ _ ⟨(9, .int .i64 (k : Int)) :: (7, .int .i64 (exL c xs k)) :: (8, .int .i64 (exR c xs k)) :: _, _⟩
  refine run_seq ?_
  refine run_seq ?_
  refine run_region ?_
  refine run_q (.none rfl) rfl rfl (q_move rfl rfl) ?_
  refine run_q (.none rfl) rfl rfl (q_move rfl rfl) ?_
  refine run_q (.none rfl) rfl rfl (q_len rfl Try.underlying37 rfl) ?_
  refine run_q (.none rfl) rfl rfl (q_lss rfl rfl rfl) ?_
  refine run_nil ?_
  refine run_sub (subMk (.cons (s := 0) rfl (.cons (s := 1) rfl (.cons (s := 4) rfl (.cons (s := 5) rfl (.cons (s := 6) rfl (.cons (s := 7) rfl (.cons (s := 8) rfl (.cons (s := 9) rfl (.cons (s := 24) rfl .nil))))))))) .refl) ?_
  refine run_cond rfl (fun g24 => ?_) (fun g24 => ?_)
  · have g24' := g24
    try simp only [decide_eq_true_eq, decide_eq_false_iff_not, beq_iff_eq, beq_eq_false_iff_ne, bne_iff_ne, bne_eq_false_iff_eq, Bool.not_eq_true', Bool.not_eq_false', ne_eq, Int.not_lt, Int.not_le, Decidable.not_not] at g24'
    refine run_skip ?_
    refine run_seq ?_
    refine run_block ?_
    refine run_seq ?_
    refine run_seq ?_
    refine run_region ?_
    refine run_q (.none rfl) rfl rfl (q_move rfl rfl) ?_
    refine run_q (.none rfl) rfl rfl (q_move rfl rfl) ?_
    refine run_q (.none rfl) rfl rfl (q_indexS (q := k) rfl Try.underlying37 sz25 rfl rfl (.inp hx .no) (by simp <;> omega) rfl (by omega)) ?_
    refine run_q (.none rfl) rfl rfl (q_fieldAddr (d := 3) rfl Try.underlying25 rfl rfl sz3 rfl) ?_
    refine run_q (.none rfl) rfl rfl (q_loadF rfl one3 rfl (.inp hx .no) (getmap (by omega)) rfl) ?_
    refine run_q (.none rfl) rfl rfl (q_move rfl rfl) ?_
    refine run_q (.none rfl) rfl rfl (q_eql rfl rfl rfl) ?_
    refine run_nil ?_
    refine run_sub (subMk (.cons (s := 0) rfl (.cons (s := 1) rfl (.cons (s := 4) rfl (.cons (s := 5) rfl (.cons (s := 6) rfl (.cons (s := 7) rfl (.cons (s := 8) rfl (.cons (s := 9) rfl (.cons (s := 33) rfl .nil))))))))) .refl) ?_
    refine run_cond rfl (fun g33 => ?_) (fun g33 => ?_)
    · have g33' := g33
      try simp only [decide_eq_true_eq, decide_eq_false_iff_not, beq_iff_eq, beq_eq_false_iff_ne, bne_iff_ne, bne_eq_false_iff_eq, Bool.not_eq_true', Bool.not_eq_false', ne_eq, Int.not_lt, Int.not_le, Decidable.not_not] at g33'
      refine run_region ?_
      refine run_q (.none rfl) rfl rfl (q_move rfl rfl) ?_
      refine run_q (.none rfl) rfl rfl (q_move rfl rfl) ?_
      refine run_q (.none rfl) rfl rfl (q_move rfl rfl) ?_
      refine run_q (.none rfl) rfl rfl (q_indexS (q := k) rfl Try.underlying37 sz25 rfl rfl (.inp hx .no) (by simp <;> omega) rfl (by omega)) ?_
      refine run_q (.none rfl) rfl rfl (q_fieldAddr (d := 10) rfl Try.underlying25 rfl rfl sz3 rfl) ?_
      refine run_q (.none rfl) rfl rfl (q_loadF rfl one3 rfl (.inp hx .no) (getmap (by omega)) rfl) ?_
      refine run_q (.none rfl) rfl rfl (q_max2 rfl rfl rfl) ?_
      refine run_q (.none rfl) rfl rfl (q_assign rfl rfl) ?_
      refine run_nil ?_
      refine run_sub (subMk (.cons (s := 0) rfl (.cons (s := 1) rfl (.cons (s := 4) rfl (.cons (s := 5) rfl (.cons (s := 6) rfl (.cons (s := 7) rfl (.cons (s := 8) rfl (.cons (s := 9) rfl .nil)))))))) .refl) ?_
      refine run_seq ?_
      refine run_region ?_
      refine run_q (.none rfl) rfl rfl (q_move rfl rfl) ?_
      refine run_q (.none rfl) rfl rfl (q_move rfl rfl) ?_
      refine run_q (.none rfl) rfl rfl (q_indexS (q := k) rfl Try.underlying37 sz25 rfl rfl (.inp hx .no) (by simp <;> omega) rfl (by omega)) ?_
      refine run_q (.none rfl) rfl rfl (q_fieldAddr (d := 4) rfl Try.underlying25 rfl rfl sz3 rfl) ?_
      refine run_q (.none rfl) rfl rfl (q_loadF rfl one3 rfl (.inp hx .no) (getmap (by omega)) rfl) ?_
      refine run_q (.none rfl) rfl rfl (q_move rfl rfl) ?_
      refine run_q (.none rfl) rfl rfl (q_eql rfl rfl rfl) ?_
      refine run_nil ?_
      refine run_sub (subMk (.cons (s := 0) rfl (.cons (s := 1) rfl (.cons (s := 4) rfl (.cons (s := 5) rfl (.cons (s := 6) rfl (.cons (s := 7) rfl (.cons (s := 8) rfl (.cons (s := 9) rfl (.cons (s := 47) rfl .nil))))))))) .refl) ?_
      refine run_cond rfl (fun g47 => ?_) (fun g47 => ?_)
      · have g47' := g47
        try simp only [decide_eq_true_eq, decide_eq_false_iff_not, beq_iff_eq, beq_eq_false_iff_ne, bne_iff_ne, bne_eq_false_iff_eq, Bool.not_eq_true', Bool.not_eq_false', ne_eq, Int.not_lt, Int.not_le, Decidable.not_not] at g47'
        refine run_region ?_
        refine run_q (.none rfl) rfl rfl (q_move rfl rfl) ?_
        refine run_q (.none rfl) rfl rfl (q_move rfl rfl) ?_
        refine run_q (.none rfl) rfl rfl (q_move rfl rfl) ?_
        refine run_q (.none rfl) rfl rfl (q_indexS (q := k) rfl Try.underlying37 sz25 rfl rfl (.inp hx .no) (by simp <;> omega) rfl (by omega)) ?_
        refine run_q (.none rfl) rfl rfl (q_fieldAddr (d := 11) rfl Try.underlying25 rfl rfl sz3 rfl) ?_
        refine run_q (.none rfl) rfl rfl (q_loadF rfl one3 rfl (.inp hx .no) (getmap (by omega)) rfl) ?_
        refine run_q (.none rfl) rfl rfl (q_max2 rfl rfl rfl) ?_
        refine run_q (.none rfl) rfl rfl (q_assign rfl rfl) ?_
        refine run_nil ?_
        refine run_sub (subMk (.cons (s := 0) rfl (.cons (s := 1) rfl (.cons (s := 4) rfl (.cons (s := 5) rfl (.cons (s := 6) rfl (.cons (s := 7) rfl (.cons (s := 8) rfl (.cons (s := 9) rfl .nil)))))))) .refl) ?_
        refine run_blk ?_
        refine run_region ?_
        refine run_q (.none rfl) rfl rfl (q_move rfl rfl) ?_
        refine run_q (.none rfl) rfl rfl (q_add rfl rfl rfl (by omega)) ?_
        refine run_q (.none rfl) rfl rfl (q_assign rfl rfl) ?_
        refine run_nil ?_
        exact run_again (k + 1) (by (try dsimp only); exact (by omega)) (by (try dsimp only); omega) (subMk (.cons' (s := 9) rfl (vint (by omega)) (.cons' (s := 7) rfl (vint (exL_yes g33')) (.cons' (s := 8) rfl (vint (exR_yes g47')) (.cons (s := 0) rfl (.cons (s := 1) rfl (.cons (s := 4) rfl (.cons (s := 5) rfl (.cons (s := 6) rfl .nil)))))))) .nil)
      · have g47' := g47
        try simp only [decide_eq_true_eq, decide_eq_false_iff_not, beq_iff_eq, beq_eq_false_iff_ne, bne_iff_ne, bne_eq_false_iff_eq, Bool.not_eq_true', Bool.not_eq_false', ne_eq, Int.not_lt, Int.not_le, Decidable.not_not] at g47'
        refine run_skip ?_
        refine run_blk ?_
        refine run_region ?_
        refine run_q (.none rfl) rfl rfl (q_move rfl rfl) ?_
        refine run_q (.none rfl) rfl rfl (q_add rfl rfl rfl (by omega)) ?_
        refine run_q (.none rfl) rfl rfl (q_assign rfl rfl) ?_
        refine run_nil ?_
        refine run_sub (subMk (.cons (s := 0) rfl (.cons (s := 1) rfl (.cons (s := 4) rfl (.cons (s := 5) rfl (.cons (s := 6) rfl (.cons (s := 7) rfl (.cons (s := 8) rfl (.cons (s := 9) rfl .nil)))))))) .refl) ?_
        exact run_again (k + 1) (by (try dsimp only); exact (by omega)) (by (try dsimp only); omega) (subMk (.cons' (s := 9) rfl (vint (by omega)) (.cons' (s := 7) rfl (vint (exL_yes g33')) (.cons' (s := 8) rfl (vint (exR_no g47')) (.cons (s := 0) rfl (.cons (s := 1) rfl (.cons (s := 4) rfl (.cons (s := 5) rfl (.cons (s := 6) rfl .nil)))))))) .nil)
    · have g33' := g33
      try simp only [decide_eq_true_eq, decide_eq_false_iff_not, beq_iff_eq, beq_eq_false_iff_ne, bne_iff_ne, bne_eq_false_iff_eq, Bool.not_eq_true', Bool.not_eq_false', ne_eq, Int.not_lt, Int.not_le, Decidable.not_not] at g33'
      refine run_skip ?_
      refine run_seq ?_
      refine run_region ?_
      refine run_q (.none rfl) rfl rfl (q_move rfl rfl) ?_
      refine run_q (.none rfl) rfl rfl (q_move rfl rfl) ?_
      refine run_q (.none rfl) rfl rfl (q_indexS (q := k) rfl Try.underlying37 sz25 rfl rfl (.inp hx .no) (by simp <;> omega) rfl (by omega)) ?_
      refine run_q (.none rfl) rfl rfl (q_fieldAddr (d := 4) rfl Try.underlying25 rfl rfl sz3 rfl) ?_
      refine run_q (.none rfl) rfl rfl (q_loadF rfl one3 rfl (.inp hx .no) (getmap (by omega)) rfl) ?_
      refine run_q (.none rfl) rfl rfl (q_move rfl rfl) ?_
      refine run_q (.none rfl) rfl rfl (q_eql rfl rfl rfl) ?_
      refine run_nil ?_
      refine run_sub (subMk (.cons (s := 0) rfl (.cons (s := 1) rfl (.cons (s := 4) rfl (.cons (s := 5) rfl (.cons (s := 6) rfl (.cons (s := 7) rfl (.cons (s := 8) rfl (.cons (s := 9) rfl (.cons (s := 47) rfl .nil))))))))) .refl) ?_
      refine run_cond rfl (fun g47 => ?_) (fun g47 => ?_)
      · have g47' := g47
        try simp only [decide_eq_true_eq, decide_eq_false_iff_not, beq_iff_eq, beq_eq_false_iff_ne, bne_iff_ne, bne_eq_false_iff_eq, Bool.not_eq_true', Bool.not_eq_false', ne_eq, Int.not_lt, Int.not_le, Decidable.not_not] at g47'
        refine run_region ?_
        refine run_q (.none rfl) rfl rfl (q_move rfl rfl) ?_
        refine run_q (.none rfl) rfl rfl (q_move rfl rfl) ?_
        refine run_q (.none rfl) rfl rfl (q_move rfl rfl) ?_
        refine run_q (.none rfl) rfl rfl (q_indexS (q := k) rfl Try.underlying37 sz25 rfl rfl (.inp hx .no) (by simp <;> omega) rfl (by omega)) ?_
        refine run_q (.none rfl) rfl rfl (q_fieldAddr (d := 11) rfl Try.underlying25 rfl rfl sz3 rfl) ?_
        refine run_q (.none rfl) rfl rfl (q_loadF rfl one3 rfl (.inp hx .no) (getmap (by omega)) rfl) ?_
        refine run_q (.none rfl) rfl rfl (q_max2 rfl rfl rfl) ?_
        refine run_q (.none rfl) rfl rfl (q_assign rfl rfl) ?_
        refine run_nil ?_
        refine run_sub (subMk (.cons (s := 0) rfl (.cons (s := 1) rfl (.cons (s := 4) rfl (.cons (s := 5) rfl (.cons (s := 6) rfl (.cons (s := 7) rfl (.cons (s := 8) rfl (.cons (s := 9) rfl .nil)))))))) .refl) ?_
        refine run_blk ?_
        refine run_region ?_
        refine run_q (.none rfl) rfl rfl (q_move rfl rfl) ?_
        refine run_q (.none rfl) rfl rfl (q_add rfl rfl rfl (by omega)) ?_
        refine run_q (.none rfl) rfl rfl (q_assign rfl rfl) ?_
        refine run_nil ?_
        exact run_again (k + 1) (by (try dsimp only); exact (by omega)) (by (try dsimp only); omega) (subMk (.cons' (s := 9) rfl (vint (by omega)) (.cons' (s := 7) rfl (vint (exL_no g33')) (.cons' (s := 8) rfl (vint (exR_yes g47')) (.cons (s := 0) rfl (.cons (s := 1) rfl (.cons (s := 4) rfl (.cons (s := 5) rfl (.cons (s := 6) rfl .nil)))))))) .nil)
      · have g47' := g47
        try simp only [decide_eq_true_eq, decide_eq_false_iff_not, beq_iff_eq, beq_eq_false_iff_ne, bne_iff_ne, bne_eq_false_iff_eq, Bool.not_eq_true', Bool.not_eq_false', ne_eq, Int.not_lt, Int.not_le, Decidable.not_not] at g47'
        refine run_skip ?_
        refine run_blk ?_
        refine run_region ?_
        refine run_q (.none rfl) rfl rfl (q_move rfl rfl) ?_
        refine run_q (.none rfl) rfl rfl (q_add rfl rfl rfl (by omega)) ?_
        refine run_q (.none rfl) rfl rfl (q_assign rfl rfl) ?_
        refine run_nil ?_
        refine run_sub (subMk (.cons (s := 0) rfl (.cons (s := 1) rfl (.cons (s := 4) rfl (.cons (s := 5) rfl (.cons (s := 6) rfl (.cons (s := 7) rfl (.cons (s := 8) rfl (.cons (s := 9) rfl .nil)))))))) .refl) ?_
        exact run_again (k + 1) (by (try dsimp only); exact (by omega)) (by (try dsimp only); omega) (subMk (.cons' (s := 9) rfl (vint (by omega)) (.cons' (s := 7) rfl (vint (exL_no g33')) (.cons' (s := 8) rfl (vint (exR_no g47')) (.cons (s := 0) rfl (.cons (s := 1) rfl (.cons (s := 4) rfl (.cons (s := 5) rfl (.cons (s := 6) rfl .nil)))))))) .nil)
  · have g24' := g24
    try simp only [decide_eq_true_eq, decide_eq_false_iff_not, beq_iff_eq, beq_eq_false_iff_ne, bne_iff_ne, bne_eq_false_iff_eq, Bool.not_eq_true', Bool.not_eq_false', ne_eq, Int.not_lt, Int.not_le, Decidable.not_not] at g24'
    refine run_exit rfl ?_
    refine run_sub (subMk (.cons (s := 4) rfl (.cons (s := 5) rfl (.cons (s := 6) rfl (.cons (s := 7) rfl (.cons (s := 8) rfl .nil))))) .refl) ?_
    refine run_seq ?_
    have hke : k = xs.length := by omega
    refine run_region ?_
    refine run_q (.none rfl) rfl rfl (q_call rfl call13 Evs.nil (fun w hk hm => known_just w)) ?_
    refine run_q (.none rfl) rfl rfl (q_move rfl rfl) ?_
    refine run_q (.on rfl rfl rfl rfl) rfl rfl (q_move rfl rfl) ?_
    refine run_q (.on rfl rfl rfl rfl) rfl rfl (q_move rfl rfl) ?_
    refine run_q (.on rfl rfl rfl rfl) rfl rfl (q_eql rfl rfl rfl) ?_
    refine run_q (.none rfl) rfl rfl (q_pickT rfl rfl rfl rfl) ?_
    refine run_q (.none rfl) rfl rfl (q_move rfl rfl) ?_
    refine run_q (.on rfl rfl rfl (by rw [hke]; simp)) rfl rfl (q_move rfl rfl) ?_
    refine run_q (.on rfl rfl rfl (by rw [hke]; simp)) rfl rfl (q_move rfl rfl) ?_
    refine run_q (.on rfl rfl rfl (by rw [hke]; simp)) rfl rfl (q_eql rfl rfl rfl) ?_
    refine run_q (.none rfl) rfl rfl (q_pickT rfl rfl (by rw [hke]; simp) rfl) ?_
    refine run_q (.none rfl) rfl rfl (q_assign rfl rfl) ?_
    refine run_nil ?_
    refine run_sub (subMk (.cons (s := 4) rfl .nil) .refl) ?_
    refine run_ret ?_
    exact end1 rfl rfl (by rw [hke]; simp)

end Go.Proofs.YtgphmbipakdggaaR
