/- The request for a syllable. -/
import Derived.Test.YtgphmbipakdggaaRED
import Derived.Test.YtgphmbipakdggaaRGT
set_option linter.unusedSimpArgs false
set_option linter.unusedVariables false
namespace Go.Proofs.YtgphmbipakdggaaR.Ev
open Go Go.RowKit Hr

theorem call25 : Hr.Callable Try.prog 25 := fun args w => by kernel_rfl
theorem call34 : Hr.Callable Try.prog 34 := fun args w => by kernel_rfl
theorem built25p0p1p2p3p4p8p11p9p10 (x0y : Int) (x1y : Int) (x2y : Int) (x3y : Int) (x4y : Int) (x8y0 : Int) (x8y1 : Int) (x11y : Int) (x9y : Int) (x10y : Int) : Try.prog.built 25 [(0, .int .i64 x0y), (1, .int .i64 x1y), (2, .int .i64 x2y), (3, .int .i64 x3y), (4, .int .i64 x4y), (8, .agg #[.int .i64 x8y0, .int .i64 x8y1]), (11, .int .i64 x11y), (9, .int .i64 x9y), (10, .int .i64 x10y)] = some #[.int .i64 x0y, .int .i64 x1y, .int .i64 x2y, .int .i64 x3y, .int .i64 x4y, .int .i64 0, .int .i64 0, .int .i64 0, .int .i64 x8y0, .int .i64 x8y1, .int .i64 x9y, .int .i64 x10y, .int .i64 x11y] := by kernel_rfl

set_option maxHeartbeats 2000000 in
set_option maxRecDepth 100000 in
theorem lyric_A (y : Evt) (p : Lie) (v a b : Int) (W : World) (hx : RdE W y p) (fx : y.few) (h0 : evE y ≠ 0) : Calls Try.prog 33 #[evV y p, .int .i64 v, .int .i64 a, .int .i64 b] W (Hr.Just W (.tuple #[.agg #[.int .i64 0, .int .i64 0, .int .i64 0, .int .i64 0, .int .i64 0, .int .i64 0, .int .i64 0, .int .i64 0, .int .i64 0, .int .i64 0, .int .i64 0, .int .i64 0, .int .i64 0], .bool false, .int .i64 (evE y)])) := by
  refine Just.of_ret ?_
  refine enterA (X := nX) (vs := [evV y p, .int .i64 v, .int .i64 a, .int .i64 b]) Try.func33 Try.ntmps33 rfl rfl Mem.nil ?_
  refine run_seq ?_
  refine run_region ?_
  refine run_h (.none rfl) (h_box rfl rfl rfl rfl rfl) ?_
  rintro b4 -
  refine run_h (.none rfl) (h_alloc rfl rfl rfl info25) ?_
  rintro b8 -
  refine run_q (.none rfl) rfl rfl (q_assign rfl rfl) ?_
  refine run_q (.none rfl) rfl rfl (q_assign rfl rfl) ?_
  refine run_nil ?_
  refine run_seq ?_
  refine run_seq ?_
  refine run_region ?_
  refine run_q (.none rfl) rfl rfl (q_loadBN rfl agg78 rfl (.there Sel.here) (.cons rfl (.cons rfl (.cons rfl (.cons rfl (.cons rfl (.cons rfl (.cons rfl (.cons rfl (.cons rfl (.cons rfl (.cons rfl (.cons rfl (.cons rfl CellsAt.nil))))))))))))) rfl) ?_
  refine run_q (.none rfl) rfl rfl (q_call rfl call34 (.cons rfl Evs.nil) (fun w hk hm => evCheck_just y p w (hx.kept0 hk) fx)) ?_
  refine run_q (.none rfl) rfl rfl (q_assign rfl rfl) ?_
  refine run_nil ?_
  refine run_sub (subMk (.cons (s := 1) rfl (.cons (s := 2) rfl (.cons (s := 3) rfl (.cons (s := 4) rfl (.cons (s := 8) rfl (.cons (s := 9) rfl (.cons (s := 10) rfl (.cons (s := 11) rfl .nil)))))))) .refl) ?_
  refine run_seq ?_
  refine run_region ?_
  refine run_q (.none rfl) rfl rfl (q_move rfl rfl) ?_
  refine run_q (.none rfl) rfl rfl (q_neq rfl rfl rfl) ?_
  refine run_nil ?_
  refine run_condT rfl (bne_iff_ne.2 h0) ?_
  refine run_seq ?_
  refine run_region ?_
  refine run_q (.none rfl) rfl rfl (q_build rfl PV.nil (built25)) ?_
  refine run_q (.none rfl) rfl rfl (q_move rfl rfl) ?_
  refine run_h (.none rfl) (h_storeB rfl rfl sz25 rfl rfl rfl rfl rfl Sel.here rfl) ?_
  rintro - -
  refine run_q (.none rfl) rfl rfl (q_assign rfl rfl) ?_
  refine run_q (.none rfl) rfl rfl (q_assign rfl rfl) ?_
  refine run_nil ?_
  refine run_sub (subMk (.cons (s := 1) rfl (.cons (s := 2) rfl (.cons (s := 3) rfl (.cons (s := 4) rfl (.cons (s := 8) rfl (.cons (s := 9) rfl (.cons (s := 10) rfl .nil))))))) .refl) ?_
  refine run_ret ?_
  exact endG rfl (.cellN rfl agg25 Sel.here (.cons rfl (.cons rfl (.cons rfl (.cons rfl (.cons rfl (.cons rfl (.cons rfl (.cons rfl (.cons rfl (.cons rfl (.cons rfl (.cons rfl (.cons rfl CellsAt.nil))))))))))))) rfl (.tmp rfl (.tmp rfl Outs.nil))) _ .nil rfl

set_option maxHeartbeats 2000000 in
set_option maxRecDepth 100000 in
theorem lyric_B (y : Evt) (p : Lie) (v a b : Int) (W : World) (hx : RdE W y p) (fx : y.few) (h0 : evE y = 0) (hb : v < 0 ∨ 4 ≤ v ∨ a < 0 ∨ b < 0) : Calls Try.prog 33 #[evV y p, .int .i64 v, .int .i64 a, .int .i64 b] W (Hr.Just W (.tuple #[.agg #[.int .i64 0, .int .i64 0, .int .i64 0, .int .i64 0, .int .i64 0, .int .i64 0, .int .i64 0, .int .i64 0, .int .i64 0, .int .i64 0, .int .i64 0, .int .i64 0, .int .i64 0], .bool false, .int .i64 2])) := by
  refine Just.of_ret ?_
  refine enterA (X := nX) (vs := [evV y p, .int .i64 v, .int .i64 a, .int .i64 b]) Try.func33 Try.ntmps33 rfl rfl Mem.nil ?_
  refine run_seq ?_
  refine run_region ?_
  refine run_h (.none rfl) (h_box rfl rfl rfl rfl rfl) ?_
  rintro b4 -
  refine run_h (.none rfl) (h_alloc rfl rfl rfl info25) ?_
  rintro b8 -
  refine run_q (.none rfl) rfl rfl (q_assign rfl rfl) ?_
  refine run_q (.none rfl) rfl rfl (q_assign rfl rfl) ?_
  refine run_nil ?_
  refine run_seq ?_
  refine run_seq ?_
  refine run_region ?_
  refine run_q (.none rfl) rfl rfl (q_loadBN rfl agg78 rfl (.there Sel.here) (.cons rfl (.cons rfl (.cons rfl (.cons rfl (.cons rfl (.cons rfl (.cons rfl (.cons rfl (.cons rfl (.cons rfl (.cons rfl (.cons rfl (.cons rfl CellsAt.nil))))))))))))) rfl) ?_
  refine run_q (.none rfl) rfl rfl (q_call rfl call34 (.cons rfl Evs.nil) (fun w hk hm => evCheck_just y p w (hx.kept0 hk) fx)) ?_
  refine run_q (.none rfl) rfl rfl (q_assign rfl rfl) ?_
  refine run_nil ?_
  refine run_sub (subMk (.cons (s := 1) rfl (.cons (s := 2) rfl (.cons (s := 3) rfl (.cons (s := 4) rfl (.cons (s := 8) rfl (.cons (s := 9) rfl (.cons (s := 10) rfl (.cons (s := 11) rfl .nil)))))))) .refl) ?_
  refine run_seq ?_
  refine run_region ?_
  refine run_q (.none rfl) rfl rfl (q_move rfl rfl) ?_
  refine run_q (.none rfl) rfl rfl (q_neq rfl rfl rfl) ?_
  refine run_nil ?_
  refine run_condF rfl (by rw [h0]; rfl) ?_
  refine run_skip ?_
  refine run_seq ?_
  refine run_block ?_
  refine run_seq ?_
  refine run_region ?_
  refine run_q (.none rfl) rfl rfl (q_move rfl rfl) ?_
  refine run_q (.none rfl) rfl rfl (q_lss rfl rfl rfl) ?_
  refine run_q (.none rfl) rfl rfl (q_move rfl rfl) ?_
  refine run_split 23 rfl (fun g23 => ?_) (fun g23 => ?_)
  · have g23' := g23
    try simp only [decide_eq_true_eq, decide_eq_false_iff_not, beq_iff_eq, beq_eq_false_iff_ne, bne_iff_ne, bne_eq_false_iff_eq, Bool.not_eq_true', Bool.not_eq_false', ne_eq, Int.not_lt, Int.not_le, Decidable.not_not] at g23'
    refine run_off (.no rfl rfl rfl g23) rfl rfl ?_
    refine run_off (.no rfl rfl rfl g23) rfl rfl ?_
    refine run_q (.none rfl) rfl rfl (q_pickT rfl rfl g23 rfl) ?_
    refine run_q (.none rfl) rfl rfl (q_move rfl rfl) ?_
    refine run_off (.no rfl rfl rfl rfl) rfl rfl ?_
    refine run_off (.no rfl rfl rfl rfl) rfl rfl ?_
    refine run_q (.none rfl) rfl rfl (q_pickT rfl rfl rfl rfl) ?_
    refine run_q (.none rfl) rfl rfl (q_move rfl rfl) ?_
    refine run_off (.no rfl rfl rfl rfl) rfl rfl ?_
    refine run_off (.no rfl rfl rfl rfl) rfl rfl ?_
    refine run_q (.none rfl) rfl rfl (q_pickT rfl rfl rfl rfl) ?_
    refine run_q (.none rfl) rfl rfl (q_assign rfl rfl) ?_
    refine run_nil ?_
    refine run_sub (subMk (.cons (s := 1) rfl (.cons (s := 2) rfl (.cons (s := 3) rfl (.cons (s := 4) rfl (.cons (s := 8) rfl (.cons (s := 9) rfl (.cons (s := 10) rfl (.cons (s := 20) rfl .nil)))))))) .refl) ?_
    refine run_condT rfl rfl ?_
    refine run_seq ?_
    refine run_region ?_
    refine run_q (.none rfl) rfl rfl (q_build rfl PV.nil (built25)) ?_
    refine run_h (.none rfl) (h_storeB rfl rfl sz25 rfl rfl rfl rfl rfl Sel.here rfl) ?_
    rintro - -
    refine run_q (.none rfl) rfl rfl (q_assign rfl rfl) ?_
    refine run_q (.none rfl) rfl rfl (q_assign rfl rfl) ?_
    refine run_nil ?_
    refine run_ret ?_
    exact endG rfl (.cellN rfl agg25 Sel.here (.cons rfl (.cons rfl (.cons rfl (.cons rfl (.cons rfl (.cons rfl (.cons rfl (.cons rfl (.cons rfl (.cons rfl (.cons rfl (.cons rfl (.cons rfl CellsAt.nil))))))))))))) rfl (.tmp rfl (.tmp rfl Outs.nil))) _ .nil rfl
  · have g23' := g23
    try simp only [decide_eq_true_eq, decide_eq_false_iff_not, beq_iff_eq, beq_eq_false_iff_ne, bne_iff_ne, bne_eq_false_iff_eq, Bool.not_eq_true', Bool.not_eq_false', ne_eq, Int.not_lt, Int.not_le, Decidable.not_not] at g23'
    refine run_q (.on rfl rfl rfl g23) rfl rfl (q_move rfl rfl) ?_
    refine run_q (.on rfl rfl rfl g23) rfl rfl (q_geq rfl rfl rfl) ?_
    refine run_q (.none rfl) rfl rfl (q_pickF rfl rfl g23 rfl) ?_
    refine run_q (.none rfl) rfl rfl (q_move rfl rfl) ?_
    refine run_split 27 rfl (fun g27 => ?_) (fun g27 => ?_)
    · have g27' := g27
      try simp only [decide_eq_true_eq, decide_eq_false_iff_not, beq_iff_eq, beq_eq_false_iff_ne, bne_iff_ne, bne_eq_false_iff_eq, Bool.not_eq_true', Bool.not_eq_false', ne_eq, Int.not_lt, Int.not_le, Decidable.not_not] at g27'
      refine run_off (.no rfl rfl rfl g27) rfl rfl ?_
      refine run_off (.no rfl rfl rfl g27) rfl rfl ?_
      refine run_q (.none rfl) rfl rfl (q_pickT rfl rfl g27 rfl) ?_
      refine run_q (.none rfl) rfl rfl (q_move rfl rfl) ?_
      refine run_off (.no rfl rfl rfl rfl) rfl rfl ?_
      refine run_off (.no rfl rfl rfl rfl) rfl rfl ?_
      refine run_q (.none rfl) rfl rfl (q_pickT rfl rfl rfl rfl) ?_
      refine run_q (.none rfl) rfl rfl (q_assign rfl rfl) ?_
      refine run_nil ?_
      refine run_sub (subMk (.cons (s := 1) rfl (.cons (s := 2) rfl (.cons (s := 3) rfl (.cons (s := 4) rfl (.cons (s := 8) rfl (.cons (s := 9) rfl (.cons (s := 10) rfl (.cons (s := 20) rfl .nil)))))))) .refl) ?_
      refine run_condT rfl rfl ?_
      refine run_seq ?_
      refine run_region ?_
      refine run_q (.none rfl) rfl rfl (q_build rfl PV.nil (built25)) ?_
      refine run_h (.none rfl) (h_storeB rfl rfl sz25 rfl rfl rfl rfl rfl Sel.here rfl) ?_
      rintro - -
      refine run_q (.none rfl) rfl rfl (q_assign rfl rfl) ?_
      refine run_q (.none rfl) rfl rfl (q_assign rfl rfl) ?_
      refine run_nil ?_
      refine run_ret ?_
      exact endG rfl (.cellN rfl agg25 Sel.here (.cons rfl (.cons rfl (.cons rfl (.cons rfl (.cons rfl (.cons rfl (.cons rfl (.cons rfl (.cons rfl (.cons rfl (.cons rfl (.cons rfl (.cons rfl CellsAt.nil))))))))))))) rfl (.tmp rfl (.tmp rfl Outs.nil))) _ .nil rfl
    · have g27' := g27
      try simp only [decide_eq_true_eq, decide_eq_false_iff_not, beq_iff_eq, beq_eq_false_iff_ne, bne_iff_ne, bne_eq_false_iff_eq, Bool.not_eq_true', Bool.not_eq_false', ne_eq, Int.not_lt, Int.not_le, Decidable.not_not] at g27'
      refine run_q (.on rfl rfl rfl g27) rfl rfl (q_move rfl rfl) ?_
      refine run_q (.on rfl rfl rfl g27) rfl rfl (q_lss rfl rfl rfl) ?_
      refine run_q (.none rfl) rfl rfl (q_pickF rfl rfl g27 rfl) ?_
      refine run_q (.none rfl) rfl rfl (q_move rfl rfl) ?_
      refine run_split 31 rfl (fun g31 => ?_) (fun g31 => ?_)
      · have g31' := g31
        try simp only [decide_eq_true_eq, decide_eq_false_iff_not, beq_iff_eq, beq_eq_false_iff_ne, bne_iff_ne, bne_eq_false_iff_eq, Bool.not_eq_true', Bool.not_eq_false', ne_eq, Int.not_lt, Int.not_le, Decidable.not_not] at g31'
        refine run_off (.no rfl rfl rfl g31) rfl rfl ?_
        refine run_off (.no rfl rfl rfl g31) rfl rfl ?_
        refine run_q (.none rfl) rfl rfl (q_pickT rfl rfl g31 rfl) ?_
        refine run_q (.none rfl) rfl rfl (q_assign rfl rfl) ?_
        refine run_nil ?_
        refine run_sub (subMk (.cons (s := 1) rfl (.cons (s := 2) rfl (.cons (s := 3) rfl (.cons (s := 4) rfl (.cons (s := 8) rfl (.cons (s := 9) rfl (.cons (s := 10) rfl (.cons (s := 20) rfl .nil)))))))) .refl) ?_
        refine run_condT rfl rfl ?_
        refine run_seq ?_
        refine run_region ?_
        refine run_q (.none rfl) rfl rfl (q_build rfl PV.nil (built25)) ?_
        refine run_h (.none rfl) (h_storeB rfl rfl sz25 rfl rfl rfl rfl rfl Sel.here rfl) ?_
        rintro - -
        refine run_q (.none rfl) rfl rfl (q_assign rfl rfl) ?_
        refine run_q (.none rfl) rfl rfl (q_assign rfl rfl) ?_
        refine run_nil ?_
        refine run_ret ?_
        exact endG rfl (.cellN rfl agg25 Sel.here (.cons rfl (.cons rfl (.cons rfl (.cons rfl (.cons rfl (.cons rfl (.cons rfl (.cons rfl (.cons rfl (.cons rfl (.cons rfl (.cons rfl (.cons rfl CellsAt.nil))))))))))))) rfl (.tmp rfl (.tmp rfl Outs.nil))) _ .nil rfl
      · have g31' := g31
        try simp only [decide_eq_true_eq, decide_eq_false_iff_not, beq_iff_eq, beq_eq_false_iff_ne, bne_iff_ne, bne_eq_false_iff_eq, Bool.not_eq_true', Bool.not_eq_false', ne_eq, Int.not_lt, Int.not_le, Decidable.not_not] at g31'
        refine run_q (.on rfl rfl rfl g31) rfl rfl (q_move rfl rfl) ?_
        refine run_q (.on rfl rfl rfl g31) rfl rfl (q_lss rfl rfl rfl) ?_
        refine run_q (.none rfl) rfl rfl (q_pickF rfl rfl g31 rfl) ?_
        refine run_q (.none rfl) rfl rfl (q_assign rfl rfl) ?_
        refine run_nil ?_
        refine run_sub (subMk (.cons (s := 1) rfl (.cons (s := 2) rfl (.cons (s := 3) rfl (.cons (s := 4) rfl (.cons (s := 8) rfl (.cons (s := 9) rfl (.cons (s := 10) rfl (.cons (s := 20) rfl .nil)))))))) .refl) ?_
        refine run_condT rfl (decide_eq_true (by omega)) ?_
        refine run_seq ?_
        refine run_region ?_
        refine run_q (.none rfl) rfl rfl (q_build rfl PV.nil (built25)) ?_
        refine run_h (.none rfl) (h_storeB rfl rfl sz25 rfl rfl rfl rfl rfl Sel.here rfl) ?_
        rintro - -
        refine run_q (.none rfl) rfl rfl (q_assign rfl rfl) ?_
        refine run_q (.none rfl) rfl rfl (q_assign rfl rfl) ?_
        refine run_nil ?_
        refine run_ret ?_
        exact endG rfl (.cellN rfl agg25 Sel.here (.cons rfl (.cons rfl (.cons rfl (.cons rfl (.cons rfl (.cons rfl (.cons rfl (.cons rfl (.cons rfl (.cons rfl (.cons rfl (.cons rfl (.cons rfl CellsAt.nil))))))))))))) rfl (.tmp rfl (.tmp rfl Outs.nil))) _ .nil rfl

set_option maxHeartbeats 2000000 in
set_option maxRecDepth 100000 in
theorem lyric_C (y : Evt) (p : Lie) (v a b : Int) (W : World) (hx : RdE W y p) (fx : y.few) (h0 : evE y = 0) (hb : ¬ (v < 0 ∨ 4 ≤ v ∨ a < 0 ∨ b < 0)) (hc : y.ls.length ≤ v ∨ empS (nth y.ls v.toNat).text = true) : Calls Try.prog 33 #[evV y p, .int .i64 v, .int .i64 a, .int .i64 b] W (Hr.Just W (.tuple #[.agg #[.int .i64 0, .int .i64 0, .int .i64 0, .int .i64 0, .int .i64 0, .int .i64 0, .int .i64 0, .int .i64 0, .int .i64 0, .int .i64 0, .int .i64 0, .int .i64 0, .int .i64 0], .bool false, .int .i64 0])) := by
  refine Just.of_ret ?_
  refine enterA (X := nX) (vs := [evV y p, .int .i64 v, .int .i64 a, .int .i64 b]) Try.func33 Try.ntmps33 rfl rfl Mem.nil ?_
  refine run_seq ?_
  refine run_region ?_
  refine run_h (.none rfl) (h_box rfl rfl rfl rfl rfl) ?_
  rintro b4 -
  refine run_h (.none rfl) (h_alloc rfl rfl rfl info25) ?_
  rintro b8 -
  refine run_q (.none rfl) rfl rfl (q_assign rfl rfl) ?_
  refine run_q (.none rfl) rfl rfl (q_assign rfl rfl) ?_
  refine run_nil ?_
  refine run_seq ?_
  refine run_seq ?_
  refine run_region ?_
  refine run_q (.none rfl) rfl rfl (q_loadBN rfl agg78 rfl (.there Sel.here) (.cons rfl (.cons rfl (.cons rfl (.cons rfl (.cons rfl (.cons rfl (.cons rfl (.cons rfl (.cons rfl (.cons rfl (.cons rfl (.cons rfl (.cons rfl CellsAt.nil))))))))))))) rfl) ?_
  refine run_q (.none rfl) rfl rfl (q_call rfl call34 (.cons rfl Evs.nil) (fun w hk hm => evCheck_just y p w (hx.kept0 hk) fx)) ?_
  refine run_q (.none rfl) rfl rfl (q_assign rfl rfl) ?_
  refine run_nil ?_
  refine run_sub (subMk (.cons (s := 1) rfl (.cons (s := 2) rfl (.cons (s := 3) rfl (.cons (s := 4) rfl (.cons (s := 8) rfl (.cons (s := 9) rfl (.cons (s := 10) rfl (.cons (s := 11) rfl .nil)))))))) .refl) ?_
  refine run_seq ?_
  refine run_region ?_
  refine run_q (.none rfl) rfl rfl (q_move rfl rfl) ?_
  refine run_q (.none rfl) rfl rfl (q_neq rfl rfl rfl) ?_
  refine run_nil ?_
  refine run_condF rfl (by rw [h0]; rfl) ?_
  refine run_skip ?_
  refine run_seq ?_
  refine run_block ?_
  refine run_seq ?_
  refine run_region ?_
  refine run_q (.none rfl) rfl rfl (q_move rfl rfl) ?_
  refine run_q (.none rfl) rfl rfl (q_lss rfl rfl rfl) ?_
  refine run_q (.none rfl) rfl rfl (q_move rfl rfl) ?_
  refine run_q (.on rfl rfl rfl (decide_eq_false (by omega))) rfl rfl (q_move rfl rfl) ?_
  refine run_q (.on rfl rfl rfl (decide_eq_false (by omega))) rfl rfl (q_geq rfl rfl rfl) ?_
  refine run_q (.none rfl) rfl rfl (q_pickF rfl rfl (decide_eq_false (by omega)) rfl) ?_
  refine run_q (.none rfl) rfl rfl (q_move rfl rfl) ?_
  refine run_q (.on rfl rfl rfl (decide_eq_false (by omega))) rfl rfl (q_move rfl rfl) ?_
  refine run_q (.on rfl rfl rfl (decide_eq_false (by omega))) rfl rfl (q_lss rfl rfl rfl) ?_
  refine run_q (.none rfl) rfl rfl (q_pickF rfl rfl (decide_eq_false (by omega)) rfl) ?_
  refine run_q (.none rfl) rfl rfl (q_move rfl rfl) ?_
  refine run_q (.on rfl rfl rfl (decide_eq_false (by omega))) rfl rfl (q_move rfl rfl) ?_
  refine run_q (.on rfl rfl rfl (decide_eq_false (by omega))) rfl rfl (q_lss rfl rfl rfl) ?_
  refine run_q (.none rfl) rfl rfl (q_pickF rfl rfl (decide_eq_false (by omega)) rfl) ?_
  refine run_q (.none rfl) rfl rfl (q_assign rfl rfl) ?_
  refine run_nil ?_
  refine run_sub (subMk (.cons (s := 1) rfl (.cons (s := 2) rfl (.cons (s := 3) rfl (.cons (s := 4) rfl (.cons (s := 8) rfl (.cons (s := 9) rfl (.cons (s := 10) rfl (.cons (s := 20) rfl .nil)))))))) .refl) ?_
  refine run_condF rfl (decide_eq_false (by omega)) ?_
  refine run_seq ?_
  refine run_region ?_
  refine run_q (.none rfl) rfl rfl (q_move rfl rfl) ?_
  refine run_q (.none rfl) rfl rfl (q_fieldB (d := 10) rfl Try.underlying78 rfl rfl sz76 rfl) ?_
  refine run_q (.none rfl) rfl rfl (q_loadB rfl one76 rfl (.there Sel.here) rfl) ?_
  refine run_q (.none rfl) rfl rfl (q_len rfl Try.underlying76 rfl) ?_
  refine run_q (.none rfl) rfl rfl (q_geq rfl rfl rfl) ?_
  refine run_q (.none rfl) rfl rfl (q_move rfl rfl) ?_
  refine run_split 42 rfl (fun g42 => ?_) (fun g42 => ?_)
  · have g42' := g42
    try simp only [decide_eq_true_eq, decide_eq_false_iff_not, beq_iff_eq, beq_eq_false_iff_ne, bne_iff_ne, bne_eq_false_iff_eq, Bool.not_eq_true', Bool.not_eq_false', ne_eq, Int.not_lt, Int.not_le, Decidable.not_not] at g42'
    refine run_off (.no rfl rfl rfl g42) rfl rfl ?_
    refine run_off (.no rfl rfl rfl g42) rfl rfl ?_
    refine run_off (.no rfl rfl rfl g42) rfl rfl ?_
    refine run_off (.no rfl rfl rfl g42) rfl rfl ?_
    refine run_off (.no rfl rfl rfl g42) rfl rfl ?_
    refine run_off (.no rfl rfl rfl g42) rfl rfl ?_
    refine run_off (.no rfl rfl rfl g42) rfl rfl ?_
    refine run_q (.none rfl) rfl rfl (q_pickT rfl rfl g42 rfl) ?_
    refine run_q (.none rfl) rfl rfl (q_assign rfl rfl) ?_
    refine run_nil ?_
    refine run_sub (subMk (.cons (s := 1) rfl (.cons (s := 2) rfl (.cons (s := 3) rfl (.cons (s := 4) rfl (.cons (s := 8) rfl (.cons (s := 9) rfl (.cons (s := 10) rfl (.cons (s := 36) rfl .nil)))))))) .refl) ?_
    refine run_condT rfl rfl ?_
    refine run_seq ?_
    refine run_region ?_
    refine run_q (.none rfl) rfl rfl (q_build rfl PV.nil (built25)) ?_
    refine run_h (.none rfl) (h_storeB rfl rfl sz25 rfl rfl rfl rfl rfl Sel.here rfl) ?_
    rintro - -
    refine run_q (.none rfl) rfl rfl (q_assign rfl rfl) ?_
    refine run_q (.none rfl) rfl rfl (q_assign rfl rfl) ?_
    refine run_nil ?_
    refine run_ret ?_
    exact endG rfl (.cellN rfl agg25 Sel.here (.cons rfl (.cons rfl (.cons rfl (.cons rfl (.cons rfl (.cons rfl (.cons rfl (.cons rfl (.cons rfl (.cons rfl (.cons rfl (.cons rfl (.cons rfl CellsAt.nil))))))))))))) rfl (.tmp rfl (.tmp rfl Outs.nil))) _ .nil rfl
  · have g42' := g42
    try simp only [decide_eq_true_eq, decide_eq_false_iff_not, beq_iff_eq, beq_eq_false_iff_ne, bne_iff_ne, bne_eq_false_iff_eq, Bool.not_eq_true', Bool.not_eq_false', ne_eq, Int.not_lt, Int.not_le, Decidable.not_not] at g42'
    refine run_q (.on rfl rfl rfl g42) rfl rfl (q_fieldB (d := 10) rfl Try.underlying78 rfl rfl sz76 rfl) ?_
    refine run_q (.on rfl rfl rfl g42) rfl rfl (q_loadB rfl one76 rfl (.there Sel.here) rfl) ?_
    refine run_q (.on rfl rfl rfl g42) rfl rfl (q_move rfl rfl) ?_
    refine run_q (.on rfl rfl rfl g42) rfl rfl (q_indexS (q := v.toNat) rfl Try.underlying76 sz86 rfl rfl (.inp hx.l .no) (by rw [List.length_map]) (by omega) (by omega)) ?_
    refine run_q (.on rfl rfl rfl g42) rfl rfl (q_fieldAddr (d := 0) rfl Try.underlying86 rfl rfl sz9 rfl) ?_
    refine run_q (.on rfl rfl rfl g42) rfl rfl (q_loadF rfl one9 rfl (.inp hx.l .no) (getmap (by omega)) rfl) ?_
    refine run_q (.on rfl rfl rfl g42) rfl rfl (q_eqlStr rfl rfl rfl) ?_
    refine run_q (.none rfl) rfl rfl (q_pickF rfl rfl g42 rfl) ?_
    refine run_q (.none rfl) rfl rfl (q_assign rfl rfl) ?_
    refine run_nil ?_
    refine run_sub (subMk (.cons (s := 1) rfl (.cons (s := 2) rfl (.cons (s := 3) rfl (.cons (s := 4) rfl (.cons (s := 8) rfl (.cons (s := 9) rfl (.cons (s := 10) rfl (.cons (s := 36) rfl .nil)))))))) .refl) ?_
    refine run_condT rfl (show empS _ = true from hc.resolve_left (by omega)) ?_
    refine run_seq ?_
    refine run_region ?_
    refine run_q (.none rfl) rfl rfl (q_build rfl PV.nil (built25)) ?_
    refine run_h (.none rfl) (h_storeB rfl rfl sz25 rfl rfl rfl rfl rfl Sel.here rfl) ?_
    rintro - -
    refine run_q (.none rfl) rfl rfl (q_assign rfl rfl) ?_
    refine run_q (.none rfl) rfl rfl (q_assign rfl rfl) ?_
    refine run_nil ?_
    refine run_ret ?_
    exact endG rfl (.cellN rfl agg25 Sel.here (.cons rfl (.cons rfl (.cons rfl (.cons rfl (.cons rfl (.cons rfl (.cons rfl (.cons rfl (.cons rfl (.cons rfl (.cons rfl (.cons rfl (.cons rfl CellsAt.nil))))))))))))) rfl (.tmp rfl (.tmp rfl Outs.nil))) _ .nil rfl

set_option maxHeartbeats 2000000 in
set_option maxRecDepth 100000 in
theorem lyric_D (y : Evt) (p : Lie) (v a b : Int) (W : World) (hx : RdE W y p) (fx : y.few) (h0 : evE y = 0) (hb : ¬ (v < 0 ∨ 4 ≤ v ∨ a < 0 ∨ b < 0)) (hc : v < y.ls.length) (he : empS (nth y.ls v.toNat).text = false) (ht : (nth y.ls v.toNat).text.size ≤ 300) : Calls Try.prog 33 #[evV y p, .int .i64 v, .int .i64 a, .int .i64 b] W (Hr.Just W (.tuple #[(onV ⟨56, v, a, b, b, 0, 0, 0, y.n.site, y.n.num, glyT (nth y.ls v.toNat).text (nth y.ls v.toNat).text.size / 2, glyT (nth y.ls v.toNat).text (nth y.ls v.toNat).text.size - glyT (nth y.ls v.toNat).text (nth y.ls v.toNat).text.size / 2, 80⟩ (-1)).val, .bool true, .int .i64 0])) := by
  have hgb := glyT_bd (nth y.ls v.toNat).text (nth y.ls v.toNat).text.size
  refine Just.of_ret ?_
  refine enterA (X := nX) (vs := [evV y p, .int .i64 v, .int .i64 a, .int .i64 b]) Try.func33 Try.ntmps33 rfl rfl Mem.nil ?_
  refine run_seq ?_
  refine run_region ?_
  refine run_h (.none rfl) (h_box rfl rfl rfl rfl rfl) ?_
  rintro b4 -
  refine run_h (.none rfl) (h_alloc rfl rfl rfl info25) ?_
  rintro b8 -
  refine run_q (.none rfl) rfl rfl (q_assign rfl rfl) ?_
  refine run_q (.none rfl) rfl rfl (q_assign rfl rfl) ?_
  refine run_nil ?_
  refine run_seq ?_
  refine run_seq ?_
  refine run_region ?_
  refine run_q (.none rfl) rfl rfl (q_loadBN rfl agg78 rfl (.there Sel.here) (.cons rfl (.cons rfl (.cons rfl (.cons rfl (.cons rfl (.cons rfl (.cons rfl (.cons rfl (.cons rfl (.cons rfl (.cons rfl (.cons rfl (.cons rfl CellsAt.nil))))))))))))) rfl) ?_
  refine run_q (.none rfl) rfl rfl (q_call rfl call34 (.cons rfl Evs.nil) (fun w hk hm => evCheck_just y p w (hx.kept0 hk) fx)) ?_
  refine run_q (.none rfl) rfl rfl (q_assign rfl rfl) ?_
  refine run_nil ?_
  refine run_sub (subMk (.cons (s := 1) rfl (.cons (s := 2) rfl (.cons (s := 3) rfl (.cons (s := 4) rfl (.cons (s := 8) rfl (.cons (s := 9) rfl (.cons (s := 10) rfl (.cons (s := 11) rfl .nil)))))))) .refl) ?_
  refine run_seq ?_
  refine run_region ?_
  refine run_q (.none rfl) rfl rfl (q_move rfl rfl) ?_
  refine run_q (.none rfl) rfl rfl (q_neq rfl rfl rfl) ?_
  refine run_nil ?_
  refine run_condF rfl (by rw [h0]; rfl) ?_
  refine run_skip ?_
  refine run_seq ?_
  refine run_block ?_
  refine run_seq ?_
  refine run_region ?_
  refine run_q (.none rfl) rfl rfl (q_move rfl rfl) ?_
  refine run_q (.none rfl) rfl rfl (q_lss rfl rfl rfl) ?_
  refine run_q (.none rfl) rfl rfl (q_move rfl rfl) ?_
  refine run_q (.on rfl rfl rfl (decide_eq_false (by omega))) rfl rfl (q_move rfl rfl) ?_
  refine run_q (.on rfl rfl rfl (decide_eq_false (by omega))) rfl rfl (q_geq rfl rfl rfl) ?_
  refine run_q (.none rfl) rfl rfl (q_pickF rfl rfl (decide_eq_false (by omega)) rfl) ?_
  refine run_q (.none rfl) rfl rfl (q_move rfl rfl) ?_
  refine run_q (.on rfl rfl rfl (decide_eq_false (by omega))) rfl rfl (q_move rfl rfl) ?_
  refine run_q (.on rfl rfl rfl (decide_eq_false (by omega))) rfl rfl (q_lss rfl rfl rfl) ?_
  refine run_q (.none rfl) rfl rfl (q_pickF rfl rfl (decide_eq_false (by omega)) rfl) ?_
  refine run_q (.none rfl) rfl rfl (q_move rfl rfl) ?_
  refine run_q (.on rfl rfl rfl (decide_eq_false (by omega))) rfl rfl (q_move rfl rfl) ?_
  refine run_q (.on rfl rfl rfl (decide_eq_false (by omega))) rfl rfl (q_lss rfl rfl rfl) ?_
  refine run_q (.none rfl) rfl rfl (q_pickF rfl rfl (decide_eq_false (by omega)) rfl) ?_
  refine run_q (.none rfl) rfl rfl (q_assign rfl rfl) ?_
  refine run_nil ?_
  refine run_sub (subMk (.cons (s := 1) rfl (.cons (s := 2) rfl (.cons (s := 3) rfl (.cons (s := 4) rfl (.cons (s := 8) rfl (.cons (s := 9) rfl (.cons (s := 10) rfl (.cons (s := 20) rfl .nil)))))))) .refl) ?_
  refine run_condF rfl (decide_eq_false (by omega)) ?_
  refine run_seq ?_
  refine run_region ?_
  refine run_q (.none rfl) rfl rfl (q_move rfl rfl) ?_
  refine run_q (.none rfl) rfl rfl (q_fieldB (d := 10) rfl Try.underlying78 rfl rfl sz76 rfl) ?_
  refine run_q (.none rfl) rfl rfl (q_loadB rfl one76 rfl (.there Sel.here) rfl) ?_
  refine run_q (.none rfl) rfl rfl (q_len rfl Try.underlying76 rfl) ?_
  refine run_q (.none rfl) rfl rfl (q_geq rfl rfl rfl) ?_
  refine run_q (.none rfl) rfl rfl (q_move rfl rfl) ?_
  refine run_q (.on rfl rfl rfl (decide_eq_false (by omega))) rfl rfl (q_fieldB (d := 10) rfl Try.underlying78 rfl rfl sz76 rfl) ?_
  refine run_q (.on rfl rfl rfl (decide_eq_false (by omega))) rfl rfl (q_loadB rfl one76 rfl (.there Sel.here) rfl) ?_
  refine run_q (.on rfl rfl rfl (decide_eq_false (by omega))) rfl rfl (q_move rfl rfl) ?_
  refine run_q (.on rfl rfl rfl (decide_eq_false (by omega))) rfl rfl (q_indexS (q := v.toNat) rfl Try.underlying76 sz86 rfl rfl (.inp hx.l .no) (by rw [List.length_map]) (by omega) (by omega)) ?_
  refine run_q (.on rfl rfl rfl (decide_eq_false (by omega))) rfl rfl (q_fieldAddr (d := 0) rfl Try.underlying86 rfl rfl sz9 rfl) ?_
  refine run_q (.on rfl rfl rfl (decide_eq_false (by omega))) rfl rfl (q_loadF rfl one9 rfl (.inp hx.l .no) (getmap (by omega)) rfl) ?_
  refine run_q (.on rfl rfl rfl (decide_eq_false (by omega))) rfl rfl (q_eqlStr rfl rfl rfl) ?_
  refine run_q (.none rfl) rfl rfl (q_pickF rfl rfl (decide_eq_false (by omega)) rfl) ?_
  refine run_q (.none rfl) rfl rfl (q_assign rfl rfl) ?_
  refine run_nil ?_
  refine run_sub (subMk (.cons (s := 1) rfl (.cons (s := 2) rfl (.cons (s := 3) rfl (.cons (s := 4) rfl (.cons (s := 8) rfl (.cons (s := 9) rfl (.cons (s := 10) rfl (.cons (s := 36) rfl .nil)))))))) .refl) ?_
  refine run_condF rfl (show empS _ = false from he) ?_
  refine run_skip ?_
  refine run_blk ?_
  refine run_seq ?_
  refine run_region ?_
  refine run_q (.none rfl) rfl rfl (q_fieldB (d := 10) rfl Try.underlying78 rfl rfl sz76 rfl) ?_
  refine run_q (.none rfl) rfl rfl (q_loadB rfl one76 rfl (.there Sel.here) rfl) ?_
  refine run_q (.none rfl) rfl rfl (q_move rfl rfl) ?_
  refine run_q (.none rfl) rfl rfl (q_indexS (q := v.toNat) rfl Try.underlying76 sz86 rfl rfl (.inp hx.l .no) (by rw [List.length_map]) (by omega) (by omega)) ?_
  refine run_q (.none rfl) rfl rfl (q_fieldAddr (d := 0) rfl Try.underlying86 rfl rfl sz9 rfl) ?_
  refine run_q (.none rfl) rfl rfl (q_loadF rfl one9 rfl (.inp hx.l .no) (getmap (by omega)) rfl) ?_
  refine run_q (.none rfl) rfl rfl (q_call rfl call25 (.cons rfl Evs.nil) (fun w hk hm => glyText_just (nth y.ls v.toNat).text w ht)) ?_
  refine run_q (.none rfl) rfl rfl (q_assign rfl rfl) ?_
  refine run_nil ?_
  refine run_sub (subMk (.cons (s := 1) rfl (.cons (s := 2) rfl (.cons (s := 3) rfl (.cons (s := 4) rfl (.cons (s := 8) rfl (.cons (s := 9) rfl (.cons (s := 10) rfl (.cons (s := 12) rfl .nil)))))))) .refl) ?_
  refine run_seq ?_
  refine run_region ?_
  refine run_q (.none rfl) rfl rfl (q_move rfl rfl) ?_
  refine run_q (.none rfl) rfl rfl (q_move rfl rfl) ?_
  refine run_q (.none rfl) rfl rfl (q_move rfl rfl) ?_
  refine run_q (.none rfl) rfl rfl (q_move rfl rfl) ?_
  refine run_q (.none rfl) rfl rfl (q_fieldB (d := 0) rfl Try.underlying78 rfl rfl sz23 rfl) ?_
  refine run_q (.none rfl) rfl rfl (q_loadBN rfl agg23 rfl (.there Sel.here) (.cons rfl (.cons rfl CellsAt.nil)) rfl) ?_
  refine run_q (.none rfl) rfl rfl (q_move rfl rfl) ?_
  refine run_q (.none rfl) rfl rfl (q_quo rfl rfl rfl (by omega)) ?_
  refine run_q (.none rfl) rfl rfl (q_move rfl rfl) ?_
  refine run_q (.none rfl) rfl rfl (q_move rfl rfl) ?_
  refine run_q (.none rfl) rfl rfl (q_quo rfl rfl rfl (by omega)) ?_
  refine run_q (.none rfl) rfl rfl (q_sub rfl rfl rfl (by omega)) ?_
  refine run_q (.none rfl) rfl rfl (q_build rfl (.cons rfl (.cons rfl (.cons rfl (.cons rfl (.cons rfl (.cons rfl (.cons rfl (.cons rfl (.cons rfl PV.nil))))))))) (built25p0p1p2p3p4p8p11p9p10 _ _ _ _ _ _ _ _ _ _)) ?_
  refine run_h (.none rfl) (h_alloc rfl rfl rfl info25) ?_
  rintro b13 -
  refine run_h (.none rfl) (h_storeB rfl rfl sz25 rfl rfl rfl rfl rfl Sel.here rfl) ?_
  rintro - -
  refine run_nil ?_
  refine run_sub (subMk (.cons (s := 8) rfl (.cons (s := 9) rfl (.cons (s := 10) rfl (.cons (s := 13) rfl .nil)))) .refl) ?_
  refine run_seq ?_
  refine run_region ?_
  refine run_q (.none rfl) rfl rfl (q_loadBN rfl agg25 rfl Sel.here (.cons rfl (.cons rfl (.cons rfl (.cons rfl (.cons rfl (.cons rfl (.cons rfl (.cons rfl (.cons rfl (.cons rfl (.cons rfl (.cons rfl (.cons rfl CellsAt.nil))))))))))))) rfl) ?_
  refine run_q (.none rfl) rfl rfl (q_call rfl call36 (.cons rfl (.cons rfl Evs.nil)) (fun w hk hm => on_just ⟨56, v, a, b, b, 0, 0, 0, y.n.site, y.n.num, glyT (nth y.ls v.toNat).text (nth y.ls v.toNat).text.size / 2, glyT (nth y.ls v.toNat).text (nth y.ls v.toNat).text.size - glyT (nth y.ls v.toNat).text (nth y.ls v.toNat).text.size / 2, 80⟩ (-1) w (by decide))) ?_
  refine run_h (.none rfl) (h_storeB rfl rfl sz25 rfl rfl rfl rfl rfl (.there Sel.here) rfl) ?_
  rintro - -
  refine run_q (.none rfl) rfl rfl (q_assign rfl rfl) ?_
  refine run_q (.none rfl) rfl rfl (q_assign rfl rfl) ?_
  refine run_nil ?_
  refine run_sub (subMk (.cons (s := 8) rfl (.cons (s := 9) rfl (.cons (s := 10) rfl .nil))) .refl) ?_
  refine run_ret ?_
  exact endG rfl (.cellN rfl agg25 Sel.here (.cons rfl (.cons rfl (.cons rfl (.cons rfl (.cons rfl (.cons rfl (.cons rfl (.cons rfl (.cons rfl (.cons rfl (.cons rfl (.cons rfl (.cons rfl CellsAt.nil))))))))))))) rfl (.tmp rfl (.tmp rfl Outs.nil))) _ .nil rfl

end Go.Proofs.YtgphmbipakdggaaR.Ev
