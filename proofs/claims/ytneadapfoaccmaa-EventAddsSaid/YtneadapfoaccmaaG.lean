/- The reference's check of an event. -/
import Derived.Test.YtneadapfoaccmaaC
import Derived.Test.YtneadapfoaccmaaE
set_option linter.unusedSimpArgs false
set_option linter.unusedVariables false
namespace Go.Proofs.Ytneadapfoaccmaa
open Go Go.RowKit Hr

theorem built30p0p1p2p7 (x0y0 : Int) (x0y1 : Int) (x1y : Int) (x2y0 : Int) (x2y1 : Int) (x7y : Int) : Try.prog.built 30 [(0, .agg #[.int .i64 x0y0, .int .i64 x0y1]), (1, .int .i64 x1y), (2, .agg #[.int .i64 x2y0, .int .i64 x2y1]), (7, .int .i64 x7y)] = some #[.int .i64 x0y0, .int .i64 x0y1, .int .i64 x1y, .int .i64 x2y0, .int .i64 x2y1, .slice none 0 0, .slice none 0 0, .int .i64 0, .int .i64 0, .int .i64 x7y, .slice none 0 0, .int .i64 0, .int .i64 0] := by kernel_rfl
theorem built25  : Try.prog.built 25 [] = some #[.int .i64 0, .int .i64 0] := by kernel_rfl
theorem call50 : Hr.Callable Try.prog 50 := fun args w => by kernel_rfl
theorem call32 : Hr.Callable Try.prog 32 := fun args w => by kernel_rfl
theorem call51 : Hr.Callable Try.prog 51 := fun args w => by kernel_rfl
theorem call19 : Hr.Callable Try.prog 19 := fun args w => by kernel_rfl
theorem call21 : Hr.Callable Try.prog 21 := fun args w => by kernel_rfl
theorem call23 : Hr.Callable Try.prog 23 := fun args w => by kernel_rfl

set_option maxRecDepth 100000 in
theorem isValue_just (a b : Int) (W : World)  : Calls Try.prog 51 #[.agg #[.int .i64 a, .int .i64 b]] W (Hr.Just W (.bool (decide (isVal a b)))) := by
  refine Just.of_ret ?_
  refine enterA (X := nX) (vs := [.agg #[.int .i64 a, .int .i64 b]]) Try.func51 Try.ntmps51 rfl rfl Mem.nil ?_
  refine run_seq ?_
  refine run_region ?_
  refine run_h (.none rfl) (h_box rfl rfl rfl rfl rfl) ?_
  rintro b1 -
  refine run_q (.none rfl) rfl rfl (q_assign rfl rfl) ?_
  refine run_nil ?_
  refine run_seq ?_
  refine run_region ?_
  refine run_q (.none rfl) rfl rfl (q_fieldB (d := 0) rfl Try.underlying25 rfl rfl sz3 rfl) ?_
  refine run_q (.none rfl) rfl rfl (q_loadB rfl one3 rfl Sel.here rfl) ?_
  refine run_q (.none rfl) rfl rfl (q_call rfl call49 (.cons rfl (.cons rfl (.cons rfl Evs.nil))) (fun w hk hm => in_just _ _ _ w)) ?_
  refine run_q (.none rfl) rfl rfl (q_move rfl rfl) ?_
  refine run_split 6 rfl (fun g6 => ?_) (fun g6 => ?_)
  · have g6' := g6
    try simp only [decide_eq_true_eq, decide_eq_false_iff_not, beq_iff_eq, beq_eq_false_iff_ne, bne_iff_ne, bne_eq_false_iff_eq, Bool.not_eq_true', Bool.not_eq_false', ne_eq, Int.not_lt, Int.not_le, Decidable.not_not] at g6'
    refine run_q (.on rfl rfl rfl g6) rfl rfl (q_fieldB (d := 1) rfl Try.underlying25 rfl rfl sz3 rfl) ?_
    refine run_q (.on rfl rfl rfl g6) rfl rfl (q_loadB rfl one3 rfl Sel.here rfl) ?_
    refine run_q (.on rfl rfl rfl g6) rfl rfl (q_call rfl call49 (.cons rfl (.cons rfl (.cons rfl Evs.nil))) (fun w hk hm => in_just _ _ _ w)) ?_
    refine run_q (.none rfl) rfl rfl (q_pickT rfl rfl g6 rfl) ?_
    refine run_q (.none rfl) rfl rfl (q_assign rfl rfl) ?_
    refine run_nil ?_
    refine run_sub (subMk (.cons (s := 2) rfl .nil) .refl) ?_
    refine run_ret ?_
    exact end1 rfl rfl (congrArg Value.bool (by rw [Bool.eq_iff_iff]; (try simp only [decide_eq_true_eq, Bool.false_eq_true, false_iff, true_iff]); unfold isVal; omega))
  · have g6' := g6
    try simp only [decide_eq_true_eq, decide_eq_false_iff_not, beq_iff_eq, beq_eq_false_iff_ne, bne_iff_ne, bne_eq_false_iff_eq, Bool.not_eq_true', Bool.not_eq_false', ne_eq, Int.not_lt, Int.not_le, Decidable.not_not] at g6'
    refine run_off (.no rfl rfl rfl g6) rfl rfl ?_
    refine run_off (.no rfl rfl rfl g6) rfl rfl ?_
    refine run_off (.no rfl rfl rfl g6) rfl rfl ?_
    refine run_q (.none rfl) rfl rfl (q_pickF rfl rfl g6 rfl) ?_
    refine run_q (.none rfl) rfl rfl (q_assign rfl rfl) ?_
    refine run_nil ?_
    refine run_sub (subMk (.cons (s := 2) rfl .nil) .refl) ?_
    refine run_ret ?_
    exact end1 rfl rfl (congrArg Value.bool (by rw [Bool.eq_iff_iff]; (try simp only [decide_eq_true_eq, Bool.false_eq_true, false_iff, true_iff]); unfold isVal; omega))

set_option maxHeartbeats 2000000 in
set_option maxRecDepth 100000 in
theorem refstrip_just (x : Evt) (p : Lie) (W : World) (hx : RdE W x p) (fx : x.few) : Calls Try.prog 50 #[evV x p] W (Hr.Just W (evV (stripE x) (stripP x p))) := by
  obtain ⟨fx1, fx2, fx3, fx4⟩ := id fx
  refine Just.of_ret ?_
  refine enterA (X := nX) (vs := [evV x p]) Try.func50 Try.ntmps50 rfl rfl Mem.nil ?_
  refine run_seq ?_
  refine run_region ?_
  refine run_h (.none rfl) (h_box rfl rfl rfl rfl rfl) ?_
  rintro b1 -
  refine run_h (.none rfl) (h_alloc rfl rfl rfl info30) ?_
  rintro b2 -
  refine run_nil ?_
  refine run_seq ?_
  refine run_region ?_
  refine run_q (.none rfl) rfl rfl (q_fieldB (d := 0) rfl Try.underlying30 rfl rfl sz23 rfl) ?_
  refine run_q (.none rfl) rfl rfl (q_loadBN rfl agg23 rfl (.there Sel.here) (.cons rfl (.cons rfl CellsAt.nil)) rfl) ?_
  refine run_q (.none rfl) rfl rfl (q_fieldB (d := 2) rfl Try.underlying30 rfl rfl sz3 rfl) ?_
  refine run_q (.none rfl) rfl rfl (q_loadB rfl one3 rfl (.there Sel.here) rfl) ?_
  refine run_q (.none rfl) rfl rfl (q_fieldB (d := 3) rfl Try.underlying30 rfl rfl sz25 rfl) ?_
  refine run_q (.none rfl) rfl rfl (q_loadBN rfl agg25 rfl (.there Sel.here) (.cons rfl (.cons rfl CellsAt.nil)) rfl) ?_
  refine run_q (.none rfl) rfl rfl (q_fieldB (d := 9) rfl Try.underlying30 rfl rfl sz3 rfl) ?_
  refine run_q (.none rfl) rfl rfl (q_loadB rfl one3 rfl (.there Sel.here) rfl) ?_
  refine run_q (.none rfl) rfl rfl (q_build rfl (.cons rfl (.cons rfl (.cons rfl (.cons rfl PV.nil)))) (built30p0p1p2p7 _ _ _ _ _ _)) ?_
  refine run_h (.none rfl) (h_alloc rfl rfl rfl info30) ?_
  rintro b3 -
  refine run_h (.none rfl) (h_storeB rfl rfl sz30 rfl rfl rfl rfl rfl Sel.here rfl) ?_
  rintro - -
  refine run_nil ?_
  refine run_sub (subMk (.cons (s := 1) rfl (.cons (s := 2) rfl (.cons (s := 3) rfl .nil))) .refl) ?_
  refine run_seq ?_
  refine run_seq ?_
  refine run_region ?_
  refine run_q (.none rfl) rfl rfl (q_fieldB (d := 2) rfl Try.underlying30 rfl rfl sz3 rfl) ?_
  refine run_q (.none rfl) rfl rfl (q_loadB rfl one3 rfl (.there (.there Sel.here)) rfl) ?_
  refine run_nil ?_
  refine run_block ?_
  refine run_seq ?_
  refine run_seq ?_
  refine run_region ?_
  refine run_q (.none rfl) rfl rfl (q_eql rfl rfl rfl) ?_
  refine run_q (.none rfl) rfl rfl (q_assign rfl rfl) ?_
  refine run_nil ?_
  refine run_cond rfl (fun g16 => ?_) (fun g16 => ?_)
  · have g16' := g16
    try simp only [decide_eq_true_eq, decide_eq_false_iff_not, beq_iff_eq, beq_eq_false_iff_ne, bne_iff_ne, bne_eq_false_iff_eq, Bool.not_eq_true', Bool.not_eq_false', ne_eq, Int.not_lt, Int.not_le, Decidable.not_not] at g16'
    refine run_skip ?_
    refine run_condT rfl g16 ?_
    refine run_seq ?_
    refine run_seq ?_
    refine run_region ?_
    refine run_q (.none rfl) rfl rfl (q_fieldB (d := 7) rfl Try.underlying30 rfl rfl sz3 rfl) ?_
    refine run_q (.none rfl) rfl rfl (q_loadB rfl one3 rfl (.there (.there Sel.here)) rfl) ?_
    refine run_q (.none rfl) rfl rfl (q_geq rfl rfl rfl) ?_
    refine run_q (.none rfl) rfl rfl (q_move rfl rfl) ?_
    refine run_split 22 rfl (fun g22 => ?_) (fun g22 => ?_)
    · have g22' := g22
      try simp only [decide_eq_true_eq, decide_eq_false_iff_not, beq_iff_eq, beq_eq_false_iff_ne, bne_iff_ne, bne_eq_false_iff_eq, Bool.not_eq_true', Bool.not_eq_false', ne_eq, Int.not_lt, Int.not_le, Decidable.not_not] at g22'
      refine run_q (.on rfl rfl rfl g22) rfl rfl (q_fieldB (d := 7) rfl Try.underlying30 rfl rfl sz3 rfl) ?_
      refine run_q (.on rfl rfl rfl g22) rfl rfl (q_loadB rfl one3 rfl (.there (.there Sel.here)) rfl) ?_
      refine run_q (.on rfl rfl rfl g22) rfl rfl (q_quo rfl rfl rfl (by omega)) ?_
      refine run_q (.on rfl rfl rfl g22) rfl rfl (q_rem rfl rfl rfl (by omega)) ?_
      refine run_q (.on rfl rfl rfl g22) rfl rfl (q_eql rfl rfl rfl) ?_
      refine run_q (.none rfl) rfl rfl (q_pickT rfl rfl g22 rfl) ?_
      refine run_nil ?_
      refine run_sub (subMk (.cons (s := 1) rfl (.cons (s := 2) rfl (.cons (s := 3) rfl (.cons (s := 28) rfl .nil)))) .refl) ?_
      refine run_cond rfl (fun g28 => ?_) (fun g28 => ?_)
      · have g28' := g28
        try simp only [decide_eq_true_eq, decide_eq_false_iff_not, beq_iff_eq, beq_eq_false_iff_ne, bne_iff_ne, bne_eq_false_iff_eq, Bool.not_eq_true', Bool.not_eq_false', ne_eq, Int.not_lt, Int.not_le, Decidable.not_not] at g28'
        refine run_region ?_
        refine run_q (.none rfl) rfl rfl (q_fieldB (d := 7) rfl Try.underlying30 rfl rfl sz3 rfl) ?_
        refine run_h (.none rfl) (h_storeB rfl rfl sz3 rfl rfl rfl rfl rfl Sel.here rfl) ?_
        rintro - -
        refine run_nil ?_
        refine run_seq ?_
        have hf : fermV x.n.art = 16 := (ferm_1 (by omega) g28').symm
        refine run_region ?_
        refine run_q (.none rfl) rfl rfl (q_fieldB (d := 2) rfl Try.underlying30 rfl rfl sz3 rfl) ?_
        refine run_q (.none rfl) rfl rfl (q_loadB rfl one3 rfl (.there (.there Sel.here)) rfl) ?_
        refine run_q (.none rfl) rfl rfl (q_eql rfl rfl rfl) ?_
        refine run_nil ?_
        refine run_sub (subMk (.cons (s := 2) rfl (.cons (s := 3) rfl (.cons (s := 32) rfl .nil))) .refl) ?_
        refine run_cond rfl (fun g32 => ?_) (fun g32 => ?_)
        · have g32' := g32
          try simp only [decide_eq_true_eq, decide_eq_false_iff_not, beq_iff_eq, beq_eq_false_iff_ne, bne_iff_ne, bne_eq_false_iff_eq, Bool.not_eq_true', Bool.not_eq_false', ne_eq, Int.not_lt, Int.not_le, Decidable.not_not] at g32'
          refine run_region ?_
          refine run_q (.none rfl) rfl rfl (q_build rfl PV.nil (built25)) ?_
          refine run_q (.none rfl) rfl rfl (q_fieldB (d := 3) rfl Try.underlying30 rfl rfl sz25 rfl) ?_
          refine run_h (.none rfl) (h_storeB rfl rfl sz25 rfl rfl rfl rfl rfl Sel.here rfl) ?_
          rintro - -
          refine run_nil ?_
          refine run_sub (subMk (.cons (s := 2) rfl (.cons (s := 3) rfl .nil)) .refl) ?_
          refine run_blk ?_
          refine run_seq ?_
          refine run_region ?_
          refine run_q (.none rfl) rfl rfl (q_loadBN rfl agg30 rfl Sel.here (.cons rfl (.cons rfl (.cons rfl (.cons rfl (.cons rfl (.cons rfl (.cons rfl (.cons rfl (.cons rfl (.cons rfl (.cons rfl (.cons rfl (.cons rfl CellsAt.nil))))))))))))) rfl) ?_
          refine run_h (.none rfl) (h_storeB rfl rfl sz30 rfl rfl rfl rfl rfl (.there Sel.here) rfl) ?_
          rintro - -
          refine run_nil ?_
          refine run_ret ?_
          exact endG rfl (.cellN rfl agg30 Sel.here (.cons rfl (.cons rfl (.cons rfl (.cons rfl (.cons rfl (.cons rfl (.cons rfl (.cons rfl (.cons rfl (.cons rfl (.cons rfl (.cons rfl (.cons rfl CellsAt.nil))))))))))))) rfl Outs.nil) _ .nil (by first | (exfalso; omega) | (rw [stripV_2 (by omega), hf]; rfl) | (rw [stripV_3 (by omega), hf]; rfl) | (rw [stripV_4 (by omega)]; rfl) | (rw [stripV_1 (by unfold bare; omega)]; rfl))
        · have g32' := g32
          try simp only [decide_eq_true_eq, decide_eq_false_iff_not, beq_iff_eq, beq_eq_false_iff_ne, bne_iff_ne, bne_eq_false_iff_eq, Bool.not_eq_true', Bool.not_eq_false', ne_eq, Int.not_lt, Int.not_le, Decidable.not_not] at g32'
          refine run_skip ?_
          refine run_blk ?_
          refine run_seq ?_
          refine run_region ?_
          refine run_q (.none rfl) rfl rfl (q_loadBN rfl agg30 rfl Sel.here (.cons rfl (.cons rfl (.cons rfl (.cons rfl (.cons rfl (.cons rfl (.cons rfl (.cons rfl (.cons rfl (.cons rfl (.cons rfl (.cons rfl (.cons rfl CellsAt.nil))))))))))))) rfl) ?_
          refine run_h (.none rfl) (h_storeB rfl rfl sz30 rfl rfl rfl rfl rfl (.there Sel.here) rfl) ?_
          rintro - -
          refine run_nil ?_
          refine run_sub (subMk (.cons (s := 2) rfl .nil) .refl) ?_
          refine run_ret ?_
          exact endG rfl (.cellN rfl agg30 Sel.here (.cons rfl (.cons rfl (.cons rfl (.cons rfl (.cons rfl (.cons rfl (.cons rfl (.cons rfl (.cons rfl (.cons rfl (.cons rfl (.cons rfl (.cons rfl CellsAt.nil))))))))))))) rfl Outs.nil) _ .nil (by first | (exfalso; omega) | (rw [stripV_2 (by omega), hf]; rfl) | (rw [stripV_3 (by omega), hf]; rfl) | (rw [stripV_4 (by omega)]; rfl) | (rw [stripV_1 (by unfold bare; omega)]; rfl))
      · have g28' := g28
        try simp only [decide_eq_true_eq, decide_eq_false_iff_not, beq_iff_eq, beq_eq_false_iff_ne, bne_iff_ne, bne_eq_false_iff_eq, Bool.not_eq_true', Bool.not_eq_false', ne_eq, Int.not_lt, Int.not_le, Decidable.not_not] at g28'
        refine run_skip ?_
        refine run_seq ?_
        have hf : fermV x.n.art = 0 := (ferm_0 (.inr g28')).symm
        refine run_region ?_
        refine run_q (.none rfl) rfl rfl (q_fieldB (d := 2) rfl Try.underlying30 rfl rfl sz3 rfl) ?_
        refine run_q (.none rfl) rfl rfl (q_loadB rfl one3 rfl (.there (.there Sel.here)) rfl) ?_
        refine run_q (.none rfl) rfl rfl (q_eql rfl rfl rfl) ?_
        refine run_nil ?_
        refine run_sub (subMk (.cons (s := 2) rfl (.cons (s := 3) rfl (.cons (s := 32) rfl .nil))) .refl) ?_
        refine run_cond rfl (fun g32 => ?_) (fun g32 => ?_)
        · have g32' := g32
          try simp only [decide_eq_true_eq, decide_eq_false_iff_not, beq_iff_eq, beq_eq_false_iff_ne, bne_iff_ne, bne_eq_false_iff_eq, Bool.not_eq_true', Bool.not_eq_false', ne_eq, Int.not_lt, Int.not_le, Decidable.not_not] at g32'
          refine run_region ?_
          refine run_q (.none rfl) rfl rfl (q_build rfl PV.nil (built25)) ?_
          refine run_q (.none rfl) rfl rfl (q_fieldB (d := 3) rfl Try.underlying30 rfl rfl sz25 rfl) ?_
          refine run_h (.none rfl) (h_storeB rfl rfl sz25 rfl rfl rfl rfl rfl Sel.here rfl) ?_
          rintro - -
          refine run_nil ?_
          refine run_sub (subMk (.cons (s := 2) rfl (.cons (s := 3) rfl .nil)) .refl) ?_
          refine run_blk ?_
          refine run_seq ?_
          refine run_region ?_
          refine run_q (.none rfl) rfl rfl (q_loadBN rfl agg30 rfl Sel.here (.cons rfl (.cons rfl (.cons rfl (.cons rfl (.cons rfl (.cons rfl (.cons rfl (.cons rfl (.cons rfl (.cons rfl (.cons rfl (.cons rfl (.cons rfl CellsAt.nil))))))))))))) rfl) ?_
          refine run_h (.none rfl) (h_storeB rfl rfl sz30 rfl rfl rfl rfl rfl (.there Sel.here) rfl) ?_
          rintro - -
          refine run_nil ?_
          refine run_ret ?_
          exact endG rfl (.cellN rfl agg30 Sel.here (.cons rfl (.cons rfl (.cons rfl (.cons rfl (.cons rfl (.cons rfl (.cons rfl (.cons rfl (.cons rfl (.cons rfl (.cons rfl (.cons rfl (.cons rfl CellsAt.nil))))))))))))) rfl Outs.nil) _ .nil (by first | (exfalso; omega) | (rw [stripV_2 (by omega), hf]; rfl) | (rw [stripV_3 (by omega), hf]; rfl) | (rw [stripV_4 (by omega)]; rfl) | (rw [stripV_1 (by unfold bare; omega)]; rfl))
        · have g32' := g32
          try simp only [decide_eq_true_eq, decide_eq_false_iff_not, beq_iff_eq, beq_eq_false_iff_ne, bne_iff_ne, bne_eq_false_iff_eq, Bool.not_eq_true', Bool.not_eq_false', ne_eq, Int.not_lt, Int.not_le, Decidable.not_not] at g32'
          refine run_skip ?_
          refine run_blk ?_
          refine run_seq ?_
          refine run_region ?_
          refine run_q (.none rfl) rfl rfl (q_loadBN rfl agg30 rfl Sel.here (.cons rfl (.cons rfl (.cons rfl (.cons rfl (.cons rfl (.cons rfl (.cons rfl (.cons rfl (.cons rfl (.cons rfl (.cons rfl (.cons rfl (.cons rfl CellsAt.nil))))))))))))) rfl) ?_
          refine run_h (.none rfl) (h_storeB rfl rfl sz30 rfl rfl rfl rfl rfl (.there Sel.here) rfl) ?_
          rintro - -
          refine run_nil ?_
          refine run_sub (subMk (.cons (s := 2) rfl .nil) .refl) ?_
          refine run_ret ?_
          exact endG rfl (.cellN rfl agg30 Sel.here (.cons rfl (.cons rfl (.cons rfl (.cons rfl (.cons rfl (.cons rfl (.cons rfl (.cons rfl (.cons rfl (.cons rfl (.cons rfl (.cons rfl (.cons rfl CellsAt.nil))))))))))))) rfl Outs.nil) _ .nil (by first | (exfalso; omega) | (rw [stripV_2 (by omega), hf]; rfl) | (rw [stripV_3 (by omega), hf]; rfl) | (rw [stripV_4 (by omega)]; rfl) | (rw [stripV_1 (by unfold bare; omega)]; rfl))
    · have g22' := g22
      try simp only [decide_eq_true_eq, decide_eq_false_iff_not, beq_iff_eq, beq_eq_false_iff_ne, bne_iff_ne, bne_eq_false_iff_eq, Bool.not_eq_true', Bool.not_eq_false', ne_eq, Int.not_lt, Int.not_le, Decidable.not_not] at g22'
      refine run_off (.no rfl rfl rfl g22) rfl rfl ?_
      refine run_off (.no rfl rfl rfl g22) rfl rfl ?_
      refine run_off (.no rfl rfl rfl g22) rfl rfl ?_
      refine run_off (.no rfl rfl rfl g22) rfl rfl ?_
      refine run_off (.no rfl rfl rfl g22) rfl rfl ?_
      refine run_q (.none rfl) rfl rfl (q_pickF rfl rfl g22 rfl) ?_
      refine run_nil ?_
      refine run_sub (subMk (.cons (s := 1) rfl (.cons (s := 2) rfl (.cons (s := 3) rfl (.cons (s := 28) rfl .nil)))) .refl) ?_
      refine run_condF rfl rfl ?_
      refine run_skip ?_
      refine run_seq ?_
      have hf : fermV x.n.art = 0 := (ferm_0 (.inl (by omega))).symm
      refine run_region ?_
      refine run_q (.none rfl) rfl rfl (q_fieldB (d := 2) rfl Try.underlying30 rfl rfl sz3 rfl) ?_
      refine run_q (.none rfl) rfl rfl (q_loadB rfl one3 rfl (.there (.there Sel.here)) rfl) ?_
      refine run_q (.none rfl) rfl rfl (q_eql rfl rfl rfl) ?_
      refine run_nil ?_
      refine run_sub (subMk (.cons (s := 2) rfl (.cons (s := 3) rfl (.cons (s := 32) rfl .nil))) .refl) ?_
      refine run_cond rfl (fun g32 => ?_) (fun g32 => ?_)
      · have g32' := g32
        try simp only [decide_eq_true_eq, decide_eq_false_iff_not, beq_iff_eq, beq_eq_false_iff_ne, bne_iff_ne, bne_eq_false_iff_eq, Bool.not_eq_true', Bool.not_eq_false', ne_eq, Int.not_lt, Int.not_le, Decidable.not_not] at g32'
        refine run_region ?_
        refine run_q (.none rfl) rfl rfl (q_build rfl PV.nil (built25)) ?_
        refine run_q (.none rfl) rfl rfl (q_fieldB (d := 3) rfl Try.underlying30 rfl rfl sz25 rfl) ?_
        refine run_h (.none rfl) (h_storeB rfl rfl sz25 rfl rfl rfl rfl rfl Sel.here rfl) ?_
        rintro - -
        refine run_nil ?_
        refine run_sub (subMk (.cons (s := 2) rfl (.cons (s := 3) rfl .nil)) .refl) ?_
        refine run_blk ?_
        refine run_seq ?_
        refine run_region ?_
        refine run_q (.none rfl) rfl rfl (q_loadBN rfl agg30 rfl Sel.here (.cons rfl (.cons rfl (.cons rfl (.cons rfl (.cons rfl (.cons rfl (.cons rfl (.cons rfl (.cons rfl (.cons rfl (.cons rfl (.cons rfl (.cons rfl CellsAt.nil))))))))))))) rfl) ?_
        refine run_h (.none rfl) (h_storeB rfl rfl sz30 rfl rfl rfl rfl rfl (.there Sel.here) rfl) ?_
        rintro - -
        refine run_nil ?_
        refine run_ret ?_
        exact endG rfl (.cellN rfl agg30 Sel.here (.cons rfl (.cons rfl (.cons rfl (.cons rfl (.cons rfl (.cons rfl (.cons rfl (.cons rfl (.cons rfl (.cons rfl (.cons rfl (.cons rfl (.cons rfl CellsAt.nil))))))))))))) rfl Outs.nil) _ .nil (by first | (exfalso; omega) | (rw [stripV_2 (by omega), hf]; rfl) | (rw [stripV_3 (by omega), hf]; rfl) | (rw [stripV_4 (by omega)]; rfl) | (rw [stripV_1 (by unfold bare; omega)]; rfl))
      · have g32' := g32
        try simp only [decide_eq_true_eq, decide_eq_false_iff_not, beq_iff_eq, beq_eq_false_iff_ne, bne_iff_ne, bne_eq_false_iff_eq, Bool.not_eq_true', Bool.not_eq_false', ne_eq, Int.not_lt, Int.not_le, Decidable.not_not] at g32'
        refine run_skip ?_
        refine run_blk ?_
        refine run_seq ?_
        refine run_region ?_
        refine run_q (.none rfl) rfl rfl (q_loadBN rfl agg30 rfl Sel.here (.cons rfl (.cons rfl (.cons rfl (.cons rfl (.cons rfl (.cons rfl (.cons rfl (.cons rfl (.cons rfl (.cons rfl (.cons rfl (.cons rfl (.cons rfl CellsAt.nil))))))))))))) rfl) ?_
        refine run_h (.none rfl) (h_storeB rfl rfl sz30 rfl rfl rfl rfl rfl (.there Sel.here) rfl) ?_
        rintro - -
        refine run_nil ?_
        refine run_sub (subMk (.cons (s := 2) rfl .nil) .refl) ?_
        refine run_ret ?_
        exact endG rfl (.cellN rfl agg30 Sel.here (.cons rfl (.cons rfl (.cons rfl (.cons rfl (.cons rfl (.cons rfl (.cons rfl (.cons rfl (.cons rfl (.cons rfl (.cons rfl (.cons rfl (.cons rfl CellsAt.nil))))))))))))) rfl Outs.nil) _ .nil (by first | (exfalso; omega) | (rw [stripV_2 (by omega), hf]; rfl) | (rw [stripV_3 (by omega), hf]; rfl) | (rw [stripV_4 (by omega)]; rfl) | (rw [stripV_1 (by unfold bare; omega)]; rfl))
  · have g16' := g16
    try simp only [decide_eq_true_eq, decide_eq_false_iff_not, beq_iff_eq, beq_eq_false_iff_ne, bne_iff_ne, bne_eq_false_iff_eq, Bool.not_eq_true', Bool.not_eq_false', ne_eq, Int.not_lt, Int.not_le, Decidable.not_not] at g16'
    refine run_region ?_
    refine run_q (.none rfl) rfl rfl (q_eql rfl rfl rfl) ?_
    refine run_q (.none rfl) rfl rfl (q_assign rfl rfl) ?_
    refine run_nil ?_
    refine run_sub (subMk (.cons (s := 1) rfl (.cons (s := 2) rfl (.cons (s := 3) rfl (.cons (s := 14) rfl (.cons (s := 16) rfl .nil))))) .refl) ?_
    refine run_cond rfl (fun g16 => ?_) (fun g16 => ?_)
    · have g16' := g16
      try simp only [decide_eq_true_eq, decide_eq_false_iff_not, beq_iff_eq, beq_eq_false_iff_ne, bne_iff_ne, bne_eq_false_iff_eq, Bool.not_eq_true', Bool.not_eq_false', ne_eq, Int.not_lt, Int.not_le, Decidable.not_not] at g16'
      refine run_seq ?_
      refine run_seq ?_
      refine run_region ?_
      refine run_q (.none rfl) rfl rfl (q_fieldB (d := 7) rfl Try.underlying30 rfl rfl sz3 rfl) ?_
      refine run_q (.none rfl) rfl rfl (q_loadB rfl one3 rfl (.there (.there Sel.here)) rfl) ?_
      refine run_q (.none rfl) rfl rfl (q_geq rfl rfl rfl) ?_
      refine run_q (.none rfl) rfl rfl (q_move rfl rfl) ?_
      refine run_split 22 rfl (fun g22 => ?_) (fun g22 => ?_)
      · have g22' := g22
        try simp only [decide_eq_true_eq, decide_eq_false_iff_not, beq_iff_eq, beq_eq_false_iff_ne, bne_iff_ne, bne_eq_false_iff_eq, Bool.not_eq_true', Bool.not_eq_false', ne_eq, Int.not_lt, Int.not_le, Decidable.not_not] at g22'
        refine run_q (.on rfl rfl rfl g22) rfl rfl (q_fieldB (d := 7) rfl Try.underlying30 rfl rfl sz3 rfl) ?_
        refine run_q (.on rfl rfl rfl g22) rfl rfl (q_loadB rfl one3 rfl (.there (.there Sel.here)) rfl) ?_
        refine run_q (.on rfl rfl rfl g22) rfl rfl (q_quo rfl rfl rfl (by omega)) ?_
        refine run_q (.on rfl rfl rfl g22) rfl rfl (q_rem rfl rfl rfl (by omega)) ?_
        refine run_q (.on rfl rfl rfl g22) rfl rfl (q_eql rfl rfl rfl) ?_
        refine run_q (.none rfl) rfl rfl (q_pickT rfl rfl g22 rfl) ?_
        refine run_nil ?_
        refine run_sub (subMk (.cons (s := 1) rfl (.cons (s := 2) rfl (.cons (s := 3) rfl (.cons (s := 28) rfl .nil)))) .refl) ?_
        refine run_cond rfl (fun g28 => ?_) (fun g28 => ?_)
        · have g28' := g28
          try simp only [decide_eq_true_eq, decide_eq_false_iff_not, beq_iff_eq, beq_eq_false_iff_ne, bne_iff_ne, bne_eq_false_iff_eq, Bool.not_eq_true', Bool.not_eq_false', ne_eq, Int.not_lt, Int.not_le, Decidable.not_not] at g28'
          refine run_region ?_
          refine run_q (.none rfl) rfl rfl (q_fieldB (d := 7) rfl Try.underlying30 rfl rfl sz3 rfl) ?_
          refine run_h (.none rfl) (h_storeB rfl rfl sz3 rfl rfl rfl rfl rfl Sel.here rfl) ?_
          rintro - -
          refine run_nil ?_
          refine run_seq ?_
          have hf : fermV x.n.art = 16 := (ferm_1 (by omega) g28').symm
          refine run_region ?_
          refine run_q (.none rfl) rfl rfl (q_fieldB (d := 2) rfl Try.underlying30 rfl rfl sz3 rfl) ?_
          refine run_q (.none rfl) rfl rfl (q_loadB rfl one3 rfl (.there (.there Sel.here)) rfl) ?_
          refine run_q (.none rfl) rfl rfl (q_eql rfl rfl rfl) ?_
          refine run_nil ?_
          refine run_sub (subMk (.cons (s := 2) rfl (.cons (s := 3) rfl (.cons (s := 32) rfl .nil))) .refl) ?_
          refine run_cond rfl (fun g32 => ?_) (fun g32 => ?_)
          · have g32' := g32
            try simp only [decide_eq_true_eq, decide_eq_false_iff_not, beq_iff_eq, beq_eq_false_iff_ne, bne_iff_ne, bne_eq_false_iff_eq, Bool.not_eq_true', Bool.not_eq_false', ne_eq, Int.not_lt, Int.not_le, Decidable.not_not] at g32'
            refine run_region ?_
            refine run_q (.none rfl) rfl rfl (q_build rfl PV.nil (built25)) ?_
            refine run_q (.none rfl) rfl rfl (q_fieldB (d := 3) rfl Try.underlying30 rfl rfl sz25 rfl) ?_
            refine run_h (.none rfl) (h_storeB rfl rfl sz25 rfl rfl rfl rfl rfl Sel.here rfl) ?_
            rintro - -
            refine run_nil ?_
            refine run_sub (subMk (.cons (s := 2) rfl (.cons (s := 3) rfl .nil)) .refl) ?_
            refine run_blk ?_
            refine run_seq ?_
            refine run_region ?_
            refine run_q (.none rfl) rfl rfl (q_loadBN rfl agg30 rfl Sel.here (.cons rfl (.cons rfl (.cons rfl (.cons rfl (.cons rfl (.cons rfl (.cons rfl (.cons rfl (.cons rfl (.cons rfl (.cons rfl (.cons rfl (.cons rfl CellsAt.nil))))))))))))) rfl) ?_
            refine run_h (.none rfl) (h_storeB rfl rfl sz30 rfl rfl rfl rfl rfl (.there Sel.here) rfl) ?_
            rintro - -
            refine run_nil ?_
            refine run_ret ?_
            exact endG rfl (.cellN rfl agg30 Sel.here (.cons rfl (.cons rfl (.cons rfl (.cons rfl (.cons rfl (.cons rfl (.cons rfl (.cons rfl (.cons rfl (.cons rfl (.cons rfl (.cons rfl (.cons rfl CellsAt.nil))))))))))))) rfl Outs.nil) _ .nil (by first | (exfalso; omega) | (rw [stripV_2 (by omega), hf]; rfl) | (rw [stripV_3 (by omega), hf]; rfl) | (rw [stripV_4 (by omega)]; rfl) | (rw [stripV_1 (by unfold bare; omega)]; rfl))
          · have g32' := g32
            try simp only [decide_eq_true_eq, decide_eq_false_iff_not, beq_iff_eq, beq_eq_false_iff_ne, bne_iff_ne, bne_eq_false_iff_eq, Bool.not_eq_true', Bool.not_eq_false', ne_eq, Int.not_lt, Int.not_le, Decidable.not_not] at g32'
            refine run_skip ?_
            refine run_blk ?_
            refine run_seq ?_
            refine run_region ?_
            refine run_q (.none rfl) rfl rfl (q_loadBN rfl agg30 rfl Sel.here (.cons rfl (.cons rfl (.cons rfl (.cons rfl (.cons rfl (.cons rfl (.cons rfl (.cons rfl (.cons rfl (.cons rfl (.cons rfl (.cons rfl (.cons rfl CellsAt.nil))))))))))))) rfl) ?_
            refine run_h (.none rfl) (h_storeB rfl rfl sz30 rfl rfl rfl rfl rfl (.there Sel.here) rfl) ?_
            rintro - -
            refine run_nil ?_
            refine run_sub (subMk (.cons (s := 2) rfl .nil) .refl) ?_
            refine run_ret ?_
            exact endG rfl (.cellN rfl agg30 Sel.here (.cons rfl (.cons rfl (.cons rfl (.cons rfl (.cons rfl (.cons rfl (.cons rfl (.cons rfl (.cons rfl (.cons rfl (.cons rfl (.cons rfl (.cons rfl CellsAt.nil))))))))))))) rfl Outs.nil) _ .nil (by first | (exfalso; omega) | (rw [stripV_2 (by omega), hf]; rfl) | (rw [stripV_3 (by omega), hf]; rfl) | (rw [stripV_4 (by omega)]; rfl) | (rw [stripV_1 (by unfold bare; omega)]; rfl))
        · have g28' := g28
          try simp only [decide_eq_true_eq, decide_eq_false_iff_not, beq_iff_eq, beq_eq_false_iff_ne, bne_iff_ne, bne_eq_false_iff_eq, Bool.not_eq_true', Bool.not_eq_false', ne_eq, Int.not_lt, Int.not_le, Decidable.not_not] at g28'
          refine run_skip ?_
          refine run_seq ?_
          have hf : fermV x.n.art = 0 := (ferm_0 (.inr g28')).symm
          refine run_region ?_
          refine run_q (.none rfl) rfl rfl (q_fieldB (d := 2) rfl Try.underlying30 rfl rfl sz3 rfl) ?_
          refine run_q (.none rfl) rfl rfl (q_loadB rfl one3 rfl (.there (.there Sel.here)) rfl) ?_
          refine run_q (.none rfl) rfl rfl (q_eql rfl rfl rfl) ?_
          refine run_nil ?_
          refine run_sub (subMk (.cons (s := 2) rfl (.cons (s := 3) rfl (.cons (s := 32) rfl .nil))) .refl) ?_
          refine run_cond rfl (fun g32 => ?_) (fun g32 => ?_)
          · have g32' := g32
            try simp only [decide_eq_true_eq, decide_eq_false_iff_not, beq_iff_eq, beq_eq_false_iff_ne, bne_iff_ne, bne_eq_false_iff_eq, Bool.not_eq_true', Bool.not_eq_false', ne_eq, Int.not_lt, Int.not_le, Decidable.not_not] at g32'
            refine run_region ?_
            refine run_q (.none rfl) rfl rfl (q_build rfl PV.nil (built25)) ?_
            refine run_q (.none rfl) rfl rfl (q_fieldB (d := 3) rfl Try.underlying30 rfl rfl sz25 rfl) ?_
            refine run_h (.none rfl) (h_storeB rfl rfl sz25 rfl rfl rfl rfl rfl Sel.here rfl) ?_
            rintro - -
            refine run_nil ?_
            refine run_sub (subMk (.cons (s := 2) rfl (.cons (s := 3) rfl .nil)) .refl) ?_
            refine run_blk ?_
            refine run_seq ?_
            refine run_region ?_
            refine run_q (.none rfl) rfl rfl (q_loadBN rfl agg30 rfl Sel.here (.cons rfl (.cons rfl (.cons rfl (.cons rfl (.cons rfl (.cons rfl (.cons rfl (.cons rfl (.cons rfl (.cons rfl (.cons rfl (.cons rfl (.cons rfl CellsAt.nil))))))))))))) rfl) ?_
            refine run_h (.none rfl) (h_storeB rfl rfl sz30 rfl rfl rfl rfl rfl (.there Sel.here) rfl) ?_
            rintro - -
            refine run_nil ?_
            refine run_ret ?_
            exact endG rfl (.cellN rfl agg30 Sel.here (.cons rfl (.cons rfl (.cons rfl (.cons rfl (.cons rfl (.cons rfl (.cons rfl (.cons rfl (.cons rfl (.cons rfl (.cons rfl (.cons rfl (.cons rfl CellsAt.nil))))))))))))) rfl Outs.nil) _ .nil (by first | (exfalso; omega) | (rw [stripV_2 (by omega), hf]; rfl) | (rw [stripV_3 (by omega), hf]; rfl) | (rw [stripV_4 (by omega)]; rfl) | (rw [stripV_1 (by unfold bare; omega)]; rfl))
          · have g32' := g32
            try simp only [decide_eq_true_eq, decide_eq_false_iff_not, beq_iff_eq, beq_eq_false_iff_ne, bne_iff_ne, bne_eq_false_iff_eq, Bool.not_eq_true', Bool.not_eq_false', ne_eq, Int.not_lt, Int.not_le, Decidable.not_not] at g32'
            refine run_skip ?_
            refine run_blk ?_
            refine run_seq ?_
            refine run_region ?_
            refine run_q (.none rfl) rfl rfl (q_loadBN rfl agg30 rfl Sel.here (.cons rfl (.cons rfl (.cons rfl (.cons rfl (.cons rfl (.cons rfl (.cons rfl (.cons rfl (.cons rfl (.cons rfl (.cons rfl (.cons rfl (.cons rfl CellsAt.nil))))))))))))) rfl) ?_
            refine run_h (.none rfl) (h_storeB rfl rfl sz30 rfl rfl rfl rfl rfl (.there Sel.here) rfl) ?_
            rintro - -
            refine run_nil ?_
            refine run_sub (subMk (.cons (s := 2) rfl .nil) .refl) ?_
            refine run_ret ?_
            exact endG rfl (.cellN rfl agg30 Sel.here (.cons rfl (.cons rfl (.cons rfl (.cons rfl (.cons rfl (.cons rfl (.cons rfl (.cons rfl (.cons rfl (.cons rfl (.cons rfl (.cons rfl (.cons rfl CellsAt.nil))))))))))))) rfl Outs.nil) _ .nil (by first | (exfalso; omega) | (rw [stripV_2 (by omega), hf]; rfl) | (rw [stripV_3 (by omega), hf]; rfl) | (rw [stripV_4 (by omega)]; rfl) | (rw [stripV_1 (by unfold bare; omega)]; rfl))
      · have g22' := g22
        try simp only [decide_eq_true_eq, decide_eq_false_iff_not, beq_iff_eq, beq_eq_false_iff_ne, bne_iff_ne, bne_eq_false_iff_eq, Bool.not_eq_true', Bool.not_eq_false', ne_eq, Int.not_lt, Int.not_le, Decidable.not_not] at g22'
        refine run_off (.no rfl rfl rfl g22) rfl rfl ?_
        refine run_off (.no rfl rfl rfl g22) rfl rfl ?_
        refine run_off (.no rfl rfl rfl g22) rfl rfl ?_
        refine run_off (.no rfl rfl rfl g22) rfl rfl ?_
        refine run_off (.no rfl rfl rfl g22) rfl rfl ?_
        refine run_q (.none rfl) rfl rfl (q_pickF rfl rfl g22 rfl) ?_
        refine run_nil ?_
        refine run_sub (subMk (.cons (s := 1) rfl (.cons (s := 2) rfl (.cons (s := 3) rfl (.cons (s := 28) rfl .nil)))) .refl) ?_
        refine run_condF rfl rfl ?_
        refine run_skip ?_
        refine run_seq ?_
        have hf : fermV x.n.art = 0 := (ferm_0 (.inl (by omega))).symm
        refine run_region ?_
        refine run_q (.none rfl) rfl rfl (q_fieldB (d := 2) rfl Try.underlying30 rfl rfl sz3 rfl) ?_
        refine run_q (.none rfl) rfl rfl (q_loadB rfl one3 rfl (.there (.there Sel.here)) rfl) ?_
        refine run_q (.none rfl) rfl rfl (q_eql rfl rfl rfl) ?_
        refine run_nil ?_
        refine run_sub (subMk (.cons (s := 2) rfl (.cons (s := 3) rfl (.cons (s := 32) rfl .nil))) .refl) ?_
        refine run_cond rfl (fun g32 => ?_) (fun g32 => ?_)
        · have g32' := g32
          try simp only [decide_eq_true_eq, decide_eq_false_iff_not, beq_iff_eq, beq_eq_false_iff_ne, bne_iff_ne, bne_eq_false_iff_eq, Bool.not_eq_true', Bool.not_eq_false', ne_eq, Int.not_lt, Int.not_le, Decidable.not_not] at g32'
          refine run_region ?_
          refine run_q (.none rfl) rfl rfl (q_build rfl PV.nil (built25)) ?_
          refine run_q (.none rfl) rfl rfl (q_fieldB (d := 3) rfl Try.underlying30 rfl rfl sz25 rfl) ?_
          refine run_h (.none rfl) (h_storeB rfl rfl sz25 rfl rfl rfl rfl rfl Sel.here rfl) ?_
          rintro - -
          refine run_nil ?_
          refine run_sub (subMk (.cons (s := 2) rfl (.cons (s := 3) rfl .nil)) .refl) ?_
          refine run_blk ?_
          refine run_seq ?_
          refine run_region ?_
          refine run_q (.none rfl) rfl rfl (q_loadBN rfl agg30 rfl Sel.here (.cons rfl (.cons rfl (.cons rfl (.cons rfl (.cons rfl (.cons rfl (.cons rfl (.cons rfl (.cons rfl (.cons rfl (.cons rfl (.cons rfl (.cons rfl CellsAt.nil))))))))))))) rfl) ?_
          refine run_h (.none rfl) (h_storeB rfl rfl sz30 rfl rfl rfl rfl rfl (.there Sel.here) rfl) ?_
          rintro - -
          refine run_nil ?_
          refine run_ret ?_
          exact endG rfl (.cellN rfl agg30 Sel.here (.cons rfl (.cons rfl (.cons rfl (.cons rfl (.cons rfl (.cons rfl (.cons rfl (.cons rfl (.cons rfl (.cons rfl (.cons rfl (.cons rfl (.cons rfl CellsAt.nil))))))))))))) rfl Outs.nil) _ .nil (by first | (exfalso; omega) | (rw [stripV_2 (by omega), hf]; rfl) | (rw [stripV_3 (by omega), hf]; rfl) | (rw [stripV_4 (by omega)]; rfl) | (rw [stripV_1 (by unfold bare; omega)]; rfl))
        · have g32' := g32
          try simp only [decide_eq_true_eq, decide_eq_false_iff_not, beq_iff_eq, beq_eq_false_iff_ne, bne_iff_ne, bne_eq_false_iff_eq, Bool.not_eq_true', Bool.not_eq_false', ne_eq, Int.not_lt, Int.not_le, Decidable.not_not] at g32'
          refine run_skip ?_
          refine run_blk ?_
          refine run_seq ?_
          refine run_region ?_
          refine run_q (.none rfl) rfl rfl (q_loadBN rfl agg30 rfl Sel.here (.cons rfl (.cons rfl (.cons rfl (.cons rfl (.cons rfl (.cons rfl (.cons rfl (.cons rfl (.cons rfl (.cons rfl (.cons rfl (.cons rfl (.cons rfl CellsAt.nil))))))))))))) rfl) ?_
          refine run_h (.none rfl) (h_storeB rfl rfl sz30 rfl rfl rfl rfl rfl (.there Sel.here) rfl) ?_
          rintro - -
          refine run_nil ?_
          refine run_sub (subMk (.cons (s := 2) rfl .nil) .refl) ?_
          refine run_ret ?_
          exact endG rfl (.cellN rfl agg30 Sel.here (.cons rfl (.cons rfl (.cons rfl (.cons rfl (.cons rfl (.cons rfl (.cons rfl (.cons rfl (.cons rfl (.cons rfl (.cons rfl (.cons rfl (.cons rfl CellsAt.nil))))))))))))) rfl Outs.nil) _ .nil (by first | (exfalso; omega) | (rw [stripV_2 (by omega), hf]; rfl) | (rw [stripV_3 (by omega), hf]; rfl) | (rw [stripV_4 (by omega)]; rfl) | (rw [stripV_1 (by unfold bare; omega)]; rfl))
    · have g16' := g16
      try simp only [decide_eq_true_eq, decide_eq_false_iff_not, beq_iff_eq, beq_eq_false_iff_ne, bne_iff_ne, bne_eq_false_iff_eq, Bool.not_eq_true', Bool.not_eq_false', ne_eq, Int.not_lt, Int.not_le, Decidable.not_not] at g16'
      refine run_seq ?_
      refine run_region ?_
      refine run_q (.none rfl) rfl rfl (q_eql rfl rfl rfl) ?_
      refine run_q (.none rfl) rfl rfl (q_assign rfl rfl) ?_
      refine run_nil ?_
      refine run_sub (subMk (.cons (s := 1) rfl (.cons (s := 2) rfl (.cons (s := 3) rfl (.cons (s := 35) rfl .nil)))) .refl) ?_
      refine run_cond rfl (fun g35 => ?_) (fun g35 => ?_)
      · have g35' := g35
        try simp only [decide_eq_true_eq, decide_eq_false_iff_not, beq_iff_eq, beq_eq_false_iff_ne, bne_iff_ne, bne_eq_false_iff_eq, Bool.not_eq_true', Bool.not_eq_false', ne_eq, Int.not_lt, Int.not_le, Decidable.not_not] at g35'
        refine run_skip ?_
        refine run_blk ?_
        refine run_seq ?_
        refine run_region ?_
        refine run_q (.none rfl) rfl rfl (q_loadBN rfl agg30 rfl Sel.here (.cons rfl (.cons rfl (.cons rfl (.cons rfl (.cons rfl (.cons rfl (.cons rfl (.cons rfl (.cons rfl (.cons rfl (.cons rfl (.cons rfl (.cons rfl CellsAt.nil))))))))))))) rfl) ?_
        refine run_h (.none rfl) (h_storeB rfl rfl sz30 rfl rfl rfl rfl rfl (.there Sel.here) rfl) ?_
        rintro - -
        refine run_nil ?_
        refine run_sub (subMk (.cons (s := 2) rfl .nil) .refl) ?_
        refine run_ret ?_
        exact endG rfl (.cellN rfl agg30 Sel.here (.cons rfl (.cons rfl (.cons rfl (.cons rfl (.cons rfl (.cons rfl (.cons rfl (.cons rfl (.cons rfl (.cons rfl (.cons rfl (.cons rfl (.cons rfl CellsAt.nil))))))))))))) rfl Outs.nil) _ .nil (by first | (exfalso; omega) | (rw [stripV_2 (by omega), hf]; rfl) | (rw [stripV_3 (by omega), hf]; rfl) | (rw [stripV_4 (by omega)]; rfl) | (rw [stripV_1 (by unfold bare; omega)]; rfl))
      · have g35' := g35
        try simp only [decide_eq_true_eq, decide_eq_false_iff_not, beq_iff_eq, beq_eq_false_iff_ne, bne_iff_ne, bne_eq_false_iff_eq, Bool.not_eq_true', Bool.not_eq_false', ne_eq, Int.not_lt, Int.not_le, Decidable.not_not] at g35'
        refine run_seq ?_
        refine run_region ?_
        refine run_q (.none rfl) rfl rfl (q_loadBN rfl agg30 rfl (.there (.there Sel.here)) (.cons rfl (.cons rfl (.cons rfl (.cons rfl (.cons rfl (.cons rfl (.cons rfl (.cons rfl (.cons rfl (.cons rfl (.cons rfl (.cons rfl (.cons rfl CellsAt.nil))))))))))))) rfl) ?_
        refine run_h (.none rfl) (h_storeB rfl rfl sz30 rfl rfl rfl rfl rfl (.there Sel.here) rfl) ?_
        rintro - -
        refine run_nil ?_
        refine run_sub (subMk (.cons (s := 2) rfl (.cons (s := 3) rfl .nil)) .refl) ?_
        refine run_ret ?_
        exact endG rfl (.cellN rfl agg30 Sel.here (.cons rfl (.cons rfl (.cons rfl (.cons rfl (.cons rfl (.cons rfl (.cons rfl (.cons rfl (.cons rfl (.cons rfl (.cons rfl (.cons rfl (.cons rfl CellsAt.nil))))))))))))) rfl Outs.nil) _ .nil (by first | (exfalso; omega) | (rw [stripV_2 (by omega), hf]; rfl) | (rw [stripV_3 (by omega), hf]; rfl) | (rw [stripV_4 (by omega)]; rfl) | (rw [stripV_1 (by unfold bare; omega)]; rfl))

set_option maxHeartbeats 4000000 in
set_option maxRecDepth 100000 in
theorem refCheck_just (x : Evt) (p : Lie) (W : World) (hx : RdE W x p) (fx : x.few) : Calls Try.prog 16 #[evV x p] W (Hr.Just W (.int .i64 (evE x))) := by
  obtain ⟨fx1, fx2, fx3, fx4⟩ := id fx
  refine Just.of_ret ?_
  refine enterA (X := nX) (vs := [evV x p]) Try.func16 Try.ntmps16 rfl rfl Mem.nil ?_
  refine run_seq ?_
  refine run_region ?_
  refine run_h (.none rfl) (h_box rfl rfl rfl rfl rfl) ?_
  rintro b1 -
  refine run_q (.none rfl) rfl rfl (q_assign rfl rfl) ?_
  refine run_nil ?_
  refine run_seq ?_
  refine run_seq ?_
  refine run_region ?_
  refine run_q (.none rfl) rfl rfl (q_fieldB (d := 0) rfl Try.underlying30 rfl rfl sz23 rfl) ?_
  refine run_q (.none rfl) rfl rfl (q_fieldB (d := 0) rfl Try.underlying23 rfl rfl sz3 rfl) ?_
  refine run_q (.none rfl) rfl rfl (q_loadB rfl one3 rfl Sel.here rfl) ?_
  refine run_q (.none rfl) rfl rfl (q_call rfl call49 (.cons rfl (.cons rfl (.cons rfl Evs.nil))) (fun w hk hm => in_just _ _ _ w)) ?_
  refine run_q (.none rfl) rfl rfl (q_not rfl rfl) ?_
  refine run_q (.none rfl) rfl rfl (q_move rfl rfl) ?_
  refine run_split 11 rfl (fun g11 => ?_) (fun g11 => ?_)
  · have g11' := g11
    try simp only [decide_eq_true_eq, decide_eq_false_iff_not, beq_iff_eq, beq_eq_false_iff_ne, bne_iff_ne, bne_eq_false_iff_eq, Bool.not_eq_true', Bool.not_eq_false', ne_eq, Int.not_lt, Int.not_le, Decidable.not_not] at g11'
    refine run_off (.no rfl rfl rfl g11) rfl rfl ?_
    refine run_off (.no rfl rfl rfl g11) rfl rfl ?_
    refine run_off (.no rfl rfl rfl g11) rfl rfl ?_
    refine run_off (.no rfl rfl rfl g11) rfl rfl ?_
    refine run_off (.no rfl rfl rfl g11) rfl rfl ?_
    refine run_q (.none rfl) rfl rfl (q_pickT rfl rfl g11 rfl) ?_
    refine run_nil ?_
    refine run_sub (subMk (.cons (s := 1) rfl (.cons (s := 2) rfl (.cons (s := 17) rfl .nil))) .refl) ?_
    refine run_condT rfl rfl ?_
    refine run_seq ?_
    refine run_region ?_
    refine run_q (.none rfl) rfl rfl (q_assign rfl rfl) ?_
    refine run_nil ?_
    refine run_ret ?_
    exact end1 rfl rfl (by rw [evE_1 (by unfold idOk; omega)])
  · have g11' := g11
    try simp only [decide_eq_true_eq, decide_eq_false_iff_not, beq_iff_eq, beq_eq_false_iff_ne, bne_iff_ne, bne_eq_false_iff_eq, Bool.not_eq_true', Bool.not_eq_false', ne_eq, Int.not_lt, Int.not_le, Decidable.not_not] at g11'
    refine run_q (.on rfl rfl rfl g11) rfl rfl (q_fieldB (d := 0) rfl Try.underlying30 rfl rfl sz23 rfl) ?_
    refine run_q (.on rfl rfl rfl g11) rfl rfl (q_fieldB (d := 1) rfl Try.underlying23 rfl rfl sz3 rfl) ?_
    refine run_q (.on rfl rfl rfl g11) rfl rfl (q_loadB rfl one3 rfl Sel.here rfl) ?_
    refine run_q (.on rfl rfl rfl g11) rfl rfl (q_call rfl call49 (.cons rfl (.cons rfl (.cons rfl Evs.nil))) (fun w hk hm => in_just _ _ _ w)) ?_
    refine run_q (.on rfl rfl rfl g11) rfl rfl (q_not rfl rfl) ?_
    refine run_q (.none rfl) rfl rfl (q_pickF rfl rfl g11 rfl) ?_
    refine run_nil ?_
    refine run_sub (subMk (.cons (s := 1) rfl (.cons (s := 2) rfl (.cons (s := 17) rfl .nil))) .refl) ?_
    refine run_cond rfl (fun g17 => ?_) (fun g17 => ?_)
    · have g17' := g17
      try simp only [decide_eq_true_eq, decide_eq_false_iff_not, beq_iff_eq, beq_eq_false_iff_ne, bne_iff_ne, bne_eq_false_iff_eq, Bool.not_eq_true', Bool.not_eq_false', ne_eq, Int.not_lt, Int.not_le, Decidable.not_not] at g17'
      refine run_seq ?_
      refine run_region ?_
      refine run_q (.none rfl) rfl rfl (q_assign rfl rfl) ?_
      refine run_nil ?_
      refine run_ret ?_
      exact end1 rfl rfl (by rw [evE_1 (by unfold idOk; omega)])
    · have g17' := g17
      try simp only [decide_eq_true_eq, decide_eq_false_iff_not, beq_iff_eq, beq_eq_false_iff_ne, bne_iff_ne, bne_eq_false_iff_eq, Bool.not_eq_true', Bool.not_eq_false', ne_eq, Int.not_lt, Int.not_le, Decidable.not_not] at g17'
      refine run_skip ?_
      refine run_seq ?_
      refine run_seq ?_
      have hid : idOk x.n := by unfold idOk; omega
      refine run_region ?_
      refine run_q (.none rfl) rfl rfl (q_fieldB (d := 2) rfl Try.underlying30 rfl rfl sz3 rfl) ?_
      refine run_q (.none rfl) rfl rfl (q_loadB rfl one3 rfl Sel.here rfl) ?_
      refine run_q (.none rfl) rfl rfl (q_call rfl call49 (.cons rfl (.cons rfl (.cons rfl Evs.nil))) (fun w hk hm => in_just _ _ _ w)) ?_
      refine run_q (.none rfl) rfl rfl (q_not rfl rfl) ?_
      refine run_nil ?_
      refine run_sub (subMk (.cons (s := 1) rfl (.cons (s := 2) rfl (.cons (s := 21) rfl .nil))) .refl) ?_
      refine run_cond rfl (fun g21 => ?_) (fun g21 => ?_)
      · have g21' := g21
        try simp only [decide_eq_true_eq, decide_eq_false_iff_not, beq_iff_eq, beq_eq_false_iff_ne, bne_iff_ne, bne_eq_false_iff_eq, Bool.not_eq_true', Bool.not_eq_false', ne_eq, Int.not_lt, Int.not_le, Decidable.not_not] at g21'
        refine run_seq ?_
        refine run_region ?_
        refine run_q (.none rfl) rfl rfl (q_assign rfl rfl) ?_
        refine run_nil ?_
        refine run_ret ?_
        exact end1 rfl rfl (by rw [evE_2 hid (by omega)])
      · have g21' := g21
        try simp only [decide_eq_true_eq, decide_eq_false_iff_not, beq_iff_eq, beq_eq_false_iff_ne, bne_iff_ne, bne_eq_false_iff_eq, Bool.not_eq_true', Bool.not_eq_false', ne_eq, Int.not_lt, Int.not_le, Decidable.not_not] at g21'
        refine run_skip ?_
        refine run_seq ?_
        refine run_seq ?_
        refine run_draw [(0, 0), (1, 0), (2, 0), (3, 0), (4, 0)] mixed (by kernel_rfl) .refl ?_
        refine d_q rfl rfl (.none rfl) rfl rfl (q_loadBN rfl agg30 rfl Sel.here (.cons rfl (.cons rfl (.cons rfl (.cons rfl (.cons rfl (.cons rfl (.cons rfl (.cons rfl (.cons rfl (.cons rfl (.cons rfl (.cons rfl (.cons rfl CellsAt.nil))))))))))))) rfl) ?_
        refine d_q rfl rfl (.none rfl) rfl rfl (q_loadBN rfl agg30 rfl Sel.here (.cons rfl (.cons rfl (.cons rfl (.cons rfl (.cons rfl (.cons rfl (.cons rfl (.cons rfl (.cons rfl (.cons rfl (.cons rfl (.cons rfl (.cons rfl CellsAt.nil))))))))))))) rfl) ?_
        refine d_q rfl rfl (.none rfl) rfl rfl (q_call rfl call50 (.cons rfl Evs.nil) (fun w hk hm => refstrip_just x p w (hx.kept0 hk) fx)) ?_
        refine d_q rfl rfl (.none rfl) rfl rfl (q_call rfl call32 (.cons rfl (.cons rfl Evs.nil)) (fun w hk hm => refSame_just x (stripE x) p (stripP x p) w (hx.kept0 hk) (hx.kept0 hk).strip fx fx.strip)) ?_
        refine d_q rfl rfl (.none rfl) rfl rfl (q_not rfl rfl) ?_
        refine d_nil ?_
        refine run_sub (subMk (.cons (s := 1) rfl (.cons (s := 2) rfl (.cons (s := 26) rfl .nil))) .refl) ?_
        refine run_cond rfl (fun g26 => ?_) (fun g26 => ?_)
        · have g26' := g26
          try simp only [decide_eq_true_eq, decide_eq_false_iff_not, beq_iff_eq, beq_eq_false_iff_ne, bne_iff_ne, bne_eq_false_iff_eq, Bool.not_eq_true', Bool.not_eq_false', ne_eq, Int.not_lt, Int.not_le, Decidable.not_not] at g26'
          refine run_seq ?_
          refine run_region ?_
          refine run_q (.none rfl) rfl rfl (q_assign rfl rfl) ?_
          refine run_nil ?_
          refine run_ret ?_
          exact end1 rfl rfl (by rw [evE_3 hid (by omega) g26'])
        · have g26' := g26
          try simp only [decide_eq_true_eq, decide_eq_false_iff_not, beq_iff_eq, beq_eq_false_iff_ne, bne_iff_ne, bne_eq_false_iff_eq, Bool.not_eq_true', Bool.not_eq_false', ne_eq, Int.not_lt, Int.not_le, Decidable.not_not] at g26'
          refine run_skip ?_
          refine run_seq ?_
          refine run_seq ?_
          refine run_region ?_
          refine run_q (.none rfl) rfl rfl (q_fieldB (d := 2) rfl Try.underlying30 rfl rfl sz3 rfl) ?_
          refine run_q (.none rfl) rfl rfl (q_loadB rfl one3 rfl Sel.here rfl) ?_
          refine run_q (.none rfl) rfl rfl (q_neq rfl rfl rfl) ?_
          refine run_q (.none rfl) rfl rfl (q_move rfl rfl) ?_
          refine run_split 30 rfl (fun g30 => ?_) (fun g30 => ?_)
          · have g30' := g30
            try simp only [decide_eq_true_eq, decide_eq_false_iff_not, beq_iff_eq, beq_eq_false_iff_ne, bne_iff_ne, bne_eq_false_iff_eq, Bool.not_eq_true', Bool.not_eq_false', ne_eq, Int.not_lt, Int.not_le, Decidable.not_not] at g30'
            refine run_q (.on rfl rfl rfl g30) rfl rfl (q_fieldB (d := 3) rfl Try.underlying30 rfl rfl sz25 rfl) ?_
            refine run_q (.on rfl rfl rfl g30) rfl rfl (q_loadBN rfl agg25 rfl Sel.here (.cons rfl (.cons rfl CellsAt.nil)) rfl) ?_
            refine run_q (.on rfl rfl rfl g30) rfl rfl (q_call rfl call51 (.cons rfl Evs.nil) (fun w hk hm => isValue_just x.n.log x.n.dots w)) ?_
            refine run_q (.on rfl rfl rfl g30) rfl rfl (q_not rfl rfl) ?_
            refine run_q (.none rfl) rfl rfl (q_pickT rfl rfl g30 rfl) ?_
            refine run_nil ?_
            refine run_sub (subMk (.cons (s := 1) rfl (.cons (s := 2) rfl (.cons (s := 35) rfl .nil))) .refl) ?_
            refine run_cond rfl (fun g35 => ?_) (fun g35 => ?_)
            · have g35' := g35
              try simp only [decide_eq_true_eq, decide_eq_false_iff_not, beq_iff_eq, beq_eq_false_iff_ne, bne_iff_ne, bne_eq_false_iff_eq, Bool.not_eq_true', Bool.not_eq_false', ne_eq, Int.not_lt, Int.not_le, Decidable.not_not] at g35'
              refine run_seq ?_
              refine run_region ?_
              refine run_q (.none rfl) rfl rfl (q_assign rfl rfl) ?_
              refine run_nil ?_
              refine run_ret ?_
              exact end1 rfl rfl (by rw [evE_4 hid (by omega) g26' ⟨g30', g35'⟩])
            · have g35' := g35
              try simp only [decide_eq_true_eq, decide_eq_false_iff_not, beq_iff_eq, beq_eq_false_iff_ne, bne_iff_ne, bne_eq_false_iff_eq, Bool.not_eq_true', Bool.not_eq_false', ne_eq, Int.not_lt, Int.not_le, Decidable.not_not] at g35'
              refine run_skip ?_
              refine run_seq ?_
              refine run_seq ?_
              refine run_region ?_
              refine run_q (.none rfl) rfl rfl (q_fieldB (d := 2) rfl Try.underlying30 rfl rfl sz3 rfl) ?_
              refine run_q (.none rfl) rfl rfl (q_loadB rfl one3 rfl Sel.here rfl) ?_
              refine run_q (.none rfl) rfl rfl (q_eql rfl rfl rfl) ?_
              refine run_nil ?_
              refine run_sub (subMk (.cons (s := 1) rfl (.cons (s := 2) rfl (.cons (s := 38) rfl .nil))) .refl) ?_
              refine run_cond rfl (fun g38 => ?_) (fun g38 => ?_)
              · have g38' := g38
                try simp only [decide_eq_true_eq, decide_eq_false_iff_not, beq_iff_eq, beq_eq_false_iff_ne, bne_iff_ne, bne_eq_false_iff_eq, Bool.not_eq_true', Bool.not_eq_false', ne_eq, Int.not_lt, Int.not_le, Decidable.not_not] at g38'
                refine run_seq ?_
                refine run_seq ?_
                refine run_region ?_
                refine run_q (.none rfl) rfl rfl (q_fieldB (d := 5) rfl Try.underlying30 rfl rfl sz26 rfl) ?_
                refine run_q (.none rfl) rfl rfl (q_loadB rfl one26 rfl Sel.here rfl) ?_
                refine run_q (.none rfl) rfl rfl (q_call rfl call19 (.cons rfl Evs.nil) (fun w hk hm => refHeads_just x.hs p.HA p.hc w (hx.h.kept0 hk) fx1)) ?_
                refine run_q (.none rfl) rfl rfl (q_assign rfl rfl) ?_
                refine run_nil ?_
                refine run_sub (subMk (.cons (s := 1) rfl (.cons (s := 2) rfl (.cons (s := 3) rfl .nil))) .refl) ?_
                refine run_seq ?_
                refine run_region ?_
                refine run_q (.none rfl) rfl rfl (q_move rfl rfl) ?_
                refine run_q (.none rfl) rfl rfl (q_neq rfl rfl rfl) ?_
                refine run_nil ?_
                refine run_cond rfl (fun g43 => ?_) (fun g43 => ?_)
                · have g43' := g43
                  try simp only [decide_eq_true_eq, decide_eq_false_iff_not, beq_iff_eq, beq_eq_false_iff_ne, bne_iff_ne, bne_eq_false_iff_eq, Bool.not_eq_true', Bool.not_eq_false', ne_eq, Int.not_lt, Int.not_le, Decidable.not_not] at g43'
                  refine run_seq ?_
                  refine run_region ?_
                  refine run_q (.none rfl) rfl rfl (q_move rfl rfl) ?_
                  refine run_q (.none rfl) rfl rfl (q_assign rfl rfl) ?_
                  refine run_nil ?_
                  refine run_sub (subMk (.cons (s := 1) rfl (.cons (s := 2) rfl .nil)) .refl) ?_
                  refine run_ret ?_
                  exact end1 rfl rfl (by rw [evE_5 hid (by omega) g26' (fun h => h.2 g35') ⟨g38', by rw [parts_1 g43']; assumption⟩, parts_1 g43'])
                · have g43' := g43
                  try simp only [decide_eq_true_eq, decide_eq_false_iff_not, beq_iff_eq, beq_eq_false_iff_ne, bne_iff_ne, bne_eq_false_iff_eq, Bool.not_eq_true', Bool.not_eq_false', ne_eq, Int.not_lt, Int.not_le, Decidable.not_not] at g43'
                  refine run_skip ?_
                  refine run_seq ?_
                  refine run_seq ?_
                  refine run_region ?_
                  refine run_q (.none rfl) rfl rfl (q_fieldB (d := 6) rfl Try.underlying30 rfl rfl sz27 rfl) ?_
                  refine run_q (.none rfl) rfl rfl (q_loadB rfl one27 rfl Sel.here rfl) ?_
                  refine run_q (.none rfl) rfl rfl (q_call rfl call21 (.cons rfl Evs.nil) (fun w hk hm => refGraces_just x.gs p.GA p.gc w (hx.g.kept0 hk) fx2)) ?_
                  refine run_q (.none rfl) rfl rfl (q_assign rfl rfl) ?_
                  refine run_nil ?_
                  refine run_sub (subMk (.cons (s := 1) rfl (.cons (s := 2) rfl (.cons (s := 4) rfl .nil))) .refl) ?_
                  refine run_seq ?_
                  refine run_region ?_
                  refine run_q (.none rfl) rfl rfl (q_move rfl rfl) ?_
                  refine run_q (.none rfl) rfl rfl (q_neq rfl rfl rfl) ?_
                  refine run_nil ?_
                  refine run_cond rfl (fun g49 => ?_) (fun g49 => ?_)
                  · have g49' := g49
                    try simp only [decide_eq_true_eq, decide_eq_false_iff_not, beq_iff_eq, beq_eq_false_iff_ne, bne_iff_ne, bne_eq_false_iff_eq, Bool.not_eq_true', Bool.not_eq_false', ne_eq, Int.not_lt, Int.not_le, Decidable.not_not] at g49'
                    refine run_seq ?_
                    refine run_region ?_
                    refine run_q (.none rfl) rfl rfl (q_move rfl rfl) ?_
                    refine run_q (.none rfl) rfl rfl (q_assign rfl rfl) ?_
                    refine run_nil ?_
                    refine run_sub (subMk (.cons (s := 1) rfl (.cons (s := 2) rfl .nil)) .refl) ?_
                    refine run_ret ?_
                    exact end1 rfl rfl (by rw [evE_5 hid (by omega) g26' (fun h => h.2 g35') ⟨g38', by rw [parts_2 g43' g49']; assumption⟩, parts_2 g43' g49'])
                  · have g49' := g49
                    try simp only [decide_eq_true_eq, decide_eq_false_iff_not, beq_iff_eq, beq_eq_false_iff_ne, bne_iff_ne, bne_eq_false_iff_eq, Bool.not_eq_true', Bool.not_eq_false', ne_eq, Int.not_lt, Int.not_le, Decidable.not_not] at g49'
                    refine run_skip ?_
                    refine run_seq ?_
                    refine run_region ?_
                    refine run_q (.none rfl) rfl rfl (q_fieldB (d := 10) rfl Try.underlying30 rfl rfl sz28 rfl) ?_
                    refine run_q (.none rfl) rfl rfl (q_loadB rfl one28 rfl Sel.here rfl) ?_
                    refine run_q (.none rfl) rfl rfl (q_call rfl call23 (.cons rfl Evs.nil) (fun w hk hm => refLyrics_just x.ls p.LA p.lc w (hx.l.kept0 hk) fx3)) ?_
                    refine run_q (.none rfl) rfl rfl (q_assign rfl rfl) ?_
                    refine run_nil ?_
                    refine run_sub (subMk (.cons (s := 1) rfl (.cons (s := 2) rfl (.cons (s := 5) rfl .nil))) .refl) ?_
                    refine run_seq ?_
                    refine run_region ?_
                    refine run_q (.none rfl) rfl rfl (q_move rfl rfl) ?_
                    refine run_q (.none rfl) rfl rfl (q_neq rfl rfl rfl) ?_
                    refine run_nil ?_
                    refine run_cond rfl (fun g55 => ?_) (fun g55 => ?_)
                    · have g55' := g55
                      try simp only [decide_eq_true_eq, decide_eq_false_iff_not, beq_iff_eq, beq_eq_false_iff_ne, bne_iff_ne, bne_eq_false_iff_eq, Bool.not_eq_true', Bool.not_eq_false', ne_eq, Int.not_lt, Int.not_le, Decidable.not_not] at g55'
                      refine run_seq ?_
                      refine run_region ?_
                      refine run_q (.none rfl) rfl rfl (q_move rfl rfl) ?_
                      refine run_q (.none rfl) rfl rfl (q_assign rfl rfl) ?_
                      refine run_nil ?_
                      refine run_sub (subMk (.cons (s := 1) rfl (.cons (s := 2) rfl .nil)) .refl) ?_
                      refine run_ret ?_
                      exact end1 rfl rfl (by rw [evE_5 hid (by omega) g26' (fun h => h.2 g35') ⟨g38', by rw [parts_3 g43' g49']; assumption⟩, parts_3 g43' g49'])
                    · have g55' := g55
                      try simp only [decide_eq_true_eq, decide_eq_false_iff_not, beq_iff_eq, beq_eq_false_iff_ne, bne_iff_ne, bne_eq_false_iff_eq, Bool.not_eq_true', Bool.not_eq_false', ne_eq, Int.not_lt, Int.not_le, Decidable.not_not] at g55'
                      refine run_skip ?_
                      refine run_seq ?_
                      refine run_seq ?_
                      refine run_region ?_
                      refine run_q (.none rfl) rfl rfl (q_fieldB (d := 7) rfl Try.underlying30 rfl rfl sz3 rfl) ?_
                      refine run_q (.none rfl) rfl rfl (q_loadB rfl one3 rfl Sel.here rfl) ?_
                      refine run_q (.none rfl) rfl rfl (q_call rfl call49 (.cons rfl (.cons rfl (.cons rfl Evs.nil))) (fun w hk hm => in_just _ _ _ w)) ?_
                      refine run_q (.none rfl) rfl rfl (q_not rfl rfl) ?_
                      refine run_q (.none rfl) rfl rfl (q_move rfl rfl) ?_
                      refine run_split 61 rfl (fun g61 => ?_) (fun g61 => ?_)
                      · have g61' := g61
                        try simp only [decide_eq_true_eq, decide_eq_false_iff_not, beq_iff_eq, beq_eq_false_iff_ne, bne_iff_ne, bne_eq_false_iff_eq, Bool.not_eq_true', Bool.not_eq_false', ne_eq, Int.not_lt, Int.not_le, Decidable.not_not] at g61'
                        refine run_off (.no rfl rfl rfl g61) rfl rfl ?_
                        refine run_off (.no rfl rfl rfl g61) rfl rfl ?_
                        refine run_off (.no rfl rfl rfl g61) rfl rfl ?_
                        refine run_off (.no rfl rfl rfl g61) rfl rfl ?_
                        refine run_q (.none rfl) rfl rfl (q_pickT rfl rfl g61 rfl) ?_
                        refine run_q (.none rfl) rfl rfl (q_move rfl rfl) ?_
                        refine run_off (.no rfl rfl rfl rfl) rfl rfl ?_
                        refine run_off (.no rfl rfl rfl rfl) rfl rfl ?_
                        refine run_off (.no rfl rfl rfl rfl) rfl rfl ?_
                        refine run_off (.no rfl rfl rfl rfl) rfl rfl ?_
                        refine run_q (.none rfl) rfl rfl (q_pickT rfl rfl rfl rfl) ?_
                        refine run_q (.none rfl) rfl rfl (q_move rfl rfl) ?_
                        refine run_off (.no rfl rfl rfl rfl) rfl rfl ?_
                        refine run_off (.no rfl rfl rfl rfl) rfl rfl ?_
                        refine run_off (.no rfl rfl rfl rfl) rfl rfl ?_
                        refine run_off (.no rfl rfl rfl rfl) rfl rfl ?_
                        refine run_q (.none rfl) rfl rfl (q_pickT rfl rfl rfl rfl) ?_
                        refine run_q (.none rfl) rfl rfl (q_move rfl rfl) ?_
                        refine run_off (.no rfl rfl rfl rfl) rfl rfl ?_
                        refine run_off (.no rfl rfl rfl rfl) rfl rfl ?_
                        refine run_off (.no rfl rfl rfl rfl) rfl rfl ?_
                        refine run_off (.no rfl rfl rfl rfl) rfl rfl ?_
                        refine run_q (.none rfl) rfl rfl (q_pickT rfl rfl rfl rfl) ?_
                        refine run_nil ?_
                        refine run_sub (subMk (.cons (s := 2) rfl (.cons (s := 84) rfl .nil)) .refl) ?_
                        refine run_condT rfl rfl ?_
                        refine run_seq ?_
                        refine run_region ?_
                        refine run_q (.none rfl) rfl rfl (q_assign rfl rfl) ?_
                        refine run_nil ?_
                        refine run_ret ?_
                        exact end1 rfl rfl (by rw [evE_6 hid (by omega) g26' (fun h => h.2 g35') (fun h => h.2 (by rw [parts_3 g43' g49']; exact g55')), tailE_2 (by unfold tailOk; omega)])
                      · have g61' := g61
                        try simp only [decide_eq_true_eq, decide_eq_false_iff_not, beq_iff_eq, beq_eq_false_iff_ne, bne_iff_ne, bne_eq_false_iff_eq, Bool.not_eq_true', Bool.not_eq_false', ne_eq, Int.not_lt, Int.not_le, Decidable.not_not] at g61'
                        refine run_q (.on rfl rfl rfl g61) rfl rfl (q_fieldB (d := 8) rfl Try.underlying30 rfl rfl sz3 rfl) ?_
                        refine run_q (.on rfl rfl rfl g61) rfl rfl (q_loadB rfl one3 rfl Sel.here rfl) ?_
                        refine run_q (.on rfl rfl rfl g61) rfl rfl (q_call rfl call49 (.cons rfl (.cons rfl (.cons rfl Evs.nil))) (fun w hk hm => in_just _ _ _ w)) ?_
                        refine run_q (.on rfl rfl rfl g61) rfl rfl (q_not rfl rfl) ?_
                        refine run_q (.none rfl) rfl rfl (q_pickF rfl rfl g61 rfl) ?_
                        refine run_q (.none rfl) rfl rfl (q_move rfl rfl) ?_
                        refine run_split 67 rfl (fun g67 => ?_) (fun g67 => ?_)
                        · have g67' := g67
                          try simp only [decide_eq_true_eq, decide_eq_false_iff_not, beq_iff_eq, beq_eq_false_iff_ne, bne_iff_ne, bne_eq_false_iff_eq, Bool.not_eq_true', Bool.not_eq_false', ne_eq, Int.not_lt, Int.not_le, Decidable.not_not] at g67'
                          refine run_off (.no rfl rfl rfl g67) rfl rfl ?_
                          refine run_off (.no rfl rfl rfl g67) rfl rfl ?_
                          refine run_off (.no rfl rfl rfl g67) rfl rfl ?_
                          refine run_off (.no rfl rfl rfl g67) rfl rfl ?_
                          refine run_q (.none rfl) rfl rfl (q_pickT rfl rfl g67 rfl) ?_
                          refine run_q (.none rfl) rfl rfl (q_move rfl rfl) ?_
                          refine run_off (.no rfl rfl rfl rfl) rfl rfl ?_
                          refine run_off (.no rfl rfl rfl rfl) rfl rfl ?_
                          refine run_off (.no rfl rfl rfl rfl) rfl rfl ?_
                          refine run_off (.no rfl rfl rfl rfl) rfl rfl ?_
                          refine run_q (.none rfl) rfl rfl (q_pickT rfl rfl rfl rfl) ?_
                          refine run_q (.none rfl) rfl rfl (q_move rfl rfl) ?_
                          refine run_off (.no rfl rfl rfl rfl) rfl rfl ?_
                          refine run_off (.no rfl rfl rfl rfl) rfl rfl ?_
                          refine run_off (.no rfl rfl rfl rfl) rfl rfl ?_
                          refine run_off (.no rfl rfl rfl rfl) rfl rfl ?_
                          refine run_q (.none rfl) rfl rfl (q_pickT rfl rfl rfl rfl) ?_
                          refine run_nil ?_
                          refine run_sub (subMk (.cons (s := 2) rfl (.cons (s := 84) rfl .nil)) .refl) ?_
                          refine run_condT rfl rfl ?_
                          refine run_seq ?_
                          refine run_region ?_
                          refine run_q (.none rfl) rfl rfl (q_assign rfl rfl) ?_
                          refine run_nil ?_
                          refine run_ret ?_
                          exact end1 rfl rfl (by rw [evE_6 hid (by omega) g26' (fun h => h.2 g35') (fun h => h.2 (by rw [parts_3 g43' g49']; exact g55')), tailE_2 (by unfold tailOk; omega)])
                        · have g67' := g67
                          try simp only [decide_eq_true_eq, decide_eq_false_iff_not, beq_iff_eq, beq_eq_false_iff_ne, bne_iff_ne, bne_eq_false_iff_eq, Bool.not_eq_true', Bool.not_eq_false', ne_eq, Int.not_lt, Int.not_le, Decidable.not_not] at g67'
                          refine run_q (.on rfl rfl rfl g67) rfl rfl (q_fieldB (d := 9) rfl Try.underlying30 rfl rfl sz3 rfl) ?_
                          refine run_q (.on rfl rfl rfl g67) rfl rfl (q_loadB rfl one3 rfl Sel.here rfl) ?_
                          refine run_q (.on rfl rfl rfl g67) rfl rfl (q_call rfl call49 (.cons rfl (.cons rfl (.cons rfl Evs.nil))) (fun w hk hm => in_just _ _ _ w)) ?_
                          refine run_q (.on rfl rfl rfl g67) rfl rfl (q_not rfl rfl) ?_
                          refine run_q (.none rfl) rfl rfl (q_pickF rfl rfl g67 rfl) ?_
                          refine run_q (.none rfl) rfl rfl (q_move rfl rfl) ?_
                          refine run_split 73 rfl (fun g73 => ?_) (fun g73 => ?_)
                          · have g73' := g73
                            try simp only [decide_eq_true_eq, decide_eq_false_iff_not, beq_iff_eq, beq_eq_false_iff_ne, bne_iff_ne, bne_eq_false_iff_eq, Bool.not_eq_true', Bool.not_eq_false', ne_eq, Int.not_lt, Int.not_le, Decidable.not_not] at g73'
                            refine run_off (.no rfl rfl rfl g73) rfl rfl ?_
                            refine run_off (.no rfl rfl rfl g73) rfl rfl ?_
                            refine run_off (.no rfl rfl rfl g73) rfl rfl ?_
                            refine run_off (.no rfl rfl rfl g73) rfl rfl ?_
                            refine run_q (.none rfl) rfl rfl (q_pickT rfl rfl g73 rfl) ?_
                            refine run_q (.none rfl) rfl rfl (q_move rfl rfl) ?_
                            refine run_off (.no rfl rfl rfl rfl) rfl rfl ?_
                            refine run_off (.no rfl rfl rfl rfl) rfl rfl ?_
                            refine run_off (.no rfl rfl rfl rfl) rfl rfl ?_
                            refine run_off (.no rfl rfl rfl rfl) rfl rfl ?_
                            refine run_q (.none rfl) rfl rfl (q_pickT rfl rfl rfl rfl) ?_
                            refine run_nil ?_
                            refine run_sub (subMk (.cons (s := 2) rfl (.cons (s := 84) rfl .nil)) .refl) ?_
                            refine run_condT rfl rfl ?_
                            refine run_seq ?_
                            refine run_region ?_
                            refine run_q (.none rfl) rfl rfl (q_assign rfl rfl) ?_
                            refine run_nil ?_
                            refine run_ret ?_
                            exact end1 rfl rfl (by rw [evE_6 hid (by omega) g26' (fun h => h.2 g35') (fun h => h.2 (by rw [parts_3 g43' g49']; exact g55')), tailE_2 (by unfold tailOk; omega)])
                          · have g73' := g73
                            try simp only [decide_eq_true_eq, decide_eq_false_iff_not, beq_iff_eq, beq_eq_false_iff_ne, bne_iff_ne, bne_eq_false_iff_eq, Bool.not_eq_true', Bool.not_eq_false', ne_eq, Int.not_lt, Int.not_le, Decidable.not_not] at g73'
                            refine run_q (.on rfl rfl rfl g73) rfl rfl (q_fieldB (d := 11) rfl Try.underlying30 rfl rfl sz3 rfl) ?_
                            refine run_q (.on rfl rfl rfl g73) rfl rfl (q_loadB rfl one3 rfl Sel.here rfl) ?_
                            refine run_q (.on rfl rfl rfl g73) rfl rfl (q_call rfl call49 (.cons rfl (.cons rfl (.cons rfl Evs.nil))) (fun w hk hm => in_just _ _ _ w)) ?_
                            refine run_q (.on rfl rfl rfl g73) rfl rfl (q_not rfl rfl) ?_
                            refine run_q (.none rfl) rfl rfl (q_pickF rfl rfl g73 rfl) ?_
                            refine run_q (.none rfl) rfl rfl (q_move rfl rfl) ?_
                            refine run_split 79 rfl (fun g79 => ?_) (fun g79 => ?_)
                            · have g79' := g79
                              try simp only [decide_eq_true_eq, decide_eq_false_iff_not, beq_iff_eq, beq_eq_false_iff_ne, bne_iff_ne, bne_eq_false_iff_eq, Bool.not_eq_true', Bool.not_eq_false', ne_eq, Int.not_lt, Int.not_le, Decidable.not_not] at g79'
                              refine run_off (.no rfl rfl rfl g79) rfl rfl ?_
                              refine run_off (.no rfl rfl rfl g79) rfl rfl ?_
                              refine run_off (.no rfl rfl rfl g79) rfl rfl ?_
                              refine run_off (.no rfl rfl rfl g79) rfl rfl ?_
                              refine run_q (.none rfl) rfl rfl (q_pickT rfl rfl g79 rfl) ?_
                              refine run_nil ?_
                              refine run_sub (subMk (.cons (s := 2) rfl (.cons (s := 84) rfl .nil)) .refl) ?_
                              refine run_condT rfl rfl ?_
                              refine run_seq ?_
                              refine run_region ?_
                              refine run_q (.none rfl) rfl rfl (q_assign rfl rfl) ?_
                              refine run_nil ?_
                              refine run_ret ?_
                              exact end1 rfl rfl (by rw [evE_6 hid (by omega) g26' (fun h => h.2 g35') (fun h => h.2 (by rw [parts_3 g43' g49']; exact g55')), tailE_2 (by unfold tailOk; omega)])
                            · have g79' := g79
                              try simp only [decide_eq_true_eq, decide_eq_false_iff_not, beq_iff_eq, beq_eq_false_iff_ne, bne_iff_ne, bne_eq_false_iff_eq, Bool.not_eq_true', Bool.not_eq_false', ne_eq, Int.not_lt, Int.not_le, Decidable.not_not] at g79'
                              refine run_q (.on rfl rfl rfl g79) rfl rfl (q_fieldB (d := 12) rfl Try.underlying30 rfl rfl sz3 rfl) ?_
                              refine run_q (.on rfl rfl rfl g79) rfl rfl (q_loadB rfl one3 rfl Sel.here rfl) ?_
                              refine run_q (.on rfl rfl rfl g79) rfl rfl (q_call rfl call49 (.cons rfl (.cons rfl (.cons rfl Evs.nil))) (fun w hk hm => in_just _ _ _ w)) ?_
                              refine run_q (.on rfl rfl rfl g79) rfl rfl (q_not rfl rfl) ?_
                              refine run_q (.none rfl) rfl rfl (q_pickF rfl rfl g79 rfl) ?_
                              refine run_nil ?_
                              refine run_sub (subMk (.cons (s := 2) rfl (.cons (s := 84) rfl .nil)) .refl) ?_
                              refine run_cond rfl (fun g84 => ?_) (fun g84 => ?_)
                              · have g84' := g84
                                try simp only [decide_eq_true_eq, decide_eq_false_iff_not, beq_iff_eq, beq_eq_false_iff_ne, bne_iff_ne, bne_eq_false_iff_eq, Bool.not_eq_true', Bool.not_eq_false', ne_eq, Int.not_lt, Int.not_le, Decidable.not_not] at g84'
                                refine run_seq ?_
                                refine run_region ?_
                                refine run_q (.none rfl) rfl rfl (q_assign rfl rfl) ?_
                                refine run_nil ?_
                                refine run_ret ?_
                                exact end1 rfl rfl (by rw [evE_6 hid (by omega) g26' (fun h => h.2 g35') (fun h => h.2 (by rw [parts_3 g43' g49']; exact g55')), tailE_2 (by unfold tailOk; omega)])
                              · have g84' := g84
                                try simp only [decide_eq_true_eq, decide_eq_false_iff_not, beq_iff_eq, beq_eq_false_iff_ne, bne_iff_ne, bne_eq_false_iff_eq, Bool.not_eq_true', Bool.not_eq_false', ne_eq, Int.not_lt, Int.not_le, Decidable.not_not] at g84'
                                refine run_skip ?_
                                refine run_seq ?_
                                refine run_region ?_
                                refine run_q (.none rfl) rfl rfl (q_assign rfl rfl) ?_
                                refine run_nil ?_
                                refine run_ret ?_
                                exact end1 rfl rfl (by rw [evE_6 hid (by omega) g26' (fun h => h.2 g35') (fun h => h.2 (by rw [parts_3 g43' g49']; exact g55')), tailE_0 (by unfold tailOk; omega)])
              · have g38' := g38
                try simp only [decide_eq_true_eq, decide_eq_false_iff_not, beq_iff_eq, beq_eq_false_iff_ne, bne_iff_ne, bne_eq_false_iff_eq, Bool.not_eq_true', Bool.not_eq_false', ne_eq, Int.not_lt, Int.not_le, Decidable.not_not] at g38'
                refine run_skip ?_
                refine run_seq ?_
                refine run_seq ?_
                refine run_region ?_
                refine run_q (.none rfl) rfl rfl (q_fieldB (d := 7) rfl Try.underlying30 rfl rfl sz3 rfl) ?_
                refine run_q (.none rfl) rfl rfl (q_loadB rfl one3 rfl Sel.here rfl) ?_
                refine run_q (.none rfl) rfl rfl (q_call rfl call49 (.cons rfl (.cons rfl (.cons rfl Evs.nil))) (fun w hk hm => in_just _ _ _ w)) ?_
                refine run_q (.none rfl) rfl rfl (q_not rfl rfl) ?_
                refine run_q (.none rfl) rfl rfl (q_move rfl rfl) ?_
                refine run_split 61 rfl (fun g61 => ?_) (fun g61 => ?_)
                · have g61' := g61
                  try simp only [decide_eq_true_eq, decide_eq_false_iff_not, beq_iff_eq, beq_eq_false_iff_ne, bne_iff_ne, bne_eq_false_iff_eq, Bool.not_eq_true', Bool.not_eq_false', ne_eq, Int.not_lt, Int.not_le, Decidable.not_not] at g61'
                  refine run_off (.no rfl rfl rfl g61) rfl rfl ?_
                  refine run_off (.no rfl rfl rfl g61) rfl rfl ?_
                  refine run_off (.no rfl rfl rfl g61) rfl rfl ?_
                  refine run_off (.no rfl rfl rfl g61) rfl rfl ?_
                  refine run_q (.none rfl) rfl rfl (q_pickT rfl rfl g61 rfl) ?_
                  refine run_q (.none rfl) rfl rfl (q_move rfl rfl) ?_
                  refine run_off (.no rfl rfl rfl rfl) rfl rfl ?_
                  refine run_off (.no rfl rfl rfl rfl) rfl rfl ?_
                  refine run_off (.no rfl rfl rfl rfl) rfl rfl ?_
                  refine run_off (.no rfl rfl rfl rfl) rfl rfl ?_
                  refine run_q (.none rfl) rfl rfl (q_pickT rfl rfl rfl rfl) ?_
                  refine run_q (.none rfl) rfl rfl (q_move rfl rfl) ?_
                  refine run_off (.no rfl rfl rfl rfl) rfl rfl ?_
                  refine run_off (.no rfl rfl rfl rfl) rfl rfl ?_
                  refine run_off (.no rfl rfl rfl rfl) rfl rfl ?_
                  refine run_off (.no rfl rfl rfl rfl) rfl rfl ?_
                  refine run_q (.none rfl) rfl rfl (q_pickT rfl rfl rfl rfl) ?_
                  refine run_q (.none rfl) rfl rfl (q_move rfl rfl) ?_
                  refine run_off (.no rfl rfl rfl rfl) rfl rfl ?_
                  refine run_off (.no rfl rfl rfl rfl) rfl rfl ?_
                  refine run_off (.no rfl rfl rfl rfl) rfl rfl ?_
                  refine run_off (.no rfl rfl rfl rfl) rfl rfl ?_
                  refine run_q (.none rfl) rfl rfl (q_pickT rfl rfl rfl rfl) ?_
                  refine run_nil ?_
                  refine run_sub (subMk (.cons (s := 2) rfl (.cons (s := 84) rfl .nil)) .refl) ?_
                  refine run_condT rfl rfl ?_
                  refine run_seq ?_
                  refine run_region ?_
                  refine run_q (.none rfl) rfl rfl (q_assign rfl rfl) ?_
                  refine run_nil ?_
                  refine run_ret ?_
                  exact end1 rfl rfl (by rw [evE_6 hid (by omega) g26' (fun h => h.2 g35') (fun h => g38' h.1), tailE_2 (by unfold tailOk; omega)])
                · have g61' := g61
                  try simp only [decide_eq_true_eq, decide_eq_false_iff_not, beq_iff_eq, beq_eq_false_iff_ne, bne_iff_ne, bne_eq_false_iff_eq, Bool.not_eq_true', Bool.not_eq_false', ne_eq, Int.not_lt, Int.not_le, Decidable.not_not] at g61'
                  refine run_q (.on rfl rfl rfl g61) rfl rfl (q_fieldB (d := 8) rfl Try.underlying30 rfl rfl sz3 rfl) ?_
                  refine run_q (.on rfl rfl rfl g61) rfl rfl (q_loadB rfl one3 rfl Sel.here rfl) ?_
                  refine run_q (.on rfl rfl rfl g61) rfl rfl (q_call rfl call49 (.cons rfl (.cons rfl (.cons rfl Evs.nil))) (fun w hk hm => in_just _ _ _ w)) ?_
                  refine run_q (.on rfl rfl rfl g61) rfl rfl (q_not rfl rfl) ?_
                  refine run_q (.none rfl) rfl rfl (q_pickF rfl rfl g61 rfl) ?_
                  refine run_q (.none rfl) rfl rfl (q_move rfl rfl) ?_
                  refine run_split 67 rfl (fun g67 => ?_) (fun g67 => ?_)
                  · have g67' := g67
                    try simp only [decide_eq_true_eq, decide_eq_false_iff_not, beq_iff_eq, beq_eq_false_iff_ne, bne_iff_ne, bne_eq_false_iff_eq, Bool.not_eq_true', Bool.not_eq_false', ne_eq, Int.not_lt, Int.not_le, Decidable.not_not] at g67'
                    refine run_off (.no rfl rfl rfl g67) rfl rfl ?_
                    refine run_off (.no rfl rfl rfl g67) rfl rfl ?_
                    refine run_off (.no rfl rfl rfl g67) rfl rfl ?_
                    refine run_off (.no rfl rfl rfl g67) rfl rfl ?_
                    refine run_q (.none rfl) rfl rfl (q_pickT rfl rfl g67 rfl) ?_
                    refine run_q (.none rfl) rfl rfl (q_move rfl rfl) ?_
                    refine run_off (.no rfl rfl rfl rfl) rfl rfl ?_
                    refine run_off (.no rfl rfl rfl rfl) rfl rfl ?_
                    refine run_off (.no rfl rfl rfl rfl) rfl rfl ?_
                    refine run_off (.no rfl rfl rfl rfl) rfl rfl ?_
                    refine run_q (.none rfl) rfl rfl (q_pickT rfl rfl rfl rfl) ?_
                    refine run_q (.none rfl) rfl rfl (q_move rfl rfl) ?_
                    refine run_off (.no rfl rfl rfl rfl) rfl rfl ?_
                    refine run_off (.no rfl rfl rfl rfl) rfl rfl ?_
                    refine run_off (.no rfl rfl rfl rfl) rfl rfl ?_
                    refine run_off (.no rfl rfl rfl rfl) rfl rfl ?_
                    refine run_q (.none rfl) rfl rfl (q_pickT rfl rfl rfl rfl) ?_
                    refine run_nil ?_
                    refine run_sub (subMk (.cons (s := 2) rfl (.cons (s := 84) rfl .nil)) .refl) ?_
                    refine run_condT rfl rfl ?_
                    refine run_seq ?_
                    refine run_region ?_
                    refine run_q (.none rfl) rfl rfl (q_assign rfl rfl) ?_
                    refine run_nil ?_
                    refine run_ret ?_
                    exact end1 rfl rfl (by rw [evE_6 hid (by omega) g26' (fun h => h.2 g35') (fun h => g38' h.1), tailE_2 (by unfold tailOk; omega)])
                  · have g67' := g67
                    try simp only [decide_eq_true_eq, decide_eq_false_iff_not, beq_iff_eq, beq_eq_false_iff_ne, bne_iff_ne, bne_eq_false_iff_eq, Bool.not_eq_true', Bool.not_eq_false', ne_eq, Int.not_lt, Int.not_le, Decidable.not_not] at g67'
                    refine run_q (.on rfl rfl rfl g67) rfl rfl (q_fieldB (d := 9) rfl Try.underlying30 rfl rfl sz3 rfl) ?_
                    refine run_q (.on rfl rfl rfl g67) rfl rfl (q_loadB rfl one3 rfl Sel.here rfl) ?_
                    refine run_q (.on rfl rfl rfl g67) rfl rfl (q_call rfl call49 (.cons rfl (.cons rfl (.cons rfl Evs.nil))) (fun w hk hm => in_just _ _ _ w)) ?_
                    refine run_q (.on rfl rfl rfl g67) rfl rfl (q_not rfl rfl) ?_
                    refine run_q (.none rfl) rfl rfl (q_pickF rfl rfl g67 rfl) ?_
                    refine run_q (.none rfl) rfl rfl (q_move rfl rfl) ?_
                    refine run_split 73 rfl (fun g73 => ?_) (fun g73 => ?_)
                    · have g73' := g73
                      try simp only [decide_eq_true_eq, decide_eq_false_iff_not, beq_iff_eq, beq_eq_false_iff_ne, bne_iff_ne, bne_eq_false_iff_eq, Bool.not_eq_true', Bool.not_eq_false', ne_eq, Int.not_lt, Int.not_le, Decidable.not_not] at g73'
                      refine run_off (.no rfl rfl rfl g73) rfl rfl ?_
                      refine run_off (.no rfl rfl rfl g73) rfl rfl ?_
                      refine run_off (.no rfl rfl rfl g73) rfl rfl ?_
                      refine run_off (.no rfl rfl rfl g73) rfl rfl ?_
                      refine run_q (.none rfl) rfl rfl (q_pickT rfl rfl g73 rfl) ?_
                      refine run_q (.none rfl) rfl rfl (q_move rfl rfl) ?_
                      refine run_off (.no rfl rfl rfl rfl) rfl rfl ?_
                      refine run_off (.no rfl rfl rfl rfl) rfl rfl ?_
                      refine run_off (.no rfl rfl rfl rfl) rfl rfl ?_
                      refine run_off (.no rfl rfl rfl rfl) rfl rfl ?_
                      refine run_q (.none rfl) rfl rfl (q_pickT rfl rfl rfl rfl) ?_
                      refine run_nil ?_
                      refine run_sub (subMk (.cons (s := 2) rfl (.cons (s := 84) rfl .nil)) .refl) ?_
                      refine run_condT rfl rfl ?_
                      refine run_seq ?_
                      refine run_region ?_
                      refine run_q (.none rfl) rfl rfl (q_assign rfl rfl) ?_
                      refine run_nil ?_
                      refine run_ret ?_
                      exact end1 rfl rfl (by rw [evE_6 hid (by omega) g26' (fun h => h.2 g35') (fun h => g38' h.1), tailE_2 (by unfold tailOk; omega)])
                    · have g73' := g73
                      try simp only [decide_eq_true_eq, decide_eq_false_iff_not, beq_iff_eq, beq_eq_false_iff_ne, bne_iff_ne, bne_eq_false_iff_eq, Bool.not_eq_true', Bool.not_eq_false', ne_eq, Int.not_lt, Int.not_le, Decidable.not_not] at g73'
                      refine run_q (.on rfl rfl rfl g73) rfl rfl (q_fieldB (d := 11) rfl Try.underlying30 rfl rfl sz3 rfl) ?_
                      refine run_q (.on rfl rfl rfl g73) rfl rfl (q_loadB rfl one3 rfl Sel.here rfl) ?_
                      refine run_q (.on rfl rfl rfl g73) rfl rfl (q_call rfl call49 (.cons rfl (.cons rfl (.cons rfl Evs.nil))) (fun w hk hm => in_just _ _ _ w)) ?_
                      refine run_q (.on rfl rfl rfl g73) rfl rfl (q_not rfl rfl) ?_
                      refine run_q (.none rfl) rfl rfl (q_pickF rfl rfl g73 rfl) ?_
                      refine run_q (.none rfl) rfl rfl (q_move rfl rfl) ?_
                      refine run_split 79 rfl (fun g79 => ?_) (fun g79 => ?_)
                      · have g79' := g79
                        try simp only [decide_eq_true_eq, decide_eq_false_iff_not, beq_iff_eq, beq_eq_false_iff_ne, bne_iff_ne, bne_eq_false_iff_eq, Bool.not_eq_true', Bool.not_eq_false', ne_eq, Int.not_lt, Int.not_le, Decidable.not_not] at g79'
                        refine run_off (.no rfl rfl rfl g79) rfl rfl ?_
                        refine run_off (.no rfl rfl rfl g79) rfl rfl ?_
                        refine run_off (.no rfl rfl rfl g79) rfl rfl ?_
                        refine run_off (.no rfl rfl rfl g79) rfl rfl ?_
                        refine run_q (.none rfl) rfl rfl (q_pickT rfl rfl g79 rfl) ?_
                        refine run_nil ?_
                        refine run_sub (subMk (.cons (s := 2) rfl (.cons (s := 84) rfl .nil)) .refl) ?_
                        refine run_condT rfl rfl ?_
                        refine run_seq ?_
                        refine run_region ?_
                        refine run_q (.none rfl) rfl rfl (q_assign rfl rfl) ?_
                        refine run_nil ?_
                        refine run_ret ?_
                        exact end1 rfl rfl (by rw [evE_6 hid (by omega) g26' (fun h => h.2 g35') (fun h => g38' h.1), tailE_2 (by unfold tailOk; omega)])
                      · have g79' := g79
                        try simp only [decide_eq_true_eq, decide_eq_false_iff_not, beq_iff_eq, beq_eq_false_iff_ne, bne_iff_ne, bne_eq_false_iff_eq, Bool.not_eq_true', Bool.not_eq_false', ne_eq, Int.not_lt, Int.not_le, Decidable.not_not] at g79'
                        refine run_q (.on rfl rfl rfl g79) rfl rfl (q_fieldB (d := 12) rfl Try.underlying30 rfl rfl sz3 rfl) ?_
                        refine run_q (.on rfl rfl rfl g79) rfl rfl (q_loadB rfl one3 rfl Sel.here rfl) ?_
                        refine run_q (.on rfl rfl rfl g79) rfl rfl (q_call rfl call49 (.cons rfl (.cons rfl (.cons rfl Evs.nil))) (fun w hk hm => in_just _ _ _ w)) ?_
                        refine run_q (.on rfl rfl rfl g79) rfl rfl (q_not rfl rfl) ?_
                        refine run_q (.none rfl) rfl rfl (q_pickF rfl rfl g79 rfl) ?_
                        refine run_nil ?_
                        refine run_sub (subMk (.cons (s := 2) rfl (.cons (s := 84) rfl .nil)) .refl) ?_
                        refine run_cond rfl (fun g84 => ?_) (fun g84 => ?_)
                        · have g84' := g84
                          try simp only [decide_eq_true_eq, decide_eq_false_iff_not, beq_iff_eq, beq_eq_false_iff_ne, bne_iff_ne, bne_eq_false_iff_eq, Bool.not_eq_true', Bool.not_eq_false', ne_eq, Int.not_lt, Int.not_le, Decidable.not_not] at g84'
                          refine run_seq ?_
                          refine run_region ?_
                          refine run_q (.none rfl) rfl rfl (q_assign rfl rfl) ?_
                          refine run_nil ?_
                          refine run_ret ?_
                          exact end1 rfl rfl (by rw [evE_6 hid (by omega) g26' (fun h => h.2 g35') (fun h => g38' h.1), tailE_2 (by unfold tailOk; omega)])
                        · have g84' := g84
                          try simp only [decide_eq_true_eq, decide_eq_false_iff_not, beq_iff_eq, beq_eq_false_iff_ne, bne_iff_ne, bne_eq_false_iff_eq, Bool.not_eq_true', Bool.not_eq_false', ne_eq, Int.not_lt, Int.not_le, Decidable.not_not] at g84'
                          refine run_skip ?_
                          refine run_seq ?_
                          refine run_region ?_
                          refine run_q (.none rfl) rfl rfl (q_assign rfl rfl) ?_
                          refine run_nil ?_
                          refine run_ret ?_
                          exact end1 rfl rfl (by rw [evE_6 hid (by omega) g26' (fun h => h.2 g35') (fun h => g38' h.1), tailE_0 (by unfold tailOk; omega)])
          · have g30' := g30
            try simp only [decide_eq_true_eq, decide_eq_false_iff_not, beq_iff_eq, beq_eq_false_iff_ne, bne_iff_ne, bne_eq_false_iff_eq, Bool.not_eq_true', Bool.not_eq_false', ne_eq, Int.not_lt, Int.not_le, Decidable.not_not] at g30'
            refine run_off (.no rfl rfl rfl g30) rfl rfl ?_
            refine run_off (.no rfl rfl rfl g30) rfl rfl ?_
            refine run_off (.no rfl rfl rfl g30) rfl rfl ?_
            refine run_off (.no rfl rfl rfl g30) rfl rfl ?_
            refine run_q (.none rfl) rfl rfl (q_pickF rfl rfl g30 rfl) ?_
            refine run_nil ?_
            refine run_sub (subMk (.cons (s := 1) rfl (.cons (s := 2) rfl (.cons (s := 35) rfl .nil))) .refl) ?_
            refine run_condF rfl rfl ?_
            refine run_skip ?_
            refine run_seq ?_
            refine run_seq ?_
            refine run_region ?_
            refine run_q (.none rfl) rfl rfl (q_fieldB (d := 2) rfl Try.underlying30 rfl rfl sz3 rfl) ?_
            refine run_q (.none rfl) rfl rfl (q_loadB rfl one3 rfl Sel.here rfl) ?_
            refine run_q (.none rfl) rfl rfl (q_eql rfl rfl rfl) ?_
            refine run_nil ?_
            refine run_sub (subMk (.cons (s := 1) rfl (.cons (s := 2) rfl (.cons (s := 38) rfl .nil))) .refl) ?_
            refine run_cond rfl (fun g38 => ?_) (fun g38 => ?_)
            · have g38' := g38
              try simp only [decide_eq_true_eq, decide_eq_false_iff_not, beq_iff_eq, beq_eq_false_iff_ne, bne_iff_ne, bne_eq_false_iff_eq, Bool.not_eq_true', Bool.not_eq_false', ne_eq, Int.not_lt, Int.not_le, Decidable.not_not] at g38'
              refine run_seq ?_
              refine run_seq ?_
              refine run_region ?_
              refine run_q (.none rfl) rfl rfl (q_fieldB (d := 5) rfl Try.underlying30 rfl rfl sz26 rfl) ?_
              refine run_q (.none rfl) rfl rfl (q_loadB rfl one26 rfl Sel.here rfl) ?_
              refine run_q (.none rfl) rfl rfl (q_call rfl call19 (.cons rfl Evs.nil) (fun w hk hm => refHeads_just x.hs p.HA p.hc w (hx.h.kept0 hk) fx1)) ?_
              refine run_q (.none rfl) rfl rfl (q_assign rfl rfl) ?_
              refine run_nil ?_
              refine run_sub (subMk (.cons (s := 1) rfl (.cons (s := 2) rfl (.cons (s := 3) rfl .nil))) .refl) ?_
              refine run_seq ?_
              refine run_region ?_
              refine run_q (.none rfl) rfl rfl (q_move rfl rfl) ?_
              refine run_q (.none rfl) rfl rfl (q_neq rfl rfl rfl) ?_
              refine run_nil ?_
              refine run_cond rfl (fun g43 => ?_) (fun g43 => ?_)
              · have g43' := g43
                try simp only [decide_eq_true_eq, decide_eq_false_iff_not, beq_iff_eq, beq_eq_false_iff_ne, bne_iff_ne, bne_eq_false_iff_eq, Bool.not_eq_true', Bool.not_eq_false', ne_eq, Int.not_lt, Int.not_le, Decidable.not_not] at g43'
                refine run_seq ?_
                refine run_region ?_
                refine run_q (.none rfl) rfl rfl (q_move rfl rfl) ?_
                refine run_q (.none rfl) rfl rfl (q_assign rfl rfl) ?_
                refine run_nil ?_
                refine run_sub (subMk (.cons (s := 1) rfl (.cons (s := 2) rfl .nil)) .refl) ?_
                refine run_ret ?_
                exact end1 rfl rfl (by rw [evE_5 hid (by omega) g26' (fun h => h.1 g30') ⟨g38', by rw [parts_1 g43']; assumption⟩, parts_1 g43'])
              · have g43' := g43
                try simp only [decide_eq_true_eq, decide_eq_false_iff_not, beq_iff_eq, beq_eq_false_iff_ne, bne_iff_ne, bne_eq_false_iff_eq, Bool.not_eq_true', Bool.not_eq_false', ne_eq, Int.not_lt, Int.not_le, Decidable.not_not] at g43'
                refine run_skip ?_
                refine run_seq ?_
                refine run_seq ?_
                refine run_region ?_
                refine run_q (.none rfl) rfl rfl (q_fieldB (d := 6) rfl Try.underlying30 rfl rfl sz27 rfl) ?_
                refine run_q (.none rfl) rfl rfl (q_loadB rfl one27 rfl Sel.here rfl) ?_
                refine run_q (.none rfl) rfl rfl (q_call rfl call21 (.cons rfl Evs.nil) (fun w hk hm => refGraces_just x.gs p.GA p.gc w (hx.g.kept0 hk) fx2)) ?_
                refine run_q (.none rfl) rfl rfl (q_assign rfl rfl) ?_
                refine run_nil ?_
                refine run_sub (subMk (.cons (s := 1) rfl (.cons (s := 2) rfl (.cons (s := 4) rfl .nil))) .refl) ?_
                refine run_seq ?_
                refine run_region ?_
                refine run_q (.none rfl) rfl rfl (q_move rfl rfl) ?_
                refine run_q (.none rfl) rfl rfl (q_neq rfl rfl rfl) ?_
                refine run_nil ?_
                refine run_cond rfl (fun g49 => ?_) (fun g49 => ?_)
                · have g49' := g49
                  try simp only [decide_eq_true_eq, decide_eq_false_iff_not, beq_iff_eq, beq_eq_false_iff_ne, bne_iff_ne, bne_eq_false_iff_eq, Bool.not_eq_true', Bool.not_eq_false', ne_eq, Int.not_lt, Int.not_le, Decidable.not_not] at g49'
                  refine run_seq ?_
                  refine run_region ?_
                  refine run_q (.none rfl) rfl rfl (q_move rfl rfl) ?_
                  refine run_q (.none rfl) rfl rfl (q_assign rfl rfl) ?_
                  refine run_nil ?_
                  refine run_sub (subMk (.cons (s := 1) rfl (.cons (s := 2) rfl .nil)) .refl) ?_
                  refine run_ret ?_
                  exact end1 rfl rfl (by rw [evE_5 hid (by omega) g26' (fun h => h.1 g30') ⟨g38', by rw [parts_2 g43' g49']; assumption⟩, parts_2 g43' g49'])
                · have g49' := g49
                  try simp only [decide_eq_true_eq, decide_eq_false_iff_not, beq_iff_eq, beq_eq_false_iff_ne, bne_iff_ne, bne_eq_false_iff_eq, Bool.not_eq_true', Bool.not_eq_false', ne_eq, Int.not_lt, Int.not_le, Decidable.not_not] at g49'
                  refine run_skip ?_
                  refine run_seq ?_
                  refine run_region ?_
                  refine run_q (.none rfl) rfl rfl (q_fieldB (d := 10) rfl Try.underlying30 rfl rfl sz28 rfl) ?_
                  refine run_q (.none rfl) rfl rfl (q_loadB rfl one28 rfl Sel.here rfl) ?_
                  refine run_q (.none rfl) rfl rfl (q_call rfl call23 (.cons rfl Evs.nil) (fun w hk hm => refLyrics_just x.ls p.LA p.lc w (hx.l.kept0 hk) fx3)) ?_
                  refine run_q (.none rfl) rfl rfl (q_assign rfl rfl) ?_
                  refine run_nil ?_
                  refine run_sub (subMk (.cons (s := 1) rfl (.cons (s := 2) rfl (.cons (s := 5) rfl .nil))) .refl) ?_
                  refine run_seq ?_
                  refine run_region ?_
                  refine run_q (.none rfl) rfl rfl (q_move rfl rfl) ?_
                  refine run_q (.none rfl) rfl rfl (q_neq rfl rfl rfl) ?_
                  refine run_nil ?_
                  refine run_cond rfl (fun g55 => ?_) (fun g55 => ?_)
                  · have g55' := g55
                    try simp only [decide_eq_true_eq, decide_eq_false_iff_not, beq_iff_eq, beq_eq_false_iff_ne, bne_iff_ne, bne_eq_false_iff_eq, Bool.not_eq_true', Bool.not_eq_false', ne_eq, Int.not_lt, Int.not_le, Decidable.not_not] at g55'
                    refine run_seq ?_
                    refine run_region ?_
                    refine run_q (.none rfl) rfl rfl (q_move rfl rfl) ?_
                    refine run_q (.none rfl) rfl rfl (q_assign rfl rfl) ?_
                    refine run_nil ?_
                    refine run_sub (subMk (.cons (s := 1) rfl (.cons (s := 2) rfl .nil)) .refl) ?_
                    refine run_ret ?_
                    exact end1 rfl rfl (by rw [evE_5 hid (by omega) g26' (fun h => h.1 g30') ⟨g38', by rw [parts_3 g43' g49']; assumption⟩, parts_3 g43' g49'])
                  · have g55' := g55
                    try simp only [decide_eq_true_eq, decide_eq_false_iff_not, beq_iff_eq, beq_eq_false_iff_ne, bne_iff_ne, bne_eq_false_iff_eq, Bool.not_eq_true', Bool.not_eq_false', ne_eq, Int.not_lt, Int.not_le, Decidable.not_not] at g55'
                    refine run_skip ?_
                    refine run_seq ?_
                    refine run_seq ?_
                    refine run_region ?_
                    refine run_q (.none rfl) rfl rfl (q_fieldB (d := 7) rfl Try.underlying30 rfl rfl sz3 rfl) ?_
                    refine run_q (.none rfl) rfl rfl (q_loadB rfl one3 rfl Sel.here rfl) ?_
                    refine run_q (.none rfl) rfl rfl (q_call rfl call49 (.cons rfl (.cons rfl (.cons rfl Evs.nil))) (fun w hk hm => in_just _ _ _ w)) ?_
                    refine run_q (.none rfl) rfl rfl (q_not rfl rfl) ?_
                    refine run_q (.none rfl) rfl rfl (q_move rfl rfl) ?_
                    refine run_split 61 rfl (fun g61 => ?_) (fun g61 => ?_)
                    · have g61' := g61
                      try simp only [decide_eq_true_eq, decide_eq_false_iff_not, beq_iff_eq, beq_eq_false_iff_ne, bne_iff_ne, bne_eq_false_iff_eq, Bool.not_eq_true', Bool.not_eq_false', ne_eq, Int.not_lt, Int.not_le, Decidable.not_not] at g61'
                      refine run_off (.no rfl rfl rfl g61) rfl rfl ?_
                      refine run_off (.no rfl rfl rfl g61) rfl rfl ?_
                      refine run_off (.no rfl rfl rfl g61) rfl rfl ?_
                      refine run_off (.no rfl rfl rfl g61) rfl rfl ?_
                      refine run_q (.none rfl) rfl rfl (q_pickT rfl rfl g61 rfl) ?_
                      refine run_q (.none rfl) rfl rfl (q_move rfl rfl) ?_
                      refine run_off (.no rfl rfl rfl rfl) rfl rfl ?_
                      refine run_off (.no rfl rfl rfl rfl) rfl rfl ?_
                      refine run_off (.no rfl rfl rfl rfl) rfl rfl ?_
                      refine run_off (.no rfl rfl rfl rfl) rfl rfl ?_
                      refine run_q (.none rfl) rfl rfl (q_pickT rfl rfl rfl rfl) ?_
                      refine run_q (.none rfl) rfl rfl (q_move rfl rfl) ?_
                      refine run_off (.no rfl rfl rfl rfl) rfl rfl ?_
                      refine run_off (.no rfl rfl rfl rfl) rfl rfl ?_
                      refine run_off (.no rfl rfl rfl rfl) rfl rfl ?_
                      refine run_off (.no rfl rfl rfl rfl) rfl rfl ?_
                      refine run_q (.none rfl) rfl rfl (q_pickT rfl rfl rfl rfl) ?_
                      refine run_q (.none rfl) rfl rfl (q_move rfl rfl) ?_
                      refine run_off (.no rfl rfl rfl rfl) rfl rfl ?_
                      refine run_off (.no rfl rfl rfl rfl) rfl rfl ?_
                      refine run_off (.no rfl rfl rfl rfl) rfl rfl ?_
                      refine run_off (.no rfl rfl rfl rfl) rfl rfl ?_
                      refine run_q (.none rfl) rfl rfl (q_pickT rfl rfl rfl rfl) ?_
                      refine run_nil ?_
                      refine run_sub (subMk (.cons (s := 2) rfl (.cons (s := 84) rfl .nil)) .refl) ?_
                      refine run_condT rfl rfl ?_
                      refine run_seq ?_
                      refine run_region ?_
                      refine run_q (.none rfl) rfl rfl (q_assign rfl rfl) ?_
                      refine run_nil ?_
                      refine run_ret ?_
                      exact end1 rfl rfl (by rw [evE_6 hid (by omega) g26' (fun h => h.1 g30') (fun h => h.2 (by rw [parts_3 g43' g49']; exact g55')), tailE_2 (by unfold tailOk; omega)])
                    · have g61' := g61
                      try simp only [decide_eq_true_eq, decide_eq_false_iff_not, beq_iff_eq, beq_eq_false_iff_ne, bne_iff_ne, bne_eq_false_iff_eq, Bool.not_eq_true', Bool.not_eq_false', ne_eq, Int.not_lt, Int.not_le, Decidable.not_not] at g61'
                      refine run_q (.on rfl rfl rfl g61) rfl rfl (q_fieldB (d := 8) rfl Try.underlying30 rfl rfl sz3 rfl) ?_
                      refine run_q (.on rfl rfl rfl g61) rfl rfl (q_loadB rfl one3 rfl Sel.here rfl) ?_
                      refine run_q (.on rfl rfl rfl g61) rfl rfl (q_call rfl call49 (.cons rfl (.cons rfl (.cons rfl Evs.nil))) (fun w hk hm => in_just _ _ _ w)) ?_
                      refine run_q (.on rfl rfl rfl g61) rfl rfl (q_not rfl rfl) ?_
                      refine run_q (.none rfl) rfl rfl (q_pickF rfl rfl g61 rfl) ?_
                      refine run_q (.none rfl) rfl rfl (q_move rfl rfl) ?_
                      refine run_split 67 rfl (fun g67 => ?_) (fun g67 => ?_)
                      · have g67' := g67
                        try simp only [decide_eq_true_eq, decide_eq_false_iff_not, beq_iff_eq, beq_eq_false_iff_ne, bne_iff_ne, bne_eq_false_iff_eq, Bool.not_eq_true', Bool.not_eq_false', ne_eq, Int.not_lt, Int.not_le, Decidable.not_not] at g67'
                        refine run_off (.no rfl rfl rfl g67) rfl rfl ?_
                        refine run_off (.no rfl rfl rfl g67) rfl rfl ?_
                        refine run_off (.no rfl rfl rfl g67) rfl rfl ?_
                        refine run_off (.no rfl rfl rfl g67) rfl rfl ?_
                        refine run_q (.none rfl) rfl rfl (q_pickT rfl rfl g67 rfl) ?_
                        refine run_q (.none rfl) rfl rfl (q_move rfl rfl) ?_
                        refine run_off (.no rfl rfl rfl rfl) rfl rfl ?_
                        refine run_off (.no rfl rfl rfl rfl) rfl rfl ?_
                        refine run_off (.no rfl rfl rfl rfl) rfl rfl ?_
                        refine run_off (.no rfl rfl rfl rfl) rfl rfl ?_
                        refine run_q (.none rfl) rfl rfl (q_pickT rfl rfl rfl rfl) ?_
                        refine run_q (.none rfl) rfl rfl (q_move rfl rfl) ?_
                        refine run_off (.no rfl rfl rfl rfl) rfl rfl ?_
                        refine run_off (.no rfl rfl rfl rfl) rfl rfl ?_
                        refine run_off (.no rfl rfl rfl rfl) rfl rfl ?_
                        refine run_off (.no rfl rfl rfl rfl) rfl rfl ?_
                        refine run_q (.none rfl) rfl rfl (q_pickT rfl rfl rfl rfl) ?_
                        refine run_nil ?_
                        refine run_sub (subMk (.cons (s := 2) rfl (.cons (s := 84) rfl .nil)) .refl) ?_
                        refine run_condT rfl rfl ?_
                        refine run_seq ?_
                        refine run_region ?_
                        refine run_q (.none rfl) rfl rfl (q_assign rfl rfl) ?_
                        refine run_nil ?_
                        refine run_ret ?_
                        exact end1 rfl rfl (by rw [evE_6 hid (by omega) g26' (fun h => h.1 g30') (fun h => h.2 (by rw [parts_3 g43' g49']; exact g55')), tailE_2 (by unfold tailOk; omega)])
                      · have g67' := g67
                        try simp only [decide_eq_true_eq, decide_eq_false_iff_not, beq_iff_eq, beq_eq_false_iff_ne, bne_iff_ne, bne_eq_false_iff_eq, Bool.not_eq_true', Bool.not_eq_false', ne_eq, Int.not_lt, Int.not_le, Decidable.not_not] at g67'
                        refine run_q (.on rfl rfl rfl g67) rfl rfl (q_fieldB (d := 9) rfl Try.underlying30 rfl rfl sz3 rfl) ?_
                        refine run_q (.on rfl rfl rfl g67) rfl rfl (q_loadB rfl one3 rfl Sel.here rfl) ?_
                        refine run_q (.on rfl rfl rfl g67) rfl rfl (q_call rfl call49 (.cons rfl (.cons rfl (.cons rfl Evs.nil))) (fun w hk hm => in_just _ _ _ w)) ?_
                        refine run_q (.on rfl rfl rfl g67) rfl rfl (q_not rfl rfl) ?_
                        refine run_q (.none rfl) rfl rfl (q_pickF rfl rfl g67 rfl) ?_
                        refine run_q (.none rfl) rfl rfl (q_move rfl rfl) ?_
                        refine run_split 73 rfl (fun g73 => ?_) (fun g73 => ?_)
                        · have g73' := g73
                          try simp only [decide_eq_true_eq, decide_eq_false_iff_not, beq_iff_eq, beq_eq_false_iff_ne, bne_iff_ne, bne_eq_false_iff_eq, Bool.not_eq_true', Bool.not_eq_false', ne_eq, Int.not_lt, Int.not_le, Decidable.not_not] at g73'
                          refine run_off (.no rfl rfl rfl g73) rfl rfl ?_
                          refine run_off (.no rfl rfl rfl g73) rfl rfl ?_
                          refine run_off (.no rfl rfl rfl g73) rfl rfl ?_
                          refine run_off (.no rfl rfl rfl g73) rfl rfl ?_
                          refine run_q (.none rfl) rfl rfl (q_pickT rfl rfl g73 rfl) ?_
                          refine run_q (.none rfl) rfl rfl (q_move rfl rfl) ?_
                          refine run_off (.no rfl rfl rfl rfl) rfl rfl ?_
                          refine run_off (.no rfl rfl rfl rfl) rfl rfl ?_
                          refine run_off (.no rfl rfl rfl rfl) rfl rfl ?_
                          refine run_off (.no rfl rfl rfl rfl) rfl rfl ?_
                          refine run_q (.none rfl) rfl rfl (q_pickT rfl rfl rfl rfl) ?_
                          refine run_nil ?_
                          refine run_sub (subMk (.cons (s := 2) rfl (.cons (s := 84) rfl .nil)) .refl) ?_
                          refine run_condT rfl rfl ?_
                          refine run_seq ?_
                          refine run_region ?_
                          refine run_q (.none rfl) rfl rfl (q_assign rfl rfl) ?_
                          refine run_nil ?_
                          refine run_ret ?_
                          exact end1 rfl rfl (by rw [evE_6 hid (by omega) g26' (fun h => h.1 g30') (fun h => h.2 (by rw [parts_3 g43' g49']; exact g55')), tailE_2 (by unfold tailOk; omega)])
                        · have g73' := g73
                          try simp only [decide_eq_true_eq, decide_eq_false_iff_not, beq_iff_eq, beq_eq_false_iff_ne, bne_iff_ne, bne_eq_false_iff_eq, Bool.not_eq_true', Bool.not_eq_false', ne_eq, Int.not_lt, Int.not_le, Decidable.not_not] at g73'
                          refine run_q (.on rfl rfl rfl g73) rfl rfl (q_fieldB (d := 11) rfl Try.underlying30 rfl rfl sz3 rfl) ?_
                          refine run_q (.on rfl rfl rfl g73) rfl rfl (q_loadB rfl one3 rfl Sel.here rfl) ?_
                          refine run_q (.on rfl rfl rfl g73) rfl rfl (q_call rfl call49 (.cons rfl (.cons rfl (.cons rfl Evs.nil))) (fun w hk hm => in_just _ _ _ w)) ?_
                          refine run_q (.on rfl rfl rfl g73) rfl rfl (q_not rfl rfl) ?_
                          refine run_q (.none rfl) rfl rfl (q_pickF rfl rfl g73 rfl) ?_
                          refine run_q (.none rfl) rfl rfl (q_move rfl rfl) ?_
                          refine run_split 79 rfl (fun g79 => ?_) (fun g79 => ?_)
                          · have g79' := g79
                            try simp only [decide_eq_true_eq, decide_eq_false_iff_not, beq_iff_eq, beq_eq_false_iff_ne, bne_iff_ne, bne_eq_false_iff_eq, Bool.not_eq_true', Bool.not_eq_false', ne_eq, Int.not_lt, Int.not_le, Decidable.not_not] at g79'
                            refine run_off (.no rfl rfl rfl g79) rfl rfl ?_
                            refine run_off (.no rfl rfl rfl g79) rfl rfl ?_
                            refine run_off (.no rfl rfl rfl g79) rfl rfl ?_
                            refine run_off (.no rfl rfl rfl g79) rfl rfl ?_
                            refine run_q (.none rfl) rfl rfl (q_pickT rfl rfl g79 rfl) ?_
                            refine run_nil ?_
                            refine run_sub (subMk (.cons (s := 2) rfl (.cons (s := 84) rfl .nil)) .refl) ?_
                            refine run_condT rfl rfl ?_
                            refine run_seq ?_
                            refine run_region ?_
                            refine run_q (.none rfl) rfl rfl (q_assign rfl rfl) ?_
                            refine run_nil ?_
                            refine run_ret ?_
                            exact end1 rfl rfl (by rw [evE_6 hid (by omega) g26' (fun h => h.1 g30') (fun h => h.2 (by rw [parts_3 g43' g49']; exact g55')), tailE_2 (by unfold tailOk; omega)])
                          · have g79' := g79
                            try simp only [decide_eq_true_eq, decide_eq_false_iff_not, beq_iff_eq, beq_eq_false_iff_ne, bne_iff_ne, bne_eq_false_iff_eq, Bool.not_eq_true', Bool.not_eq_false', ne_eq, Int.not_lt, Int.not_le, Decidable.not_not] at g79'
                            refine run_q (.on rfl rfl rfl g79) rfl rfl (q_fieldB (d := 12) rfl Try.underlying30 rfl rfl sz3 rfl) ?_
                            refine run_q (.on rfl rfl rfl g79) rfl rfl (q_loadB rfl one3 rfl Sel.here rfl) ?_
                            refine run_q (.on rfl rfl rfl g79) rfl rfl (q_call rfl call49 (.cons rfl (.cons rfl (.cons rfl Evs.nil))) (fun w hk hm => in_just _ _ _ w)) ?_
                            refine run_q (.on rfl rfl rfl g79) rfl rfl (q_not rfl rfl) ?_
                            refine run_q (.none rfl) rfl rfl (q_pickF rfl rfl g79 rfl) ?_
                            refine run_nil ?_
                            refine run_sub (subMk (.cons (s := 2) rfl (.cons (s := 84) rfl .nil)) .refl) ?_
                            refine run_cond rfl (fun g84 => ?_) (fun g84 => ?_)
                            · have g84' := g84
                              try simp only [decide_eq_true_eq, decide_eq_false_iff_not, beq_iff_eq, beq_eq_false_iff_ne, bne_iff_ne, bne_eq_false_iff_eq, Bool.not_eq_true', Bool.not_eq_false', ne_eq, Int.not_lt, Int.not_le, Decidable.not_not] at g84'
                              refine run_seq ?_
                              refine run_region ?_
                              refine run_q (.none rfl) rfl rfl (q_assign rfl rfl) ?_
                              refine run_nil ?_
                              refine run_ret ?_
                              exact end1 rfl rfl (by rw [evE_6 hid (by omega) g26' (fun h => h.1 g30') (fun h => h.2 (by rw [parts_3 g43' g49']; exact g55')), tailE_2 (by unfold tailOk; omega)])
                            · have g84' := g84
                              try simp only [decide_eq_true_eq, decide_eq_false_iff_not, beq_iff_eq, beq_eq_false_iff_ne, bne_iff_ne, bne_eq_false_iff_eq, Bool.not_eq_true', Bool.not_eq_false', ne_eq, Int.not_lt, Int.not_le, Decidable.not_not] at g84'
                              refine run_skip ?_
                              refine run_seq ?_
                              refine run_region ?_
                              refine run_q (.none rfl) rfl rfl (q_assign rfl rfl) ?_
                              refine run_nil ?_
                              refine run_ret ?_
                              exact end1 rfl rfl (by rw [evE_6 hid (by omega) g26' (fun h => h.1 g30') (fun h => h.2 (by rw [parts_3 g43' g49']; exact g55')), tailE_0 (by unfold tailOk; omega)])
            · have g38' := g38
              try simp only [decide_eq_true_eq, decide_eq_false_iff_not, beq_iff_eq, beq_eq_false_iff_ne, bne_iff_ne, bne_eq_false_iff_eq, Bool.not_eq_true', Bool.not_eq_false', ne_eq, Int.not_lt, Int.not_le, Decidable.not_not] at g38'
              refine run_skip ?_
              refine run_seq ?_
              refine run_seq ?_
              refine run_region ?_
              refine run_q (.none rfl) rfl rfl (q_fieldB (d := 7) rfl Try.underlying30 rfl rfl sz3 rfl) ?_
              refine run_q (.none rfl) rfl rfl (q_loadB rfl one3 rfl Sel.here rfl) ?_
              refine run_q (.none rfl) rfl rfl (q_call rfl call49 (.cons rfl (.cons rfl (.cons rfl Evs.nil))) (fun w hk hm => in_just _ _ _ w)) ?_
              refine run_q (.none rfl) rfl rfl (q_not rfl rfl) ?_
              refine run_q (.none rfl) rfl rfl (q_move rfl rfl) ?_
              refine run_split 61 rfl (fun g61 => ?_) (fun g61 => ?_)
              · have g61' := g61
                try simp only [decide_eq_true_eq, decide_eq_false_iff_not, beq_iff_eq, beq_eq_false_iff_ne, bne_iff_ne, bne_eq_false_iff_eq, Bool.not_eq_true', Bool.not_eq_false', ne_eq, Int.not_lt, Int.not_le, Decidable.not_not] at g61'
                refine run_off (.no rfl rfl rfl g61) rfl rfl ?_
                refine run_off (.no rfl rfl rfl g61) rfl rfl ?_
                refine run_off (.no rfl rfl rfl g61) rfl rfl ?_
                refine run_off (.no rfl rfl rfl g61) rfl rfl ?_
                refine run_q (.none rfl) rfl rfl (q_pickT rfl rfl g61 rfl) ?_
                refine run_q (.none rfl) rfl rfl (q_move rfl rfl) ?_
                refine run_off (.no rfl rfl rfl rfl) rfl rfl ?_
                refine run_off (.no rfl rfl rfl rfl) rfl rfl ?_
                refine run_off (.no rfl rfl rfl rfl) rfl rfl ?_
                refine run_off (.no rfl rfl rfl rfl) rfl rfl ?_
                refine run_q (.none rfl) rfl rfl (q_pickT rfl rfl rfl rfl) ?_
                refine run_q (.none rfl) rfl rfl (q_move rfl rfl) ?_
                refine run_off (.no rfl rfl rfl rfl) rfl rfl ?_
                refine run_off (.no rfl rfl rfl rfl) rfl rfl ?_
                refine run_off (.no rfl rfl rfl rfl) rfl rfl ?_
                refine run_off (.no rfl rfl rfl rfl) rfl rfl ?_
                refine run_q (.none rfl) rfl rfl (q_pickT rfl rfl rfl rfl) ?_
                refine run_q (.none rfl) rfl rfl (q_move rfl rfl) ?_
                refine run_off (.no rfl rfl rfl rfl) rfl rfl ?_
                refine run_off (.no rfl rfl rfl rfl) rfl rfl ?_
                refine run_off (.no rfl rfl rfl rfl) rfl rfl ?_
                refine run_off (.no rfl rfl rfl rfl) rfl rfl ?_
                refine run_q (.none rfl) rfl rfl (q_pickT rfl rfl rfl rfl) ?_
                refine run_nil ?_
                refine run_sub (subMk (.cons (s := 2) rfl (.cons (s := 84) rfl .nil)) .refl) ?_
                refine run_condT rfl rfl ?_
                refine run_seq ?_
                refine run_region ?_
                refine run_q (.none rfl) rfl rfl (q_assign rfl rfl) ?_
                refine run_nil ?_
                refine run_ret ?_
                exact end1 rfl rfl (by rw [evE_6 hid (by omega) g26' (fun h => h.1 g30') (fun h => g38' h.1), tailE_2 (by unfold tailOk; omega)])
              · have g61' := g61
                try simp only [decide_eq_true_eq, decide_eq_false_iff_not, beq_iff_eq, beq_eq_false_iff_ne, bne_iff_ne, bne_eq_false_iff_eq, Bool.not_eq_true', Bool.not_eq_false', ne_eq, Int.not_lt, Int.not_le, Decidable.not_not] at g61'
                refine run_q (.on rfl rfl rfl g61) rfl rfl (q_fieldB (d := 8) rfl Try.underlying30 rfl rfl sz3 rfl) ?_
                refine run_q (.on rfl rfl rfl g61) rfl rfl (q_loadB rfl one3 rfl Sel.here rfl) ?_
                refine run_q (.on rfl rfl rfl g61) rfl rfl (q_call rfl call49 (.cons rfl (.cons rfl (.cons rfl Evs.nil))) (fun w hk hm => in_just _ _ _ w)) ?_
                refine run_q (.on rfl rfl rfl g61) rfl rfl (q_not rfl rfl) ?_
                refine run_q (.none rfl) rfl rfl (q_pickF rfl rfl g61 rfl) ?_
                refine run_q (.none rfl) rfl rfl (q_move rfl rfl) ?_
                refine run_split 67 rfl (fun g67 => ?_) (fun g67 => ?_)
                · have g67' := g67
                  try simp only [decide_eq_true_eq, decide_eq_false_iff_not, beq_iff_eq, beq_eq_false_iff_ne, bne_iff_ne, bne_eq_false_iff_eq, Bool.not_eq_true', Bool.not_eq_false', ne_eq, Int.not_lt, Int.not_le, Decidable.not_not] at g67'
                  refine run_off (.no rfl rfl rfl g67) rfl rfl ?_
                  refine run_off (.no rfl rfl rfl g67) rfl rfl ?_
                  refine run_off (.no rfl rfl rfl g67) rfl rfl ?_
                  refine run_off (.no rfl rfl rfl g67) rfl rfl ?_
                  refine run_q (.none rfl) rfl rfl (q_pickT rfl rfl g67 rfl) ?_
                  refine run_q (.none rfl) rfl rfl (q_move rfl rfl) ?_
                  refine run_off (.no rfl rfl rfl rfl) rfl rfl ?_
                  refine run_off (.no rfl rfl rfl rfl) rfl rfl ?_
                  refine run_off (.no rfl rfl rfl rfl) rfl rfl ?_
                  refine run_off (.no rfl rfl rfl rfl) rfl rfl ?_
                  refine run_q (.none rfl) rfl rfl (q_pickT rfl rfl rfl rfl) ?_
                  refine run_q (.none rfl) rfl rfl (q_move rfl rfl) ?_
                  refine run_off (.no rfl rfl rfl rfl) rfl rfl ?_
                  refine run_off (.no rfl rfl rfl rfl) rfl rfl ?_
                  refine run_off (.no rfl rfl rfl rfl) rfl rfl ?_
                  refine run_off (.no rfl rfl rfl rfl) rfl rfl ?_
                  refine run_q (.none rfl) rfl rfl (q_pickT rfl rfl rfl rfl) ?_
                  refine run_nil ?_
                  refine run_sub (subMk (.cons (s := 2) rfl (.cons (s := 84) rfl .nil)) .refl) ?_
                  refine run_condT rfl rfl ?_
                  refine run_seq ?_
                  refine run_region ?_
                  refine run_q (.none rfl) rfl rfl (q_assign rfl rfl) ?_
                  refine run_nil ?_
                  refine run_ret ?_
                  exact end1 rfl rfl (by rw [evE_6 hid (by omega) g26' (fun h => h.1 g30') (fun h => g38' h.1), tailE_2 (by unfold tailOk; omega)])
                · have g67' := g67
                  try simp only [decide_eq_true_eq, decide_eq_false_iff_not, beq_iff_eq, beq_eq_false_iff_ne, bne_iff_ne, bne_eq_false_iff_eq, Bool.not_eq_true', Bool.not_eq_false', ne_eq, Int.not_lt, Int.not_le, Decidable.not_not] at g67'
                  refine run_q (.on rfl rfl rfl g67) rfl rfl (q_fieldB (d := 9) rfl Try.underlying30 rfl rfl sz3 rfl) ?_
                  refine run_q (.on rfl rfl rfl g67) rfl rfl (q_loadB rfl one3 rfl Sel.here rfl) ?_
                  refine run_q (.on rfl rfl rfl g67) rfl rfl (q_call rfl call49 (.cons rfl (.cons rfl (.cons rfl Evs.nil))) (fun w hk hm => in_just _ _ _ w)) ?_
                  refine run_q (.on rfl rfl rfl g67) rfl rfl (q_not rfl rfl) ?_
                  refine run_q (.none rfl) rfl rfl (q_pickF rfl rfl g67 rfl) ?_
                  refine run_q (.none rfl) rfl rfl (q_move rfl rfl) ?_
                  refine run_split 73 rfl (fun g73 => ?_) (fun g73 => ?_)
                  · have g73' := g73
                    try simp only [decide_eq_true_eq, decide_eq_false_iff_not, beq_iff_eq, beq_eq_false_iff_ne, bne_iff_ne, bne_eq_false_iff_eq, Bool.not_eq_true', Bool.not_eq_false', ne_eq, Int.not_lt, Int.not_le, Decidable.not_not] at g73'
                    refine run_off (.no rfl rfl rfl g73) rfl rfl ?_
                    refine run_off (.no rfl rfl rfl g73) rfl rfl ?_
                    refine run_off (.no rfl rfl rfl g73) rfl rfl ?_
                    refine run_off (.no rfl rfl rfl g73) rfl rfl ?_
                    refine run_q (.none rfl) rfl rfl (q_pickT rfl rfl g73 rfl) ?_
                    refine run_q (.none rfl) rfl rfl (q_move rfl rfl) ?_
                    refine run_off (.no rfl rfl rfl rfl) rfl rfl ?_
                    refine run_off (.no rfl rfl rfl rfl) rfl rfl ?_
                    refine run_off (.no rfl rfl rfl rfl) rfl rfl ?_
                    refine run_off (.no rfl rfl rfl rfl) rfl rfl ?_
                    refine run_q (.none rfl) rfl rfl (q_pickT rfl rfl rfl rfl) ?_
                    refine run_nil ?_
                    refine run_sub (subMk (.cons (s := 2) rfl (.cons (s := 84) rfl .nil)) .refl) ?_
                    refine run_condT rfl rfl ?_
                    refine run_seq ?_
                    refine run_region ?_
                    refine run_q (.none rfl) rfl rfl (q_assign rfl rfl) ?_
                    refine run_nil ?_
                    refine run_ret ?_
                    exact end1 rfl rfl (by rw [evE_6 hid (by omega) g26' (fun h => h.1 g30') (fun h => g38' h.1), tailE_2 (by unfold tailOk; omega)])
                  · have g73' := g73
                    try simp only [decide_eq_true_eq, decide_eq_false_iff_not, beq_iff_eq, beq_eq_false_iff_ne, bne_iff_ne, bne_eq_false_iff_eq, Bool.not_eq_true', Bool.not_eq_false', ne_eq, Int.not_lt, Int.not_le, Decidable.not_not] at g73'
                    refine run_q (.on rfl rfl rfl g73) rfl rfl (q_fieldB (d := 11) rfl Try.underlying30 rfl rfl sz3 rfl) ?_
                    refine run_q (.on rfl rfl rfl g73) rfl rfl (q_loadB rfl one3 rfl Sel.here rfl) ?_
                    refine run_q (.on rfl rfl rfl g73) rfl rfl (q_call rfl call49 (.cons rfl (.cons rfl (.cons rfl Evs.nil))) (fun w hk hm => in_just _ _ _ w)) ?_
                    refine run_q (.on rfl rfl rfl g73) rfl rfl (q_not rfl rfl) ?_
                    refine run_q (.none rfl) rfl rfl (q_pickF rfl rfl g73 rfl) ?_
                    refine run_q (.none rfl) rfl rfl (q_move rfl rfl) ?_
                    refine run_split 79 rfl (fun g79 => ?_) (fun g79 => ?_)
                    · have g79' := g79
                      try simp only [decide_eq_true_eq, decide_eq_false_iff_not, beq_iff_eq, beq_eq_false_iff_ne, bne_iff_ne, bne_eq_false_iff_eq, Bool.not_eq_true', Bool.not_eq_false', ne_eq, Int.not_lt, Int.not_le, Decidable.not_not] at g79'
                      refine run_off (.no rfl rfl rfl g79) rfl rfl ?_
                      refine run_off (.no rfl rfl rfl g79) rfl rfl ?_
                      refine run_off (.no rfl rfl rfl g79) rfl rfl ?_
                      refine run_off (.no rfl rfl rfl g79) rfl rfl ?_
                      refine run_q (.none rfl) rfl rfl (q_pickT rfl rfl g79 rfl) ?_
                      refine run_nil ?_
                      refine run_sub (subMk (.cons (s := 2) rfl (.cons (s := 84) rfl .nil)) .refl) ?_
                      refine run_condT rfl rfl ?_
                      refine run_seq ?_
                      refine run_region ?_
                      refine run_q (.none rfl) rfl rfl (q_assign rfl rfl) ?_
                      refine run_nil ?_
                      refine run_ret ?_
                      exact end1 rfl rfl (by rw [evE_6 hid (by omega) g26' (fun h => h.1 g30') (fun h => g38' h.1), tailE_2 (by unfold tailOk; omega)])
                    · have g79' := g79
                      try simp only [decide_eq_true_eq, decide_eq_false_iff_not, beq_iff_eq, beq_eq_false_iff_ne, bne_iff_ne, bne_eq_false_iff_eq, Bool.not_eq_true', Bool.not_eq_false', ne_eq, Int.not_lt, Int.not_le, Decidable.not_not] at g79'
                      refine run_q (.on rfl rfl rfl g79) rfl rfl (q_fieldB (d := 12) rfl Try.underlying30 rfl rfl sz3 rfl) ?_
                      refine run_q (.on rfl rfl rfl g79) rfl rfl (q_loadB rfl one3 rfl Sel.here rfl) ?_
                      refine run_q (.on rfl rfl rfl g79) rfl rfl (q_call rfl call49 (.cons rfl (.cons rfl (.cons rfl Evs.nil))) (fun w hk hm => in_just _ _ _ w)) ?_
                      refine run_q (.on rfl rfl rfl g79) rfl rfl (q_not rfl rfl) ?_
                      refine run_q (.none rfl) rfl rfl (q_pickF rfl rfl g79 rfl) ?_
                      refine run_nil ?_
                      refine run_sub (subMk (.cons (s := 2) rfl (.cons (s := 84) rfl .nil)) .refl) ?_
                      refine run_cond rfl (fun g84 => ?_) (fun g84 => ?_)
                      · have g84' := g84
                        try simp only [decide_eq_true_eq, decide_eq_false_iff_not, beq_iff_eq, beq_eq_false_iff_ne, bne_iff_ne, bne_eq_false_iff_eq, Bool.not_eq_true', Bool.not_eq_false', ne_eq, Int.not_lt, Int.not_le, Decidable.not_not] at g84'
                        refine run_seq ?_
                        refine run_region ?_
                        refine run_q (.none rfl) rfl rfl (q_assign rfl rfl) ?_
                        refine run_nil ?_
                        refine run_ret ?_
                        exact end1 rfl rfl (by rw [evE_6 hid (by omega) g26' (fun h => h.1 g30') (fun h => g38' h.1), tailE_2 (by unfold tailOk; omega)])
                      · have g84' := g84
                        try simp only [decide_eq_true_eq, decide_eq_false_iff_not, beq_iff_eq, beq_eq_false_iff_ne, bne_iff_ne, bne_eq_false_iff_eq, Bool.not_eq_true', Bool.not_eq_false', ne_eq, Int.not_lt, Int.not_le, Decidable.not_not] at g84'
                        refine run_skip ?_
                        refine run_seq ?_
                        refine run_region ?_
                        refine run_q (.none rfl) rfl rfl (q_assign rfl rfl) ?_
                        refine run_nil ?_
                        refine run_ret ?_
                        exact end1 rfl rfl (by rw [evE_6 hid (by omega) g26' (fun h => h.1 g30') (fun h => g38' h.1), tailE_0 (by unfold tailOk; omega)])

end Go.Proofs.Ytneadapfoaccmaa
