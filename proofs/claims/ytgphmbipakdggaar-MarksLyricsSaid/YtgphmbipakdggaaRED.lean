/- The check of an event. -/
import Derived.Test.YtgphmbipakdggaaREC
set_option linter.unusedSimpArgs false
set_option linter.unusedVariables false
namespace Go.Proofs.YtgphmbipakdggaaR.Ev
open Go Go.RowKit Hr

theorem agg23 : Hr.Agg Try.prog 23 2 := ⟨fun w => by simp [isAgg, run_underlying Try.underlying23], Hr.Sz.of (by kernel_rfl)⟩
theorem sz23 : Hr.Sz Try.prog 23 2 := Hr.Sz.of (by kernel_rfl)
theorem info78 : Hr.Info Try.prog 78 [.int .i64 0, .int .i64 0, .int .i64 0, .int .i64 0, .int .i64 0, .slice none 0 0, .slice none 0 0, .int .i64 0, .int .i64 0, .int .i64 0, .slice none 0 0, .int .i64 0, .int .i64 0] 13 152 := Hr.Info.of (by kernel_rfl)
theorem agg78 : Hr.Agg Try.prog 78 13 := ⟨fun w => by simp [isAgg, run_underlying Try.underlying78], Hr.Sz.of (by kernel_rfl)⟩
theorem sz78 : Hr.Sz Try.prog 78 13 := Hr.Sz.of (by kernel_rfl)
theorem call58 : Hr.Callable Try.prog 58 := fun args w => by kernel_rfl
theorem built78p0p1p7 (x0y0 : Int) (x0y1 : Int) (x1y : Int) (x7y : Int) : Try.prog.built 78 [(0, .agg #[.int .i64 x0y0, .int .i64 x0y1]), (1, .int .i64 x1y), (7, .int .i64 x7y)] = some #[.int .i64 x0y0, .int .i64 x0y1, .int .i64 x1y, .int .i64 0, .int .i64 0, .slice none 0 0, .slice none 0 0, .int .i64 0, .int .i64 0, .int .i64 x7y, .slice none 0 0, .int .i64 0, .int .i64 0] := by kernel_rfl
theorem call81 : Hr.Callable Try.prog 81 := fun args w => by kernel_rfl
theorem call60 : Hr.Callable Try.prog 60 := fun args w => by kernel_rfl
theorem call59 : Hr.Callable Try.prog 59 := fun args w => by kernel_rfl
theorem call61 : Hr.Callable Try.prog 61 := fun args w => by kernel_rfl
theorem call62 : Hr.Callable Try.prog 62 := fun args w => by kernel_rfl
theorem call63 : Hr.Callable Try.prog 63 := fun args w => by kernel_rfl
theorem call64 : Hr.Callable Try.prog 64 := fun args w => by kernel_rfl

theorem ferm_just (a : Int) (W : World) (ha : a ≤ 9223372036854775807) : Calls Try.prog 81 #[.int .i64 a] W (Hr.Just W (.int .i64 (fermV a))) := by
  refine Just.of_ret ?_
  refine enterA (X := nX) (vs := [.int .i64 a]) Try.func81 Try.ntmps81 rfl rfl Mem.nil ?_
  refine run_seq ?_
  refine run_region ?_
  refine run_q (.none rfl) rfl rfl (q_assign rfl rfl) ?_
  refine run_nil ?_
  refine run_seq ?_
  refine run_seq ?_
  refine run_region ?_
  refine run_q (.none rfl) rfl rfl (q_move rfl rfl) ?_
  refine run_q (.none rfl) rfl rfl (q_lss rfl rfl rfl) ?_
  refine run_nil ?_
  refine run_cond rfl (fun g4 => ?_) (fun g4 => ?_)
  · have g4' := g4
    try simp only [decide_eq_true_eq, decide_eq_false_iff_not, beq_iff_eq, beq_eq_false_iff_ne, bne_iff_ne, bne_eq_false_iff_eq, Bool.not_eq_true', Bool.not_eq_false', ne_eq, Int.not_lt, Int.not_le, Decidable.not_not] at g4'
    refine run_seq ?_
    refine run_region ?_
    refine run_q (.none rfl) rfl rfl (q_assign rfl rfl) ?_
    refine run_nil ?_
    refine run_ret ?_
    exact end1 rfl rfl (vint (ferm_0 (.inl g4')))
  · have g4' := g4
    try simp only [decide_eq_true_eq, decide_eq_false_iff_not, beq_iff_eq, beq_eq_false_iff_ne, bne_iff_ne, bne_eq_false_iff_eq, Bool.not_eq_true', Bool.not_eq_false', ne_eq, Int.not_lt, Int.not_le, Decidable.not_not] at g4'
    refine run_skip ?_
    refine run_seq ?_
    refine run_region ?_
    refine run_q (.none rfl) rfl rfl (q_move rfl rfl) ?_
    refine run_q (.none rfl) rfl rfl (q_and rfl rfl rfl) ?_
    refine run_q (.none rfl) rfl rfl (q_assign rfl rfl) ?_
    refine run_nil ?_
    refine run_sub (subMk (.cons (s := 2) rfl .nil) .refl) ?_
    refine run_ret ?_
    exact end1 rfl rfl (vint (and16 g4' ha))

set_option maxHeartbeats 2000000 in
set_option maxRecDepth 100000 in
theorem strip_just (x : Evt) (p : Lie) (W : World) (hx : RdE W x p) (fx : x.few) : Calls Try.prog 60 #[evV x p] W (Hr.Just W (evV (stripE x) (stripP x p))) := by
  obtain ⟨fx1, fx2, fx3, fx4⟩ := id fx
  refine Just.of_ret ?_
  refine enterA (X := nX) (vs := [evV x p]) Try.func60 Try.ntmps60 rfl rfl Mem.nil ?_
  refine run_seq ?_
  refine run_region ?_
  refine run_h (.none rfl) (h_box rfl rfl rfl rfl rfl) ?_
  rintro b1 -
  refine run_h (.none rfl) (h_alloc rfl rfl rfl info78) ?_
  rintro b2 -
  refine run_nil ?_
  refine run_seq ?_
  refine run_seq ?_
  refine run_region ?_
  refine run_q (.none rfl) rfl rfl (q_fieldB (d := 2) rfl Try.underlying78 rfl rfl sz3 rfl) ?_
  refine run_q (.none rfl) rfl rfl (q_loadB rfl one3 rfl (.there Sel.here) rfl) ?_
  refine run_q (.none rfl) rfl rfl (q_eql rfl rfl rfl) ?_
  refine run_q (.none rfl) rfl rfl (q_move rfl rfl) ?_
  refine run_split 7 rfl (fun g7 => ?_) (fun g7 => ?_)
  · have g7' := g7
    try simp only [decide_eq_true_eq, decide_eq_false_iff_not, beq_iff_eq, beq_eq_false_iff_ne, bne_iff_ne, bne_eq_false_iff_eq, Bool.not_eq_true', Bool.not_eq_false', ne_eq, Int.not_lt, Int.not_le, Decidable.not_not] at g7'
    refine run_off (.no rfl rfl rfl g7) rfl rfl ?_
    refine run_off (.no rfl rfl rfl g7) rfl rfl ?_
    refine run_off (.no rfl rfl rfl g7) rfl rfl ?_
    refine run_off (.no rfl rfl rfl g7) rfl rfl ?_
    refine run_q (.none rfl) rfl rfl (q_pickT rfl rfl g7 rfl) ?_
    refine run_nil ?_
    refine run_sub (subMk (.cons (s := 1) rfl (.cons (s := 2) rfl (.cons (s := 12) rfl .nil))) .refl) ?_
    refine run_condT rfl rfl ?_
    refine run_seq ?_
    refine run_region ?_
    refine run_q (.none rfl) rfl rfl (q_loadBN rfl agg78 rfl (.there Sel.here) (.cons rfl (.cons rfl (.cons rfl (.cons rfl (.cons rfl (.cons rfl (.cons rfl (.cons rfl (.cons rfl (.cons rfl (.cons rfl (.cons rfl (.cons rfl CellsAt.nil))))))))))))) rfl) ?_
    refine run_h (.none rfl) (h_storeB rfl rfl sz78 rfl rfl rfl rfl rfl Sel.here rfl) ?_
    rintro - -
    refine run_nil ?_
    refine run_ret ?_
    exact endG rfl (.cellN rfl agg78 Sel.here (.cons rfl (.cons rfl (.cons rfl (.cons rfl (.cons rfl (.cons rfl (.cons rfl (.cons rfl (.cons rfl (.cons rfl (.cons rfl (.cons rfl (.cons rfl CellsAt.nil))))))))))))) rfl Outs.nil) _ .nil (by rw [stripV_1 (by unfold bare; omega)]; rfl)
  · have g7' := g7
    try simp only [decide_eq_true_eq, decide_eq_false_iff_not, beq_iff_eq, beq_eq_false_iff_ne, bne_iff_ne, bne_eq_false_iff_eq, Bool.not_eq_true', Bool.not_eq_false', ne_eq, Int.not_lt, Int.not_le, Decidable.not_not] at g7'
    refine run_q (.on rfl rfl rfl g7) rfl rfl (q_fieldB (d := 2) rfl Try.underlying78 rfl rfl sz3 rfl) ?_
    refine run_q (.on rfl rfl rfl g7) rfl rfl (q_loadB rfl one3 rfl (.there Sel.here) rfl) ?_
    refine run_q (.on rfl rfl rfl g7) rfl rfl (q_call rfl call58 (.cons rfl Evs.nil) (fun w hk hm => exists_just _ w)) ?_
    refine run_q (.on rfl rfl rfl g7) rfl rfl (q_not rfl rfl) ?_
    refine run_q (.none rfl) rfl rfl (q_pickF rfl rfl g7 rfl) ?_
    refine run_nil ?_
    refine run_sub (subMk (.cons (s := 1) rfl (.cons (s := 2) rfl (.cons (s := 12) rfl .nil))) .refl) ?_
    refine run_cond rfl (fun g12 => ?_) (fun g12 => ?_)
    · have g12' := g12
      try simp only [decide_eq_true_eq, decide_eq_false_iff_not, beq_iff_eq, beq_eq_false_iff_ne, bne_iff_ne, bne_eq_false_iff_eq, Bool.not_eq_true', Bool.not_eq_false', ne_eq, Int.not_lt, Int.not_le, Decidable.not_not] at g12'
      refine run_seq ?_
      refine run_region ?_
      refine run_q (.none rfl) rfl rfl (q_loadBN rfl agg78 rfl (.there Sel.here) (.cons rfl (.cons rfl (.cons rfl (.cons rfl (.cons rfl (.cons rfl (.cons rfl (.cons rfl (.cons rfl (.cons rfl (.cons rfl (.cons rfl (.cons rfl CellsAt.nil))))))))))))) rfl) ?_
      refine run_h (.none rfl) (h_storeB rfl rfl sz78 rfl rfl rfl rfl rfl Sel.here rfl) ?_
      rintro - -
      refine run_nil ?_
      refine run_ret ?_
      exact endG rfl (.cellN rfl agg78 Sel.here (.cons rfl (.cons rfl (.cons rfl (.cons rfl (.cons rfl (.cons rfl (.cons rfl (.cons rfl (.cons rfl (.cons rfl (.cons rfl (.cons rfl (.cons rfl CellsAt.nil))))))))))))) rfl Outs.nil) _ .nil (by rw [stripV_1 (by unfold bare; omega)]; rfl)
    · have g12' := g12
      try simp only [decide_eq_true_eq, decide_eq_false_iff_not, beq_iff_eq, beq_eq_false_iff_ne, bne_iff_ne, bne_eq_false_iff_eq, Bool.not_eq_true', Bool.not_eq_false', ne_eq, Int.not_lt, Int.not_le, Decidable.not_not] at g12'
      refine run_skip ?_
      refine run_seq ?_
      refine run_region ?_
      refine run_q (.none rfl) rfl rfl (q_fieldB (d := 0) rfl Try.underlying78 rfl rfl sz23 rfl) ?_
      refine run_q (.none rfl) rfl rfl (q_loadBN rfl agg23 rfl (.there Sel.here) (.cons rfl (.cons rfl CellsAt.nil)) rfl) ?_
      refine run_q (.none rfl) rfl rfl (q_fieldB (d := 2) rfl Try.underlying78 rfl rfl sz3 rfl) ?_
      refine run_q (.none rfl) rfl rfl (q_loadB rfl one3 rfl (.there Sel.here) rfl) ?_
      refine run_q (.none rfl) rfl rfl (q_fieldB (d := 9) rfl Try.underlying78 rfl rfl sz3 rfl) ?_
      refine run_q (.none rfl) rfl rfl (q_loadB rfl one3 rfl (.there Sel.here) rfl) ?_
      refine run_q (.none rfl) rfl rfl (q_build rfl (.cons rfl (.cons rfl (.cons rfl PV.nil))) (built78p0p1p7 _ _ _ _)) ?_
      refine run_h (.none rfl) (h_alloc rfl rfl rfl info78) ?_
      rintro b3 -
      refine run_h (.none rfl) (h_storeB rfl rfl sz78 rfl rfl rfl rfl rfl Sel.here rfl) ?_
      rintro - -
      refine run_nil ?_
      refine run_sub (subMk (.cons (s := 1) rfl (.cons (s := 2) rfl (.cons (s := 3) rfl .nil))) .refl) ?_
      refine run_seq ?_
      refine run_seq ?_
      refine run_region ?_
      refine run_q (.none rfl) rfl rfl (q_fieldB (d := 2) rfl Try.underlying78 rfl rfl sz3 rfl) ?_
      refine run_q (.none rfl) rfl rfl (q_loadB rfl one3 rfl (.there (.there Sel.here)) rfl) ?_
      refine run_q (.none rfl) rfl rfl (q_neq rfl rfl rfl) ?_
      refine run_nil ?_
      refine run_cond rfl (fun g23 => ?_) (fun g23 => ?_)
      · have g23' := g23
        try simp only [decide_eq_true_eq, decide_eq_false_iff_not, beq_iff_eq, beq_eq_false_iff_ne, bne_iff_ne, bne_eq_false_iff_eq, Bool.not_eq_true', Bool.not_eq_false', ne_eq, Int.not_lt, Int.not_le, Decidable.not_not] at g23'
        refine run_region ?_
        refine run_q (.none rfl) rfl rfl (q_fieldB (d := 3) rfl Try.underlying78 rfl rfl sz73 rfl) ?_
        refine run_q (.none rfl) rfl rfl (q_loadBN rfl agg73 rfl (.there (.there Sel.here)) (.cons rfl (.cons rfl CellsAt.nil)) rfl) ?_
        refine run_q (.none rfl) rfl rfl (q_fieldB (d := 3) rfl Try.underlying78 rfl rfl sz73 rfl) ?_
        refine run_h (.none rfl) (h_storeB rfl rfl sz73 rfl rfl rfl rfl rfl Sel.here rfl) ?_
        rintro - -
        refine run_nil ?_
        refine run_sub (subMk (.cons (s := 1) rfl (.cons (s := 2) rfl (.cons (s := 3) rfl .nil))) .refl) ?_
        refine run_seq ?_
        refine run_seq ?_
        refine run_region ?_
        refine run_q (.none rfl) rfl rfl (q_fieldB (d := 2) rfl Try.underlying78 rfl rfl sz3 rfl) ?_
        refine run_q (.none rfl) rfl rfl (q_loadB rfl one3 rfl (.there (.there Sel.here)) rfl) ?_
        refine run_q (.none rfl) rfl rfl (q_neq rfl rfl rfl) ?_
        refine run_nil ?_
        refine run_cond rfl (fun g29 => ?_) (fun g29 => ?_)
        · have g29' := g29
          try simp only [decide_eq_true_eq, decide_eq_false_iff_not, beq_iff_eq, beq_eq_false_iff_ne, bne_iff_ne, bne_eq_false_iff_eq, Bool.not_eq_true', Bool.not_eq_false', ne_eq, Int.not_lt, Int.not_le, Decidable.not_not] at g29'
          refine run_region ?_
          refine run_q (.none rfl) rfl rfl (q_fieldB (d := 7) rfl Try.underlying78 rfl rfl sz3 rfl) ?_
          refine run_q (.none rfl) rfl rfl (q_loadB rfl one3 rfl (.there (.there Sel.here)) rfl) ?_
          refine run_q (.none rfl) rfl rfl (q_call rfl call81 (.cons rfl Evs.nil) (fun w hk hm => ferm_just x.n.art w fx4)) ?_
          refine run_q (.none rfl) rfl rfl (q_fieldB (d := 7) rfl Try.underlying78 rfl rfl sz3 rfl) ?_
          refine run_h (.none rfl) (h_storeB rfl rfl sz3 rfl rfl rfl rfl rfl Sel.here rfl) ?_
          rintro - -
          refine run_nil ?_
          refine run_sub (subMk (.cons (s := 2) rfl (.cons (s := 3) rfl .nil)) .refl) ?_
          refine run_seq ?_
          refine run_region ?_
          refine run_q (.none rfl) rfl rfl (q_loadBN rfl agg78 rfl Sel.here (.cons rfl (.cons rfl (.cons rfl (.cons rfl (.cons rfl (.cons rfl (.cons rfl (.cons rfl (.cons rfl (.cons rfl (.cons rfl (.cons rfl (.cons rfl CellsAt.nil))))))))))))) rfl) ?_
          refine run_h (.none rfl) (h_storeB rfl rfl sz78 rfl rfl rfl rfl rfl (.there Sel.here) rfl) ?_
          rintro - -
          refine run_nil ?_
          refine run_ret ?_
          exact endG rfl (.cellN rfl agg78 Sel.here (.cons rfl (.cons rfl (.cons rfl (.cons rfl (.cons rfl (.cons rfl (.cons rfl (.cons rfl (.cons rfl (.cons rfl (.cons rfl (.cons rfl (.cons rfl CellsAt.nil))))))))))))) rfl Outs.nil) _ .nil (by rw [stripV_2 (by omega)]; rfl)
        · have g29' := g29
          try simp only [decide_eq_true_eq, decide_eq_false_iff_not, beq_iff_eq, beq_eq_false_iff_ne, bne_iff_ne, bne_eq_false_iff_eq, Bool.not_eq_true', Bool.not_eq_false', ne_eq, Int.not_lt, Int.not_le, Decidable.not_not] at g29'
          refine run_skip ?_
          refine run_seq ?_
          refine run_region ?_
          refine run_q (.none rfl) rfl rfl (q_loadBN rfl agg78 rfl Sel.here (.cons rfl (.cons rfl (.cons rfl (.cons rfl (.cons rfl (.cons rfl (.cons rfl (.cons rfl (.cons rfl (.cons rfl (.cons rfl (.cons rfl (.cons rfl CellsAt.nil))))))))))))) rfl) ?_
          refine run_h (.none rfl) (h_storeB rfl rfl sz78 rfl rfl rfl rfl rfl (.there Sel.here) rfl) ?_
          rintro - -
          refine run_nil ?_
          refine run_sub (subMk (.cons (s := 2) rfl .nil) .refl) ?_
          refine run_ret ?_
          exact endG rfl (.cellN rfl agg78 Sel.here (.cons rfl (.cons rfl (.cons rfl (.cons rfl (.cons rfl (.cons rfl (.cons rfl (.cons rfl (.cons rfl (.cons rfl (.cons rfl (.cons rfl (.cons rfl CellsAt.nil))))))))))))) rfl Outs.nil) _ .nil (by rw [stripV_4 g29']; rfl)
      · have g23' := g23
        try simp only [decide_eq_true_eq, decide_eq_false_iff_not, beq_iff_eq, beq_eq_false_iff_ne, bne_iff_ne, bne_eq_false_iff_eq, Bool.not_eq_true', Bool.not_eq_false', ne_eq, Int.not_lt, Int.not_le, Decidable.not_not] at g23'
        refine run_skip ?_
        refine run_seq ?_
        refine run_seq ?_
        refine run_region ?_
        refine run_q (.none rfl) rfl rfl (q_fieldB (d := 2) rfl Try.underlying78 rfl rfl sz3 rfl) ?_
        refine run_q (.none rfl) rfl rfl (q_loadB rfl one3 rfl (.there (.there Sel.here)) rfl) ?_
        refine run_q (.none rfl) rfl rfl (q_neq rfl rfl rfl) ?_
        refine run_nil ?_
        refine run_sub (subMk (.cons (s := 1) rfl (.cons (s := 2) rfl (.cons (s := 3) rfl (.cons (s := 29) rfl .nil)))) .refl) ?_
        refine run_condT rfl (bne_iff_ne.2 (by omega)) ?_
        refine run_region ?_
        refine run_q (.none rfl) rfl rfl (q_fieldB (d := 7) rfl Try.underlying78 rfl rfl sz3 rfl) ?_
        refine run_q (.none rfl) rfl rfl (q_loadB rfl one3 rfl (.there (.there Sel.here)) rfl) ?_
        refine run_q (.none rfl) rfl rfl (q_call rfl call81 (.cons rfl Evs.nil) (fun w hk hm => ferm_just x.n.art w fx4)) ?_
        refine run_q (.none rfl) rfl rfl (q_fieldB (d := 7) rfl Try.underlying78 rfl rfl sz3 rfl) ?_
        refine run_h (.none rfl) (h_storeB rfl rfl sz3 rfl rfl rfl rfl rfl Sel.here rfl) ?_
        rintro - -
        refine run_nil ?_
        refine run_sub (subMk (.cons (s := 2) rfl (.cons (s := 3) rfl .nil)) .refl) ?_
        refine run_seq ?_
        refine run_region ?_
        refine run_q (.none rfl) rfl rfl (q_loadBN rfl agg78 rfl Sel.here (.cons rfl (.cons rfl (.cons rfl (.cons rfl (.cons rfl (.cons rfl (.cons rfl (.cons rfl (.cons rfl (.cons rfl (.cons rfl (.cons rfl (.cons rfl CellsAt.nil))))))))))))) rfl) ?_
        refine run_h (.none rfl) (h_storeB rfl rfl sz78 rfl rfl rfl rfl rfl (.there Sel.here) rfl) ?_
        rintro - -
        refine run_nil ?_
        refine run_ret ?_
        exact endG rfl (.cellN rfl agg78 Sel.here (.cons rfl (.cons rfl (.cons rfl (.cons rfl (.cons rfl (.cons rfl (.cons rfl (.cons rfl (.cons rfl (.cons rfl (.cons rfl (.cons rfl (.cons rfl CellsAt.nil))))))))))))) rfl Outs.nil) _ .nil (by rw [stripV_3 g23']; rfl)

set_option maxRecDepth 100000 in
theorem durCheck_just (a b : Int) (W : World)  : Calls Try.prog 61 #[.agg #[.int .i64 a, .int .i64 b]] W (Hr.Just W (.int .i64 (if isVal a b then 0 else 17))) := by
  refine Just.of_ret ?_
  refine enterA (X := nX) (vs := [.agg #[.int .i64 a, .int .i64 b]]) Try.func61 Try.ntmps61 rfl rfl Mem.nil ?_
  refine run_seq ?_
  refine run_region ?_
  refine run_h (.none rfl) (h_box rfl rfl rfl rfl rfl) ?_
  rintro b1 -
  refine run_q (.none rfl) rfl rfl (q_assign rfl rfl) ?_
  refine run_nil ?_
  refine run_seq ?_
  refine run_seq ?_
  refine run_region ?_
  refine run_q (.none rfl) rfl rfl (q_fieldB (d := 0) rfl Try.underlying73 rfl rfl sz3 rfl) ?_
  refine run_q (.none rfl) rfl rfl (q_loadB rfl one3 rfl Sel.here rfl) ?_
  refine run_q (.none rfl) rfl rfl (q_lss rfl rfl rfl) ?_
  refine run_q (.none rfl) rfl rfl (q_move rfl rfl) ?_
  refine run_split 6 rfl (fun g6 => ?_) (fun g6 => ?_)
  · have g6' := g6
    try simp only [decide_eq_true_eq, decide_eq_false_iff_not, beq_iff_eq, beq_eq_false_iff_ne, bne_iff_ne, bne_eq_false_iff_eq, Bool.not_eq_true', Bool.not_eq_false', ne_eq, Int.not_lt, Int.not_le, Decidable.not_not] at g6'
    refine run_off (.no rfl rfl rfl g6) rfl rfl ?_
    refine run_off (.no rfl rfl rfl g6) rfl rfl ?_
    refine run_off (.no rfl rfl rfl g6) rfl rfl ?_
    refine run_q (.none rfl) rfl rfl (q_pickT rfl rfl g6 rfl) ?_
    refine run_q (.none rfl) rfl rfl (q_move rfl rfl) ?_
    refine run_off (.no rfl rfl rfl rfl) rfl rfl ?_
    refine run_off (.no rfl rfl rfl rfl) rfl rfl ?_
    refine run_off (.no rfl rfl rfl rfl) rfl rfl ?_
    refine run_q (.none rfl) rfl rfl (q_pickT rfl rfl rfl rfl) ?_
    refine run_q (.none rfl) rfl rfl (q_move rfl rfl) ?_
    refine run_off (.no rfl rfl rfl rfl) rfl rfl ?_
    refine run_off (.no rfl rfl rfl rfl) rfl rfl ?_
    refine run_off (.no rfl rfl rfl rfl) rfl rfl ?_
    refine run_q (.none rfl) rfl rfl (q_pickT rfl rfl rfl rfl) ?_
    refine run_nil ?_
    refine run_sub (subMk (.cons (s := 2) rfl (.cons (s := 20) rfl .nil)) .refl) ?_
    refine run_condT rfl rfl ?_
    refine run_seq ?_
    refine run_region ?_
    refine run_q (.none rfl) rfl rfl (q_assign rfl rfl) ?_
    refine run_nil ?_
    refine run_ret ?_
    exact end1 rfl rfl (vint (if_neg (by unfold isVal; omega)).symm)
  · have g6' := g6
    try simp only [decide_eq_true_eq, decide_eq_false_iff_not, beq_iff_eq, beq_eq_false_iff_ne, bne_iff_ne, bne_eq_false_iff_eq, Bool.not_eq_true', Bool.not_eq_false', ne_eq, Int.not_lt, Int.not_le, Decidable.not_not] at g6'
    refine run_q (.on rfl rfl rfl g6) rfl rfl (q_fieldB (d := 0) rfl Try.underlying73 rfl rfl sz3 rfl) ?_
    refine run_q (.on rfl rfl rfl g6) rfl rfl (q_loadB rfl one3 rfl Sel.here rfl) ?_
    refine run_q (.on rfl rfl rfl g6) rfl rfl (q_gtr rfl rfl rfl) ?_
    refine run_q (.none rfl) rfl rfl (q_pickF rfl rfl g6 rfl) ?_
    refine run_q (.none rfl) rfl rfl (q_move rfl rfl) ?_
    refine run_split 11 rfl (fun g11 => ?_) (fun g11 => ?_)
    · have g11' := g11
      try simp only [decide_eq_true_eq, decide_eq_false_iff_not, beq_iff_eq, beq_eq_false_iff_ne, bne_iff_ne, bne_eq_false_iff_eq, Bool.not_eq_true', Bool.not_eq_false', ne_eq, Int.not_lt, Int.not_le, Decidable.not_not] at g11'
      refine run_off (.no rfl rfl rfl g11) rfl rfl ?_
      refine run_off (.no rfl rfl rfl g11) rfl rfl ?_
      refine run_off (.no rfl rfl rfl g11) rfl rfl ?_
      refine run_q (.none rfl) rfl rfl (q_pickT rfl rfl g11 rfl) ?_
      refine run_q (.none rfl) rfl rfl (q_move rfl rfl) ?_
      refine run_off (.no rfl rfl rfl rfl) rfl rfl ?_
      refine run_off (.no rfl rfl rfl rfl) rfl rfl ?_
      refine run_off (.no rfl rfl rfl rfl) rfl rfl ?_
      refine run_q (.none rfl) rfl rfl (q_pickT rfl rfl rfl rfl) ?_
      refine run_nil ?_
      refine run_sub (subMk (.cons (s := 2) rfl (.cons (s := 20) rfl .nil)) .refl) ?_
      refine run_condT rfl rfl ?_
      refine run_seq ?_
      refine run_region ?_
      refine run_q (.none rfl) rfl rfl (q_assign rfl rfl) ?_
      refine run_nil ?_
      refine run_ret ?_
      exact end1 rfl rfl (vint (if_neg (by unfold isVal; omega)).symm)
    · have g11' := g11
      try simp only [decide_eq_true_eq, decide_eq_false_iff_not, beq_iff_eq, beq_eq_false_iff_ne, bne_iff_ne, bne_eq_false_iff_eq, Bool.not_eq_true', Bool.not_eq_false', ne_eq, Int.not_lt, Int.not_le, Decidable.not_not] at g11'
      refine run_q (.on rfl rfl rfl g11) rfl rfl (q_fieldB (d := 1) rfl Try.underlying73 rfl rfl sz3 rfl) ?_
      refine run_q (.on rfl rfl rfl g11) rfl rfl (q_loadB rfl one3 rfl Sel.here rfl) ?_
      refine run_q (.on rfl rfl rfl g11) rfl rfl (q_lss rfl rfl rfl) ?_
      refine run_q (.none rfl) rfl rfl (q_pickF rfl rfl g11 rfl) ?_
      refine run_q (.none rfl) rfl rfl (q_move rfl rfl) ?_
      refine run_split 16 rfl (fun g16 => ?_) (fun g16 => ?_)
      · have g16' := g16
        try simp only [decide_eq_true_eq, decide_eq_false_iff_not, beq_iff_eq, beq_eq_false_iff_ne, bne_iff_ne, bne_eq_false_iff_eq, Bool.not_eq_true', Bool.not_eq_false', ne_eq, Int.not_lt, Int.not_le, Decidable.not_not] at g16'
        refine run_off (.no rfl rfl rfl g16) rfl rfl ?_
        refine run_off (.no rfl rfl rfl g16) rfl rfl ?_
        refine run_off (.no rfl rfl rfl g16) rfl rfl ?_
        refine run_q (.none rfl) rfl rfl (q_pickT rfl rfl g16 rfl) ?_
        refine run_nil ?_
        refine run_sub (subMk (.cons (s := 2) rfl (.cons (s := 20) rfl .nil)) .refl) ?_
        refine run_condT rfl rfl ?_
        refine run_seq ?_
        refine run_region ?_
        refine run_q (.none rfl) rfl rfl (q_assign rfl rfl) ?_
        refine run_nil ?_
        refine run_ret ?_
        exact end1 rfl rfl (vint (if_neg (by unfold isVal; omega)).symm)
      · have g16' := g16
        try simp only [decide_eq_true_eq, decide_eq_false_iff_not, beq_iff_eq, beq_eq_false_iff_ne, bne_iff_ne, bne_eq_false_iff_eq, Bool.not_eq_true', Bool.not_eq_false', ne_eq, Int.not_lt, Int.not_le, Decidable.not_not] at g16'
        refine run_q (.on rfl rfl rfl g16) rfl rfl (q_fieldB (d := 1) rfl Try.underlying73 rfl rfl sz3 rfl) ?_
        refine run_q (.on rfl rfl rfl g16) rfl rfl (q_loadB rfl one3 rfl Sel.here rfl) ?_
        refine run_q (.on rfl rfl rfl g16) rfl rfl (q_gtr rfl rfl rfl) ?_
        refine run_q (.none rfl) rfl rfl (q_pickF rfl rfl g16 rfl) ?_
        refine run_nil ?_
        refine run_sub (subMk (.cons (s := 2) rfl (.cons (s := 20) rfl .nil)) .refl) ?_
        refine run_cond rfl (fun g20 => ?_) (fun g20 => ?_)
        · have g20' := g20
          try simp only [decide_eq_true_eq, decide_eq_false_iff_not, beq_iff_eq, beq_eq_false_iff_ne, bne_iff_ne, bne_eq_false_iff_eq, Bool.not_eq_true', Bool.not_eq_false', ne_eq, Int.not_lt, Int.not_le, Decidable.not_not] at g20'
          refine run_seq ?_
          refine run_region ?_
          refine run_q (.none rfl) rfl rfl (q_assign rfl rfl) ?_
          refine run_nil ?_
          refine run_ret ?_
          exact end1 rfl rfl (vint (if_neg (by unfold isVal; omega)).symm)
        · have g20' := g20
          try simp only [decide_eq_true_eq, decide_eq_false_iff_not, beq_iff_eq, beq_eq_false_iff_ne, bne_iff_ne, bne_eq_false_iff_eq, Bool.not_eq_true', Bool.not_eq_false', ne_eq, Int.not_lt, Int.not_le, Decidable.not_not] at g20'
          refine run_skip ?_
          refine run_seq ?_
          refine run_region ?_
          refine run_q (.none rfl) rfl rfl (q_assign rfl rfl) ?_
          refine run_nil ?_
          refine run_ret ?_
          exact end1 rfl rfl (vint (if_pos (by unfold isVal; omega)).symm)

set_option maxHeartbeats 4000000 in
set_option maxRecDepth 100000 in
theorem evCheck_just (x : Evt) (p : Lie) (W : World) (hx : RdE W x p) (fx : x.few) : Calls Try.prog 34 #[evV x p] W (Hr.Just W (.int .i64 (evE x))) := by
  obtain ⟨fx1, fx2, fx3, fx4⟩ := id fx
  refine Just.of_ret ?_
  refine enterA (X := nX) (vs := [evV x p]) Try.func34 Try.ntmps34 rfl rfl Mem.nil ?_
  refine run_seq ?_
  refine run_region ?_
  refine run_h (.none rfl) (h_box rfl rfl rfl rfl rfl) ?_
  rintro b1 -
  refine run_q (.none rfl) rfl rfl (q_assign rfl rfl) ?_
  refine run_nil ?_
  refine run_seq ?_
  refine run_seq ?_
  refine run_draw [(0, 0), (1, 0), (2, 0), (3, 0), (4, 0), (5, 0), (6, 0), (7, 0), (8, 2), (9, 2), (10, 2)] mixed (by kernel_rfl) .refl ?_
  refine d_q rfl rfl (.none rfl) rfl rfl (q_fieldB (d := 0) rfl Try.underlying78 rfl rfl sz23 rfl) ?_
  refine d_q rfl rfl (.none rfl) rfl rfl (q_fieldB (d := 0) rfl Try.underlying23 rfl rfl sz3 rfl) ?_
  refine d_q rfl rfl (.none rfl) rfl rfl (q_loadB rfl one3 rfl Sel.here rfl) ?_
  refine d_q rfl rfl (.none rfl) rfl rfl (q_call rfl call57 (.cons rfl (.cons rfl Evs.nil)) (fun w hk hm => within_just _ _ w)) ?_
  refine d_q rfl rfl (.none rfl) rfl rfl (q_fieldB (d := 0) rfl Try.underlying78 rfl rfl sz23 rfl) ?_
  refine d_q rfl rfl (.none rfl) rfl rfl (q_fieldB (d := 1) rfl Try.underlying23 rfl rfl sz3 rfl) ?_
  refine d_q rfl rfl (.none rfl) rfl rfl (q_loadB rfl one3 rfl Sel.here rfl) ?_
  refine d_q rfl rfl (.none rfl) rfl rfl (q_call rfl call57 (.cons rfl (.cons rfl Evs.nil)) (fun w hk hm => within_just _ _ w)) ?_
  refine d_t rfl rfl (.none rfl) (h_buildSlice rfl rfl rfl Try.underlying147 info27 (.cons rfl rfl rfl rfl (.cons rfl rfl rfl rfl Parts.nil)) rfl (by omega)) ?_
  rintro b13 -
  refine d_t rfl rfl (.none rfl) (.of_q rfl rfl (q_call rfl call56 (.cons rfl Evs.nil) (fun w hk hm => first_just [if x.n.site < 0 ∨ 99 < x.n.site then 2 else 0, if x.n.num < 0 ∨ 1073741824 < x.n.num then 2 else 0] (some ⟨b13, 0, none⟩) 2 w (own_rd (Sel.here.holds hm)) (by simp)))) ?_
  rintro - -
  refine d_t rfl rfl (.none rfl) (.of_q rfl rfl (q_assign rfl rfl)) ?_
  rintro - -
  refine d_nil ?_
  refine run_sub (subMk (.cons (s := 1) rfl (.cons (s := 2) rfl (.cons (s := 3) rfl .nil))) .refl) ?_
  refine run_seq ?_
  by_cases hid : idOk x.n
  · refine run_sub (subMk (.cons (s := 1) rfl (.cons (s := 2) rfl (.cons' (s := 3) (v' := .int .i64 0) rfl (vint ((id_fst0 x.n).trans (if_pos hid))) .nil))) .refl) ?_
    refine run_region ?_
    refine run_q (.none rfl) rfl rfl (q_move rfl rfl) ?_
    refine run_q (.none rfl) rfl rfl (q_neq rfl rfl rfl) ?_
    refine run_nil ?_
    refine run_condF rfl rfl ?_
    refine run_skip ?_
    refine run_seq ?_
    refine run_seq ?_
    refine run_region ?_
    refine run_q (.none rfl) rfl rfl (q_fieldB (d := 2) rfl Try.underlying78 rfl rfl sz3 rfl) ?_
    refine run_q (.none rfl) rfl rfl (q_loadB rfl one3 rfl (.there Sel.here) rfl) ?_
    refine run_q (.none rfl) rfl rfl (q_call rfl call58 (.cons rfl Evs.nil) (fun w hk hm => exists_just _ w)) ?_
    refine run_q (.none rfl) rfl rfl (q_not rfl rfl) ?_
    refine run_nil ?_
    refine run_sub (subMk (.cons (s := 1) rfl (.cons (s := 2) rfl (.cons (s := 21) rfl .nil))) .refl) ?_
    refine run_cond rfl (fun g21 => ?_) (fun g21 => ?_)
    · have g21' := g21
      try simp only [decide_eq_true_eq, decide_eq_false_iff_not, beq_iff_eq, beq_eq_false_iff_ne, bne_iff_ne, bne_eq_false_iff_eq, Bool.not_eq_true', Bool.not_eq_false', ne_eq, Int.not_lt, Int.not_le, Decidable.not_not] at g21'
      refine run_seq ?_
      refine run_region ?_
      refine run_q (.none rfl) rfl rfl (q_assign rfl rfl) ?_
      refine run_nil ?_
      refine run_ret ?_
      exact end1 rfl rfl (by rw [evE_2 hid (by omega)])
    · have g21' := g21
      try simp only [decide_eq_true_eq, decide_eq_false_iff_not, beq_iff_eq, beq_eq_false_iff_ne, bne_iff_ne, bne_eq_false_iff_eq, Bool.not_eq_true', Bool.not_eq_false', ne_eq, Int.not_lt, Int.not_le, Decidable.not_not] at g21'
      refine run_skip ?_
      refine run_seq ?_
      refine run_seq ?_
      refine run_draw [(0, 0), (1, 0), (2, 0), (3, 0), (4, 0)] mixed (by kernel_rfl) .refl ?_
      refine d_q rfl rfl (.none rfl) rfl rfl (q_loadBN rfl agg78 rfl (.there Sel.here) (.cons rfl (.cons rfl (.cons rfl (.cons rfl (.cons rfl (.cons rfl (.cons rfl (.cons rfl (.cons rfl (.cons rfl (.cons rfl (.cons rfl (.cons rfl CellsAt.nil))))))))))))) rfl) ?_
      refine d_q rfl rfl (.none rfl) rfl rfl (q_loadBN rfl agg78 rfl (.there Sel.here) (.cons rfl (.cons rfl (.cons rfl (.cons rfl (.cons rfl (.cons rfl (.cons rfl (.cons rfl (.cons rfl (.cons rfl (.cons rfl (.cons rfl (.cons rfl CellsAt.nil))))))))))))) rfl) ?_
      refine d_q rfl rfl (.none rfl) rfl rfl (q_call rfl call60 (.cons rfl Evs.nil) (fun w hk hm => strip_just x p w (hx.kept0 hk) fx)) ?_
      refine d_q rfl rfl (.none rfl) rfl rfl (q_call rfl call59 (.cons rfl (.cons rfl Evs.nil)) (fun w hk hm => same_just x (stripE x) p (stripP x p) w (hx.kept0 hk) (hx.kept0 hk).strip fx fx.strip)) ?_
      refine d_q rfl rfl (.none rfl) rfl rfl (q_not rfl rfl) ?_
      refine d_nil ?_
      refine run_sub (subMk (.cons (s := 1) rfl (.cons (s := 2) rfl (.cons (s := 26) rfl .nil))) .refl) ?_
      refine run_cond rfl (fun g26 => ?_) (fun g26 => ?_)
      · have g26' := g26
        try simp only [decide_eq_true_eq, decide_eq_false_iff_not, beq_iff_eq, beq_eq_false_iff_ne, bne_iff_ne, bne_eq_false_iff_eq, Bool.not_eq_true', Bool.not_eq_false', ne_eq, Int.not_lt, Int.not_le, Decidable.not_not] at g26'
        refine run_seq ?_
        refine run_region ?_
        refine run_q (.none rfl) rfl rfl (q_assign rfl rfl) ?_
        refine run_nil ?_
        refine run_ret ?_
        exact end1 rfl rfl (by rw [evE_3 hid (by omega) g26'])
      · have g26' := g26
        try simp only [decide_eq_true_eq, decide_eq_false_iff_not, beq_iff_eq, beq_eq_false_iff_ne, bne_iff_ne, bne_eq_false_iff_eq, Bool.not_eq_true', Bool.not_eq_false', ne_eq, Int.not_lt, Int.not_le, Decidable.not_not] at g26'
        refine run_skip ?_
        refine run_seq ?_
        refine run_seq ?_
        by_cases hv : isVal x.n.log x.n.dots
        · refine run_region ?_
          refine run_q (.none rfl) rfl rfl (q_fieldB (d := 2) rfl Try.underlying78 rfl rfl sz3 rfl) ?_
          refine run_q (.none rfl) rfl rfl (q_loadB rfl one3 rfl (.there Sel.here) rfl) ?_
          refine run_q (.none rfl) rfl rfl (q_neq rfl rfl rfl) ?_
          refine run_q (.none rfl) rfl rfl (q_move rfl rfl) ?_
          refine run_split 30 rfl (fun g30 => ?_) (fun g30 => ?_)
          · have g30' := g30
            try simp only [decide_eq_true_eq, decide_eq_false_iff_not, beq_iff_eq, beq_eq_false_iff_ne, bne_iff_ne, bne_eq_false_iff_eq, Bool.not_eq_true', Bool.not_eq_false', ne_eq, Int.not_lt, Int.not_le, Decidable.not_not] at g30'
            refine run_q (.on rfl rfl rfl g30) rfl rfl (q_fieldB (d := 3) rfl Try.underlying78 rfl rfl sz73 rfl) ?_
            refine run_q (.on rfl rfl rfl g30) rfl rfl (q_loadBN rfl agg73 rfl (.there Sel.here) (.cons rfl (.cons rfl CellsAt.nil)) rfl) ?_
            refine run_q (.on rfl rfl rfl g30) rfl rfl (q_call rfl call61 (.cons rfl Evs.nil) (fun w hk hm => durCheck_just x.n.log x.n.dots w)) ?_
            refine run_q (.on rfl rfl rfl g30) rfl rfl (q_neq rfl rfl rfl) ?_
            refine run_q (.none rfl) rfl rfl (q_pickT rfl rfl g30 rfl) ?_
            refine run_nil ?_
            refine run_sub (subMk (.cons (s := 1) rfl (.cons (s := 2) rfl (.cons (s := 35) rfl .nil))) .refl) ?_
            refine run_condF rfl (by rw [if_pos hv]; rfl) ?_
            refine run_skip ?_
            refine run_seq ?_
            refine run_seq ?_
            refine run_region ?_
            refine run_q (.none rfl) rfl rfl (q_fieldB (d := 2) rfl Try.underlying78 rfl rfl sz3 rfl) ?_
            refine run_q (.none rfl) rfl rfl (q_loadB rfl one3 rfl (.there Sel.here) rfl) ?_
            refine run_q (.none rfl) rfl rfl (q_eql rfl rfl rfl) ?_
            refine run_nil ?_
            refine run_sub (subMk (.cons (s := 1) rfl (.cons (s := 2) rfl (.cons (s := 38) rfl .nil))) .refl) ?_
            refine run_cond rfl (fun g38 => ?_) (fun g38 => ?_)
            · have g38' := g38
              try simp only [decide_eq_true_eq, decide_eq_false_iff_not, beq_iff_eq, beq_eq_false_iff_ne, bne_iff_ne, bne_eq_false_iff_eq, Bool.not_eq_true', Bool.not_eq_false', ne_eq, Int.not_lt, Int.not_le, Decidable.not_not] at g38'
              refine run_seq ?_
              refine run_draw [(0, 0), (1, 0), (2, 0), (3, 0), (4, 0), (5, 0), (6, 0), (7, 0), (8, 0), (9, 2), (10, 2), (11, 2)] mixed (by kernel_rfl) .refl ?_
              refine d_q rfl rfl (.none rfl) rfl rfl (q_fieldB (d := 5) rfl Try.underlying78 rfl rfl sz74 rfl) ?_
              refine d_q rfl rfl (.none rfl) rfl rfl (q_loadB rfl one74 rfl (.there Sel.here) rfl) ?_
              refine d_q rfl rfl (.none rfl) rfl rfl (q_call rfl call62 (.cons rfl Evs.nil) (fun w hk hm => heads_just x.hs p.HA p.hc w (hx.h.kept0 hk) fx1)) ?_
              refine d_q rfl rfl (.none rfl) rfl rfl (q_fieldB (d := 6) rfl Try.underlying78 rfl rfl sz75 rfl) ?_
              refine d_q rfl rfl (.none rfl) rfl rfl (q_loadB rfl one75 rfl (.there Sel.here) rfl) ?_
              refine d_q rfl rfl (.none rfl) rfl rfl (q_call rfl call63 (.cons rfl Evs.nil) (fun w hk hm => graces_just x.gs p.GA p.gc w (hx.g.kept0 hk) fx2)) ?_
              refine d_q rfl rfl (.none rfl) rfl rfl (q_fieldB (d := 10) rfl Try.underlying78 rfl rfl sz76 rfl) ?_
              refine d_q rfl rfl (.none rfl) rfl rfl (q_loadB rfl one76 rfl (.there Sel.here) rfl) ?_
              refine d_q rfl rfl (.none rfl) rfl rfl (q_call rfl call64 (.cons rfl Evs.nil) (fun w hk hm => lyrics_just x.ls p.LA p.lc w (hx.l.kept0 hk) fx3)) ?_
              refine d_t rfl rfl (.none rfl) (h_buildSlice rfl rfl rfl Try.underlying147 info27 (.cons rfl rfl rfl rfl (.cons rfl rfl rfl rfl (.cons rfl rfl rfl rfl Parts.nil))) rfl (by omega)) ?_
              rintro b48 -
              refine d_t rfl rfl (.none rfl) (.of_q rfl rfl (q_call rfl call56 (.cons rfl Evs.nil) (fun w hk hm => first_just [headsE x.hs, gracesE x.gs, lyricsE x.ls] (some ⟨b48, 0, none⟩) 3 w (own_rd (Sel.here.holds hm)) (by simp)))) ?_
              rintro - -
              refine d_t rfl rfl (.none rfl) (.of_q rfl rfl (q_assign rfl rfl)) ?_
              rintro - -
              refine d_nil ?_
              refine run_sub (subMk (.cons (s := 1) rfl (.cons (s := 2) rfl (.cons (s := 4) rfl .nil))) .refl) ?_
              refine run_seq ?_
              by_cases hp : partsE x = 0
              · refine run_sub (subMk (.cons (s := 1) rfl (.cons (s := 2) rfl (.cons' (s := 4) (v' := .int .i64 (partsE x)) rfl (vint (parts_fst0 x)) .nil))) .refl) ?_
                refine run_region ?_
                refine run_q (.none rfl) rfl rfl (q_move rfl rfl) ?_
                refine run_q (.none rfl) rfl rfl (q_neq rfl rfl rfl) ?_
                refine run_nil ?_
                refine run_condF rfl (by rw [hp]; rfl) ?_
                refine run_skip ?_
                refine run_seq ?_
                refine run_draw [(0, 0), (1, 0), (2, 0), (3, 0), (4, 0), (5, 0), (6, 0), (7, 0), (8, 0), (9, 0), (10, 0), (11, 0), (12, 0), (13, 0), (14, 0), (15, 2), (16, 2), (17, 2)] mixed (by kernel_rfl) .refl ?_
                refine d_q rfl rfl (.none rfl) rfl rfl (q_fieldB (d := 7) rfl Try.underlying78 rfl rfl sz3 rfl) ?_
                refine d_q rfl rfl (.none rfl) rfl rfl (q_loadB rfl one3 rfl (.there (.there Sel.here)) rfl) ?_
                refine d_q rfl rfl (.none rfl) rfl rfl (q_call rfl call57 (.cons rfl (.cons rfl Evs.nil)) (fun w hk hm => within_just _ _ w)) ?_
                refine d_q rfl rfl (.none rfl) rfl rfl (q_fieldB (d := 8) rfl Try.underlying78 rfl rfl sz3 rfl) ?_
                refine d_q rfl rfl (.none rfl) rfl rfl (q_loadB rfl one3 rfl (.there (.there Sel.here)) rfl) ?_
                refine d_q rfl rfl (.none rfl) rfl rfl (q_call rfl call57 (.cons rfl (.cons rfl Evs.nil)) (fun w hk hm => within_just _ _ w)) ?_
                refine d_q rfl rfl (.none rfl) rfl rfl (q_fieldB (d := 9) rfl Try.underlying78 rfl rfl sz3 rfl) ?_
                refine d_q rfl rfl (.none rfl) rfl rfl (q_loadB rfl one3 rfl (.there (.there Sel.here)) rfl) ?_
                refine d_q rfl rfl (.none rfl) rfl rfl (q_call rfl call57 (.cons rfl (.cons rfl Evs.nil)) (fun w hk hm => within_just _ _ w)) ?_
                refine d_q rfl rfl (.none rfl) rfl rfl (q_fieldB (d := 11) rfl Try.underlying78 rfl rfl sz3 rfl) ?_
                refine d_q rfl rfl (.none rfl) rfl rfl (q_loadB rfl one3 rfl (.there (.there Sel.here)) rfl) ?_
                refine d_q rfl rfl (.none rfl) rfl rfl (q_call rfl call57 (.cons rfl (.cons rfl Evs.nil)) (fun w hk hm => within_just _ _ w)) ?_
                refine d_q rfl rfl (.none rfl) rfl rfl (q_fieldB (d := 12) rfl Try.underlying78 rfl rfl sz3 rfl) ?_
                refine d_q rfl rfl (.none rfl) rfl rfl (q_loadB rfl one3 rfl (.there (.there Sel.here)) rfl) ?_
                refine d_q rfl rfl (.none rfl) rfl rfl (q_call rfl call57 (.cons rfl (.cons rfl Evs.nil)) (fun w hk hm => within_just _ _ w)) ?_
                refine d_t rfl rfl (.none rfl) (h_buildSlice rfl rfl rfl Try.underlying147 info27 (.cons rfl rfl rfl rfl (.cons rfl rfl rfl rfl (.cons rfl rfl rfl rfl (.cons rfl rfl rfl rfl (.cons rfl rfl rfl rfl Parts.nil))))) rfl (by omega)) ?_
                rintro b68 -
                refine d_t rfl rfl (.none rfl) (.of_q rfl rfl (q_call rfl call56 (.cons rfl Evs.nil) (fun w hk hm => first_just [if x.n.art < 0 ∨ 31 < x.n.art then 2 else 0, if x.n.orn < 0 ∨ 4 < x.n.orn then 2 else 0, if x.n.dyn < 0 ∨ 9 < x.n.dyn then 2 else 0, if x.n.stem < 0 ∨ 2 < x.n.stem then 2 else 0, if x.n.beam < 0 ∨ 2 < x.n.beam then 2 else 0] (some ⟨b68, 0, none⟩) 5 w (own_rd (Sel.here.holds hm)) (by simp)))) ?_
                rintro - -
                refine d_t rfl rfl (.none rfl) (.of_q rfl rfl (q_assign rfl rfl)) ?_
                rintro - -
                refine d_nil ?_
                refine run_sub (subMk (.cons (s := 2) rfl .nil) .refl) ?_
                refine run_ret ?_
                exact end1 rfl rfl (by rw [evE_6 hid (by omega) g26' (fun h => h.2 hv) (fun h => h.2 hp)]; exact vint (tail_fst0 x.n))
              · refine run_sub (subMk (.cons (s := 1) rfl (.cons (s := 2) rfl (.cons' (s := 4) (v' := .int .i64 (partsE x)) rfl (vint (parts_fst0 x)) .nil))) .refl) ?_
                refine run_region ?_
                refine run_q (.none rfl) rfl rfl (q_move rfl rfl) ?_
                refine run_q (.none rfl) rfl rfl (q_neq rfl rfl rfl) ?_
                refine run_nil ?_
                refine run_condT rfl (bne_iff_ne.2 hp) ?_
                refine run_seq ?_
                refine run_region ?_
                refine run_q (.none rfl) rfl rfl (q_move rfl rfl) ?_
                refine run_q (.none rfl) rfl rfl (q_assign rfl rfl) ?_
                refine run_nil ?_
                refine run_sub (subMk (.cons (s := 1) rfl (.cons (s := 2) rfl .nil)) .refl) ?_
                refine run_ret ?_
                exact end1 rfl rfl (by rw [evE_5 hid (by omega) g26' (fun h => h.2 hv) ⟨g38', hp⟩])
            · have g38' := g38
              try simp only [decide_eq_true_eq, decide_eq_false_iff_not, beq_iff_eq, beq_eq_false_iff_ne, bne_iff_ne, bne_eq_false_iff_eq, Bool.not_eq_true', Bool.not_eq_false', ne_eq, Int.not_lt, Int.not_le, Decidable.not_not] at g38'
              refine run_skip ?_
              refine run_seq ?_
              refine run_draw [(0, 0), (1, 0), (2, 0), (3, 0), (4, 0), (5, 0), (6, 0), (7, 0), (8, 0), (9, 0), (10, 0), (11, 0), (12, 0), (13, 0), (14, 0), (15, 2), (16, 2), (17, 2)] mixed (by kernel_rfl) .refl ?_
              refine d_q rfl rfl (.none rfl) rfl rfl (q_fieldB (d := 7) rfl Try.underlying78 rfl rfl sz3 rfl) ?_
              refine d_q rfl rfl (.none rfl) rfl rfl (q_loadB rfl one3 rfl (.there Sel.here) rfl) ?_
              refine d_q rfl rfl (.none rfl) rfl rfl (q_call rfl call57 (.cons rfl (.cons rfl Evs.nil)) (fun w hk hm => within_just _ _ w)) ?_
              refine d_q rfl rfl (.none rfl) rfl rfl (q_fieldB (d := 8) rfl Try.underlying78 rfl rfl sz3 rfl) ?_
              refine d_q rfl rfl (.none rfl) rfl rfl (q_loadB rfl one3 rfl (.there Sel.here) rfl) ?_
              refine d_q rfl rfl (.none rfl) rfl rfl (q_call rfl call57 (.cons rfl (.cons rfl Evs.nil)) (fun w hk hm => within_just _ _ w)) ?_
              refine d_q rfl rfl (.none rfl) rfl rfl (q_fieldB (d := 9) rfl Try.underlying78 rfl rfl sz3 rfl) ?_
              refine d_q rfl rfl (.none rfl) rfl rfl (q_loadB rfl one3 rfl (.there Sel.here) rfl) ?_
              refine d_q rfl rfl (.none rfl) rfl rfl (q_call rfl call57 (.cons rfl (.cons rfl Evs.nil)) (fun w hk hm => within_just _ _ w)) ?_
              refine d_q rfl rfl (.none rfl) rfl rfl (q_fieldB (d := 11) rfl Try.underlying78 rfl rfl sz3 rfl) ?_
              refine d_q rfl rfl (.none rfl) rfl rfl (q_loadB rfl one3 rfl (.there Sel.here) rfl) ?_
              refine d_q rfl rfl (.none rfl) rfl rfl (q_call rfl call57 (.cons rfl (.cons rfl Evs.nil)) (fun w hk hm => within_just _ _ w)) ?_
              refine d_q rfl rfl (.none rfl) rfl rfl (q_fieldB (d := 12) rfl Try.underlying78 rfl rfl sz3 rfl) ?_
              refine d_q rfl rfl (.none rfl) rfl rfl (q_loadB rfl one3 rfl (.there Sel.here) rfl) ?_
              refine d_q rfl rfl (.none rfl) rfl rfl (q_call rfl call57 (.cons rfl (.cons rfl Evs.nil)) (fun w hk hm => within_just _ _ w)) ?_
              refine d_t rfl rfl (.none rfl) (h_buildSlice rfl rfl rfl Try.underlying147 info27 (.cons rfl rfl rfl rfl (.cons rfl rfl rfl rfl (.cons rfl rfl rfl rfl (.cons rfl rfl rfl rfl (.cons rfl rfl rfl rfl Parts.nil))))) rfl (by omega)) ?_
              rintro b68 -
              refine d_t rfl rfl (.none rfl) (.of_q rfl rfl (q_call rfl call56 (.cons rfl Evs.nil) (fun w hk hm => first_just [if x.n.art < 0 ∨ 31 < x.n.art then 2 else 0, if x.n.orn < 0 ∨ 4 < x.n.orn then 2 else 0, if x.n.dyn < 0 ∨ 9 < x.n.dyn then 2 else 0, if x.n.stem < 0 ∨ 2 < x.n.stem then 2 else 0, if x.n.beam < 0 ∨ 2 < x.n.beam then 2 else 0] (some ⟨b68, 0, none⟩) 5 w (own_rd (Sel.here.holds hm)) (by simp)))) ?_
              rintro - -
              refine d_t rfl rfl (.none rfl) (.of_q rfl rfl (q_assign rfl rfl)) ?_
              rintro - -
              refine d_nil ?_
              refine run_sub (subMk (.cons (s := 2) rfl .nil) .refl) ?_
              refine run_ret ?_
              exact end1 rfl rfl (by rw [evE_6 hid (by omega) g26' (fun h => h.2 hv) (fun h => g38' h.1)]; exact vint (tail_fst0 x.n))
          · have g30' := g30
            try simp only [decide_eq_true_eq, decide_eq_false_iff_not, beq_iff_eq, beq_eq_false_iff_ne, bne_iff_ne, bne_eq_false_iff_eq, Bool.not_eq_true', Bool.not_eq_false', ne_eq, Int.not_lt, Int.not_le, Decidable.not_not] at g30'
            refine run_off (.no rfl rfl rfl g30) rfl rfl ?_
            refine run_off (.no rfl rfl rfl g30) rfl rfl ?_
            refine run_off (.no rfl rfl rfl g30) rfl rfl ?_
            refine run_off (.no rfl rfl rfl g30) rfl rfl ?_
            refine run_q (.none rfl) rfl rfl (q_pickF rfl rfl g30 rfl) ?_
            refine run_nil ?_
            refine run_sub (subMk (.cons (s := 1) rfl (.cons (s := 2) rfl (.cons (s := 35) rfl .nil))) .refl) ?_
            refine run_condF rfl rfl ?_
            refine run_skip ?_
            refine run_seq ?_
            refine run_seq ?_
            refine run_region ?_
            refine run_q (.none rfl) rfl rfl (q_fieldB (d := 2) rfl Try.underlying78 rfl rfl sz3 rfl) ?_
            refine run_q (.none rfl) rfl rfl (q_loadB rfl one3 rfl (.there Sel.here) rfl) ?_
            refine run_q (.none rfl) rfl rfl (q_eql rfl rfl rfl) ?_
            refine run_nil ?_
            refine run_sub (subMk (.cons (s := 1) rfl (.cons (s := 2) rfl (.cons (s := 38) rfl .nil))) .refl) ?_
            refine run_cond rfl (fun g38 => ?_) (fun g38 => ?_)
            · have g38' := g38
              try simp only [decide_eq_true_eq, decide_eq_false_iff_not, beq_iff_eq, beq_eq_false_iff_ne, bne_iff_ne, bne_eq_false_iff_eq, Bool.not_eq_true', Bool.not_eq_false', ne_eq, Int.not_lt, Int.not_le, Decidable.not_not] at g38'
              refine run_seq ?_
              refine run_draw [(0, 0), (1, 0), (2, 0), (3, 0), (4, 0), (5, 0), (6, 0), (7, 0), (8, 0), (9, 2), (10, 2), (11, 2)] mixed (by kernel_rfl) .refl ?_
              refine d_q rfl rfl (.none rfl) rfl rfl (q_fieldB (d := 5) rfl Try.underlying78 rfl rfl sz74 rfl) ?_
              refine d_q rfl rfl (.none rfl) rfl rfl (q_loadB rfl one74 rfl (.there Sel.here) rfl) ?_
              refine d_q rfl rfl (.none rfl) rfl rfl (q_call rfl call62 (.cons rfl Evs.nil) (fun w hk hm => heads_just x.hs p.HA p.hc w (hx.h.kept0 hk) fx1)) ?_
              refine d_q rfl rfl (.none rfl) rfl rfl (q_fieldB (d := 6) rfl Try.underlying78 rfl rfl sz75 rfl) ?_
              refine d_q rfl rfl (.none rfl) rfl rfl (q_loadB rfl one75 rfl (.there Sel.here) rfl) ?_
              refine d_q rfl rfl (.none rfl) rfl rfl (q_call rfl call63 (.cons rfl Evs.nil) (fun w hk hm => graces_just x.gs p.GA p.gc w (hx.g.kept0 hk) fx2)) ?_
              refine d_q rfl rfl (.none rfl) rfl rfl (q_fieldB (d := 10) rfl Try.underlying78 rfl rfl sz76 rfl) ?_
              refine d_q rfl rfl (.none rfl) rfl rfl (q_loadB rfl one76 rfl (.there Sel.here) rfl) ?_
              refine d_q rfl rfl (.none rfl) rfl rfl (q_call rfl call64 (.cons rfl Evs.nil) (fun w hk hm => lyrics_just x.ls p.LA p.lc w (hx.l.kept0 hk) fx3)) ?_
              refine d_t rfl rfl (.none rfl) (h_buildSlice rfl rfl rfl Try.underlying147 info27 (.cons rfl rfl rfl rfl (.cons rfl rfl rfl rfl (.cons rfl rfl rfl rfl Parts.nil))) rfl (by omega)) ?_
              rintro b48 -
              refine d_t rfl rfl (.none rfl) (.of_q rfl rfl (q_call rfl call56 (.cons rfl Evs.nil) (fun w hk hm => first_just [headsE x.hs, gracesE x.gs, lyricsE x.ls] (some ⟨b48, 0, none⟩) 3 w (own_rd (Sel.here.holds hm)) (by simp)))) ?_
              rintro - -
              refine d_t rfl rfl (.none rfl) (.of_q rfl rfl (q_assign rfl rfl)) ?_
              rintro - -
              refine d_nil ?_
              refine run_sub (subMk (.cons (s := 1) rfl (.cons (s := 2) rfl (.cons (s := 4) rfl .nil))) .refl) ?_
              refine run_seq ?_
              by_cases hp : partsE x = 0
              · refine run_sub (subMk (.cons (s := 1) rfl (.cons (s := 2) rfl (.cons' (s := 4) (v' := .int .i64 (partsE x)) rfl (vint (parts_fst0 x)) .nil))) .refl) ?_
                refine run_region ?_
                refine run_q (.none rfl) rfl rfl (q_move rfl rfl) ?_
                refine run_q (.none rfl) rfl rfl (q_neq rfl rfl rfl) ?_
                refine run_nil ?_
                refine run_condF rfl (by rw [hp]; rfl) ?_
                refine run_skip ?_
                refine run_seq ?_
                refine run_draw [(0, 0), (1, 0), (2, 0), (3, 0), (4, 0), (5, 0), (6, 0), (7, 0), (8, 0), (9, 0), (10, 0), (11, 0), (12, 0), (13, 0), (14, 0), (15, 2), (16, 2), (17, 2)] mixed (by kernel_rfl) .refl ?_
                refine d_q rfl rfl (.none rfl) rfl rfl (q_fieldB (d := 7) rfl Try.underlying78 rfl rfl sz3 rfl) ?_
                refine d_q rfl rfl (.none rfl) rfl rfl (q_loadB rfl one3 rfl (.there (.there Sel.here)) rfl) ?_
                refine d_q rfl rfl (.none rfl) rfl rfl (q_call rfl call57 (.cons rfl (.cons rfl Evs.nil)) (fun w hk hm => within_just _ _ w)) ?_
                refine d_q rfl rfl (.none rfl) rfl rfl (q_fieldB (d := 8) rfl Try.underlying78 rfl rfl sz3 rfl) ?_
                refine d_q rfl rfl (.none rfl) rfl rfl (q_loadB rfl one3 rfl (.there (.there Sel.here)) rfl) ?_
                refine d_q rfl rfl (.none rfl) rfl rfl (q_call rfl call57 (.cons rfl (.cons rfl Evs.nil)) (fun w hk hm => within_just _ _ w)) ?_
                refine d_q rfl rfl (.none rfl) rfl rfl (q_fieldB (d := 9) rfl Try.underlying78 rfl rfl sz3 rfl) ?_
                refine d_q rfl rfl (.none rfl) rfl rfl (q_loadB rfl one3 rfl (.there (.there Sel.here)) rfl) ?_
                refine d_q rfl rfl (.none rfl) rfl rfl (q_call rfl call57 (.cons rfl (.cons rfl Evs.nil)) (fun w hk hm => within_just _ _ w)) ?_
                refine d_q rfl rfl (.none rfl) rfl rfl (q_fieldB (d := 11) rfl Try.underlying78 rfl rfl sz3 rfl) ?_
                refine d_q rfl rfl (.none rfl) rfl rfl (q_loadB rfl one3 rfl (.there (.there Sel.here)) rfl) ?_
                refine d_q rfl rfl (.none rfl) rfl rfl (q_call rfl call57 (.cons rfl (.cons rfl Evs.nil)) (fun w hk hm => within_just _ _ w)) ?_
                refine d_q rfl rfl (.none rfl) rfl rfl (q_fieldB (d := 12) rfl Try.underlying78 rfl rfl sz3 rfl) ?_
                refine d_q rfl rfl (.none rfl) rfl rfl (q_loadB rfl one3 rfl (.there (.there Sel.here)) rfl) ?_
                refine d_q rfl rfl (.none rfl) rfl rfl (q_call rfl call57 (.cons rfl (.cons rfl Evs.nil)) (fun w hk hm => within_just _ _ w)) ?_
                refine d_t rfl rfl (.none rfl) (h_buildSlice rfl rfl rfl Try.underlying147 info27 (.cons rfl rfl rfl rfl (.cons rfl rfl rfl rfl (.cons rfl rfl rfl rfl (.cons rfl rfl rfl rfl (.cons rfl rfl rfl rfl Parts.nil))))) rfl (by omega)) ?_
                rintro b68 -
                refine d_t rfl rfl (.none rfl) (.of_q rfl rfl (q_call rfl call56 (.cons rfl Evs.nil) (fun w hk hm => first_just [if x.n.art < 0 ∨ 31 < x.n.art then 2 else 0, if x.n.orn < 0 ∨ 4 < x.n.orn then 2 else 0, if x.n.dyn < 0 ∨ 9 < x.n.dyn then 2 else 0, if x.n.stem < 0 ∨ 2 < x.n.stem then 2 else 0, if x.n.beam < 0 ∨ 2 < x.n.beam then 2 else 0] (some ⟨b68, 0, none⟩) 5 w (own_rd (Sel.here.holds hm)) (by simp)))) ?_
                rintro - -
                refine d_t rfl rfl (.none rfl) (.of_q rfl rfl (q_assign rfl rfl)) ?_
                rintro - -
                refine d_nil ?_
                refine run_sub (subMk (.cons (s := 2) rfl .nil) .refl) ?_
                refine run_ret ?_
                exact end1 rfl rfl (by rw [evE_6 hid (by omega) g26' (fun h => h.1 g30') (fun h => h.2 hp)]; exact vint (tail_fst0 x.n))
              · refine run_sub (subMk (.cons (s := 1) rfl (.cons (s := 2) rfl (.cons' (s := 4) (v' := .int .i64 (partsE x)) rfl (vint (parts_fst0 x)) .nil))) .refl) ?_
                refine run_region ?_
                refine run_q (.none rfl) rfl rfl (q_move rfl rfl) ?_
                refine run_q (.none rfl) rfl rfl (q_neq rfl rfl rfl) ?_
                refine run_nil ?_
                refine run_condT rfl (bne_iff_ne.2 hp) ?_
                refine run_seq ?_
                refine run_region ?_
                refine run_q (.none rfl) rfl rfl (q_move rfl rfl) ?_
                refine run_q (.none rfl) rfl rfl (q_assign rfl rfl) ?_
                refine run_nil ?_
                refine run_sub (subMk (.cons (s := 1) rfl (.cons (s := 2) rfl .nil)) .refl) ?_
                refine run_ret ?_
                exact end1 rfl rfl (by rw [evE_5 hid (by omega) g26' (fun h => h.1 g30') ⟨g38', hp⟩])
            · have g38' := g38
              try simp only [decide_eq_true_eq, decide_eq_false_iff_not, beq_iff_eq, beq_eq_false_iff_ne, bne_iff_ne, bne_eq_false_iff_eq, Bool.not_eq_true', Bool.not_eq_false', ne_eq, Int.not_lt, Int.not_le, Decidable.not_not] at g38'
              refine run_skip ?_
              refine run_seq ?_
              refine run_draw [(0, 0), (1, 0), (2, 0), (3, 0), (4, 0), (5, 0), (6, 0), (7, 0), (8, 0), (9, 0), (10, 0), (11, 0), (12, 0), (13, 0), (14, 0), (15, 2), (16, 2), (17, 2)] mixed (by kernel_rfl) .refl ?_
              refine d_q rfl rfl (.none rfl) rfl rfl (q_fieldB (d := 7) rfl Try.underlying78 rfl rfl sz3 rfl) ?_
              refine d_q rfl rfl (.none rfl) rfl rfl (q_loadB rfl one3 rfl (.there Sel.here) rfl) ?_
              refine d_q rfl rfl (.none rfl) rfl rfl (q_call rfl call57 (.cons rfl (.cons rfl Evs.nil)) (fun w hk hm => within_just _ _ w)) ?_
              refine d_q rfl rfl (.none rfl) rfl rfl (q_fieldB (d := 8) rfl Try.underlying78 rfl rfl sz3 rfl) ?_
              refine d_q rfl rfl (.none rfl) rfl rfl (q_loadB rfl one3 rfl (.there Sel.here) rfl) ?_
              refine d_q rfl rfl (.none rfl) rfl rfl (q_call rfl call57 (.cons rfl (.cons rfl Evs.nil)) (fun w hk hm => within_just _ _ w)) ?_
              refine d_q rfl rfl (.none rfl) rfl rfl (q_fieldB (d := 9) rfl Try.underlying78 rfl rfl sz3 rfl) ?_
              refine d_q rfl rfl (.none rfl) rfl rfl (q_loadB rfl one3 rfl (.there Sel.here) rfl) ?_
              refine d_q rfl rfl (.none rfl) rfl rfl (q_call rfl call57 (.cons rfl (.cons rfl Evs.nil)) (fun w hk hm => within_just _ _ w)) ?_
              refine d_q rfl rfl (.none rfl) rfl rfl (q_fieldB (d := 11) rfl Try.underlying78 rfl rfl sz3 rfl) ?_
              refine d_q rfl rfl (.none rfl) rfl rfl (q_loadB rfl one3 rfl (.there Sel.here) rfl) ?_
              refine d_q rfl rfl (.none rfl) rfl rfl (q_call rfl call57 (.cons rfl (.cons rfl Evs.nil)) (fun w hk hm => within_just _ _ w)) ?_
              refine d_q rfl rfl (.none rfl) rfl rfl (q_fieldB (d := 12) rfl Try.underlying78 rfl rfl sz3 rfl) ?_
              refine d_q rfl rfl (.none rfl) rfl rfl (q_loadB rfl one3 rfl (.there Sel.here) rfl) ?_
              refine d_q rfl rfl (.none rfl) rfl rfl (q_call rfl call57 (.cons rfl (.cons rfl Evs.nil)) (fun w hk hm => within_just _ _ w)) ?_
              refine d_t rfl rfl (.none rfl) (h_buildSlice rfl rfl rfl Try.underlying147 info27 (.cons rfl rfl rfl rfl (.cons rfl rfl rfl rfl (.cons rfl rfl rfl rfl (.cons rfl rfl rfl rfl (.cons rfl rfl rfl rfl Parts.nil))))) rfl (by omega)) ?_
              rintro b68 -
              refine d_t rfl rfl (.none rfl) (.of_q rfl rfl (q_call rfl call56 (.cons rfl Evs.nil) (fun w hk hm => first_just [if x.n.art < 0 ∨ 31 < x.n.art then 2 else 0, if x.n.orn < 0 ∨ 4 < x.n.orn then 2 else 0, if x.n.dyn < 0 ∨ 9 < x.n.dyn then 2 else 0, if x.n.stem < 0 ∨ 2 < x.n.stem then 2 else 0, if x.n.beam < 0 ∨ 2 < x.n.beam then 2 else 0] (some ⟨b68, 0, none⟩) 5 w (own_rd (Sel.here.holds hm)) (by simp)))) ?_
              rintro - -
              refine d_t rfl rfl (.none rfl) (.of_q rfl rfl (q_assign rfl rfl)) ?_
              rintro - -
              refine d_nil ?_
              refine run_sub (subMk (.cons (s := 2) rfl .nil) .refl) ?_
              refine run_ret ?_
              exact end1 rfl rfl (by rw [evE_6 hid (by omega) g26' (fun h => h.1 g30') (fun h => g38' h.1)]; exact vint (tail_fst0 x.n))
        · refine run_region ?_
          refine run_q (.none rfl) rfl rfl (q_fieldB (d := 2) rfl Try.underlying78 rfl rfl sz3 rfl) ?_
          refine run_q (.none rfl) rfl rfl (q_loadB rfl one3 rfl (.there Sel.here) rfl) ?_
          refine run_q (.none rfl) rfl rfl (q_neq rfl rfl rfl) ?_
          refine run_q (.none rfl) rfl rfl (q_move rfl rfl) ?_
          refine run_split 30 rfl (fun g30 => ?_) (fun g30 => ?_)
          · have g30' := g30
            try simp only [decide_eq_true_eq, decide_eq_false_iff_not, beq_iff_eq, beq_eq_false_iff_ne, bne_iff_ne, bne_eq_false_iff_eq, Bool.not_eq_true', Bool.not_eq_false', ne_eq, Int.not_lt, Int.not_le, Decidable.not_not] at g30'
            refine run_q (.on rfl rfl rfl g30) rfl rfl (q_fieldB (d := 3) rfl Try.underlying78 rfl rfl sz73 rfl) ?_
            refine run_q (.on rfl rfl rfl g30) rfl rfl (q_loadBN rfl agg73 rfl (.there Sel.here) (.cons rfl (.cons rfl CellsAt.nil)) rfl) ?_
            refine run_q (.on rfl rfl rfl g30) rfl rfl (q_call rfl call61 (.cons rfl Evs.nil) (fun w hk hm => durCheck_just x.n.log x.n.dots w)) ?_
            refine run_q (.on rfl rfl rfl g30) rfl rfl (q_neq rfl rfl rfl) ?_
            refine run_q (.none rfl) rfl rfl (q_pickT rfl rfl g30 rfl) ?_
            refine run_nil ?_
            refine run_sub (subMk (.cons (s := 1) rfl (.cons (s := 2) rfl (.cons (s := 35) rfl .nil))) .refl) ?_
            refine run_condT rfl (by rw [if_neg hv]; rfl) ?_
            refine run_seq ?_
            refine run_region ?_
            refine run_q (.none rfl) rfl rfl (q_assign rfl rfl) ?_
            refine run_nil ?_
            refine run_ret ?_
            exact end1 rfl rfl (by rw [evE_4 hid (by omega) g26' ⟨g30', hv⟩])
          · have g30' := g30
            try simp only [decide_eq_true_eq, decide_eq_false_iff_not, beq_iff_eq, beq_eq_false_iff_ne, bne_iff_ne, bne_eq_false_iff_eq, Bool.not_eq_true', Bool.not_eq_false', ne_eq, Int.not_lt, Int.not_le, Decidable.not_not] at g30'
            refine run_off (.no rfl rfl rfl g30) rfl rfl ?_
            refine run_off (.no rfl rfl rfl g30) rfl rfl ?_
            refine run_off (.no rfl rfl rfl g30) rfl rfl ?_
            refine run_off (.no rfl rfl rfl g30) rfl rfl ?_
            refine run_q (.none rfl) rfl rfl (q_pickF rfl rfl g30 rfl) ?_
            refine run_nil ?_
            refine run_sub (subMk (.cons (s := 1) rfl (.cons (s := 2) rfl (.cons (s := 35) rfl .nil))) .refl) ?_
            refine run_condF rfl rfl ?_
            refine run_skip ?_
            refine run_seq ?_
            refine run_seq ?_
            refine run_region ?_
            refine run_q (.none rfl) rfl rfl (q_fieldB (d := 2) rfl Try.underlying78 rfl rfl sz3 rfl) ?_
            refine run_q (.none rfl) rfl rfl (q_loadB rfl one3 rfl (.there Sel.here) rfl) ?_
            refine run_q (.none rfl) rfl rfl (q_eql rfl rfl rfl) ?_
            refine run_nil ?_
            refine run_sub (subMk (.cons (s := 1) rfl (.cons (s := 2) rfl (.cons (s := 38) rfl .nil))) .refl) ?_
            refine run_cond rfl (fun g38 => ?_) (fun g38 => ?_)
            · have g38' := g38
              try simp only [decide_eq_true_eq, decide_eq_false_iff_not, beq_iff_eq, beq_eq_false_iff_ne, bne_iff_ne, bne_eq_false_iff_eq, Bool.not_eq_true', Bool.not_eq_false', ne_eq, Int.not_lt, Int.not_le, Decidable.not_not] at g38'
              refine run_seq ?_
              refine run_draw [(0, 0), (1, 0), (2, 0), (3, 0), (4, 0), (5, 0), (6, 0), (7, 0), (8, 0), (9, 2), (10, 2), (11, 2)] mixed (by kernel_rfl) .refl ?_
              refine d_q rfl rfl (.none rfl) rfl rfl (q_fieldB (d := 5) rfl Try.underlying78 rfl rfl sz74 rfl) ?_
              refine d_q rfl rfl (.none rfl) rfl rfl (q_loadB rfl one74 rfl (.there Sel.here) rfl) ?_
              refine d_q rfl rfl (.none rfl) rfl rfl (q_call rfl call62 (.cons rfl Evs.nil) (fun w hk hm => heads_just x.hs p.HA p.hc w (hx.h.kept0 hk) fx1)) ?_
              refine d_q rfl rfl (.none rfl) rfl rfl (q_fieldB (d := 6) rfl Try.underlying78 rfl rfl sz75 rfl) ?_
              refine d_q rfl rfl (.none rfl) rfl rfl (q_loadB rfl one75 rfl (.there Sel.here) rfl) ?_
              refine d_q rfl rfl (.none rfl) rfl rfl (q_call rfl call63 (.cons rfl Evs.nil) (fun w hk hm => graces_just x.gs p.GA p.gc w (hx.g.kept0 hk) fx2)) ?_
              refine d_q rfl rfl (.none rfl) rfl rfl (q_fieldB (d := 10) rfl Try.underlying78 rfl rfl sz76 rfl) ?_
              refine d_q rfl rfl (.none rfl) rfl rfl (q_loadB rfl one76 rfl (.there Sel.here) rfl) ?_
              refine d_q rfl rfl (.none rfl) rfl rfl (q_call rfl call64 (.cons rfl Evs.nil) (fun w hk hm => lyrics_just x.ls p.LA p.lc w (hx.l.kept0 hk) fx3)) ?_
              refine d_t rfl rfl (.none rfl) (h_buildSlice rfl rfl rfl Try.underlying147 info27 (.cons rfl rfl rfl rfl (.cons rfl rfl rfl rfl (.cons rfl rfl rfl rfl Parts.nil))) rfl (by omega)) ?_
              rintro b48 -
              refine d_t rfl rfl (.none rfl) (.of_q rfl rfl (q_call rfl call56 (.cons rfl Evs.nil) (fun w hk hm => first_just [headsE x.hs, gracesE x.gs, lyricsE x.ls] (some ⟨b48, 0, none⟩) 3 w (own_rd (Sel.here.holds hm)) (by simp)))) ?_
              rintro - -
              refine d_t rfl rfl (.none rfl) (.of_q rfl rfl (q_assign rfl rfl)) ?_
              rintro - -
              refine d_nil ?_
              refine run_sub (subMk (.cons (s := 1) rfl (.cons (s := 2) rfl (.cons (s := 4) rfl .nil))) .refl) ?_
              refine run_seq ?_
              by_cases hp : partsE x = 0
              · refine run_sub (subMk (.cons (s := 1) rfl (.cons (s := 2) rfl (.cons' (s := 4) (v' := .int .i64 (partsE x)) rfl (vint (parts_fst0 x)) .nil))) .refl) ?_
                refine run_region ?_
                refine run_q (.none rfl) rfl rfl (q_move rfl rfl) ?_
                refine run_q (.none rfl) rfl rfl (q_neq rfl rfl rfl) ?_
                refine run_nil ?_
                refine run_condF rfl (by rw [hp]; rfl) ?_
                refine run_skip ?_
                refine run_seq ?_
                refine run_draw [(0, 0), (1, 0), (2, 0), (3, 0), (4, 0), (5, 0), (6, 0), (7, 0), (8, 0), (9, 0), (10, 0), (11, 0), (12, 0), (13, 0), (14, 0), (15, 2), (16, 2), (17, 2)] mixed (by kernel_rfl) .refl ?_
                refine d_q rfl rfl (.none rfl) rfl rfl (q_fieldB (d := 7) rfl Try.underlying78 rfl rfl sz3 rfl) ?_
                refine d_q rfl rfl (.none rfl) rfl rfl (q_loadB rfl one3 rfl (.there (.there Sel.here)) rfl) ?_
                refine d_q rfl rfl (.none rfl) rfl rfl (q_call rfl call57 (.cons rfl (.cons rfl Evs.nil)) (fun w hk hm => within_just _ _ w)) ?_
                refine d_q rfl rfl (.none rfl) rfl rfl (q_fieldB (d := 8) rfl Try.underlying78 rfl rfl sz3 rfl) ?_
                refine d_q rfl rfl (.none rfl) rfl rfl (q_loadB rfl one3 rfl (.there (.there Sel.here)) rfl) ?_
                refine d_q rfl rfl (.none rfl) rfl rfl (q_call rfl call57 (.cons rfl (.cons rfl Evs.nil)) (fun w hk hm => within_just _ _ w)) ?_
                refine d_q rfl rfl (.none rfl) rfl rfl (q_fieldB (d := 9) rfl Try.underlying78 rfl rfl sz3 rfl) ?_
                refine d_q rfl rfl (.none rfl) rfl rfl (q_loadB rfl one3 rfl (.there (.there Sel.here)) rfl) ?_
                refine d_q rfl rfl (.none rfl) rfl rfl (q_call rfl call57 (.cons rfl (.cons rfl Evs.nil)) (fun w hk hm => within_just _ _ w)) ?_
                refine d_q rfl rfl (.none rfl) rfl rfl (q_fieldB (d := 11) rfl Try.underlying78 rfl rfl sz3 rfl) ?_
                refine d_q rfl rfl (.none rfl) rfl rfl (q_loadB rfl one3 rfl (.there (.there Sel.here)) rfl) ?_
                refine d_q rfl rfl (.none rfl) rfl rfl (q_call rfl call57 (.cons rfl (.cons rfl Evs.nil)) (fun w hk hm => within_just _ _ w)) ?_
                refine d_q rfl rfl (.none rfl) rfl rfl (q_fieldB (d := 12) rfl Try.underlying78 rfl rfl sz3 rfl) ?_
                refine d_q rfl rfl (.none rfl) rfl rfl (q_loadB rfl one3 rfl (.there (.there Sel.here)) rfl) ?_
                refine d_q rfl rfl (.none rfl) rfl rfl (q_call rfl call57 (.cons rfl (.cons rfl Evs.nil)) (fun w hk hm => within_just _ _ w)) ?_
                refine d_t rfl rfl (.none rfl) (h_buildSlice rfl rfl rfl Try.underlying147 info27 (.cons rfl rfl rfl rfl (.cons rfl rfl rfl rfl (.cons rfl rfl rfl rfl (.cons rfl rfl rfl rfl (.cons rfl rfl rfl rfl Parts.nil))))) rfl (by omega)) ?_
                rintro b68 -
                refine d_t rfl rfl (.none rfl) (.of_q rfl rfl (q_call rfl call56 (.cons rfl Evs.nil) (fun w hk hm => first_just [if x.n.art < 0 ∨ 31 < x.n.art then 2 else 0, if x.n.orn < 0 ∨ 4 < x.n.orn then 2 else 0, if x.n.dyn < 0 ∨ 9 < x.n.dyn then 2 else 0, if x.n.stem < 0 ∨ 2 < x.n.stem then 2 else 0, if x.n.beam < 0 ∨ 2 < x.n.beam then 2 else 0] (some ⟨b68, 0, none⟩) 5 w (own_rd (Sel.here.holds hm)) (by simp)))) ?_
                rintro - -
                refine d_t rfl rfl (.none rfl) (.of_q rfl rfl (q_assign rfl rfl)) ?_
                rintro - -
                refine d_nil ?_
                refine run_sub (subMk (.cons (s := 2) rfl .nil) .refl) ?_
                refine run_ret ?_
                exact end1 rfl rfl (by rw [evE_6 hid (by omega) g26' (fun h => h.1 g30') (fun h => h.2 hp)]; exact vint (tail_fst0 x.n))
              · refine run_sub (subMk (.cons (s := 1) rfl (.cons (s := 2) rfl (.cons' (s := 4) (v' := .int .i64 (partsE x)) rfl (vint (parts_fst0 x)) .nil))) .refl) ?_
                refine run_region ?_
                refine run_q (.none rfl) rfl rfl (q_move rfl rfl) ?_
                refine run_q (.none rfl) rfl rfl (q_neq rfl rfl rfl) ?_
                refine run_nil ?_
                refine run_condT rfl (bne_iff_ne.2 hp) ?_
                refine run_seq ?_
                refine run_region ?_
                refine run_q (.none rfl) rfl rfl (q_move rfl rfl) ?_
                refine run_q (.none rfl) rfl rfl (q_assign rfl rfl) ?_
                refine run_nil ?_
                refine run_sub (subMk (.cons (s := 1) rfl (.cons (s := 2) rfl .nil)) .refl) ?_
                refine run_ret ?_
                exact end1 rfl rfl (by rw [evE_5 hid (by omega) g26' (fun h => h.1 g30') ⟨g38', hp⟩])
            · have g38' := g38
              try simp only [decide_eq_true_eq, decide_eq_false_iff_not, beq_iff_eq, beq_eq_false_iff_ne, bne_iff_ne, bne_eq_false_iff_eq, Bool.not_eq_true', Bool.not_eq_false', ne_eq, Int.not_lt, Int.not_le, Decidable.not_not] at g38'
              refine run_skip ?_
              refine run_seq ?_
              refine run_draw [(0, 0), (1, 0), (2, 0), (3, 0), (4, 0), (5, 0), (6, 0), (7, 0), (8, 0), (9, 0), (10, 0), (11, 0), (12, 0), (13, 0), (14, 0), (15, 2), (16, 2), (17, 2)] mixed (by kernel_rfl) .refl ?_
              refine d_q rfl rfl (.none rfl) rfl rfl (q_fieldB (d := 7) rfl Try.underlying78 rfl rfl sz3 rfl) ?_
              refine d_q rfl rfl (.none rfl) rfl rfl (q_loadB rfl one3 rfl (.there Sel.here) rfl) ?_
              refine d_q rfl rfl (.none rfl) rfl rfl (q_call rfl call57 (.cons rfl (.cons rfl Evs.nil)) (fun w hk hm => within_just _ _ w)) ?_
              refine d_q rfl rfl (.none rfl) rfl rfl (q_fieldB (d := 8) rfl Try.underlying78 rfl rfl sz3 rfl) ?_
              refine d_q rfl rfl (.none rfl) rfl rfl (q_loadB rfl one3 rfl (.there Sel.here) rfl) ?_
              refine d_q rfl rfl (.none rfl) rfl rfl (q_call rfl call57 (.cons rfl (.cons rfl Evs.nil)) (fun w hk hm => within_just _ _ w)) ?_
              refine d_q rfl rfl (.none rfl) rfl rfl (q_fieldB (d := 9) rfl Try.underlying78 rfl rfl sz3 rfl) ?_
              refine d_q rfl rfl (.none rfl) rfl rfl (q_loadB rfl one3 rfl (.there Sel.here) rfl) ?_
              refine d_q rfl rfl (.none rfl) rfl rfl (q_call rfl call57 (.cons rfl (.cons rfl Evs.nil)) (fun w hk hm => within_just _ _ w)) ?_
              refine d_q rfl rfl (.none rfl) rfl rfl (q_fieldB (d := 11) rfl Try.underlying78 rfl rfl sz3 rfl) ?_
              refine d_q rfl rfl (.none rfl) rfl rfl (q_loadB rfl one3 rfl (.there Sel.here) rfl) ?_
              refine d_q rfl rfl (.none rfl) rfl rfl (q_call rfl call57 (.cons rfl (.cons rfl Evs.nil)) (fun w hk hm => within_just _ _ w)) ?_
              refine d_q rfl rfl (.none rfl) rfl rfl (q_fieldB (d := 12) rfl Try.underlying78 rfl rfl sz3 rfl) ?_
              refine d_q rfl rfl (.none rfl) rfl rfl (q_loadB rfl one3 rfl (.there Sel.here) rfl) ?_
              refine d_q rfl rfl (.none rfl) rfl rfl (q_call rfl call57 (.cons rfl (.cons rfl Evs.nil)) (fun w hk hm => within_just _ _ w)) ?_
              refine d_t rfl rfl (.none rfl) (h_buildSlice rfl rfl rfl Try.underlying147 info27 (.cons rfl rfl rfl rfl (.cons rfl rfl rfl rfl (.cons rfl rfl rfl rfl (.cons rfl rfl rfl rfl (.cons rfl rfl rfl rfl Parts.nil))))) rfl (by omega)) ?_
              rintro b68 -
              refine d_t rfl rfl (.none rfl) (.of_q rfl rfl (q_call rfl call56 (.cons rfl Evs.nil) (fun w hk hm => first_just [if x.n.art < 0 ∨ 31 < x.n.art then 2 else 0, if x.n.orn < 0 ∨ 4 < x.n.orn then 2 else 0, if x.n.dyn < 0 ∨ 9 < x.n.dyn then 2 else 0, if x.n.stem < 0 ∨ 2 < x.n.stem then 2 else 0, if x.n.beam < 0 ∨ 2 < x.n.beam then 2 else 0] (some ⟨b68, 0, none⟩) 5 w (own_rd (Sel.here.holds hm)) (by simp)))) ?_
              rintro - -
              refine d_t rfl rfl (.none rfl) (.of_q rfl rfl (q_assign rfl rfl)) ?_
              rintro - -
              refine d_nil ?_
              refine run_sub (subMk (.cons (s := 2) rfl .nil) .refl) ?_
              refine run_ret ?_
              exact end1 rfl rfl (by rw [evE_6 hid (by omega) g26' (fun h => h.1 g30') (fun h => g38' h.1)]; exact vint (tail_fst0 x.n))
  · refine run_sub (subMk (.cons (s := 1) rfl (.cons (s := 2) rfl (.cons' (s := 3) (v' := .int .i64 2) rfl (vint ((id_fst0 x.n).trans (if_neg hid))) .nil))) .refl) ?_
    refine run_region ?_
    refine run_q (.none rfl) rfl rfl (q_move rfl rfl) ?_
    refine run_q (.none rfl) rfl rfl (q_neq rfl rfl rfl) ?_
    refine run_nil ?_
    refine run_condT rfl rfl ?_
    refine run_seq ?_
    refine run_region ?_
    refine run_q (.none rfl) rfl rfl (q_move rfl rfl) ?_
    refine run_q (.none rfl) rfl rfl (q_assign rfl rfl) ?_
    refine run_nil ?_
    refine run_sub (subMk (.cons (s := 1) rfl (.cons (s := 2) rfl .nil)) .refl) ?_
    refine run_ret ?_
    exact end1 rfl rfl (by rw [evE_1 hid])

end Go.Proofs.YtgphmbipakdggaaR.Ev
