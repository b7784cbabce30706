/- Requests and marks made. -/
import Derived.Test.YtgphmbipakdggaaRA
import Derived.Test.YtgphmbipakdggaaRXtra
set_option linter.unusedSimpArgs false
set_option linter.unusedVariables false
namespace Go.Proofs.YtgphmbipakdggaaR
open Go Go.RowKit Hr

theorem info25 : Hr.Info Try.prog 25 [.int .i64 0, .int .i64 0, .int .i64 0, .int .i64 0, .int .i64 0, .int .i64 0, .int .i64 0, .int .i64 0, .int .i64 0, .int .i64 0, .int .i64 0, .int .i64 0, .int .i64 0] 13 104 := Hr.Info.of (by kernel_rfl)
theorem agg25 : Hr.Agg Try.prog 25 13 := ⟨fun w => by simp [isAgg, run_underlying Try.underlying25], Hr.Sz.of (by kernel_rfl)⟩
theorem sz25 : Hr.Sz Try.prog 25 13 := Hr.Sz.of (by kernel_rfl)
theorem agg23 : Hr.Agg Try.prog 23 2 := ⟨fun w => by simp [isAgg, run_underlying Try.underlying23], Hr.Sz.of (by kernel_rfl)⟩
theorem built25p1p2p3p4p8p11 (x1y : Int) (x2y : Int) (x3y : Int) (x4y : Int) (x8y0 : Int) (x8y1 : Int) (x11y : Int) : Try.prog.built 25 [(1, .int .i64 x1y), (2, .int .i64 x2y), (3, .int .i64 x3y), (4, .int .i64 x4y), (8, .agg #[.int .i64 x8y0, .int .i64 x8y1]), (11, .int .i64 x11y)] = some #[.int .i64 0, .int .i64 x1y, .int .i64 x2y, .int .i64 x3y, .int .i64 x4y, .int .i64 0, .int .i64 0, .int .i64 0, .int .i64 x8y0, .int .i64 x8y1, .int .i64 0, .int .i64 0, .int .i64 x11y] := by kernel_rfl
theorem built25  : Try.prog.built 25 [] = some #[.int .i64 0, .int .i64 0, .int .i64 0, .int .i64 0, .int .i64 0, .int .i64 0, .int .i64 0, .int .i64 0, .int .i64 0, .int .i64 0, .int .i64 0, .int .i64 0, .int .i64 0] := by kernel_rfl
theorem call36 : Hr.Callable Try.prog 36 := fun args w => by kernel_rfl
theorem info50 : Hr.Info Try.prog 50 [.int .i64 0, .int .i64 0, .int .i64 0, .int .i64 0, .int .i64 0, .int .i64 0, .int .i64 0, .int .i64 0, .int .i64 0, .int .i64 0, .int .i64 0, .int .i64 0] 12 96 := Hr.Info.of (by kernel_rfl)
theorem sz23 : Hr.Sz Try.prog 23 2 := Hr.Sz.of (by kernel_rfl)
theorem built50p0p1p2p3p4p5p6 (x0y : Int) (x1y : Int) (x2y : Int) (x3y : Int) (x4y : Int) (x5y : Int) (x6y0 : Int) (x6y1 : Int) : Try.prog.built 50 [(0, .int .i64 x0y), (1, .int .i64 x1y), (2, .int .i64 x2y), (3, .int .i64 x3y), (4, .int .i64 x4y), (5, .int .i64 x5y), (6, .agg #[.int .i64 x6y0, .int .i64 x6y1])] = some #[.int .i64 x0y, .int .i64 x1y, .int .i64 x2y, .int .i64 x3y, .int .i64 x4y, .int .i64 x5y, .int .i64 x6y0, .int .i64 x6y1, .int .i64 0, .int .i64 0, .int .i64 0, .int .i64 0] := by kernel_rfl
theorem sz50 : Hr.Sz Try.prog 50 12 := Hr.Sz.of (by kernel_rfl)
theorem built48p0p1p2p3 (x0y : Int) (x1y : Int) (x2y : Int) (x3y : Int) : Try.prog.built 48 [(0, .int .i64 x0y), (1, .int .i64 x1y), (2, .int .i64 x2y), (3, .int .i64 x3y)] = some #[.int .i64 x0y, .int .i64 x1y, .int .i64 x2y, .int .i64 x3y] := by kernel_rfl
theorem sz48 : Hr.Sz Try.prog 48 4 := Hr.Sz.of (by kernel_rfl)
theorem agg50 : Hr.Agg Try.prog 50 12 := ⟨fun w => by simp [isAgg, run_underlying Try.underlying50], Hr.Sz.of (by kernel_rfl)⟩

set_option maxRecDepth 100000 in
theorem on_just (x : Req) (t : Int) (W : World) (ht : t = 1 ∨ t = -1) : Calls Try.prog 36 #[x.val, .int .i64 t] W (Hr.Just W ((onV x t).val)) := by
  refine Just.of_ret ?_
  refine enterA (X := nX) (vs := [x.val, .int .i64 t]) Try.func36 Try.ntmps36 rfl rfl Mem.nil ?_
  refine run_seq ?_
  refine run_region ?_
  refine run_h (.none rfl) (h_box rfl rfl rfl rfl rfl) ?_
  rintro b2 -
  refine run_h (.none rfl) (h_alloc rfl rfl rfl info25) ?_
  rintro b4 -
  refine run_nil ?_
  refine run_seq ?_
  refine run_region ?_
  refine run_q (.none rfl) rfl rfl (q_move rfl rfl) ?_
  refine run_q (.none rfl) rfl rfl (q_move rfl rfl) ?_
  refine run_q (.none rfl) rfl rfl (q_mul rfl rfl rfl (by omega)) ?_
  refine run_q (.none rfl) rfl rfl (q_fieldB (d := 5) rfl Try.underlying25 rfl rfl sz3 rfl) ?_
  refine run_h (.none rfl) (h_storeB rfl rfl sz3 rfl rfl rfl rfl rfl (.there Sel.here) rfl) ?_
  rintro - -
  refine run_q (.none rfl) rfl rfl (q_fieldB (d := 6) rfl Try.underlying25 rfl rfl sz3 rfl) ?_
  refine run_h (.none rfl) (h_storeB rfl rfl sz3 rfl rfl rfl rfl rfl Sel.here rfl) ?_
  rintro - -
  refine run_nil ?_
  refine run_sub (subMk (.cons (s := 2) rfl (.cons (s := 4) rfl .nil)) .refl) ?_
  refine run_seq ?_
  refine run_region ?_
  refine run_q (.none rfl) rfl rfl (q_loadBN rfl agg25 rfl Sel.here (.cons rfl (.cons rfl (.cons rfl (.cons rfl (.cons rfl (.cons rfl (.cons rfl (.cons rfl (.cons rfl (.cons rfl (.cons rfl (.cons rfl (.cons rfl CellsAt.nil))))))))))))) rfl) ?_
  refine run_h (.none rfl) (h_storeB rfl rfl sz25 rfl rfl rfl rfl rfl (.there Sel.here) rfl) ?_
  rintro - -
  refine run_nil ?_
  refine run_ret ?_
  exact endG rfl (.cellN rfl agg25 Sel.here (.cons rfl (.cons rfl (.cons rfl (.cons rfl (.cons rfl (.cons rfl (.cons rfl (.cons rfl (.cons rfl (.cons rfl (.cons rfl (.cons rfl (.cons rfl CellsAt.nil))))))))))))) rfl Outs.nil) _ .nil rfl

set_option maxHeartbeats 2000000 in
set_option maxRecDepth 100000 in
theorem line_just (k site num i t f l : Int) (W : World)  : Calls Try.prog 16 #[.int .i64 k, .agg #[.int .i64 site, .int .i64 num], .int .i64 i, .int .i64 t, .int .i64 f, .int .i64 l] W (Hr.Just W (.tuple #[(lineV k site num i t f l).1.val, .int .i64 (lineV k site num i t f l).2])) := by
  refine Just.of_ret ?_
  refine enterA (X := nX) (vs := [.int .i64 k, .agg #[.int .i64 site, .int .i64 num], .int .i64 i, .int .i64 t, .int .i64 f, .int .i64 l]) Try.func16 Try.ntmps16 rfl rfl Mem.nil ?_
  refine run_seq ?_
  refine run_region ?_
  refine run_h (.none rfl) (h_box rfl rfl rfl rfl rfl) ?_
  rintro b7 -
  refine run_h (.none rfl) (h_alloc rfl rfl rfl info25) ?_
  rintro b12 -
  refine run_q (.none rfl) rfl rfl (q_assign rfl rfl) ?_
  refine run_nil ?_
  refine run_seq ?_
  refine run_region ?_
  refine run_q (.none rfl) rfl rfl (q_move rfl rfl) ?_
  refine run_q (.none rfl) rfl rfl (q_move rfl rfl) ?_
  refine run_q (.none rfl) rfl rfl (q_move rfl rfl) ?_
  refine run_q (.none rfl) rfl rfl (q_move rfl rfl) ?_
  refine run_q (.none rfl) rfl rfl (q_loadBN rfl agg23 rfl (.there Sel.here) (.cons rfl (.cons rfl CellsAt.nil)) rfl) ?_
  refine run_q (.none rfl) rfl rfl (q_build rfl (.cons rfl (.cons rfl (.cons rfl (.cons rfl (.cons rfl (.cons rfl PV.nil)))))) (built25p1p2p3p4p8p11 _ _ _ _ _ _ _)) ?_
  refine run_h (.none rfl) (h_alloc rfl rfl rfl info25) ?_
  rintro b14 -
  refine run_h (.none rfl) (h_storeB rfl rfl sz25 rfl rfl rfl rfl rfl Sel.here rfl) ?_
  rintro - -
  refine run_nil ?_
  refine run_sub (subMk (.cons (s := 0) rfl (.cons (s := 2) rfl (.cons (s := 3) rfl (.cons (s := 4) rfl (.cons (s := 5) rfl (.cons (s := 12) rfl (.cons (s := 13) rfl (.cons (s := 14) rfl .nil)))))))) .refl) ?_
  refine run_seq ?_
  refine run_region ?_
  refine run_q (.none rfl) rfl rfl (q_assign rfl rfl) ?_
  refine run_nil ?_
  refine run_seq ?_
  refine run_seq ?_
  refine run_region ?_
  refine run_q (.none rfl) rfl rfl (q_move rfl rfl) ?_
  refine run_nil ?_
  refine run_block ?_
  refine run_seq ?_
  refine run_seq ?_
  refine run_region ?_
  refine run_q (.none rfl) rfl rfl (q_eql rfl rfl rfl) ?_
  refine run_q (.none rfl) rfl rfl (q_assign rfl rfl) ?_
  refine run_nil ?_
  refine run_cond rfl (fun g24 => ?_) (fun g24 => ?_)
  · have g24' := g24
    try simp only [decide_eq_true_eq, decide_eq_false_iff_not, beq_iff_eq, beq_eq_false_iff_ne, bne_iff_ne, bne_eq_false_iff_eq, Bool.not_eq_true', Bool.not_eq_false', ne_eq, Int.not_lt, Int.not_le, Decidable.not_not] at g24'
    refine run_skip ?_
    refine run_condT rfl g24 ?_
    refine run_region ?_
    refine run_q (.none rfl) rfl rfl (q_fieldB (d := 0) rfl Try.underlying25 rfl rfl sz3 rfl) ?_
    refine run_h (.none rfl) (h_storeB rfl rfl sz3 rfl rfl rfl rfl rfl Sel.here rfl) ?_
    rintro - -
    refine run_nil ?_
    refine run_sub (subMk (.cons (s := 2) rfl (.cons (s := 3) rfl (.cons (s := 4) rfl (.cons (s := 5) rfl (.cons (s := 12) rfl (.cons (s := 13) rfl (.cons (s := 14) rfl (.cons (s := 15) rfl .nil)))))))) .refl) ?_
    refine run_blk ?_
    refine run_seq ?_
    refine run_seq ?_
    refine run_region ?_
    refine run_q (.none rfl) rfl rfl (q_move rfl rfl) ?_
    refine run_q (.none rfl) rfl rfl (q_lss rfl rfl rfl) ?_
    refine run_q (.none rfl) rfl rfl (q_move rfl rfl) ?_
    refine run_split 42 rfl (fun g42 => ?_) (fun g42 => ?_)
    · have g42' := g42
      try simp only [decide_eq_true_eq, decide_eq_false_iff_not, beq_iff_eq, beq_eq_false_iff_ne, bne_iff_ne, bne_eq_false_iff_eq, Bool.not_eq_true', Bool.not_eq_false', ne_eq, Int.not_lt, Int.not_le, Decidable.not_not] at g42'
      refine run_off (.no rfl rfl rfl g42) rfl rfl ?_
      refine run_off (.no rfl rfl rfl g42) rfl rfl ?_
      refine run_q (.none rfl) rfl rfl (q_pickT rfl rfl g42 rfl) ?_
      refine run_q (.none rfl) rfl rfl (q_move rfl rfl) ?_
      refine run_off (.no rfl rfl rfl rfl) rfl rfl ?_
      refine run_off (.no rfl rfl rfl rfl) rfl rfl ?_
      refine run_q (.none rfl) rfl rfl (q_pickT rfl rfl rfl rfl) ?_
      refine run_q (.none rfl) rfl rfl (q_move rfl rfl) ?_
      refine run_off (.no rfl rfl rfl rfl) rfl rfl ?_
      refine run_off (.no rfl rfl rfl rfl) rfl rfl ?_
      refine run_off (.no rfl rfl rfl rfl) rfl rfl ?_
      refine run_q (.none rfl) rfl rfl (q_pickT rfl rfl rfl rfl) ?_
      refine run_nil ?_
      refine run_sub (subMk (.cons (s := 12) rfl (.cons (s := 13) rfl (.cons (s := 14) rfl (.cons (s := 15) rfl (.cons (s := 54) rfl .nil))))) .refl) ?_
      refine run_condT rfl rfl ?_
      refine run_seq ?_
      refine run_region ?_
      refine run_q (.none rfl) rfl rfl (q_build rfl PV.nil (built25)) ?_
      refine run_h (.none rfl) (h_storeB rfl rfl sz25 rfl rfl rfl rfl rfl (.there Sel.here) rfl) ?_
      rintro - -
      refine run_q (.none rfl) rfl rfl (q_assign rfl rfl) ?_
      refine run_nil ?_
      refine run_ret ?_
      exact endG rfl (.cellN rfl agg25 Sel.here (.cons rfl (.cons rfl (.cons rfl (.cons rfl (.cons rfl (.cons rfl (.cons rfl (.cons rfl (.cons rfl (.cons rfl (.cons rfl (.cons rfl (.cons rfl CellsAt.nil))))))))))))) rfl (.tmp rfl Outs.nil)) _ .nil (by subst g24'; rw [lineV, if_neg (by decide), if_pos (by omega)]; rfl)
    · have g42' := g42
      try simp only [decide_eq_true_eq, decide_eq_false_iff_not, beq_iff_eq, beq_eq_false_iff_ne, bne_iff_ne, bne_eq_false_iff_eq, Bool.not_eq_true', Bool.not_eq_false', ne_eq, Int.not_lt, Int.not_le, Decidable.not_not] at g42'
      refine run_q (.on rfl rfl rfl g42) rfl rfl (q_move rfl rfl) ?_
      refine run_q (.on rfl rfl rfl g42) rfl rfl (q_lss rfl rfl rfl) ?_
      refine run_q (.none rfl) rfl rfl (q_pickF rfl rfl g42 rfl) ?_
      refine run_q (.none rfl) rfl rfl (q_move rfl rfl) ?_
      refine run_split 46 rfl (fun g46 => ?_) (fun g46 => ?_)
      · have g46' := g46
        try simp only [decide_eq_true_eq, decide_eq_false_iff_not, beq_iff_eq, beq_eq_false_iff_ne, bne_iff_ne, bne_eq_false_iff_eq, Bool.not_eq_true', Bool.not_eq_false', ne_eq, Int.not_lt, Int.not_le, Decidable.not_not] at g46'
        refine run_off (.no rfl rfl rfl g46) rfl rfl ?_
        refine run_off (.no rfl rfl rfl g46) rfl rfl ?_
        refine run_q (.none rfl) rfl rfl (q_pickT rfl rfl g46 rfl) ?_
        refine run_q (.none rfl) rfl rfl (q_move rfl rfl) ?_
        refine run_off (.no rfl rfl rfl rfl) rfl rfl ?_
        refine run_off (.no rfl rfl rfl rfl) rfl rfl ?_
        refine run_off (.no rfl rfl rfl rfl) rfl rfl ?_
        refine run_q (.none rfl) rfl rfl (q_pickT rfl rfl rfl rfl) ?_
        refine run_nil ?_
        refine run_sub (subMk (.cons (s := 12) rfl (.cons (s := 13) rfl (.cons (s := 14) rfl (.cons (s := 15) rfl (.cons (s := 54) rfl .nil))))) .refl) ?_
        refine run_condT rfl rfl ?_
        refine run_seq ?_
        refine run_region ?_
        refine run_q (.none rfl) rfl rfl (q_build rfl PV.nil (built25)) ?_
        refine run_h (.none rfl) (h_storeB rfl rfl sz25 rfl rfl rfl rfl rfl (.there Sel.here) rfl) ?_
        rintro - -
        refine run_q (.none rfl) rfl rfl (q_assign rfl rfl) ?_
        refine run_nil ?_
        refine run_ret ?_
        exact endG rfl (.cellN rfl agg25 Sel.here (.cons rfl (.cons rfl (.cons rfl (.cons rfl (.cons rfl (.cons rfl (.cons rfl (.cons rfl (.cons rfl (.cons rfl (.cons rfl (.cons rfl (.cons rfl CellsAt.nil))))))))))))) rfl (.tmp rfl Outs.nil)) _ .nil (by subst g24'; rw [lineV, if_neg (by decide), if_pos (by omega)]; rfl)
      · have g46' := g46
        try simp only [decide_eq_true_eq, decide_eq_false_iff_not, beq_iff_eq, beq_eq_false_iff_ne, bne_iff_ne, bne_eq_false_iff_eq, Bool.not_eq_true', Bool.not_eq_false', ne_eq, Int.not_lt, Int.not_le, Decidable.not_not] at g46'
        refine run_q (.on rfl rfl rfl g46) rfl rfl (q_move rfl rfl) ?_
        refine run_q (.on rfl rfl rfl g46) rfl rfl (q_lss rfl rfl rfl) ?_
        refine run_q (.none rfl) rfl rfl (q_pickF rfl rfl g46 rfl) ?_
        refine run_q (.none rfl) rfl rfl (q_move rfl rfl) ?_
        refine run_split 50 rfl (fun g50 => ?_) (fun g50 => ?_)
        · have g50' := g50
          try simp only [decide_eq_true_eq, decide_eq_false_iff_not, beq_iff_eq, beq_eq_false_iff_ne, bne_iff_ne, bne_eq_false_iff_eq, Bool.not_eq_true', Bool.not_eq_false', ne_eq, Int.not_lt, Int.not_le, Decidable.not_not] at g50'
          refine run_off (.no rfl rfl rfl g50) rfl rfl ?_
          refine run_off (.no rfl rfl rfl g50) rfl rfl ?_
          refine run_off (.no rfl rfl rfl g50) rfl rfl ?_
          refine run_q (.none rfl) rfl rfl (q_pickT rfl rfl g50 rfl) ?_
          refine run_nil ?_
          refine run_sub (subMk (.cons (s := 12) rfl (.cons (s := 13) rfl (.cons (s := 14) rfl (.cons (s := 15) rfl (.cons (s := 54) rfl .nil))))) .refl) ?_
          refine run_condT rfl rfl ?_
          refine run_seq ?_
          refine run_region ?_
          refine run_q (.none rfl) rfl rfl (q_build rfl PV.nil (built25)) ?_
          refine run_h (.none rfl) (h_storeB rfl rfl sz25 rfl rfl rfl rfl rfl (.there Sel.here) rfl) ?_
          rintro - -
          refine run_q (.none rfl) rfl rfl (q_assign rfl rfl) ?_
          refine run_nil ?_
          refine run_ret ?_
          exact endG rfl (.cellN rfl agg25 Sel.here (.cons rfl (.cons rfl (.cons rfl (.cons rfl (.cons rfl (.cons rfl (.cons rfl (.cons rfl (.cons rfl (.cons rfl (.cons rfl (.cons rfl (.cons rfl CellsAt.nil))))))))))))) rfl (.tmp rfl Outs.nil)) _ .nil (by subst g24'; rw [lineV, if_neg (by decide), if_pos (by omega)]; rfl)
        · have g50' := g50
          try simp only [decide_eq_true_eq, decide_eq_false_iff_not, beq_iff_eq, beq_eq_false_iff_ne, bne_iff_ne, bne_eq_false_iff_eq, Bool.not_eq_true', Bool.not_eq_false', ne_eq, Int.not_lt, Int.not_le, Decidable.not_not] at g50'
          refine run_q (.on rfl rfl rfl g50) rfl rfl (q_move rfl rfl) ?_
          refine run_q (.on rfl rfl rfl g50) rfl rfl (q_move rfl rfl) ?_
          refine run_q (.on rfl rfl rfl g50) rfl rfl (q_lss rfl rfl rfl) ?_
          refine run_q (.none rfl) rfl rfl (q_pickF rfl rfl g50 rfl) ?_
          refine run_nil ?_
          refine run_sub (subMk (.cons (s := 12) rfl (.cons (s := 13) rfl (.cons (s := 14) rfl (.cons (s := 15) rfl (.cons (s := 54) rfl .nil))))) .refl) ?_
          refine run_cond rfl (fun g54 => ?_) (fun g54 => ?_)
          · have g54' := g54
            try simp only [decide_eq_true_eq, decide_eq_false_iff_not, beq_iff_eq, beq_eq_false_iff_ne, bne_iff_ne, bne_eq_false_iff_eq, Bool.not_eq_true', Bool.not_eq_false', ne_eq, Int.not_lt, Int.not_le, Decidable.not_not] at g54'
            refine run_seq ?_
            refine run_region ?_
            refine run_q (.none rfl) rfl rfl (q_build rfl PV.nil (built25)) ?_
            refine run_h (.none rfl) (h_storeB rfl rfl sz25 rfl rfl rfl rfl rfl (.there Sel.here) rfl) ?_
            rintro - -
            refine run_q (.none rfl) rfl rfl (q_assign rfl rfl) ?_
            refine run_nil ?_
            refine run_ret ?_
            exact endG rfl (.cellN rfl agg25 Sel.here (.cons rfl (.cons rfl (.cons rfl (.cons rfl (.cons rfl (.cons rfl (.cons rfl (.cons rfl (.cons rfl (.cons rfl (.cons rfl (.cons rfl (.cons rfl CellsAt.nil))))))))))))) rfl (.tmp rfl Outs.nil)) _ .nil (by subst g24'; rw [lineV, if_neg (by decide), if_pos (by omega)]; rfl)
          · have g54' := g54
            try simp only [decide_eq_true_eq, decide_eq_false_iff_not, beq_iff_eq, beq_eq_false_iff_ne, bne_iff_ne, bne_eq_false_iff_eq, Bool.not_eq_true', Bool.not_eq_false', ne_eq, Int.not_lt, Int.not_le, Decidable.not_not] at g54'
            refine run_skip ?_
            refine run_seq ?_
            refine run_region ?_
            refine run_q (.none rfl) rfl rfl (q_loadBN rfl agg25 rfl Sel.here (.cons rfl (.cons rfl (.cons rfl (.cons rfl (.cons rfl (.cons rfl (.cons rfl (.cons rfl (.cons rfl (.cons rfl (.cons rfl (.cons rfl (.cons rfl CellsAt.nil))))))))))))) rfl) ?_
            refine run_q (.none rfl) rfl rfl (q_move rfl rfl) ?_
            refine run_q (.none rfl) rfl rfl (q_call rfl call36 (.cons rfl (.cons rfl Evs.nil)) (fun w hk hm => on_just ⟨55, i, t, f, l, 0, 0, 0, site, num, 0, 0, 32⟩ (-1) w (by decide))) ?_
            refine run_h (.none rfl) (h_storeB rfl rfl sz25 rfl rfl rfl rfl rfl (.there Sel.here) rfl) ?_
            rintro - -
            refine run_q (.none rfl) rfl rfl (q_assign rfl rfl) ?_
            refine run_nil ?_
            refine run_sub (subMk (.cons (s := 12) rfl (.cons (s := 13) rfl .nil)) .refl) ?_
            refine run_ret ?_
            exact endG rfl (.cellN rfl agg25 Sel.here (.cons rfl (.cons rfl (.cons rfl (.cons rfl (.cons rfl (.cons rfl (.cons rfl (.cons rfl (.cons rfl (.cons rfl (.cons rfl (.cons rfl (.cons rfl CellsAt.nil))))))))))))) rfl (.tmp rfl Outs.nil)) _ .nil (by subst g24'; rw [lineV, if_neg (by decide), if_neg (by omega)]; rfl)
  · have g24' := g24
    try simp only [decide_eq_true_eq, decide_eq_false_iff_not, beq_iff_eq, beq_eq_false_iff_ne, bne_iff_ne, bne_eq_false_iff_eq, Bool.not_eq_true', Bool.not_eq_false', ne_eq, Int.not_lt, Int.not_le, Decidable.not_not] at g24'
    refine run_region ?_
    refine run_q (.none rfl) rfl rfl (q_eql rfl rfl rfl) ?_
    refine run_q (.none rfl) rfl rfl (q_assign rfl rfl) ?_
    refine run_nil ?_
    refine run_sub (subMk (.cons (s := 2) rfl (.cons (s := 3) rfl (.cons (s := 4) rfl (.cons (s := 5) rfl (.cons (s := 12) rfl (.cons (s := 13) rfl (.cons (s := 14) rfl (.cons (s := 15) rfl (.cons (s := 22) rfl (.cons (s := 24) rfl .nil)))))))))) .refl) ?_
    refine run_cond rfl (fun g24 => ?_) (fun g24 => ?_)
    · have g24' := g24
      try simp only [decide_eq_true_eq, decide_eq_false_iff_not, beq_iff_eq, beq_eq_false_iff_ne, bne_iff_ne, bne_eq_false_iff_eq, Bool.not_eq_true', Bool.not_eq_false', ne_eq, Int.not_lt, Int.not_le, Decidable.not_not] at g24'
      refine run_region ?_
      refine run_q (.none rfl) rfl rfl (q_fieldB (d := 0) rfl Try.underlying25 rfl rfl sz3 rfl) ?_
      refine run_h (.none rfl) (h_storeB rfl rfl sz3 rfl rfl rfl rfl rfl Sel.here rfl) ?_
      rintro - -
      refine run_nil ?_
      refine run_sub (subMk (.cons (s := 2) rfl (.cons (s := 3) rfl (.cons (s := 4) rfl (.cons (s := 5) rfl (.cons (s := 12) rfl (.cons (s := 13) rfl (.cons (s := 14) rfl (.cons (s := 15) rfl .nil)))))))) .refl) ?_
      refine run_blk ?_
      refine run_seq ?_
      refine run_seq ?_
      refine run_region ?_
      refine run_q (.none rfl) rfl rfl (q_move rfl rfl) ?_
      refine run_q (.none rfl) rfl rfl (q_lss rfl rfl rfl) ?_
      refine run_q (.none rfl) rfl rfl (q_move rfl rfl) ?_
      refine run_split 42 rfl (fun g42 => ?_) (fun g42 => ?_)
      · have g42' := g42
        try simp only [decide_eq_true_eq, decide_eq_false_iff_not, beq_iff_eq, beq_eq_false_iff_ne, bne_iff_ne, bne_eq_false_iff_eq, Bool.not_eq_true', Bool.not_eq_false', ne_eq, Int.not_lt, Int.not_le, Decidable.not_not] at g42'
        refine run_off (.no rfl rfl rfl g42) rfl rfl ?_
        refine run_off (.no rfl rfl rfl g42) rfl rfl ?_
        refine run_q (.none rfl) rfl rfl (q_pickT rfl rfl g42 rfl) ?_
        refine run_q (.none rfl) rfl rfl (q_move rfl rfl) ?_
        refine run_off (.no rfl rfl rfl rfl) rfl rfl ?_
        refine run_off (.no rfl rfl rfl rfl) rfl rfl ?_
        refine run_q (.none rfl) rfl rfl (q_pickT rfl rfl rfl rfl) ?_
        refine run_q (.none rfl) rfl rfl (q_move rfl rfl) ?_
        refine run_off (.no rfl rfl rfl rfl) rfl rfl ?_
        refine run_off (.no rfl rfl rfl rfl) rfl rfl ?_
        refine run_off (.no rfl rfl rfl rfl) rfl rfl ?_
        refine run_q (.none rfl) rfl rfl (q_pickT rfl rfl rfl rfl) ?_
        refine run_nil ?_
        refine run_sub (subMk (.cons (s := 12) rfl (.cons (s := 13) rfl (.cons (s := 14) rfl (.cons (s := 15) rfl (.cons (s := 54) rfl .nil))))) .refl) ?_
        refine run_condT rfl rfl ?_
        refine run_seq ?_
        refine run_region ?_
        refine run_q (.none rfl) rfl rfl (q_build rfl PV.nil (built25)) ?_
        refine run_h (.none rfl) (h_storeB rfl rfl sz25 rfl rfl rfl rfl rfl (.there Sel.here) rfl) ?_
        rintro - -
        refine run_q (.none rfl) rfl rfl (q_assign rfl rfl) ?_
        refine run_nil ?_
        refine run_ret ?_
        exact endG rfl (.cellN rfl agg25 Sel.here (.cons rfl (.cons rfl (.cons rfl (.cons rfl (.cons rfl (.cons rfl (.cons rfl (.cons rfl (.cons rfl (.cons rfl (.cons rfl (.cons rfl (.cons rfl CellsAt.nil))))))))))))) rfl (.tmp rfl Outs.nil)) _ .nil (by subst g24'; rw [lineV, if_neg (by decide), if_pos (by omega)]; rfl)
      · have g42' := g42
        try simp only [decide_eq_true_eq, decide_eq_false_iff_not, beq_iff_eq, beq_eq_false_iff_ne, bne_iff_ne, bne_eq_false_iff_eq, Bool.not_eq_true', Bool.not_eq_false', ne_eq, Int.not_lt, Int.not_le, Decidable.not_not] at g42'
        refine run_q (.on rfl rfl rfl g42) rfl rfl (q_move rfl rfl) ?_
        refine run_q (.on rfl rfl rfl g42) rfl rfl (q_lss rfl rfl rfl) ?_
        refine run_q (.none rfl) rfl rfl (q_pickF rfl rfl g42 rfl) ?_
        refine run_q (.none rfl) rfl rfl (q_move rfl rfl) ?_
        refine run_split 46 rfl (fun g46 => ?_) (fun g46 => ?_)
        · have g46' := g46
          try simp only [decide_eq_true_eq, decide_eq_false_iff_not, beq_iff_eq, beq_eq_false_iff_ne, bne_iff_ne, bne_eq_false_iff_eq, Bool.not_eq_true', Bool.not_eq_false', ne_eq, Int.not_lt, Int.not_le, Decidable.not_not] at g46'
          refine run_off (.no rfl rfl rfl g46) rfl rfl ?_
          refine run_off (.no rfl rfl rfl g46) rfl rfl ?_
          refine run_q (.none rfl) rfl rfl (q_pickT rfl rfl g46 rfl) ?_
          refine run_q (.none rfl) rfl rfl (q_move rfl rfl) ?_
          refine run_off (.no rfl rfl rfl rfl) rfl rfl ?_
          refine run_off (.no rfl rfl rfl rfl) rfl rfl ?_
          refine run_off (.no rfl rfl rfl rfl) rfl rfl ?_
          refine run_q (.none rfl) rfl rfl (q_pickT rfl rfl rfl rfl) ?_
          refine run_nil ?_
          refine run_sub (subMk (.cons (s := 12) rfl (.cons (s := 13) rfl (.cons (s := 14) rfl (.cons (s := 15) rfl (.cons (s := 54) rfl .nil))))) .refl) ?_
          refine run_condT rfl rfl ?_
          refine run_seq ?_
          refine run_region ?_
          refine run_q (.none rfl) rfl rfl (q_build rfl PV.nil (built25)) ?_
          refine run_h (.none rfl) (h_storeB rfl rfl sz25 rfl rfl rfl rfl rfl (.there Sel.here) rfl) ?_
          rintro - -
          refine run_q (.none rfl) rfl rfl (q_assign rfl rfl) ?_
          refine run_nil ?_
          refine run_ret ?_
          exact endG rfl (.cellN rfl agg25 Sel.here (.cons rfl (.cons rfl (.cons rfl (.cons rfl (.cons rfl (.cons rfl (.cons rfl (.cons rfl (.cons rfl (.cons rfl (.cons rfl (.cons rfl (.cons rfl CellsAt.nil))))))))))))) rfl (.tmp rfl Outs.nil)) _ .nil (by subst g24'; rw [lineV, if_neg (by decide), if_pos (by omega)]; rfl)
        · have g46' := g46
          try simp only [decide_eq_true_eq, decide_eq_false_iff_not, beq_iff_eq, beq_eq_false_iff_ne, bne_iff_ne, bne_eq_false_iff_eq, Bool.not_eq_true', Bool.not_eq_false', ne_eq, Int.not_lt, Int.not_le, Decidable.not_not] at g46'
          refine run_q (.on rfl rfl rfl g46) rfl rfl (q_move rfl rfl) ?_
          refine run_q (.on rfl rfl rfl g46) rfl rfl (q_lss rfl rfl rfl) ?_
          refine run_q (.none rfl) rfl rfl (q_pickF rfl rfl g46 rfl) ?_
          refine run_q (.none rfl) rfl rfl (q_move rfl rfl) ?_
          refine run_split 50 rfl (fun g50 => ?_) (fun g50 => ?_)
          · have g50' := g50
            try simp only [decide_eq_true_eq, decide_eq_false_iff_not, beq_iff_eq, beq_eq_false_iff_ne, bne_iff_ne, bne_eq_false_iff_eq, Bool.not_eq_true', Bool.not_eq_false', ne_eq, Int.not_lt, Int.not_le, Decidable.not_not] at g50'
            refine run_off (.no rfl rfl rfl g50) rfl rfl ?_
            refine run_off (.no rfl rfl rfl g50) rfl rfl ?_
            refine run_off (.no rfl rfl rfl g50) rfl rfl ?_
            refine run_q (.none rfl) rfl rfl (q_pickT rfl rfl g50 rfl) ?_
            refine run_nil ?_
            refine run_sub (subMk (.cons (s := 12) rfl (.cons (s := 13) rfl (.cons (s := 14) rfl (.cons (s := 15) rfl (.cons (s := 54) rfl .nil))))) .refl) ?_
            refine run_condT rfl rfl ?_
            refine run_seq ?_
            refine run_region ?_
            refine run_q (.none rfl) rfl rfl (q_build rfl PV.nil (built25)) ?_
            refine run_h (.none rfl) (h_storeB rfl rfl sz25 rfl rfl rfl rfl rfl (.there Sel.here) rfl) ?_
            rintro - -
            refine run_q (.none rfl) rfl rfl (q_assign rfl rfl) ?_
            refine run_nil ?_
            refine run_ret ?_
            exact endG rfl (.cellN rfl agg25 Sel.here (.cons rfl (.cons rfl (.cons rfl (.cons rfl (.cons rfl (.cons rfl (.cons rfl (.cons rfl (.cons rfl (.cons rfl (.cons rfl (.cons rfl (.cons rfl CellsAt.nil))))))))))))) rfl (.tmp rfl Outs.nil)) _ .nil (by subst g24'; rw [lineV, if_neg (by decide), if_pos (by omega)]; rfl)
          · have g50' := g50
            try simp only [decide_eq_true_eq, decide_eq_false_iff_not, beq_iff_eq, beq_eq_false_iff_ne, bne_iff_ne, bne_eq_false_iff_eq, Bool.not_eq_true', Bool.not_eq_false', ne_eq, Int.not_lt, Int.not_le, Decidable.not_not] at g50'
            refine run_q (.on rfl rfl rfl g50) rfl rfl (q_move rfl rfl) ?_
            refine run_q (.on rfl rfl rfl g50) rfl rfl (q_move rfl rfl) ?_
            refine run_q (.on rfl rfl rfl g50) rfl rfl (q_lss rfl rfl rfl) ?_
            refine run_q (.none rfl) rfl rfl (q_pickF rfl rfl g50 rfl) ?_
            refine run_nil ?_
            refine run_sub (subMk (.cons (s := 12) rfl (.cons (s := 13) rfl (.cons (s := 14) rfl (.cons (s := 15) rfl (.cons (s := 54) rfl .nil))))) .refl) ?_
            refine run_cond rfl (fun g54 => ?_) (fun g54 => ?_)
            · have g54' := g54
              try simp only [decide_eq_true_eq, decide_eq_false_iff_not, beq_iff_eq, beq_eq_false_iff_ne, bne_iff_ne, bne_eq_false_iff_eq, Bool.not_eq_true', Bool.not_eq_false', ne_eq, Int.not_lt, Int.not_le, Decidable.not_not] at g54'
              refine run_seq ?_
              refine run_region ?_
              refine run_q (.none rfl) rfl rfl (q_build rfl PV.nil (built25)) ?_
              refine run_h (.none rfl) (h_storeB rfl rfl sz25 rfl rfl rfl rfl rfl (.there Sel.here) rfl) ?_
              rintro - -
              refine run_q (.none rfl) rfl rfl (q_assign rfl rfl) ?_
              refine run_nil ?_
              refine run_ret ?_
              exact endG rfl (.cellN rfl agg25 Sel.here (.cons rfl (.cons rfl (.cons rfl (.cons rfl (.cons rfl (.cons rfl (.cons rfl (.cons rfl (.cons rfl (.cons rfl (.cons rfl (.cons rfl (.cons rfl CellsAt.nil))))))))))))) rfl (.tmp rfl Outs.nil)) _ .nil (by subst g24'; rw [lineV, if_neg (by decide), if_pos (by omega)]; rfl)
            · have g54' := g54
              try simp only [decide_eq_true_eq, decide_eq_false_iff_not, beq_iff_eq, beq_eq_false_iff_ne, bne_iff_ne, bne_eq_false_iff_eq, Bool.not_eq_true', Bool.not_eq_false', ne_eq, Int.not_lt, Int.not_le, Decidable.not_not] at g54'
              refine run_skip ?_
              refine run_seq ?_
              refine run_region ?_
              refine run_q (.none rfl) rfl rfl (q_loadBN rfl agg25 rfl Sel.here (.cons rfl (.cons rfl (.cons rfl (.cons rfl (.cons rfl (.cons rfl (.cons rfl (.cons rfl (.cons rfl (.cons rfl (.cons rfl (.cons rfl (.cons rfl CellsAt.nil))))))))))))) rfl) ?_
              refine run_q (.none rfl) rfl rfl (q_move rfl rfl) ?_
              refine run_q (.none rfl) rfl rfl (q_call rfl call36 (.cons rfl (.cons rfl Evs.nil)) (fun w hk hm => on_just ⟨55, i, t, f, l, 0, 0, 0, site, num, 0, 0, 32⟩ (-1) w (by decide))) ?_
              refine run_h (.none rfl) (h_storeB rfl rfl sz25 rfl rfl rfl rfl rfl (.there Sel.here) rfl) ?_
              rintro - -
              refine run_q (.none rfl) rfl rfl (q_assign rfl rfl) ?_
              refine run_nil ?_
              refine run_sub (subMk (.cons (s := 12) rfl (.cons (s := 13) rfl .nil)) .refl) ?_
              refine run_ret ?_
              exact endG rfl (.cellN rfl agg25 Sel.here (.cons rfl (.cons rfl (.cons rfl (.cons rfl (.cons rfl (.cons rfl (.cons rfl (.cons rfl (.cons rfl (.cons rfl (.cons rfl (.cons rfl (.cons rfl CellsAt.nil))))))))))))) rfl (.tmp rfl Outs.nil)) _ .nil (by subst g24'; rw [lineV, if_neg (by decide), if_neg (by omega)]; rfl)
    · have g24' := g24
      try simp only [decide_eq_true_eq, decide_eq_false_iff_not, beq_iff_eq, beq_eq_false_iff_ne, bne_iff_ne, bne_eq_false_iff_eq, Bool.not_eq_true', Bool.not_eq_false', ne_eq, Int.not_lt, Int.not_le, Decidable.not_not] at g24'
      refine run_seq ?_
      refine run_region ?_
      refine run_q (.none rfl) rfl rfl (q_eql rfl rfl rfl) ?_
      refine run_q (.none rfl) rfl rfl (q_assign rfl rfl) ?_
      refine run_nil ?_
      refine run_cond rfl (fun g28 => ?_) (fun g28 => ?_)
      · have g28' := g28
        try simp only [decide_eq_true_eq, decide_eq_false_iff_not, beq_iff_eq, beq_eq_false_iff_ne, bne_iff_ne, bne_eq_false_iff_eq, Bool.not_eq_true', Bool.not_eq_false', ne_eq, Int.not_lt, Int.not_le, Decidable.not_not] at g28'
        refine run_region ?_
        refine run_q (.none rfl) rfl rfl (q_fieldB (d := 0) rfl Try.underlying25 rfl rfl sz3 rfl) ?_
        refine run_h (.none rfl) (h_storeB rfl rfl sz3 rfl rfl rfl rfl rfl Sel.here rfl) ?_
        rintro - -
        refine run_nil ?_
        refine run_sub (subMk (.cons (s := 2) rfl (.cons (s := 3) rfl (.cons (s := 4) rfl (.cons (s := 5) rfl (.cons (s := 12) rfl (.cons (s := 13) rfl (.cons (s := 14) rfl (.cons (s := 15) rfl .nil)))))))) .refl) ?_
        refine run_blk ?_
        refine run_seq ?_
        refine run_seq ?_
        refine run_region ?_
        refine run_q (.none rfl) rfl rfl (q_move rfl rfl) ?_
        refine run_q (.none rfl) rfl rfl (q_lss rfl rfl rfl) ?_
        refine run_q (.none rfl) rfl rfl (q_move rfl rfl) ?_
        refine run_split 42 rfl (fun g42 => ?_) (fun g42 => ?_)
        · have g42' := g42
          try simp only [decide_eq_true_eq, decide_eq_false_iff_not, beq_iff_eq, beq_eq_false_iff_ne, bne_iff_ne, bne_eq_false_iff_eq, Bool.not_eq_true', Bool.not_eq_false', ne_eq, Int.not_lt, Int.not_le, Decidable.not_not] at g42'
          refine run_off (.no rfl rfl rfl g42) rfl rfl ?_
          refine run_off (.no rfl rfl rfl g42) rfl rfl ?_
          refine run_q (.none rfl) rfl rfl (q_pickT rfl rfl g42 rfl) ?_
          refine run_q (.none rfl) rfl rfl (q_move rfl rfl) ?_
          refine run_off (.no rfl rfl rfl rfl) rfl rfl ?_
          refine run_off (.no rfl rfl rfl rfl) rfl rfl ?_
          refine run_q (.none rfl) rfl rfl (q_pickT rfl rfl rfl rfl) ?_
          refine run_q (.none rfl) rfl rfl (q_move rfl rfl) ?_
          refine run_off (.no rfl rfl rfl rfl) rfl rfl ?_
          refine run_off (.no rfl rfl rfl rfl) rfl rfl ?_
          refine run_off (.no rfl rfl rfl rfl) rfl rfl ?_
          refine run_q (.none rfl) rfl rfl (q_pickT rfl rfl rfl rfl) ?_
          refine run_nil ?_
          refine run_sub (subMk (.cons (s := 12) rfl (.cons (s := 13) rfl (.cons (s := 14) rfl (.cons (s := 15) rfl (.cons (s := 54) rfl .nil))))) .refl) ?_
          refine run_condT rfl rfl ?_
          refine run_seq ?_
          refine run_region ?_
          refine run_q (.none rfl) rfl rfl (q_build rfl PV.nil (built25)) ?_
          refine run_h (.none rfl) (h_storeB rfl rfl sz25 rfl rfl rfl rfl rfl (.there Sel.here) rfl) ?_
          rintro - -
          refine run_q (.none rfl) rfl rfl (q_assign rfl rfl) ?_
          refine run_nil ?_
          refine run_ret ?_
          exact endG rfl (.cellN rfl agg25 Sel.here (.cons rfl (.cons rfl (.cons rfl (.cons rfl (.cons rfl (.cons rfl (.cons rfl (.cons rfl (.cons rfl (.cons rfl (.cons rfl (.cons rfl (.cons rfl CellsAt.nil))))))))))))) rfl (.tmp rfl Outs.nil)) _ .nil (by subst g28'; rw [lineV, if_neg (by decide), if_pos (by omega)]; rfl)
        · have g42' := g42
          try simp only [decide_eq_true_eq, decide_eq_false_iff_not, beq_iff_eq, beq_eq_false_iff_ne, bne_iff_ne, bne_eq_false_iff_eq, Bool.not_eq_true', Bool.not_eq_false', ne_eq, Int.not_lt, Int.not_le, Decidable.not_not] at g42'
          refine run_q (.on rfl rfl rfl g42) rfl rfl (q_move rfl rfl) ?_
          refine run_q (.on rfl rfl rfl g42) rfl rfl (q_lss rfl rfl rfl) ?_
          refine run_q (.none rfl) rfl rfl (q_pickF rfl rfl g42 rfl) ?_
          refine run_q (.none rfl) rfl rfl (q_move rfl rfl) ?_
          refine run_split 46 rfl (fun g46 => ?_) (fun g46 => ?_)
          · have g46' := g46
            try simp only [decide_eq_true_eq, decide_eq_false_iff_not, beq_iff_eq, beq_eq_false_iff_ne, bne_iff_ne, bne_eq_false_iff_eq, Bool.not_eq_true', Bool.not_eq_false', ne_eq, Int.not_lt, Int.not_le, Decidable.not_not] at g46'
            refine run_off (.no rfl rfl rfl g46) rfl rfl ?_
            refine run_off (.no rfl rfl rfl g46) rfl rfl ?_
            refine run_q (.none rfl) rfl rfl (q_pickT rfl rfl g46 rfl) ?_
            refine run_q (.none rfl) rfl rfl (q_move rfl rfl) ?_
            refine run_off (.no rfl rfl rfl rfl) rfl rfl ?_
            refine run_off (.no rfl rfl rfl rfl) rfl rfl ?_
            refine run_off (.no rfl rfl rfl rfl) rfl rfl ?_
            refine run_q (.none rfl) rfl rfl (q_pickT rfl rfl rfl rfl) ?_
            refine run_nil ?_
            refine run_sub (subMk (.cons (s := 12) rfl (.cons (s := 13) rfl (.cons (s := 14) rfl (.cons (s := 15) rfl (.cons (s := 54) rfl .nil))))) .refl) ?_
            refine run_condT rfl rfl ?_
            refine run_seq ?_
            refine run_region ?_
            refine run_q (.none rfl) rfl rfl (q_build rfl PV.nil (built25)) ?_
            refine run_h (.none rfl) (h_storeB rfl rfl sz25 rfl rfl rfl rfl rfl (.there Sel.here) rfl) ?_
            rintro - -
            refine run_q (.none rfl) rfl rfl (q_assign rfl rfl) ?_
            refine run_nil ?_
            refine run_ret ?_
            exact endG rfl (.cellN rfl agg25 Sel.here (.cons rfl (.cons rfl (.cons rfl (.cons rfl (.cons rfl (.cons rfl (.cons rfl (.cons rfl (.cons rfl (.cons rfl (.cons rfl (.cons rfl (.cons rfl CellsAt.nil))))))))))))) rfl (.tmp rfl Outs.nil)) _ .nil (by subst g28'; rw [lineV, if_neg (by decide), if_pos (by omega)]; rfl)
          · have g46' := g46
            try simp only [decide_eq_true_eq, decide_eq_false_iff_not, beq_iff_eq, beq_eq_false_iff_ne, bne_iff_ne, bne_eq_false_iff_eq, Bool.not_eq_true', Bool.not_eq_false', ne_eq, Int.not_lt, Int.not_le, Decidable.not_not] at g46'
            refine run_q (.on rfl rfl rfl g46) rfl rfl (q_move rfl rfl) ?_
            refine run_q (.on rfl rfl rfl g46) rfl rfl (q_lss rfl rfl rfl) ?_
            refine run_q (.none rfl) rfl rfl (q_pickF rfl rfl g46 rfl) ?_
            refine run_q (.none rfl) rfl rfl (q_move rfl rfl) ?_
            refine run_split 50 rfl (fun g50 => ?_) (fun g50 => ?_)
            · have g50' := g50
              try simp only [decide_eq_true_eq, decide_eq_false_iff_not, beq_iff_eq, beq_eq_false_iff_ne, bne_iff_ne, bne_eq_false_iff_eq, Bool.not_eq_true', Bool.not_eq_false', ne_eq, Int.not_lt, Int.not_le, Decidable.not_not] at g50'
              refine run_off (.no rfl rfl rfl g50) rfl rfl ?_
              refine run_off (.no rfl rfl rfl g50) rfl rfl ?_
              refine run_off (.no rfl rfl rfl g50) rfl rfl ?_
              refine run_q (.none rfl) rfl rfl (q_pickT rfl rfl g50 rfl) ?_
              refine run_nil ?_
              refine run_sub (subMk (.cons (s := 12) rfl (.cons (s := 13) rfl (.cons (s := 14) rfl (.cons (s := 15) rfl (.cons (s := 54) rfl .nil))))) .refl) ?_
              refine run_condT rfl rfl ?_
              refine run_seq ?_
              refine run_region ?_
              refine run_q (.none rfl) rfl rfl (q_build rfl PV.nil (built25)) ?_
              refine run_h (.none rfl) (h_storeB rfl rfl sz25 rfl rfl rfl rfl rfl (.there Sel.here) rfl) ?_
              rintro - -
              refine run_q (.none rfl) rfl rfl (q_assign rfl rfl) ?_
              refine run_nil ?_
              refine run_ret ?_
              exact endG rfl (.cellN rfl agg25 Sel.here (.cons rfl (.cons rfl (.cons rfl (.cons rfl (.cons rfl (.cons rfl (.cons rfl (.cons rfl (.cons rfl (.cons rfl (.cons rfl (.cons rfl (.cons rfl CellsAt.nil))))))))))))) rfl (.tmp rfl Outs.nil)) _ .nil (by subst g28'; rw [lineV, if_neg (by decide), if_pos (by omega)]; rfl)
            · have g50' := g50
              try simp only [decide_eq_true_eq, decide_eq_false_iff_not, beq_iff_eq, beq_eq_false_iff_ne, bne_iff_ne, bne_eq_false_iff_eq, Bool.not_eq_true', Bool.not_eq_false', ne_eq, Int.not_lt, Int.not_le, Decidable.not_not] at g50'
              refine run_q (.on rfl rfl rfl g50) rfl rfl (q_move rfl rfl) ?_
              refine run_q (.on rfl rfl rfl g50) rfl rfl (q_move rfl rfl) ?_
              refine run_q (.on rfl rfl rfl g50) rfl rfl (q_lss rfl rfl rfl) ?_
              refine run_q (.none rfl) rfl rfl (q_pickF rfl rfl g50 rfl) ?_
              refine run_nil ?_
              refine run_sub (subMk (.cons (s := 12) rfl (.cons (s := 13) rfl (.cons (s := 14) rfl (.cons (s := 15) rfl (.cons (s := 54) rfl .nil))))) .refl) ?_
              refine run_cond rfl (fun g54 => ?_) (fun g54 => ?_)
              · have g54' := g54
                try simp only [decide_eq_true_eq, decide_eq_false_iff_not, beq_iff_eq, beq_eq_false_iff_ne, bne_iff_ne, bne_eq_false_iff_eq, Bool.not_eq_true', Bool.not_eq_false', ne_eq, Int.not_lt, Int.not_le, Decidable.not_not] at g54'
                refine run_seq ?_
                refine run_region ?_
                refine run_q (.none rfl) rfl rfl (q_build rfl PV.nil (built25)) ?_
                refine run_h (.none rfl) (h_storeB rfl rfl sz25 rfl rfl rfl rfl rfl (.there Sel.here) rfl) ?_
                rintro - -
                refine run_q (.none rfl) rfl rfl (q_assign rfl rfl) ?_
                refine run_nil ?_
                refine run_ret ?_
                exact endG rfl (.cellN rfl agg25 Sel.here (.cons rfl (.cons rfl (.cons rfl (.cons rfl (.cons rfl (.cons rfl (.cons rfl (.cons rfl (.cons rfl (.cons rfl (.cons rfl (.cons rfl (.cons rfl CellsAt.nil))))))))))))) rfl (.tmp rfl Outs.nil)) _ .nil (by subst g28'; rw [lineV, if_neg (by decide), if_pos (by omega)]; rfl)
              · have g54' := g54
                try simp only [decide_eq_true_eq, decide_eq_false_iff_not, beq_iff_eq, beq_eq_false_iff_ne, bne_iff_ne, bne_eq_false_iff_eq, Bool.not_eq_true', Bool.not_eq_false', ne_eq, Int.not_lt, Int.not_le, Decidable.not_not] at g54'
                refine run_skip ?_
                refine run_seq ?_
                refine run_region ?_
                refine run_q (.none rfl) rfl rfl (q_loadBN rfl agg25 rfl Sel.here (.cons rfl (.cons rfl (.cons rfl (.cons rfl (.cons rfl (.cons rfl (.cons rfl (.cons rfl (.cons rfl (.cons rfl (.cons rfl (.cons rfl (.cons rfl CellsAt.nil))))))))))))) rfl) ?_
                refine run_q (.none rfl) rfl rfl (q_move rfl rfl) ?_
                refine run_q (.none rfl) rfl rfl (q_call rfl call36 (.cons rfl (.cons rfl Evs.nil)) (fun w hk hm => on_just ⟨57, i, t, f, l, 0, 0, 0, site, num, 0, 0, 32⟩ (-1) w (by decide))) ?_
                refine run_h (.none rfl) (h_storeB rfl rfl sz25 rfl rfl rfl rfl rfl (.there Sel.here) rfl) ?_
                rintro - -
                refine run_q (.none rfl) rfl rfl (q_assign rfl rfl) ?_
                refine run_nil ?_
                refine run_sub (subMk (.cons (s := 12) rfl (.cons (s := 13) rfl .nil)) .refl) ?_
                refine run_ret ?_
                exact endG rfl (.cellN rfl agg25 Sel.here (.cons rfl (.cons rfl (.cons rfl (.cons rfl (.cons rfl (.cons rfl (.cons rfl (.cons rfl (.cons rfl (.cons rfl (.cons rfl (.cons rfl (.cons rfl CellsAt.nil))))))))))))) rfl (.tmp rfl Outs.nil)) _ .nil (by subst g28'; rw [lineV, if_neg (by decide), if_neg (by omega)]; rfl)
      · have g28' := g28
        try simp only [decide_eq_true_eq, decide_eq_false_iff_not, beq_iff_eq, beq_eq_false_iff_ne, bne_iff_ne, bne_eq_false_iff_eq, Bool.not_eq_true', Bool.not_eq_false', ne_eq, Int.not_lt, Int.not_le, Decidable.not_not] at g28'
        refine run_seq ?_
        refine run_region ?_
        refine run_q (.none rfl) rfl rfl (q_eql rfl rfl rfl) ?_
        refine run_q (.none rfl) rfl rfl (q_assign rfl rfl) ?_
        refine run_nil ?_
        refine run_sub (subMk (.cons (s := 2) rfl (.cons (s := 3) rfl (.cons (s := 4) rfl (.cons (s := 5) rfl (.cons (s := 12) rfl (.cons (s := 13) rfl (.cons (s := 14) rfl (.cons (s := 15) rfl (.cons (s := 22) rfl (.cons (s := 31) rfl .nil)))))))))) .refl) ?_
        refine run_cond rfl (fun g31 => ?_) (fun g31 => ?_)
        · have g31' := g31
          try simp only [decide_eq_true_eq, decide_eq_false_iff_not, beq_iff_eq, beq_eq_false_iff_ne, bne_iff_ne, bne_eq_false_iff_eq, Bool.not_eq_true', Bool.not_eq_false', ne_eq, Int.not_lt, Int.not_le, Decidable.not_not] at g31'
          refine run_region ?_
          refine run_q (.none rfl) rfl rfl (q_fieldB (d := 0) rfl Try.underlying25 rfl rfl sz3 rfl) ?_
          refine run_h (.none rfl) (h_storeB rfl rfl sz3 rfl rfl rfl rfl rfl Sel.here rfl) ?_
          rintro - -
          refine run_nil ?_
          refine run_sub (subMk (.cons (s := 2) rfl (.cons (s := 3) rfl (.cons (s := 4) rfl (.cons (s := 5) rfl (.cons (s := 12) rfl (.cons (s := 13) rfl (.cons (s := 14) rfl (.cons (s := 15) rfl .nil)))))))) .refl) ?_
          refine run_blk ?_
          refine run_seq ?_
          refine run_seq ?_
          refine run_region ?_
          refine run_q (.none rfl) rfl rfl (q_move rfl rfl) ?_
          refine run_q (.none rfl) rfl rfl (q_lss rfl rfl rfl) ?_
          refine run_q (.none rfl) rfl rfl (q_move rfl rfl) ?_
          refine run_split 42 rfl (fun g42 => ?_) (fun g42 => ?_)
          · have g42' := g42
            try simp only [decide_eq_true_eq, decide_eq_false_iff_not, beq_iff_eq, beq_eq_false_iff_ne, bne_iff_ne, bne_eq_false_iff_eq, Bool.not_eq_true', Bool.not_eq_false', ne_eq, Int.not_lt, Int.not_le, Decidable.not_not] at g42'
            refine run_off (.no rfl rfl rfl g42) rfl rfl ?_
            refine run_off (.no rfl rfl rfl g42) rfl rfl ?_
            refine run_q (.none rfl) rfl rfl (q_pickT rfl rfl g42 rfl) ?_
            refine run_q (.none rfl) rfl rfl (q_move rfl rfl) ?_
            refine run_off (.no rfl rfl rfl rfl) rfl rfl ?_
            refine run_off (.no rfl rfl rfl rfl) rfl rfl ?_
            refine run_q (.none rfl) rfl rfl (q_pickT rfl rfl rfl rfl) ?_
            refine run_q (.none rfl) rfl rfl (q_move rfl rfl) ?_
            refine run_off (.no rfl rfl rfl rfl) rfl rfl ?_
            refine run_off (.no rfl rfl rfl rfl) rfl rfl ?_
            refine run_off (.no rfl rfl rfl rfl) rfl rfl ?_
            refine run_q (.none rfl) rfl rfl (q_pickT rfl rfl rfl rfl) ?_
            refine run_nil ?_
            refine run_sub (subMk (.cons (s := 12) rfl (.cons (s := 13) rfl (.cons (s := 14) rfl (.cons (s := 15) rfl (.cons (s := 54) rfl .nil))))) .refl) ?_
            refine run_condT rfl rfl ?_
            refine run_seq ?_
            refine run_region ?_
            refine run_q (.none rfl) rfl rfl (q_build rfl PV.nil (built25)) ?_
            refine run_h (.none rfl) (h_storeB rfl rfl sz25 rfl rfl rfl rfl rfl (.there Sel.here) rfl) ?_
            rintro - -
            refine run_q (.none rfl) rfl rfl (q_assign rfl rfl) ?_
            refine run_nil ?_
            refine run_ret ?_
            exact endG rfl (.cellN rfl agg25 Sel.here (.cons rfl (.cons rfl (.cons rfl (.cons rfl (.cons rfl (.cons rfl (.cons rfl (.cons rfl (.cons rfl (.cons rfl (.cons rfl (.cons rfl (.cons rfl CellsAt.nil))))))))))))) rfl (.tmp rfl Outs.nil)) _ .nil (by subst g31'; rw [lineV, if_neg (by decide), if_pos (by omega)]; rfl)
          · have g42' := g42
            try simp only [decide_eq_true_eq, decide_eq_false_iff_not, beq_iff_eq, beq_eq_false_iff_ne, bne_iff_ne, bne_eq_false_iff_eq, Bool.not_eq_true', Bool.not_eq_false', ne_eq, Int.not_lt, Int.not_le, Decidable.not_not] at g42'
            refine run_q (.on rfl rfl rfl g42) rfl rfl (q_move rfl rfl) ?_
            refine run_q (.on rfl rfl rfl g42) rfl rfl (q_lss rfl rfl rfl) ?_
            refine run_q (.none rfl) rfl rfl (q_pickF rfl rfl g42 rfl) ?_
            refine run_q (.none rfl) rfl rfl (q_move rfl rfl) ?_
            refine run_split 46 rfl (fun g46 => ?_) (fun g46 => ?_)
            · have g46' := g46
              try simp only [decide_eq_true_eq, decide_eq_false_iff_not, beq_iff_eq, beq_eq_false_iff_ne, bne_iff_ne, bne_eq_false_iff_eq, Bool.not_eq_true', Bool.not_eq_false', ne_eq, Int.not_lt, Int.not_le, Decidable.not_not] at g46'
              refine run_off (.no rfl rfl rfl g46) rfl rfl ?_
              refine run_off (.no rfl rfl rfl g46) rfl rfl ?_
              refine run_q (.none rfl) rfl rfl (q_pickT rfl rfl g46 rfl) ?_
              refine run_q (.none rfl) rfl rfl (q_move rfl rfl) ?_
              refine run_off (.no rfl rfl rfl rfl) rfl rfl ?_
              refine run_off (.no rfl rfl rfl rfl) rfl rfl ?_
              refine run_off (.no rfl rfl rfl rfl) rfl rfl ?_
              refine run_q (.none rfl) rfl rfl (q_pickT rfl rfl rfl rfl) ?_
              refine run_nil ?_
              refine run_sub (subMk (.cons (s := 12) rfl (.cons (s := 13) rfl (.cons (s := 14) rfl (.cons (s := 15) rfl (.cons (s := 54) rfl .nil))))) .refl) ?_
              refine run_condT rfl rfl ?_
              refine run_seq ?_
              refine run_region ?_
              refine run_q (.none rfl) rfl rfl (q_build rfl PV.nil (built25)) ?_
              refine run_h (.none rfl) (h_storeB rfl rfl sz25 rfl rfl rfl rfl rfl (.there Sel.here) rfl) ?_
              rintro - -
              refine run_q (.none rfl) rfl rfl (q_assign rfl rfl) ?_
              refine run_nil ?_
              refine run_ret ?_
              exact endG rfl (.cellN rfl agg25 Sel.here (.cons rfl (.cons rfl (.cons rfl (.cons rfl (.cons rfl (.cons rfl (.cons rfl (.cons rfl (.cons rfl (.cons rfl (.cons rfl (.cons rfl (.cons rfl CellsAt.nil))))))))))))) rfl (.tmp rfl Outs.nil)) _ .nil (by subst g31'; rw [lineV, if_neg (by decide), if_pos (by omega)]; rfl)
            · have g46' := g46
              try simp only [decide_eq_true_eq, decide_eq_false_iff_not, beq_iff_eq, beq_eq_false_iff_ne, bne_iff_ne, bne_eq_false_iff_eq, Bool.not_eq_true', Bool.not_eq_false', ne_eq, Int.not_lt, Int.not_le, Decidable.not_not] at g46'
              refine run_q (.on rfl rfl rfl g46) rfl rfl (q_move rfl rfl) ?_
              refine run_q (.on rfl rfl rfl g46) rfl rfl (q_lss rfl rfl rfl) ?_
              refine run_q (.none rfl) rfl rfl (q_pickF rfl rfl g46 rfl) ?_
              refine run_q (.none rfl) rfl rfl (q_move rfl rfl) ?_
              refine run_split 50 rfl (fun g50 => ?_) (fun g50 => ?_)
              · have g50' := g50
                try simp only [decide_eq_true_eq, decide_eq_false_iff_not, beq_iff_eq, beq_eq_false_iff_ne, bne_iff_ne, bne_eq_false_iff_eq, Bool.not_eq_true', Bool.not_eq_false', ne_eq, Int.not_lt, Int.not_le, Decidable.not_not] at g50'
                refine run_off (.no rfl rfl rfl g50) rfl rfl ?_
                refine run_off (.no rfl rfl rfl g50) rfl rfl ?_
                refine run_off (.no rfl rfl rfl g50) rfl rfl ?_
                refine run_q (.none rfl) rfl rfl (q_pickT rfl rfl g50 rfl) ?_
                refine run_nil ?_
                refine run_sub (subMk (.cons (s := 12) rfl (.cons (s := 13) rfl (.cons (s := 14) rfl (.cons (s := 15) rfl (.cons (s := 54) rfl .nil))))) .refl) ?_
                refine run_condT rfl rfl ?_
                refine run_seq ?_
                refine run_region ?_
                refine run_q (.none rfl) rfl rfl (q_build rfl PV.nil (built25)) ?_
                refine run_h (.none rfl) (h_storeB rfl rfl sz25 rfl rfl rfl rfl rfl (.there Sel.here) rfl) ?_
                rintro - -
                refine run_q (.none rfl) rfl rfl (q_assign rfl rfl) ?_
                refine run_nil ?_
                refine run_ret ?_
                exact endG rfl (.cellN rfl agg25 Sel.here (.cons rfl (.cons rfl (.cons rfl (.cons rfl (.cons rfl (.cons rfl (.cons rfl (.cons rfl (.cons rfl (.cons rfl (.cons rfl (.cons rfl (.cons rfl CellsAt.nil))))))))))))) rfl (.tmp rfl Outs.nil)) _ .nil (by subst g31'; rw [lineV, if_neg (by decide), if_pos (by omega)]; rfl)
              · have g50' := g50
                try simp only [decide_eq_true_eq, decide_eq_false_iff_not, beq_iff_eq, beq_eq_false_iff_ne, bne_iff_ne, bne_eq_false_iff_eq, Bool.not_eq_true', Bool.not_eq_false', ne_eq, Int.not_lt, Int.not_le, Decidable.not_not] at g50'
                refine run_q (.on rfl rfl rfl g50) rfl rfl (q_move rfl rfl) ?_
                refine run_q (.on rfl rfl rfl g50) rfl rfl (q_move rfl rfl) ?_
                refine run_q (.on rfl rfl rfl g50) rfl rfl (q_lss rfl rfl rfl) ?_
                refine run_q (.none rfl) rfl rfl (q_pickF rfl rfl g50 rfl) ?_
                refine run_nil ?_
                refine run_sub (subMk (.cons (s := 12) rfl (.cons (s := 13) rfl (.cons (s := 14) rfl (.cons (s := 15) rfl (.cons (s := 54) rfl .nil))))) .refl) ?_
                refine run_cond rfl (fun g54 => ?_) (fun g54 => ?_)
                · have g54' := g54
                  try simp only [decide_eq_true_eq, decide_eq_false_iff_not, beq_iff_eq, beq_eq_false_iff_ne, bne_iff_ne, bne_eq_false_iff_eq, Bool.not_eq_true', Bool.not_eq_false', ne_eq, Int.not_lt, Int.not_le, Decidable.not_not] at g54'
                  refine run_seq ?_
                  refine run_region ?_
                  refine run_q (.none rfl) rfl rfl (q_build rfl PV.nil (built25)) ?_
                  refine run_h (.none rfl) (h_storeB rfl rfl sz25 rfl rfl rfl rfl rfl (.there Sel.here) rfl) ?_
                  rintro - -
                  refine run_q (.none rfl) rfl rfl (q_assign rfl rfl) ?_
                  refine run_nil ?_
                  refine run_ret ?_
                  exact endG rfl (.cellN rfl agg25 Sel.here (.cons rfl (.cons rfl (.cons rfl (.cons rfl (.cons rfl (.cons rfl (.cons rfl (.cons rfl (.cons rfl (.cons rfl (.cons rfl (.cons rfl (.cons rfl CellsAt.nil))))))))))))) rfl (.tmp rfl Outs.nil)) _ .nil (by subst g31'; rw [lineV, if_neg (by decide), if_pos (by omega)]; rfl)
                · have g54' := g54
                  try simp only [decide_eq_true_eq, decide_eq_false_iff_not, beq_iff_eq, beq_eq_false_iff_ne, bne_iff_ne, bne_eq_false_iff_eq, Bool.not_eq_true', Bool.not_eq_false', ne_eq, Int.not_lt, Int.not_le, Decidable.not_not] at g54'
                  refine run_skip ?_
                  refine run_seq ?_
                  refine run_region ?_
                  refine run_q (.none rfl) rfl rfl (q_loadBN rfl agg25 rfl Sel.here (.cons rfl (.cons rfl (.cons rfl (.cons rfl (.cons rfl (.cons rfl (.cons rfl (.cons rfl (.cons rfl (.cons rfl (.cons rfl (.cons rfl (.cons rfl CellsAt.nil))))))))))))) rfl) ?_
                  refine run_q (.none rfl) rfl rfl (q_move rfl rfl) ?_
                  refine run_q (.none rfl) rfl rfl (q_call rfl call36 (.cons rfl (.cons rfl Evs.nil)) (fun w hk hm => on_just ⟨58, i, t, f, l, 0, 0, 0, site, num, 0, 0, 32⟩ (-1) w (by decide))) ?_
                  refine run_h (.none rfl) (h_storeB rfl rfl sz25 rfl rfl rfl rfl rfl (.there Sel.here) rfl) ?_
                  rintro - -
                  refine run_q (.none rfl) rfl rfl (q_assign rfl rfl) ?_
                  refine run_nil ?_
                  refine run_sub (subMk (.cons (s := 12) rfl (.cons (s := 13) rfl .nil)) .refl) ?_
                  refine run_ret ?_
                  exact endG rfl (.cellN rfl agg25 Sel.here (.cons rfl (.cons rfl (.cons rfl (.cons rfl (.cons rfl (.cons rfl (.cons rfl (.cons rfl (.cons rfl (.cons rfl (.cons rfl (.cons rfl (.cons rfl CellsAt.nil))))))))))))) rfl (.tmp rfl Outs.nil)) _ .nil (by subst g31'; rw [lineV, if_neg (by decide), if_neg (by omega)]; rfl)
        · have g31' := g31
          try simp only [decide_eq_true_eq, decide_eq_false_iff_not, beq_iff_eq, beq_eq_false_iff_ne, bne_iff_ne, bne_eq_false_iff_eq, Bool.not_eq_true', Bool.not_eq_false', ne_eq, Int.not_lt, Int.not_le, Decidable.not_not] at g31'
          refine run_seq ?_
          refine run_region ?_
          refine run_q (.none rfl) rfl rfl (q_eql rfl rfl rfl) ?_
          refine run_q (.none rfl) rfl rfl (q_assign rfl rfl) ?_
          refine run_nil ?_
          refine run_cond rfl (fun g34 => ?_) (fun g34 => ?_)
          · have g34' := g34
            try simp only [decide_eq_true_eq, decide_eq_false_iff_not, beq_iff_eq, beq_eq_false_iff_ne, bne_iff_ne, bne_eq_false_iff_eq, Bool.not_eq_true', Bool.not_eq_false', ne_eq, Int.not_lt, Int.not_le, Decidable.not_not] at g34'
            refine run_region ?_
            refine run_q (.none rfl) rfl rfl (q_fieldB (d := 0) rfl Try.underlying25 rfl rfl sz3 rfl) ?_
            refine run_h (.none rfl) (h_storeB rfl rfl sz3 rfl rfl rfl rfl rfl Sel.here rfl) ?_
            rintro - -
            refine run_q (.none rfl) rfl rfl (q_assign rfl rfl) ?_
            refine run_nil ?_
            refine run_sub (subMk (.cons (s := 2) rfl (.cons (s := 3) rfl (.cons (s := 4) rfl (.cons (s := 5) rfl (.cons (s := 12) rfl (.cons (s := 13) rfl (.cons (s := 14) rfl (.cons (s := 15) rfl .nil)))))))) .refl) ?_
            refine run_blk ?_
            refine run_seq ?_
            refine run_seq ?_
            refine run_region ?_
            refine run_q (.none rfl) rfl rfl (q_move rfl rfl) ?_
            refine run_q (.none rfl) rfl rfl (q_lss rfl rfl rfl) ?_
            refine run_q (.none rfl) rfl rfl (q_move rfl rfl) ?_
            refine run_split 42 rfl (fun g42 => ?_) (fun g42 => ?_)
            · have g42' := g42
              try simp only [decide_eq_true_eq, decide_eq_false_iff_not, beq_iff_eq, beq_eq_false_iff_ne, bne_iff_ne, bne_eq_false_iff_eq, Bool.not_eq_true', Bool.not_eq_false', ne_eq, Int.not_lt, Int.not_le, Decidable.not_not] at g42'
              refine run_off (.no rfl rfl rfl g42) rfl rfl ?_
              refine run_off (.no rfl rfl rfl g42) rfl rfl ?_
              refine run_q (.none rfl) rfl rfl (q_pickT rfl rfl g42 rfl) ?_
              refine run_q (.none rfl) rfl rfl (q_move rfl rfl) ?_
              refine run_off (.no rfl rfl rfl rfl) rfl rfl ?_
              refine run_off (.no rfl rfl rfl rfl) rfl rfl ?_
              refine run_q (.none rfl) rfl rfl (q_pickT rfl rfl rfl rfl) ?_
              refine run_q (.none rfl) rfl rfl (q_move rfl rfl) ?_
              refine run_off (.no rfl rfl rfl rfl) rfl rfl ?_
              refine run_off (.no rfl rfl rfl rfl) rfl rfl ?_
              refine run_off (.no rfl rfl rfl rfl) rfl rfl ?_
              refine run_q (.none rfl) rfl rfl (q_pickT rfl rfl rfl rfl) ?_
              refine run_nil ?_
              refine run_sub (subMk (.cons (s := 12) rfl (.cons (s := 13) rfl (.cons (s := 14) rfl (.cons (s := 15) rfl (.cons (s := 54) rfl .nil))))) .refl) ?_
              refine run_condT rfl rfl ?_
              refine run_seq ?_
              refine run_region ?_
              refine run_q (.none rfl) rfl rfl (q_build rfl PV.nil (built25)) ?_
              refine run_h (.none rfl) (h_storeB rfl rfl sz25 rfl rfl rfl rfl rfl (.there Sel.here) rfl) ?_
              rintro - -
              refine run_q (.none rfl) rfl rfl (q_assign rfl rfl) ?_
              refine run_nil ?_
              refine run_ret ?_
              exact endG rfl (.cellN rfl agg25 Sel.here (.cons rfl (.cons rfl (.cons rfl (.cons rfl (.cons rfl (.cons rfl (.cons rfl (.cons rfl (.cons rfl (.cons rfl (.cons rfl (.cons rfl (.cons rfl CellsAt.nil))))))))))))) rfl (.tmp rfl Outs.nil)) _ .nil (by subst g34'; rw [lineV, if_neg (by decide), if_pos (by omega)]; rfl)
            · have g42' := g42
              try simp only [decide_eq_true_eq, decide_eq_false_iff_not, beq_iff_eq, beq_eq_false_iff_ne, bne_iff_ne, bne_eq_false_iff_eq, Bool.not_eq_true', Bool.not_eq_false', ne_eq, Int.not_lt, Int.not_le, Decidable.not_not] at g42'
              refine run_q (.on rfl rfl rfl g42) rfl rfl (q_move rfl rfl) ?_
              refine run_q (.on rfl rfl rfl g42) rfl rfl (q_lss rfl rfl rfl) ?_
              refine run_q (.none rfl) rfl rfl (q_pickF rfl rfl g42 rfl) ?_
              refine run_q (.none rfl) rfl rfl (q_move rfl rfl) ?_
              refine run_split 46 rfl (fun g46 => ?_) (fun g46 => ?_)
              · have g46' := g46
                try simp only [decide_eq_true_eq, decide_eq_false_iff_not, beq_iff_eq, beq_eq_false_iff_ne, bne_iff_ne, bne_eq_false_iff_eq, Bool.not_eq_true', Bool.not_eq_false', ne_eq, Int.not_lt, Int.not_le, Decidable.not_not] at g46'
                refine run_off (.no rfl rfl rfl g46) rfl rfl ?_
                refine run_off (.no rfl rfl rfl g46) rfl rfl ?_
                refine run_q (.none rfl) rfl rfl (q_pickT rfl rfl g46 rfl) ?_
                refine run_q (.none rfl) rfl rfl (q_move rfl rfl) ?_
                refine run_off (.no rfl rfl rfl rfl) rfl rfl ?_
                refine run_off (.no rfl rfl rfl rfl) rfl rfl ?_
                refine run_off (.no rfl rfl rfl rfl) rfl rfl ?_
                refine run_q (.none rfl) rfl rfl (q_pickT rfl rfl rfl rfl) ?_
                refine run_nil ?_
                refine run_sub (subMk (.cons (s := 12) rfl (.cons (s := 13) rfl (.cons (s := 14) rfl (.cons (s := 15) rfl (.cons (s := 54) rfl .nil))))) .refl) ?_
                refine run_condT rfl rfl ?_
                refine run_seq ?_
                refine run_region ?_
                refine run_q (.none rfl) rfl rfl (q_build rfl PV.nil (built25)) ?_
                refine run_h (.none rfl) (h_storeB rfl rfl sz25 rfl rfl rfl rfl rfl (.there Sel.here) rfl) ?_
                rintro - -
                refine run_q (.none rfl) rfl rfl (q_assign rfl rfl) ?_
                refine run_nil ?_
                refine run_ret ?_
                exact endG rfl (.cellN rfl agg25 Sel.here (.cons rfl (.cons rfl (.cons rfl (.cons rfl (.cons rfl (.cons rfl (.cons rfl (.cons rfl (.cons rfl (.cons rfl (.cons rfl (.cons rfl (.cons rfl CellsAt.nil))))))))))))) rfl (.tmp rfl Outs.nil)) _ .nil (by subst g34'; rw [lineV, if_neg (by decide), if_pos (by omega)]; rfl)
              · have g46' := g46
                try simp only [decide_eq_true_eq, decide_eq_false_iff_not, beq_iff_eq, beq_eq_false_iff_ne, bne_iff_ne, bne_eq_false_iff_eq, Bool.not_eq_true', Bool.not_eq_false', ne_eq, Int.not_lt, Int.not_le, Decidable.not_not] at g46'
                refine run_q (.on rfl rfl rfl g46) rfl rfl (q_move rfl rfl) ?_
                refine run_q (.on rfl rfl rfl g46) rfl rfl (q_lss rfl rfl rfl) ?_
                refine run_q (.none rfl) rfl rfl (q_pickF rfl rfl g46 rfl) ?_
                refine run_q (.none rfl) rfl rfl (q_move rfl rfl) ?_
                refine run_split 50 rfl (fun g50 => ?_) (fun g50 => ?_)
                · have g50' := g50
                  try simp only [decide_eq_true_eq, decide_eq_false_iff_not, beq_iff_eq, beq_eq_false_iff_ne, bne_iff_ne, bne_eq_false_iff_eq, Bool.not_eq_true', Bool.not_eq_false', ne_eq, Int.not_lt, Int.not_le, Decidable.not_not] at g50'
                  refine run_off (.no rfl rfl rfl g50) rfl rfl ?_
                  refine run_off (.no rfl rfl rfl g50) rfl rfl ?_
                  refine run_off (.no rfl rfl rfl g50) rfl rfl ?_
                  refine run_q (.none rfl) rfl rfl (q_pickT rfl rfl g50 rfl) ?_
                  refine run_nil ?_
                  refine run_sub (subMk (.cons (s := 12) rfl (.cons (s := 13) rfl (.cons (s := 14) rfl (.cons (s := 15) rfl (.cons (s := 54) rfl .nil))))) .refl) ?_
                  refine run_condT rfl rfl ?_
                  refine run_seq ?_
                  refine run_region ?_
                  refine run_q (.none rfl) rfl rfl (q_build rfl PV.nil (built25)) ?_
                  refine run_h (.none rfl) (h_storeB rfl rfl sz25 rfl rfl rfl rfl rfl (.there Sel.here) rfl) ?_
                  rintro - -
                  refine run_q (.none rfl) rfl rfl (q_assign rfl rfl) ?_
                  refine run_nil ?_
                  refine run_ret ?_
                  exact endG rfl (.cellN rfl agg25 Sel.here (.cons rfl (.cons rfl (.cons rfl (.cons rfl (.cons rfl (.cons rfl (.cons rfl (.cons rfl (.cons rfl (.cons rfl (.cons rfl (.cons rfl (.cons rfl CellsAt.nil))))))))))))) rfl (.tmp rfl Outs.nil)) _ .nil (by subst g34'; rw [lineV, if_neg (by decide), if_pos (by omega)]; rfl)
                · have g50' := g50
                  try simp only [decide_eq_true_eq, decide_eq_false_iff_not, beq_iff_eq, beq_eq_false_iff_ne, bne_iff_ne, bne_eq_false_iff_eq, Bool.not_eq_true', Bool.not_eq_false', ne_eq, Int.not_lt, Int.not_le, Decidable.not_not] at g50'
                  refine run_q (.on rfl rfl rfl g50) rfl rfl (q_move rfl rfl) ?_
                  refine run_q (.on rfl rfl rfl g50) rfl rfl (q_move rfl rfl) ?_
                  refine run_q (.on rfl rfl rfl g50) rfl rfl (q_lss rfl rfl rfl) ?_
                  refine run_q (.none rfl) rfl rfl (q_pickF rfl rfl g50 rfl) ?_
                  refine run_nil ?_
                  refine run_sub (subMk (.cons (s := 12) rfl (.cons (s := 13) rfl (.cons (s := 14) rfl (.cons (s := 15) rfl (.cons (s := 54) rfl .nil))))) .refl) ?_
                  refine run_cond rfl (fun g54 => ?_) (fun g54 => ?_)
                  · have g54' := g54
                    try simp only [decide_eq_true_eq, decide_eq_false_iff_not, beq_iff_eq, beq_eq_false_iff_ne, bne_iff_ne, bne_eq_false_iff_eq, Bool.not_eq_true', Bool.not_eq_false', ne_eq, Int.not_lt, Int.not_le, Decidable.not_not] at g54'
                    refine run_seq ?_
                    refine run_region ?_
                    refine run_q (.none rfl) rfl rfl (q_build rfl PV.nil (built25)) ?_
                    refine run_h (.none rfl) (h_storeB rfl rfl sz25 rfl rfl rfl rfl rfl (.there Sel.here) rfl) ?_
                    rintro - -
                    refine run_q (.none rfl) rfl rfl (q_assign rfl rfl) ?_
                    refine run_nil ?_
                    refine run_ret ?_
                    exact endG rfl (.cellN rfl agg25 Sel.here (.cons rfl (.cons rfl (.cons rfl (.cons rfl (.cons rfl (.cons rfl (.cons rfl (.cons rfl (.cons rfl (.cons rfl (.cons rfl (.cons rfl (.cons rfl CellsAt.nil))))))))))))) rfl (.tmp rfl Outs.nil)) _ .nil (by subst g34'; rw [lineV, if_neg (by decide), if_pos (by omega)]; rfl)
                  · have g54' := g54
                    try simp only [decide_eq_true_eq, decide_eq_false_iff_not, beq_iff_eq, beq_eq_false_iff_ne, bne_iff_ne, bne_eq_false_iff_eq, Bool.not_eq_true', Bool.not_eq_false', ne_eq, Int.not_lt, Int.not_le, Decidable.not_not] at g54'
                    refine run_skip ?_
                    refine run_seq ?_
                    refine run_region ?_
                    refine run_q (.none rfl) rfl rfl (q_loadBN rfl agg25 rfl Sel.here (.cons rfl (.cons rfl (.cons rfl (.cons rfl (.cons rfl (.cons rfl (.cons rfl (.cons rfl (.cons rfl (.cons rfl (.cons rfl (.cons rfl (.cons rfl CellsAt.nil))))))))))))) rfl) ?_
                    refine run_q (.none rfl) rfl rfl (q_move rfl rfl) ?_
                    refine run_q (.none rfl) rfl rfl (q_call rfl call36 (.cons rfl (.cons rfl Evs.nil)) (fun w hk hm => on_just ⟨58, i, t, f, l, 0, 0, 0, site, num, 0, 0, 32⟩ (1) w (by decide))) ?_
                    refine run_h (.none rfl) (h_storeB rfl rfl sz25 rfl rfl rfl rfl rfl (.there Sel.here) rfl) ?_
                    rintro - -
                    refine run_q (.none rfl) rfl rfl (q_assign rfl rfl) ?_
                    refine run_nil ?_
                    refine run_sub (subMk (.cons (s := 12) rfl (.cons (s := 13) rfl .nil)) .refl) ?_
                    refine run_ret ?_
                    exact endG rfl (.cellN rfl agg25 Sel.here (.cons rfl (.cons rfl (.cons rfl (.cons rfl (.cons rfl (.cons rfl (.cons rfl (.cons rfl (.cons rfl (.cons rfl (.cons rfl (.cons rfl (.cons rfl CellsAt.nil))))))))))))) rfl (.tmp rfl Outs.nil)) _ .nil (by subst g34'; rw [lineV, if_neg (by decide), if_neg (by omega)]; rfl)
          · have g34' := g34
            try simp only [decide_eq_true_eq, decide_eq_false_iff_not, beq_iff_eq, beq_eq_false_iff_ne, bne_iff_ne, bne_eq_false_iff_eq, Bool.not_eq_true', Bool.not_eq_false', ne_eq, Int.not_lt, Int.not_le, Decidable.not_not] at g34'
            refine run_seq ?_
            refine run_region ?_
            refine run_q (.none rfl) rfl rfl (q_eql rfl rfl rfl) ?_
            refine run_q (.none rfl) rfl rfl (q_assign rfl rfl) ?_
            refine run_nil ?_
            refine run_sub (subMk (.cons (s := 2) rfl (.cons (s := 3) rfl (.cons (s := 4) rfl (.cons (s := 5) rfl (.cons (s := 12) rfl (.cons (s := 13) rfl (.cons (s := 14) rfl (.cons (s := 15) rfl (.cons (s := 37) rfl .nil))))))))) .refl) ?_
            refine run_cond rfl (fun g37 => ?_) (fun g37 => ?_)
            · have g37' := g37
              try simp only [decide_eq_true_eq, decide_eq_false_iff_not, beq_iff_eq, beq_eq_false_iff_ne, bne_iff_ne, bne_eq_false_iff_eq, Bool.not_eq_true', Bool.not_eq_false', ne_eq, Int.not_lt, Int.not_le, Decidable.not_not] at g37'
              refine run_region ?_
              refine run_q (.none rfl) rfl rfl (q_fieldB (d := 0) rfl Try.underlying25 rfl rfl sz3 rfl) ?_
              refine run_h (.none rfl) (h_storeB rfl rfl sz3 rfl rfl rfl rfl rfl Sel.here rfl) ?_
              rintro - -
              refine run_q (.none rfl) rfl rfl (q_assign rfl rfl) ?_
              refine run_nil ?_
              refine run_blk ?_
              refine run_seq ?_
              refine run_seq ?_
              refine run_region ?_
              refine run_q (.none rfl) rfl rfl (q_move rfl rfl) ?_
              refine run_q (.none rfl) rfl rfl (q_lss rfl rfl rfl) ?_
              refine run_q (.none rfl) rfl rfl (q_move rfl rfl) ?_
              refine run_split 42 rfl (fun g42 => ?_) (fun g42 => ?_)
              · have g42' := g42
                try simp only [decide_eq_true_eq, decide_eq_false_iff_not, beq_iff_eq, beq_eq_false_iff_ne, bne_iff_ne, bne_eq_false_iff_eq, Bool.not_eq_true', Bool.not_eq_false', ne_eq, Int.not_lt, Int.not_le, Decidable.not_not] at g42'
                refine run_off (.no rfl rfl rfl g42) rfl rfl ?_
                refine run_off (.no rfl rfl rfl g42) rfl rfl ?_
                refine run_q (.none rfl) rfl rfl (q_pickT rfl rfl g42 rfl) ?_
                refine run_q (.none rfl) rfl rfl (q_move rfl rfl) ?_
                refine run_off (.no rfl rfl rfl rfl) rfl rfl ?_
                refine run_off (.no rfl rfl rfl rfl) rfl rfl ?_
                refine run_q (.none rfl) rfl rfl (q_pickT rfl rfl rfl rfl) ?_
                refine run_q (.none rfl) rfl rfl (q_move rfl rfl) ?_
                refine run_off (.no rfl rfl rfl rfl) rfl rfl ?_
                refine run_off (.no rfl rfl rfl rfl) rfl rfl ?_
                refine run_off (.no rfl rfl rfl rfl) rfl rfl ?_
                refine run_q (.none rfl) rfl rfl (q_pickT rfl rfl rfl rfl) ?_
                refine run_nil ?_
                refine run_sub (subMk (.cons (s := 12) rfl (.cons (s := 13) rfl (.cons (s := 14) rfl (.cons (s := 15) rfl (.cons (s := 54) rfl .nil))))) .refl) ?_
                refine run_condT rfl rfl ?_
                refine run_seq ?_
                refine run_region ?_
                refine run_q (.none rfl) rfl rfl (q_build rfl PV.nil (built25)) ?_
                refine run_h (.none rfl) (h_storeB rfl rfl sz25 rfl rfl rfl rfl rfl (.there Sel.here) rfl) ?_
                rintro - -
                refine run_q (.none rfl) rfl rfl (q_assign rfl rfl) ?_
                refine run_nil ?_
                refine run_ret ?_
                exact endG rfl (.cellN rfl agg25 Sel.here (.cons rfl (.cons rfl (.cons rfl (.cons rfl (.cons rfl (.cons rfl (.cons rfl (.cons rfl (.cons rfl (.cons rfl (.cons rfl (.cons rfl (.cons rfl CellsAt.nil))))))))))))) rfl (.tmp rfl Outs.nil)) _ .nil (by subst g37'; rw [lineV, if_neg (by decide), if_pos (by omega)]; rfl)
              · have g42' := g42
                try simp only [decide_eq_true_eq, decide_eq_false_iff_not, beq_iff_eq, beq_eq_false_iff_ne, bne_iff_ne, bne_eq_false_iff_eq, Bool.not_eq_true', Bool.not_eq_false', ne_eq, Int.not_lt, Int.not_le, Decidable.not_not] at g42'
                refine run_q (.on rfl rfl rfl g42) rfl rfl (q_move rfl rfl) ?_
                refine run_q (.on rfl rfl rfl g42) rfl rfl (q_lss rfl rfl rfl) ?_
                refine run_q (.none rfl) rfl rfl (q_pickF rfl rfl g42 rfl) ?_
                refine run_q (.none rfl) rfl rfl (q_move rfl rfl) ?_
                refine run_split 46 rfl (fun g46 => ?_) (fun g46 => ?_)
                · have g46' := g46
                  try simp only [decide_eq_true_eq, decide_eq_false_iff_not, beq_iff_eq, beq_eq_false_iff_ne, bne_iff_ne, bne_eq_false_iff_eq, Bool.not_eq_true', Bool.not_eq_false', ne_eq, Int.not_lt, Int.not_le, Decidable.not_not] at g46'
                  refine run_off (.no rfl rfl rfl g46) rfl rfl ?_
                  refine run_off (.no rfl rfl rfl g46) rfl rfl ?_
                  refine run_q (.none rfl) rfl rfl (q_pickT rfl rfl g46 rfl) ?_
                  refine run_q (.none rfl) rfl rfl (q_move rfl rfl) ?_
                  refine run_off (.no rfl rfl rfl rfl) rfl rfl ?_
                  refine run_off (.no rfl rfl rfl rfl) rfl rfl ?_
                  refine run_off (.no rfl rfl rfl rfl) rfl rfl ?_
                  refine run_q (.none rfl) rfl rfl (q_pickT rfl rfl rfl rfl) ?_
                  refine run_nil ?_
                  refine run_sub (subMk (.cons (s := 12) rfl (.cons (s := 13) rfl (.cons (s := 14) rfl (.cons (s := 15) rfl (.cons (s := 54) rfl .nil))))) .refl) ?_
                  refine run_condT rfl rfl ?_
                  refine run_seq ?_
                  refine run_region ?_
                  refine run_q (.none rfl) rfl rfl (q_build rfl PV.nil (built25)) ?_
                  refine run_h (.none rfl) (h_storeB rfl rfl sz25 rfl rfl rfl rfl rfl (.there Sel.here) rfl) ?_
                  rintro - -
                  refine run_q (.none rfl) rfl rfl (q_assign rfl rfl) ?_
                  refine run_nil ?_
                  refine run_ret ?_
                  exact endG rfl (.cellN rfl agg25 Sel.here (.cons rfl (.cons rfl (.cons rfl (.cons rfl (.cons rfl (.cons rfl (.cons rfl (.cons rfl (.cons rfl (.cons rfl (.cons rfl (.cons rfl (.cons rfl CellsAt.nil))))))))))))) rfl (.tmp rfl Outs.nil)) _ .nil (by subst g37'; rw [lineV, if_neg (by decide), if_pos (by omega)]; rfl)
                · have g46' := g46
                  try simp only [decide_eq_true_eq, decide_eq_false_iff_not, beq_iff_eq, beq_eq_false_iff_ne, bne_iff_ne, bne_eq_false_iff_eq, Bool.not_eq_true', Bool.not_eq_false', ne_eq, Int.not_lt, Int.not_le, Decidable.not_not] at g46'
                  refine run_q (.on rfl rfl rfl g46) rfl rfl (q_move rfl rfl) ?_
                  refine run_q (.on rfl rfl rfl g46) rfl rfl (q_lss rfl rfl rfl) ?_
                  refine run_q (.none rfl) rfl rfl (q_pickF rfl rfl g46 rfl) ?_
                  refine run_q (.none rfl) rfl rfl (q_move rfl rfl) ?_
                  refine run_split 50 rfl (fun g50 => ?_) (fun g50 => ?_)
                  · have g50' := g50
                    try simp only [decide_eq_true_eq, decide_eq_false_iff_not, beq_iff_eq, beq_eq_false_iff_ne, bne_iff_ne, bne_eq_false_iff_eq, Bool.not_eq_true', Bool.not_eq_false', ne_eq, Int.not_lt, Int.not_le, Decidable.not_not] at g50'
                    refine run_off (.no rfl rfl rfl g50) rfl rfl ?_
                    refine run_off (.no rfl rfl rfl g50) rfl rfl ?_
                    refine run_off (.no rfl rfl rfl g50) rfl rfl ?_
                    refine run_q (.none rfl) rfl rfl (q_pickT rfl rfl g50 rfl) ?_
                    refine run_nil ?_
                    refine run_sub (subMk (.cons (s := 12) rfl (.cons (s := 13) rfl (.cons (s := 14) rfl (.cons (s := 15) rfl (.cons (s := 54) rfl .nil))))) .refl) ?_
                    refine run_condT rfl rfl ?_
                    refine run_seq ?_
                    refine run_region ?_
                    refine run_q (.none rfl) rfl rfl (q_build rfl PV.nil (built25)) ?_
                    refine run_h (.none rfl) (h_storeB rfl rfl sz25 rfl rfl rfl rfl rfl (.there Sel.here) rfl) ?_
                    rintro - -
                    refine run_q (.none rfl) rfl rfl (q_assign rfl rfl) ?_
                    refine run_nil ?_
                    refine run_ret ?_
                    exact endG rfl (.cellN rfl agg25 Sel.here (.cons rfl (.cons rfl (.cons rfl (.cons rfl (.cons rfl (.cons rfl (.cons rfl (.cons rfl (.cons rfl (.cons rfl (.cons rfl (.cons rfl (.cons rfl CellsAt.nil))))))))))))) rfl (.tmp rfl Outs.nil)) _ .nil (by subst g37'; rw [lineV, if_neg (by decide), if_pos (by omega)]; rfl)
                  · have g50' := g50
                    try simp only [decide_eq_true_eq, decide_eq_false_iff_not, beq_iff_eq, beq_eq_false_iff_ne, bne_iff_ne, bne_eq_false_iff_eq, Bool.not_eq_true', Bool.not_eq_false', ne_eq, Int.not_lt, Int.not_le, Decidable.not_not] at g50'
                    refine run_q (.on rfl rfl rfl g50) rfl rfl (q_move rfl rfl) ?_
                    refine run_q (.on rfl rfl rfl g50) rfl rfl (q_move rfl rfl) ?_
                    refine run_q (.on rfl rfl rfl g50) rfl rfl (q_lss rfl rfl rfl) ?_
                    refine run_q (.none rfl) rfl rfl (q_pickF rfl rfl g50 rfl) ?_
                    refine run_nil ?_
                    refine run_sub (subMk (.cons (s := 12) rfl (.cons (s := 13) rfl (.cons (s := 14) rfl (.cons (s := 15) rfl (.cons (s := 54) rfl .nil))))) .refl) ?_
                    refine run_cond rfl (fun g54 => ?_) (fun g54 => ?_)
                    · have g54' := g54
                      try simp only [decide_eq_true_eq, decide_eq_false_iff_not, beq_iff_eq, beq_eq_false_iff_ne, bne_iff_ne, bne_eq_false_iff_eq, Bool.not_eq_true', Bool.not_eq_false', ne_eq, Int.not_lt, Int.not_le, Decidable.not_not] at g54'
                      refine run_seq ?_
                      refine run_region ?_
                      refine run_q (.none rfl) rfl rfl (q_build rfl PV.nil (built25)) ?_
                      refine run_h (.none rfl) (h_storeB rfl rfl sz25 rfl rfl rfl rfl rfl (.there Sel.here) rfl) ?_
                      rintro - -
                      refine run_q (.none rfl) rfl rfl (q_assign rfl rfl) ?_
                      refine run_nil ?_
                      refine run_ret ?_
                      exact endG rfl (.cellN rfl agg25 Sel.here (.cons rfl (.cons rfl (.cons rfl (.cons rfl (.cons rfl (.cons rfl (.cons rfl (.cons rfl (.cons rfl (.cons rfl (.cons rfl (.cons rfl (.cons rfl CellsAt.nil))))))))))))) rfl (.tmp rfl Outs.nil)) _ .nil (by subst g37'; rw [lineV, if_neg (by decide), if_pos (by omega)]; rfl)
                    · have g54' := g54
                      try simp only [decide_eq_true_eq, decide_eq_false_iff_not, beq_iff_eq, beq_eq_false_iff_ne, bne_iff_ne, bne_eq_false_iff_eq, Bool.not_eq_true', Bool.not_eq_false', ne_eq, Int.not_lt, Int.not_le, Decidable.not_not] at g54'
                      refine run_skip ?_
                      refine run_seq ?_
                      refine run_region ?_
                      refine run_q (.none rfl) rfl rfl (q_loadBN rfl agg25 rfl Sel.here (.cons rfl (.cons rfl (.cons rfl (.cons rfl (.cons rfl (.cons rfl (.cons rfl (.cons rfl (.cons rfl (.cons rfl (.cons rfl (.cons rfl (.cons rfl CellsAt.nil))))))))))))) rfl) ?_
                      refine run_q (.none rfl) rfl rfl (q_move rfl rfl) ?_
                      refine run_q (.none rfl) rfl rfl (q_call rfl call36 (.cons rfl (.cons rfl Evs.nil)) (fun w hk hm => on_just ⟨53, i, t, f, l, 0, 0, 0, site, num, 0, 0, 32⟩ (1) w (by decide))) ?_
                      refine run_h (.none rfl) (h_storeB rfl rfl sz25 rfl rfl rfl rfl rfl (.there Sel.here) rfl) ?_
                      rintro - -
                      refine run_q (.none rfl) rfl rfl (q_assign rfl rfl) ?_
                      refine run_nil ?_
                      refine run_sub (subMk (.cons (s := 12) rfl (.cons (s := 13) rfl .nil)) .refl) ?_
                      refine run_ret ?_
                      exact endG rfl (.cellN rfl agg25 Sel.here (.cons rfl (.cons rfl (.cons rfl (.cons rfl (.cons rfl (.cons rfl (.cons rfl (.cons rfl (.cons rfl (.cons rfl (.cons rfl (.cons rfl (.cons rfl CellsAt.nil))))))))))))) rfl (.tmp rfl Outs.nil)) _ .nil (by subst g37'; rw [lineV, if_neg (by decide), if_neg (by omega)]; rfl)
            · have g37' := g37
              try simp only [decide_eq_true_eq, decide_eq_false_iff_not, beq_iff_eq, beq_eq_false_iff_ne, bne_iff_ne, bne_eq_false_iff_eq, Bool.not_eq_true', Bool.not_eq_false', ne_eq, Int.not_lt, Int.not_le, Decidable.not_not] at g37'
              refine run_seq ?_
              refine run_region ?_
              refine run_q (.none rfl) rfl rfl (q_build rfl PV.nil (built25)) ?_
              refine run_h (.none rfl) (h_storeB rfl rfl sz25 rfl rfl rfl rfl rfl (.there Sel.here) rfl) ?_
              rintro - -
              refine run_q (.none rfl) rfl rfl (q_assign rfl rfl) ?_
              refine run_nil ?_
              refine run_ret ?_
              exact endG rfl (.cellN rfl agg25 Sel.here (.cons rfl (.cons rfl (.cons rfl (.cons rfl (.cons rfl (.cons rfl (.cons rfl (.cons rfl (.cons rfl (.cons rfl (.cons rfl (.cons rfl (.cons rfl CellsAt.nil))))))))))))) rfl (.tmp rfl Outs.nil)) _ .nil (by rw [lineV, if_pos (by rw [lineC, if_neg (by omega), if_neg (by omega), if_neg (by omega), if_neg (by omega)])]; rfl)

set_option maxRecDepth 100000 in
theorem mark_just (x : Req) (e : Int) (W : World) (h1 : 0 ≤ x.left ∧ x.left ≤ 65536) (h2 : 0 ≤ x.hgt ∧ x.hgt ≤ 65536) (he : -1000000000 ≤ e ∧ e ≤ 1000000000) : Calls Try.prog 43 #[x.val, .int .i64 e] W (Hr.Just W ((mkV x e).val)) := by
  refine Just.of_ret ?_
  refine enterA (X := nX) (vs := [x.val, .int .i64 e]) Try.func43 Try.ntmps43 rfl rfl Mem.nil ?_
  refine run_seq ?_
  refine run_region ?_
  refine run_h (.none rfl) (h_box rfl rfl rfl rfl rfl) ?_
  rintro b2 -
  refine run_h (.none rfl) (h_alloc rfl rfl rfl info50) ?_
  rintro b4 -
  refine run_nil ?_
  refine run_seq ?_
  refine run_region ?_
  refine run_q (.none rfl) rfl rfl (q_fieldB (d := 0) rfl Try.underlying25 rfl rfl sz3 rfl) ?_
  refine run_q (.none rfl) rfl rfl (q_loadB rfl one3 rfl (.there Sel.here) rfl) ?_
  refine run_q (.none rfl) rfl rfl (q_fieldB (d := 1) rfl Try.underlying25 rfl rfl sz3 rfl) ?_
  refine run_q (.none rfl) rfl rfl (q_loadB rfl one3 rfl (.there Sel.here) rfl) ?_
  refine run_q (.none rfl) rfl rfl (q_fieldB (d := 2) rfl Try.underlying25 rfl rfl sz3 rfl) ?_
  refine run_q (.none rfl) rfl rfl (q_loadB rfl one3 rfl (.there Sel.here) rfl) ?_
  refine run_q (.none rfl) rfl rfl (q_fieldB (d := 3) rfl Try.underlying25 rfl rfl sz3 rfl) ?_
  refine run_q (.none rfl) rfl rfl (q_loadB rfl one3 rfl (.there Sel.here) rfl) ?_
  refine run_q (.none rfl) rfl rfl (q_fieldB (d := 4) rfl Try.underlying25 rfl rfl sz3 rfl) ?_
  refine run_q (.none rfl) rfl rfl (q_loadB rfl one3 rfl (.there Sel.here) rfl) ?_
  refine run_q (.none rfl) rfl rfl (q_fieldB (d := 7) rfl Try.underlying25 rfl rfl sz3 rfl) ?_
  refine run_q (.none rfl) rfl rfl (q_loadB rfl one3 rfl (.there Sel.here) rfl) ?_
  refine run_q (.none rfl) rfl rfl (q_fieldB (d := 8) rfl Try.underlying25 rfl rfl sz23 rfl) ?_
  refine run_q (.none rfl) rfl rfl (q_loadBN rfl agg23 rfl (.there Sel.here) (.cons rfl (.cons rfl CellsAt.nil)) rfl) ?_
  refine run_q (.none rfl) rfl rfl (q_build rfl (.cons rfl (.cons rfl (.cons rfl (.cons rfl (.cons rfl (.cons rfl (.cons rfl PV.nil))))))) (built50p0p1p2p3p4p5p6 _ _ _ _ _ _ _ _)) ?_
  refine run_h (.none rfl) (h_alloc rfl rfl rfl info50) ?_
  rintro b5 -
  refine run_h (.none rfl) (h_storeB rfl rfl sz50 rfl rfl rfl rfl rfl Sel.here rfl) ?_
  rintro - -
  refine run_nil ?_
  refine run_sub (subMk (.cons (s := 1) rfl (.cons (s := 2) rfl (.cons (s := 4) rfl (.cons (s := 5) rfl .nil)))) .refl) ?_
  refine run_seq ?_
  refine run_region ?_
  refine run_q (.none rfl) rfl rfl (q_fieldB (d := 10) rfl Try.underlying25 rfl rfl sz3 rfl) ?_
  refine run_q (.none rfl) rfl rfl (q_loadB rfl one3 rfl (.there (.there Sel.here)) rfl) ?_
  refine run_q (.none rfl) rfl rfl (q_neg rfl rfl (by omega)) ?_
  refine run_q (.none rfl) rfl rfl (q_move rfl rfl) ?_
  refine run_q (.none rfl) rfl rfl (q_fieldB (d := 11) rfl Try.underlying25 rfl rfl sz3 rfl) ?_
  refine run_q (.none rfl) rfl rfl (q_loadB rfl one3 rfl (.there (.there Sel.here)) rfl) ?_
  refine run_q (.none rfl) rfl rfl (q_move rfl rfl) ?_
  refine run_q (.none rfl) rfl rfl (q_fieldB (d := 12) rfl Try.underlying25 rfl rfl sz3 rfl) ?_
  refine run_q (.none rfl) rfl rfl (q_loadB rfl one3 rfl (.there (.there Sel.here)) rfl) ?_
  refine run_q (.none rfl) rfl rfl (q_add rfl rfl rfl (by omega)) ?_
  refine run_q (.none rfl) rfl rfl (q_build rfl (.cons rfl (.cons rfl (.cons rfl (.cons rfl PV.nil)))) (built48p0p1p2p3 _ _ _ _)) ?_
  refine run_q (.none rfl) rfl rfl (q_fieldB (d := 8) rfl Try.underlying50 rfl rfl sz48 rfl) ?_
  refine run_h (.none rfl) (h_storeB rfl rfl sz48 rfl rfl rfl rfl rfl Sel.here rfl) ?_
  rintro - -
  refine run_nil ?_
  refine run_sub (subMk (.cons (s := 1) rfl (.cons (s := 2) rfl (.cons (s := 4) rfl (.cons (s := 5) rfl .nil)))) .refl) ?_
  refine run_seq ?_
  refine run_seq ?_
  refine run_region ?_
  refine run_q (.none rfl) rfl rfl (q_fieldB (d := 5) rfl Try.underlying25 rfl rfl sz3 rfl) ?_
  refine run_q (.none rfl) rfl rfl (q_loadB rfl one3 rfl (.there (.there Sel.here)) rfl) ?_
  refine run_q (.none rfl) rfl rfl (q_eql rfl rfl rfl) ?_
  refine run_nil ?_
  refine run_cond rfl (fun g35 => ?_) (fun g35 => ?_)
  · have g35' := g35
    try simp only [decide_eq_true_eq, decide_eq_false_iff_not, beq_iff_eq, beq_eq_false_iff_ne, bne_iff_ne, bne_eq_false_iff_eq, Bool.not_eq_true', Bool.not_eq_false', ne_eq, Int.not_lt, Int.not_le, Decidable.not_not] at g35'
    refine run_region ?_
    refine run_q (.none rfl) rfl rfl (q_move rfl rfl) ?_
    refine run_q (.none rfl) rfl rfl (q_fieldB (d := 12) rfl Try.underlying25 rfl rfl sz3 rfl) ?_
    refine run_q (.none rfl) rfl rfl (q_loadB rfl one3 rfl (.there (.there Sel.here)) rfl) ?_
    refine run_q (.none rfl) rfl rfl (q_sub rfl rfl rfl (by omega)) ?_
    refine run_q (.none rfl) rfl rfl (q_move rfl rfl) ?_
    refine run_q (.none rfl) rfl rfl (q_fieldB (d := 8) rfl Try.underlying50 rfl rfl sz48 rfl) ?_
    refine run_q (.none rfl) rfl rfl (q_fieldB (d := 9) rfl Try.underlying48 rfl rfl sz3 rfl) ?_
    refine run_h (.none rfl) (h_storeB rfl rfl sz3 rfl rfl rfl rfl rfl Sel.here rfl) ?_
    rintro - -
    refine run_q (.none rfl) rfl rfl (q_fieldB (d := 8) rfl Try.underlying50 rfl rfl sz48 rfl) ?_
    refine run_q (.none rfl) rfl rfl (q_fieldB (d := 11) rfl Try.underlying48 rfl rfl sz3 rfl) ?_
    refine run_h (.none rfl) (h_storeB rfl rfl sz3 rfl rfl rfl rfl rfl Sel.here rfl) ?_
    rintro - -
    refine run_nil ?_
    refine run_sub (subMk (.cons (s := 4) rfl (.cons (s := 5) rfl .nil)) .refl) ?_
    refine run_seq ?_
    refine run_region ?_
    refine run_q (.none rfl) rfl rfl (q_loadBN rfl agg50 rfl Sel.here (.cons rfl (.cons rfl (.cons rfl (.cons rfl (.cons rfl (.cons rfl (.cons rfl (.cons rfl (.cons rfl (.cons rfl (.cons rfl (.cons rfl CellsAt.nil)))))))))))) rfl) ?_
    refine run_h (.none rfl) (h_storeB rfl rfl sz50 rfl rfl rfl rfl rfl (.there Sel.here) rfl) ?_
    rintro - -
    refine run_nil ?_
    refine run_ret ?_
    exact endG rfl (.cellN rfl agg50 Sel.here (.cons rfl (.cons rfl (.cons rfl (.cons rfl (.cons rfl (.cons rfl (.cons rfl (.cons rfl (.cons rfl (.cons rfl (.cons rfl (.cons rfl CellsAt.nil)))))))))))) rfl Outs.nil) _ .nil (by rw [mkV, if_pos (by omega)]; rfl)
  · have g35' := g35
    try simp only [decide_eq_true_eq, decide_eq_false_iff_not, beq_iff_eq, beq_eq_false_iff_ne, bne_iff_ne, bne_eq_false_iff_eq, Bool.not_eq_true', Bool.not_eq_false', ne_eq, Int.not_lt, Int.not_le, Decidable.not_not] at g35'
    refine run_skip ?_
    refine run_seq ?_
    refine run_region ?_
    refine run_q (.none rfl) rfl rfl (q_loadBN rfl agg50 rfl Sel.here (.cons rfl (.cons rfl (.cons rfl (.cons rfl (.cons rfl (.cons rfl (.cons rfl (.cons rfl (.cons rfl (.cons rfl (.cons rfl (.cons rfl CellsAt.nil)))))))))))) rfl) ?_
    refine run_h (.none rfl) (h_storeB rfl rfl sz50 rfl rfl rfl rfl rfl (.there Sel.here) rfl) ?_
    rintro - -
    refine run_nil ?_
    refine run_sub (subMk (.cons (s := 4) rfl .nil) .refl) ?_
    refine run_ret ?_
    exact endG rfl (.cellN rfl agg50 Sel.here (.cons rfl (.cons rfl (.cons rfl (.cons rfl (.cons rfl (.cons rfl (.cons rfl (.cons rfl (.cons rfl (.cons rfl (.cons rfl (.cons rfl CellsAt.nil)))))))))))) rfl Outs.nil) _ .nil (by rw [mkV, if_neg (by omega)]; rfl)

end Go.Proofs.YtgphmbipakdggaaR
