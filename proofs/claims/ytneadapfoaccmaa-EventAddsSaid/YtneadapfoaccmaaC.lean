/- The reference's checks of heads, grace notes and syllables. -/
import Derived.Test.YtneadapfoaccmaaB
set_option linter.unusedSimpArgs false
set_option linter.unusedVariables false
namespace Go.Proofs.Ytneadapfoaccmaa
open Go Go.RowKit Hr

theorem info3 : Hr.Info Try.prog 3 [.int .i64 0] 1 8 := Hr.Info.of (by kernel_rfl)
theorem call36 : Hr.Callable Try.prog 36 := fun args w => by kernel_rfl
theorem call49 : Hr.Callable Try.prog 49 := fun args w => by kernel_rfl
theorem call56 : Hr.Callable Try.prog 56 := fun args w => by kernel_rfl

theorem in_just (n lo hi : Int) (W : World)  : Calls Try.prog 49 #[.int .i64 n, .int .i64 lo, .int .i64 hi] W (Hr.Just W (.bool (decide (lo ≤ n ∧ n ≤ hi)))) := by
  refine Just.of_ret ?_
  refine enterA (X := nX) (vs := [.int .i64 n, .int .i64 lo, .int .i64 hi]) Try.func49 Try.ntmps49 rfl rfl Mem.nil ?_
  refine run_seq ?_
  refine run_region ?_
  refine run_q (.none rfl) rfl rfl (q_assign rfl rfl) ?_
  refine run_nil ?_
  refine run_seq ?_
  refine run_region ?_
  refine run_q (.none rfl) rfl rfl (q_move rfl rfl) ?_
  refine run_q (.none rfl) rfl rfl (q_move rfl rfl) ?_
  refine run_q (.none rfl) rfl rfl (q_geq rfl rfl rfl) ?_
  refine run_q (.none rfl) rfl rfl (q_move rfl rfl) ?_
  refine run_split 10 rfl (fun g10 => ?_) (fun g10 => ?_)
  · have g10' := g10
    try simp only [decide_eq_true_eq, decide_eq_false_iff_not, beq_iff_eq, beq_eq_false_iff_ne, bne_iff_ne, bne_eq_false_iff_eq, Bool.not_eq_true', Bool.not_eq_false', ne_eq, Int.not_lt, Int.not_le, Decidable.not_not] at g10'
    refine run_q (.on rfl rfl rfl g10) rfl rfl (q_move rfl rfl) ?_
    refine run_q (.on rfl rfl rfl g10) rfl rfl (q_move rfl rfl) ?_
    refine run_q (.on rfl rfl rfl g10) rfl rfl (q_leq rfl rfl rfl) ?_
    refine run_q (.none rfl) rfl rfl (q_pickT rfl rfl g10 rfl) ?_
    refine run_q (.none rfl) rfl rfl (q_assign rfl rfl) ?_
    refine run_nil ?_
    refine run_sub (subMk (.cons (s := 6) rfl .nil) .refl) ?_
    refine run_ret ?_
    exact end1 rfl rfl (congrArg Value.bool (by rw [Bool.eq_iff_iff]; (try simp only [decide_eq_true_eq, Bool.false_eq_true, false_iff, true_iff]); omega))
  · have g10' := g10
    try simp only [decide_eq_true_eq, decide_eq_false_iff_not, beq_iff_eq, beq_eq_false_iff_ne, bne_iff_ne, bne_eq_false_iff_eq, Bool.not_eq_true', Bool.not_eq_false', ne_eq, Int.not_lt, Int.not_le, Decidable.not_not] at g10'
    refine run_off (.no rfl rfl rfl g10) rfl rfl ?_
    refine run_off (.no rfl rfl rfl g10) rfl rfl ?_
    refine run_off (.no rfl rfl rfl g10) rfl rfl ?_
    refine run_q (.none rfl) rfl rfl (q_pickF rfl rfl g10 rfl) ?_
    refine run_q (.none rfl) rfl rfl (q_assign rfl rfl) ?_
    refine run_nil ?_
    refine run_sub (subMk (.cons (s := 6) rfl .nil) .refl) ?_
    refine run_ret ?_
    exact end1 rfl rfl (congrArg Value.bool (by rw [Bool.eq_iff_iff]; (try simp only [decide_eq_true_eq, Bool.false_eq_true, false_iff, true_iff]); omega))

set_option maxRecDepth 100000 in
theorem refNumber_just (s a o : Int) (W : World)  : Calls Try.prog 36 #[.agg #[.int .i64 s, .int .i64 a, .int .i64 o]] W (Hr.Just W (.int .i64 (numP s a o))) := by
  refine Just.of_ret ?_
  refine enterA (X := nX) (vs := [.agg #[.int .i64 s, .int .i64 a, .int .i64 o]]) Try.func36 Try.ntmps36 rfl rfl Mem.nil ?_
  refine run_seq ?_
  refine run_region ?_
  refine run_h (.none rfl) (h_box rfl rfl rfl rfl rfl) ?_
  rintro b1 -
  refine run_q (.none rfl) rfl rfl (q_assign rfl rfl) ?_
  refine run_nil ?_
  refine run_seq ?_
  refine run_seq ?_
  refine run_region ?_
  refine run_q (.none rfl) rfl rfl (q_fieldB (d := 0) rfl Try.underlying51 rfl rfl sz3 rfl) ?_
  refine run_q (.none rfl) rfl rfl (q_loadB rfl one3 rfl Sel.here rfl) ?_
  refine run_q (.none rfl) rfl rfl (q_lss rfl rfl rfl) ?_
  refine run_q (.none rfl) rfl rfl (q_move rfl rfl) ?_
  refine run_split 7 rfl (fun g7 => ?_) (fun g7 => ?_)
  · have g7' := g7
    try simp only [decide_eq_true_eq, decide_eq_false_iff_not, beq_iff_eq, beq_eq_false_iff_ne, bne_iff_ne, bne_eq_false_iff_eq, Bool.not_eq_true', Bool.not_eq_false', ne_eq, Int.not_lt, Int.not_le, Decidable.not_not] at g7'
    refine run_off (.no rfl rfl rfl g7) rfl rfl ?_
    refine run_off (.no rfl rfl rfl g7) rfl rfl ?_
    refine run_off (.no rfl rfl rfl g7) rfl rfl ?_
    refine run_q (.none rfl) rfl rfl (q_pickT rfl rfl g7 rfl) ?_
    refine run_q (.none rfl) rfl rfl (q_move rfl rfl) ?_
    refine run_off (.no rfl rfl rfl rfl) rfl rfl ?_
    refine run_off (.no rfl rfl rfl rfl) rfl rfl ?_
    refine run_off (.no rfl rfl rfl rfl) rfl rfl ?_
    refine run_q (.none rfl) rfl rfl (q_pickT rfl rfl rfl rfl) ?_
    refine run_q (.none rfl) rfl rfl (q_move rfl rfl) ?_
    refine run_off (.no rfl rfl rfl rfl) rfl rfl ?_
    refine run_off (.no rfl rfl rfl rfl) rfl rfl ?_
    refine run_off (.no rfl rfl rfl rfl) rfl rfl ?_
    refine run_q (.none rfl) rfl rfl (q_pickT rfl rfl rfl rfl) ?_
    refine run_q (.none rfl) rfl rfl (q_move rfl rfl) ?_
    refine run_off (.no rfl rfl rfl rfl) rfl rfl ?_
    refine run_off (.no rfl rfl rfl rfl) rfl rfl ?_
    refine run_off (.no rfl rfl rfl rfl) rfl rfl ?_
    refine run_q (.none rfl) rfl rfl (q_pickT rfl rfl rfl rfl) ?_
    refine run_q (.none rfl) rfl rfl (q_move rfl rfl) ?_
    refine run_off (.no rfl rfl rfl rfl) rfl rfl ?_
    refine run_off (.no rfl rfl rfl rfl) rfl rfl ?_
    refine run_off (.no rfl rfl rfl rfl) rfl rfl ?_
    refine run_q (.none rfl) rfl rfl (q_pickT rfl rfl rfl rfl) ?_
    refine run_nil ?_
    refine run_sub (subMk (.cons (s := 1) rfl (.cons (s := 2) rfl (.cons (s := 31) rfl .nil))) .refl) ?_
    refine run_condT rfl rfl ?_
    refine run_seq ?_
    refine run_region ?_
    refine run_q (.none rfl) rfl rfl (q_assign rfl rfl) ?_
    refine run_nil ?_
    refine run_ret ?_
    exact end1 rfl rfl (by rw [numP_1 (by unfold inP; omega)])
  · have g7' := g7
    try simp only [decide_eq_true_eq, decide_eq_false_iff_not, beq_iff_eq, beq_eq_false_iff_ne, bne_iff_ne, bne_eq_false_iff_eq, Bool.not_eq_true', Bool.not_eq_false', ne_eq, Int.not_lt, Int.not_le, Decidable.not_not] at g7'
    refine run_q (.on rfl rfl rfl g7) rfl rfl (q_fieldB (d := 0) rfl Try.underlying51 rfl rfl sz3 rfl) ?_
    refine run_q (.on rfl rfl rfl g7) rfl rfl (q_loadB rfl one3 rfl Sel.here rfl) ?_
    refine run_q (.on rfl rfl rfl g7) rfl rfl (q_gtr rfl rfl rfl) ?_
    refine run_q (.none rfl) rfl rfl (q_pickF rfl rfl g7 rfl) ?_
    refine run_q (.none rfl) rfl rfl (q_move rfl rfl) ?_
    refine run_split 12 rfl (fun g12 => ?_) (fun g12 => ?_)
    · have g12' := g12
      try simp only [decide_eq_true_eq, decide_eq_false_iff_not, beq_iff_eq, beq_eq_false_iff_ne, bne_iff_ne, bne_eq_false_iff_eq, Bool.not_eq_true', Bool.not_eq_false', ne_eq, Int.not_lt, Int.not_le, Decidable.not_not] at g12'
      refine run_off (.no rfl rfl rfl g12) rfl rfl ?_
      refine run_off (.no rfl rfl rfl g12) rfl rfl ?_
      refine run_off (.no rfl rfl rfl g12) rfl rfl ?_
      refine run_q (.none rfl) rfl rfl (q_pickT rfl rfl g12 rfl) ?_
      refine run_q (.none rfl) rfl rfl (q_move rfl rfl) ?_
      refine run_off (.no rfl rfl rfl rfl) rfl rfl ?_
      refine run_off (.no rfl rfl rfl rfl) rfl rfl ?_
      refine run_off (.no rfl rfl rfl rfl) rfl rfl ?_
      refine run_q (.none rfl) rfl rfl (q_pickT rfl rfl rfl rfl) ?_
      refine run_q (.none rfl) rfl rfl (q_move rfl rfl) ?_
      refine run_off (.no rfl rfl rfl rfl) rfl rfl ?_
      refine run_off (.no rfl rfl rfl rfl) rfl rfl ?_
      refine run_off (.no rfl rfl rfl rfl) rfl rfl ?_
      refine run_q (.none rfl) rfl rfl (q_pickT rfl rfl rfl rfl) ?_
      refine run_q (.none rfl) rfl rfl (q_move rfl rfl) ?_
      refine run_off (.no rfl rfl rfl rfl) rfl rfl ?_
      refine run_off (.no rfl rfl rfl rfl) rfl rfl ?_
      refine run_off (.no rfl rfl rfl rfl) rfl rfl ?_
      refine run_q (.none rfl) rfl rfl (q_pickT rfl rfl rfl rfl) ?_
      refine run_nil ?_
      refine run_sub (subMk (.cons (s := 1) rfl (.cons (s := 2) rfl (.cons (s := 31) rfl .nil))) .refl) ?_
      refine run_condT rfl rfl ?_
      refine run_seq ?_
      refine run_region ?_
      refine run_q (.none rfl) rfl rfl (q_assign rfl rfl) ?_
      refine run_nil ?_
      refine run_ret ?_
      exact end1 rfl rfl (by rw [numP_1 (by unfold inP; omega)])
    · have g12' := g12
      try simp only [decide_eq_true_eq, decide_eq_false_iff_not, beq_iff_eq, beq_eq_false_iff_ne, bne_iff_ne, bne_eq_false_iff_eq, Bool.not_eq_true', Bool.not_eq_false', ne_eq, Int.not_lt, Int.not_le, Decidable.not_not] at g12'
      refine run_q (.on rfl rfl rfl g12) rfl rfl (q_fieldB (d := 1) rfl Try.underlying51 rfl rfl sz3 rfl) ?_
      refine run_q (.on rfl rfl rfl g12) rfl rfl (q_loadB rfl one3 rfl Sel.here rfl) ?_
      refine run_q (.on rfl rfl rfl g12) rfl rfl (q_lss rfl rfl rfl) ?_
      refine run_q (.none rfl) rfl rfl (q_pickF rfl rfl g12 rfl) ?_
      refine run_q (.none rfl) rfl rfl (q_move rfl rfl) ?_
      refine run_split 17 rfl (fun g17 => ?_) (fun g17 => ?_)
      · have g17' := g17
        try simp only [decide_eq_true_eq, decide_eq_false_iff_not, beq_iff_eq, beq_eq_false_iff_ne, bne_iff_ne, bne_eq_false_iff_eq, Bool.not_eq_true', Bool.not_eq_false', ne_eq, Int.not_lt, Int.not_le, Decidable.not_not] at g17'
        refine run_off (.no rfl rfl rfl g17) rfl rfl ?_
        refine run_off (.no rfl rfl rfl g17) rfl rfl ?_
        refine run_off (.no rfl rfl rfl g17) rfl rfl ?_
        refine run_q (.none rfl) rfl rfl (q_pickT rfl rfl g17 rfl) ?_
        refine run_q (.none rfl) rfl rfl (q_move rfl rfl) ?_
        refine run_off (.no rfl rfl rfl rfl) rfl rfl ?_
        refine run_off (.no rfl rfl rfl rfl) rfl rfl ?_
        refine run_off (.no rfl rfl rfl rfl) rfl rfl ?_
        refine run_q (.none rfl) rfl rfl (q_pickT rfl rfl rfl rfl) ?_
        refine run_q (.none rfl) rfl rfl (q_move rfl rfl) ?_
        refine run_off (.no rfl rfl rfl rfl) rfl rfl ?_
        refine run_off (.no rfl rfl rfl rfl) rfl rfl ?_
        refine run_off (.no rfl rfl rfl rfl) rfl rfl ?_
        refine run_q (.none rfl) rfl rfl (q_pickT rfl rfl rfl rfl) ?_
        refine run_nil ?_
        refine run_sub (subMk (.cons (s := 1) rfl (.cons (s := 2) rfl (.cons (s := 31) rfl .nil))) .refl) ?_
        refine run_condT rfl rfl ?_
        refine run_seq ?_
        refine run_region ?_
        refine run_q (.none rfl) rfl rfl (q_assign rfl rfl) ?_
        refine run_nil ?_
        refine run_ret ?_
        exact end1 rfl rfl (by rw [numP_1 (by unfold inP; omega)])
      · have g17' := g17
        try simp only [decide_eq_true_eq, decide_eq_false_iff_not, beq_iff_eq, beq_eq_false_iff_ne, bne_iff_ne, bne_eq_false_iff_eq, Bool.not_eq_true', Bool.not_eq_false', ne_eq, Int.not_lt, Int.not_le, Decidable.not_not] at g17'
        refine run_q (.on rfl rfl rfl g17) rfl rfl (q_fieldB (d := 1) rfl Try.underlying51 rfl rfl sz3 rfl) ?_
        refine run_q (.on rfl rfl rfl g17) rfl rfl (q_loadB rfl one3 rfl Sel.here rfl) ?_
        refine run_q (.on rfl rfl rfl g17) rfl rfl (q_gtr rfl rfl rfl) ?_
        refine run_q (.none rfl) rfl rfl (q_pickF rfl rfl g17 rfl) ?_
        refine run_q (.none rfl) rfl rfl (q_move rfl rfl) ?_
        refine run_split 22 rfl (fun g22 => ?_) (fun g22 => ?_)
        · have g22' := g22
          try simp only [decide_eq_true_eq, decide_eq_false_iff_not, beq_iff_eq, beq_eq_false_iff_ne, bne_iff_ne, bne_eq_false_iff_eq, Bool.not_eq_true', Bool.not_eq_false', ne_eq, Int.not_lt, Int.not_le, Decidable.not_not] at g22'
          refine run_off (.no rfl rfl rfl g22) rfl rfl ?_
          refine run_off (.no rfl rfl rfl g22) rfl rfl ?_
          refine run_off (.no rfl rfl rfl g22) rfl rfl ?_
          refine run_q (.none rfl) rfl rfl (q_pickT rfl rfl g22 rfl) ?_
          refine run_q (.none rfl) rfl rfl (q_move rfl rfl) ?_
          refine run_off (.no rfl rfl rfl rfl) rfl rfl ?_
          refine run_off (.no rfl rfl rfl rfl) rfl rfl ?_
          refine run_off (.no rfl rfl rfl rfl) rfl rfl ?_
          refine run_q (.none rfl) rfl rfl (q_pickT rfl rfl rfl rfl) ?_
          refine run_nil ?_
          refine run_sub (subMk (.cons (s := 1) rfl (.cons (s := 2) rfl (.cons (s := 31) rfl .nil))) .refl) ?_
          refine run_condT rfl rfl ?_
          refine run_seq ?_
          refine run_region ?_
          refine run_q (.none rfl) rfl rfl (q_assign rfl rfl) ?_
          refine run_nil ?_
          refine run_ret ?_
          exact end1 rfl rfl (by rw [numP_1 (by unfold inP; omega)])
        · have g22' := g22
          try simp only [decide_eq_true_eq, decide_eq_false_iff_not, beq_iff_eq, beq_eq_false_iff_ne, bne_iff_ne, bne_eq_false_iff_eq, Bool.not_eq_true', Bool.not_eq_false', ne_eq, Int.not_lt, Int.not_le, Decidable.not_not] at g22'
          refine run_q (.on rfl rfl rfl g22) rfl rfl (q_fieldB (d := 2) rfl Try.underlying51 rfl rfl sz3 rfl) ?_
          refine run_q (.on rfl rfl rfl g22) rfl rfl (q_loadB rfl one3 rfl Sel.here rfl) ?_
          refine run_q (.on rfl rfl rfl g22) rfl rfl (q_lss rfl rfl rfl) ?_
          refine run_q (.none rfl) rfl rfl (q_pickF rfl rfl g22 rfl) ?_
          refine run_q (.none rfl) rfl rfl (q_move rfl rfl) ?_
          refine run_split 27 rfl (fun g27 => ?_) (fun g27 => ?_)
          · have g27' := g27
            try simp only [decide_eq_true_eq, decide_eq_false_iff_not, beq_iff_eq, beq_eq_false_iff_ne, bne_iff_ne, bne_eq_false_iff_eq, Bool.not_eq_true', Bool.not_eq_false', ne_eq, Int.not_lt, Int.not_le, Decidable.not_not] at g27'
            refine run_off (.no rfl rfl rfl g27) rfl rfl ?_
            refine run_off (.no rfl rfl rfl g27) rfl rfl ?_
            refine run_off (.no rfl rfl rfl g27) rfl rfl ?_
            refine run_q (.none rfl) rfl rfl (q_pickT rfl rfl g27 rfl) ?_
            refine run_nil ?_
            refine run_sub (subMk (.cons (s := 1) rfl (.cons (s := 2) rfl (.cons (s := 31) rfl .nil))) .refl) ?_
            refine run_condT rfl rfl ?_
            refine run_seq ?_
            refine run_region ?_
            refine run_q (.none rfl) rfl rfl (q_assign rfl rfl) ?_
            refine run_nil ?_
            refine run_ret ?_
            exact end1 rfl rfl (by rw [numP_1 (by unfold inP; omega)])
          · have g27' := g27
            try simp only [decide_eq_true_eq, decide_eq_false_iff_not, beq_iff_eq, beq_eq_false_iff_ne, bne_iff_ne, bne_eq_false_iff_eq, Bool.not_eq_true', Bool.not_eq_false', ne_eq, Int.not_lt, Int.not_le, Decidable.not_not] at g27'
            refine run_q (.on rfl rfl rfl g27) rfl rfl (q_fieldB (d := 2) rfl Try.underlying51 rfl rfl sz3 rfl) ?_
            refine run_q (.on rfl rfl rfl g27) rfl rfl (q_loadB rfl one3 rfl Sel.here rfl) ?_
            refine run_q (.on rfl rfl rfl g27) rfl rfl (q_gtr rfl rfl rfl) ?_
            refine run_q (.none rfl) rfl rfl (q_pickF rfl rfl g27 rfl) ?_
            refine run_nil ?_
            refine run_sub (subMk (.cons (s := 1) rfl (.cons (s := 2) rfl (.cons (s := 31) rfl .nil))) .refl) ?_
            refine run_cond rfl (fun g31 => ?_) (fun g31 => ?_)
            · have g31' := g31
              try simp only [decide_eq_true_eq, decide_eq_false_iff_not, beq_iff_eq, beq_eq_false_iff_ne, bne_iff_ne, bne_eq_false_iff_eq, Bool.not_eq_true', Bool.not_eq_false', ne_eq, Int.not_lt, Int.not_le, Decidable.not_not] at g31'
              refine run_seq ?_
              refine run_region ?_
              refine run_q (.none rfl) rfl rfl (q_assign rfl rfl) ?_
              refine run_nil ?_
              refine run_ret ?_
              exact end1 rfl rfl (by rw [numP_1 (by unfold inP; omega)])
            · have g31' := g31
              try simp only [decide_eq_true_eq, decide_eq_false_iff_not, beq_iff_eq, beq_eq_false_iff_ne, bne_iff_ne, bne_eq_false_iff_eq, Bool.not_eq_true', Bool.not_eq_false', ne_eq, Int.not_lt, Int.not_le, Decidable.not_not] at g31'
              have hin : inP s a o := by unfold inP; omega
              have hs := semi_bd (s := s) (by omega)
              refine run_skip ?_
              refine run_seq ?_
              refine run_fork mixed (by kernel_rfl) .refl ?_
              refine b_q (i := 1) rfl (by kernel_rfl) (.none rfl) rfl rfl (q_fieldB (d := 0) rfl Try.underlying51 rfl rfl sz3 rfl) ?_
              refine b_q (i := 2) rfl (by kernel_rfl) (.none rfl) rfl rfl (q_loadB rfl one3 rfl Sel.here rfl) ?_
              refine b_q (i := 5) rfl (by kernel_rfl) (.none rfl) rfl rfl (q_fieldB (d := 1) rfl Try.underlying51 rfl rfl sz3 rfl) ?_
              refine b_q (i := 6) rfl (by kernel_rfl) (.none rfl) rfl rfl (q_loadB rfl one3 rfl Sel.here rfl) ?_
              refine b_q (i := 8) rfl (by kernel_rfl) (.none rfl) rfl rfl (q_fieldB (d := 2) rfl Try.underlying51 rfl rfl sz3 rfl) ?_
              refine b_q (i := 9) rfl (by kernel_rfl) (.none rfl) rfl rfl (q_loadB rfl one3 rfl Sel.here rfl) ?_
              refine b_q (i := 10) rfl (by kernel_rfl) (.none rfl) rfl rfl (q_add rfl rfl rfl (by omega)) ?_
              refine b_q (i := 11) rfl (by kernel_rfl) (.none rfl) rfl rfl (q_mul rfl rfl rfl (by omega)) ?_
              refine b_one 0 (by kernel_rfl) ?_
              refine b_hN rfl (.none rfl) (h_buildSlice rfl rfl rfl Try.underlying94 info3 (.cons rfl rfl rfl rfl (.cons rfl rfl rfl rfl (.cons rfl rfl rfl rfl (.cons rfl rfl rfl rfl (.cons rfl rfl rfl rfl (.cons rfl rfl rfl rfl (.cons rfl rfl rfl rfl Parts.nil))))))) rfl (by omega)) (fun _ _ => (.sub (by repeat (first | exact List.Sublist.refl _ | apply List.Sublist.cons)))) ?_
              rintro b32 -
              refine b_q (i := 3) rfl (by kernel_rfl) (.none rfl) rfl rfl (q_indexS (q := s.toNat) rfl Try.underlying94 sz3 rfl rfl (.own Sel.here) rfl (by omega) (by omega)) ?_
              refine b_q (i := 4) rfl (by kernel_rfl) (.none rfl) rfl rfl (q_loadC rfl one3 rfl (.own Sel.here) (semi_gets (by omega))) ?_
              refine b_q (i := 7) rfl (by kernel_rfl) (.none rfl) rfl rfl (q_add rfl rfl rfl (by omega)) ?_
              refine b_q (i := 12) rfl (by kernel_rfl) (.none rfl) rfl rfl (q_add rfl rfl rfl (by omega)) ?_
              refine b_q (i := 13) rfl (by kernel_rfl) (.none rfl) rfl rfl (q_assign rfl rfl) ?_
              refine b_nil (by kernel_rfl) ?_
              refine run_sub (subMk (.cons (s := 2) rfl (.cons (s := 3) rfl .nil)) .refl) ?_
              refine run_seq ?_
              refine run_seq ?_
              refine run_region ?_
              refine run_q (.none rfl) rfl rfl (q_move rfl rfl) ?_
              refine run_q (.none rfl) rfl rfl (q_lss rfl rfl rfl) ?_
              refine run_q (.none rfl) rfl rfl (q_move rfl rfl) ?_
              refine run_split 47 rfl (fun g47 => ?_) (fun g47 => ?_)
              · have g47' := g47
                try simp only [decide_eq_true_eq, decide_eq_false_iff_not, beq_iff_eq, beq_eq_false_iff_ne, bne_iff_ne, bne_eq_false_iff_eq, Bool.not_eq_true', Bool.not_eq_false', ne_eq, Int.not_lt, Int.not_le, Decidable.not_not] at g47'
                refine run_off (.no rfl rfl rfl g47) rfl rfl ?_
                refine run_off (.no rfl rfl rfl g47) rfl rfl ?_
                refine run_q (.none rfl) rfl rfl (q_pickT rfl rfl g47 rfl) ?_
                refine run_nil ?_
                refine run_sub (subMk (.cons (s := 2) rfl (.cons (s := 3) rfl (.cons (s := 50) rfl .nil))) .refl) ?_
                refine run_condT rfl rfl ?_
                refine run_seq ?_
                refine run_region ?_
                refine run_q (.none rfl) rfl rfl (q_assign rfl rfl) ?_
                refine run_nil ?_
                refine run_ret ?_
                exact end1 rfl rfl (by rw [numP_2 hin (by omega)])
              · have g47' := g47
                try simp only [decide_eq_true_eq, decide_eq_false_iff_not, beq_iff_eq, beq_eq_false_iff_ne, bne_iff_ne, bne_eq_false_iff_eq, Bool.not_eq_true', Bool.not_eq_false', ne_eq, Int.not_lt, Int.not_le, Decidable.not_not] at g47'
                refine run_q (.on rfl rfl rfl g47) rfl rfl (q_move rfl rfl) ?_
                refine run_q (.on rfl rfl rfl g47) rfl rfl (q_gtr rfl rfl rfl) ?_
                refine run_q (.none rfl) rfl rfl (q_pickF rfl rfl g47 rfl) ?_
                refine run_nil ?_
                refine run_sub (subMk (.cons (s := 2) rfl (.cons (s := 3) rfl (.cons (s := 50) rfl .nil))) .refl) ?_
                refine run_cond rfl (fun g50 => ?_) (fun g50 => ?_)
                · have g50' := g50
                  try simp only [decide_eq_true_eq, decide_eq_false_iff_not, beq_iff_eq, beq_eq_false_iff_ne, bne_iff_ne, bne_eq_false_iff_eq, Bool.not_eq_true', Bool.not_eq_false', ne_eq, Int.not_lt, Int.not_le, Decidable.not_not] at g50'
                  refine run_seq ?_
                  refine run_region ?_
                  refine run_q (.none rfl) rfl rfl (q_assign rfl rfl) ?_
                  refine run_nil ?_
                  refine run_ret ?_
                  exact end1 rfl rfl (by rw [numP_2 hin (by omega)])
                · have g50' := g50
                  try simp only [decide_eq_true_eq, decide_eq_false_iff_not, beq_iff_eq, beq_eq_false_iff_ne, bne_iff_ne, bne_eq_false_iff_eq, Bool.not_eq_true', Bool.not_eq_false', ne_eq, Int.not_lt, Int.not_le, Decidable.not_not] at g50'
                  refine run_skip ?_
                  refine run_seq ?_
                  refine run_region ?_
                  refine run_q (.none rfl) rfl rfl (q_move rfl rfl) ?_
                  refine run_q (.none rfl) rfl rfl (q_assign rfl rfl) ?_
                  refine run_nil ?_
                  refine run_sub (subMk (.cons (s := 2) rfl .nil) .refl) ?_
                  refine run_ret ?_
                  exact end1 rfl rfl (by rw [numP_3 hin (by omega)])

set_option maxHeartbeats 1000000 in
set_option maxRecDepth 100000 in
theorem refHeads_just (l : List Hd) (A : Option Addr) (ca : Nat) (W : World) (hr : Rd W A 5 (l.map Hd.enc)) (hl : l.length ≤ 100000) : Calls Try.prog 19 #[.slice A l.length ca] W (Hr.Just W (.int .i64 (headsE l))) := by
  refine Just.of_ret ?_
  refine enterA (X := nX) (vs := [.slice A l.length ca]) Try.func19 Try.ntmps19 rfl rfl Mem.nil ?_
  refine run_seq ?_
  refine run_region ?_
  refine run_q (.none rfl) rfl rfl (q_assign rfl rfl) ?_
  refine run_nil ?_
  refine run_seq ?_
  refine run_seq ?_
  refine run_region ?_
  refine run_q (.none rfl) rfl rfl (q_move rfl rfl) ?_
  refine run_q (.none rfl) rfl rfl (q_len rfl Try.underlying26 rfl) ?_
  refine run_q (.none rfl) rfl rfl (q_eql rfl rfl rfl) ?_
  refine run_nil ?_
  refine run_cond rfl (fun g6 => ?_) (fun g6 => ?_)
  · have g6' := g6
    try simp only [decide_eq_true_eq, decide_eq_false_iff_not, beq_iff_eq, beq_eq_false_iff_ne, bne_iff_ne, bne_eq_false_iff_eq, Bool.not_eq_true', Bool.not_eq_false', ne_eq, Int.not_lt, Int.not_le, Decidable.not_not] at g6'
    refine run_seq ?_
    refine run_region ?_
    refine run_q (.none rfl) rfl rfl (q_assign rfl rfl) ?_
    refine run_nil ?_
    refine run_sub (subMk (.cons (s := 0) rfl (.cons (s := 2) rfl .nil)) .refl) ?_
    refine run_ret ?_
    exact end1 rfl rfl (by rw [headsE_1 (by omega)])
  · have g6' := g6
    try simp only [decide_eq_true_eq, decide_eq_false_iff_not, beq_iff_eq, beq_eq_false_iff_ne, bne_iff_ne, bne_eq_false_iff_eq, Bool.not_eq_true', Bool.not_eq_false', ne_eq, Int.not_lt, Int.not_le, Decidable.not_not] at g6'
    refine run_skip ?_
    refine run_seq ?_
    refine run_seq ?_
    refine run_region ?_
    refine run_q (.none rfl) rfl rfl (q_move rfl rfl) ?_
    refine run_q (.none rfl) rfl rfl (q_len rfl Try.underlying26 rfl) ?_
    refine run_q (.none rfl) rfl rfl (q_gtr rfl rfl rfl) ?_
    refine run_nil ?_
    refine run_sub (subMk (.cons (s := 0) rfl (.cons (s := 2) rfl (.cons (s := 9) rfl .nil))) .refl) ?_
    refine run_cond rfl (fun g9 => ?_) (fun g9 => ?_)
    · have g9' := g9
      try simp only [decide_eq_true_eq, decide_eq_false_iff_not, beq_iff_eq, beq_eq_false_iff_ne, bne_iff_ne, bne_eq_false_iff_eq, Bool.not_eq_true', Bool.not_eq_false', ne_eq, Int.not_lt, Int.not_le, Decidable.not_not] at g9'
      refine run_seq ?_
      refine run_region ?_
      refine run_q (.none rfl) rfl rfl (q_assign rfl rfl) ?_
      refine run_nil ?_
      refine run_ret ?_
      exact end1 rfl rfl (by rw [headsE_2 (by omega) (by omega)])
    · have g9' := g9
      try simp only [decide_eq_true_eq, decide_eq_false_iff_not, beq_iff_eq, beq_eq_false_iff_ne, bne_iff_ne, bne_eq_false_iff_eq, Bool.not_eq_true', Bool.not_eq_false', ne_eq, Int.not_lt, Int.not_le, Decidable.not_not] at g9'
      refine run_skip ?_
      refine run_seq ?_
      refine run_seq ?_
      refine run_region ?_
      refine run_q (.none rfl) rfl rfl (q_assign rfl rfl) ?_
      refine run_nil ?_
      refine run_block ?_
      refine run_sub (subMk (.cons (s := 3) rfl (.cons (s := 0) rfl (.cons (s := 2) rfl .nil))) .nil) ?_
      refine run_loopC1M0 (ι := Nat) (fun k => k ≤ l.length ∧ firstErr (hF l) l.length 0 = firstErr (hF l) (l.length - k) k) (fun k => .int .i64 (k : Int))  (fun k => l.length - k) 0 (by (try dsimp only); exact ⟨by omega, rfl⟩) rfl  ?_
      rintro k hq
      (try dsimp only at hq)
      obtain ⟨hk, hE⟩ := hq
      show Run _ _ _ _ _ _ _ ⟨(3, .int .i64 (k : Int)) :: _, _⟩
      refine run_seq ?_
      refine run_seq ?_
      refine run_region ?_
      refine run_q (.none rfl) rfl rfl (q_move rfl rfl) ?_
      refine run_q (.none rfl) rfl rfl (q_move rfl rfl) ?_
      refine run_q (.none rfl) rfl rfl (q_len rfl Try.underlying26 rfl) ?_
      refine run_q (.none rfl) rfl rfl (q_lss rfl rfl rfl) ?_
      refine run_nil ?_
      refine run_sub (subMk (.cons (s := 0) rfl (.cons (s := 2) rfl (.cons (s := 3) rfl (.cons (s := 13) rfl .nil)))) .refl) ?_
      refine run_cond rfl (fun g13 => ?_) (fun g13 => ?_)
      · have g13' := g13
        try simp only [decide_eq_true_eq, decide_eq_false_iff_not, beq_iff_eq, beq_eq_false_iff_ne, bne_iff_ne, bne_eq_false_iff_eq, Bool.not_eq_true', Bool.not_eq_false', ne_eq, Int.not_lt, Int.not_le, Decidable.not_not] at g13'
        have hkl : k < l.length := by omega
        refine run_skip ?_
        refine run_seq ?_
        refine run_block ?_
        refine run_seq ?_
        refine run_seq ?_
        refine run_region ?_
        refine run_q (.none rfl) rfl rfl (q_move rfl rfl) ?_
        refine run_q (.none rfl) rfl rfl (q_move rfl rfl) ?_
        refine run_q (.none rfl) rfl rfl (q_indexS (q := k) rfl Try.underlying26 sz53 rfl rfl (.inp hr .no) (by simp <;> omega) rfl (by omega)) ?_
        refine run_q (.none rfl) rfl rfl (q_fieldAddr (d := 0) rfl Try.underlying53 rfl rfl sz51 rfl) ?_
        refine run_q (.none rfl) rfl rfl (q_loadFN rfl agg51 rfl (.inp hr .no) (getmap (by omega)) rfl rfl) ?_
        refine run_q (.none rfl) rfl rfl (q_call rfl call36 (.cons rfl Evs.nil) (fun w hk hm => refNumber_just (nth l k).step (nth l k).alter (nth l k).oct w)) ?_
        refine run_q (.none rfl) rfl rfl (q_lss rfl rfl rfl) ?_
        refine run_nil ?_
        refine run_sub (subMk (.cons (s := 0) rfl (.cons (s := 2) rfl (.cons (s := 3) rfl (.cons (s := 22) rfl .nil)))) .refl) ?_
        refine run_cond rfl (fun g22 => ?_) (fun g22 => ?_)
        · have g22' := g22
          try simp only [decide_eq_true_eq, decide_eq_false_iff_not, beq_iff_eq, beq_eq_false_iff_ne, bne_iff_ne, bne_eq_false_iff_eq, Bool.not_eq_true', Bool.not_eq_false', ne_eq, Int.not_lt, Int.not_le, Decidable.not_not] at g22'
          have hn : (nth l k).num < 0 := g22'
          refine run_seq ?_
          refine run_region ?_
          refine run_q (.none rfl) rfl rfl (q_assign rfl rfl) ?_
          refine run_nil ?_
          refine run_ret ?_
          exact end1 rfl rfl (by rw [hd_hit (by omega) (by omega) hE hkl (by rw [hF_1 (by rw [headE_1 hn]; decide), headE_1 hn]) (by decide)])
        · have g22' := g22
          try simp only [decide_eq_true_eq, decide_eq_false_iff_not, beq_iff_eq, beq_eq_false_iff_ne, bne_iff_ne, bne_eq_false_iff_eq, Bool.not_eq_true', Bool.not_eq_false', ne_eq, Int.not_lt, Int.not_le, Decidable.not_not] at g22'
          have hn : ¬ (nth l k).num < 0 := Int.not_lt.2 g22'
          refine run_skip ?_
          refine run_seq ?_
          refine run_seq ?_
          refine run_region ?_
          refine run_q (.none rfl) rfl rfl (q_move rfl rfl) ?_
          refine run_q (.none rfl) rfl rfl (q_move rfl rfl) ?_
          refine run_q (.none rfl) rfl rfl (q_indexS (q := k) rfl Try.underlying26 sz53 rfl rfl (.inp hr .no) (by simp <;> omega) rfl (by omega)) ?_
          refine run_q (.none rfl) rfl rfl (q_fieldAddr (d := 4) rfl Try.underlying53 rfl rfl sz3 rfl) ?_
          refine run_q (.none rfl) rfl rfl (q_loadF rfl one3 rfl (.inp hr .no) (getmap (by omega)) rfl) ?_
          refine run_q (.none rfl) rfl rfl (q_call rfl call49 (.cons rfl (.cons rfl (.cons rfl Evs.nil))) (fun w hk hm => in_just _ _ _ w)) ?_
          refine run_q (.none rfl) rfl rfl (q_not rfl rfl) ?_
          refine run_nil ?_
          refine run_sub (subMk (.cons (s := 0) rfl (.cons (s := 2) rfl (.cons (s := 3) rfl (.cons (s := 29) rfl .nil)))) .refl) ?_
          refine run_cond rfl (fun g29 => ?_) (fun g29 => ?_)
          · have g29' := g29
            try simp only [decide_eq_true_eq, decide_eq_false_iff_not, beq_iff_eq, beq_eq_false_iff_ne, bne_iff_ne, bne_eq_false_iff_eq, Bool.not_eq_true', Bool.not_eq_false', ne_eq, Int.not_lt, Int.not_le, Decidable.not_not] at g29'
            refine run_seq ?_
            refine run_region ?_
            refine run_q (.none rfl) rfl rfl (q_assign rfl rfl) ?_
            refine run_nil ?_
            refine run_ret ?_
            exact end1 rfl rfl (by rw [hd_hit (by omega) (by omega) hE hkl (by rw [hF_1 (by rw [headE_2 hn (by omega)]; decide), headE_2 hn (by omega)]) (by decide)])
          · have g29' := g29
            try simp only [decide_eq_true_eq, decide_eq_false_iff_not, beq_iff_eq, beq_eq_false_iff_ne, bne_iff_ne, bne_eq_false_iff_eq, Bool.not_eq_true', Bool.not_eq_false', ne_eq, Int.not_lt, Int.not_le, Decidable.not_not] at g29'
            have h0 : headE (nth l k) = 0 := headE_3 hn (by omega)
            refine run_skip ?_
            refine run_seq ?_
            refine run_draw [(0, 0), (1, 0), (2, 0), (3, 0), (4, 0), (5, 0), (6, 0), (7, 0), (8, 0), (9, 0), (10, 0), (11, 0), (12, 0), (13, 0), (14, 0), (15, 0), (16, 0), (17, 0)] mixed (by kernel_rfl) .refl ?_
            refine d_q rfl rfl (.none rfl) rfl rfl (q_move rfl rfl) ?_
            refine d_q rfl rfl (.none rfl) rfl rfl (q_gtr rfl rfl rfl) ?_
            refine d_q rfl rfl (.none rfl) rfl rfl (q_move rfl rfl) ?_
            refine d_split 32 rfl (fun g32 => ?_) (fun g32 => ?_)
            · have g32' := g32
              try simp only [decide_eq_true_eq, decide_eq_false_iff_not, beq_iff_eq, beq_eq_false_iff_ne, bne_iff_ne, bne_eq_false_iff_eq, Bool.not_eq_true', Bool.not_eq_false', ne_eq, Int.not_lt, Int.not_le, Decidable.not_not] at g32'
              refine d_q rfl rfl (.on rfl rfl rfl g32) rfl rfl (q_move rfl rfl) ?_
              refine d_q rfl rfl (.on rfl rfl rfl g32) rfl rfl (q_move rfl rfl) ?_
              refine d_q rfl rfl (.on rfl rfl rfl g32) rfl rfl (q_indexS (q := k) rfl Try.underlying26 sz53 rfl rfl (.inp hr .no) (by simp <;> omega) rfl (by omega)) ?_
              refine d_q rfl rfl (.on rfl rfl rfl g32) rfl rfl (q_fieldAddr (d := 0) rfl Try.underlying53 rfl rfl sz51 rfl) ?_
              refine d_q rfl rfl (.on rfl rfl rfl g32) rfl rfl (q_loadFN rfl agg51 rfl (.inp hr .no) (getmap (by omega)) rfl rfl) ?_
              refine d_q rfl rfl (.on rfl rfl rfl g32) rfl rfl (q_call rfl call36 (.cons rfl Evs.nil) (fun w hk hm => refNumber_just (nth l k).step (nth l k).alter (nth l k).oct w)) ?_
              refine d_q rfl rfl (.on rfl rfl rfl g32) rfl rfl (q_move rfl rfl) ?_
              refine d_q rfl rfl (.on rfl rfl rfl g32) rfl rfl (q_move rfl rfl) ?_
              refine d_q rfl rfl (.on rfl rfl rfl g32) rfl rfl (q_sub rfl rfl rfl (by omega)) ?_
              refine d_q rfl rfl (.on rfl rfl rfl g32) rfl rfl (q_indexS (q := (k - 1)) rfl Try.underlying26 sz53 rfl rfl (.inp hr .no) (by simp <;> omega) (by omega) (by omega)) ?_
              refine d_q rfl rfl (.on rfl rfl rfl g32) rfl rfl (q_fieldAddr (d := 0) rfl Try.underlying53 rfl rfl sz51 rfl) ?_
              refine d_q rfl rfl (.on rfl rfl rfl g32) rfl rfl (q_loadFN rfl agg51 rfl (.inp hr .no) (getmap (by omega)) rfl rfl) ?_
              refine d_q rfl rfl (.on rfl rfl rfl g32) rfl rfl (q_call rfl call36 (.cons rfl Evs.nil) (fun w hk hm => refNumber_just (nth l (k - 1)).step (nth l (k - 1)).alter (nth l (k - 1)).oct w)) ?_
              refine d_q rfl rfl (.on rfl rfl rfl g32) rfl rfl (q_leq rfl rfl rfl) ?_
              refine d_q rfl rfl (.none rfl) rfl rfl (q_pickT rfl rfl g32 rfl) ?_
              refine d_nil ?_
              refine run_sub (subMk (.cons (s := 0) rfl (.cons (s := 2) rfl (.cons (s := 3) rfl (.cons (s := 47) rfl .nil)))) .refl) ?_
              refine run_cond rfl (fun g47 => ?_) (fun g47 => ?_)
              · have g47' := g47
                try simp only [decide_eq_true_eq, decide_eq_false_iff_not, beq_iff_eq, beq_eq_false_iff_ne, bne_iff_ne, bne_eq_false_iff_eq, Bool.not_eq_true', Bool.not_eq_false', ne_eq, Int.not_lt, Int.not_le, Decidable.not_not] at g47'
                have hf2 : hF l k = 25 := hF_2 h0 ⟨by omega, g47'⟩
                refine run_seq ?_
                refine run_region ?_
                refine run_q (.none rfl) rfl rfl (q_assign rfl rfl) ?_
                refine run_nil ?_
                refine run_ret ?_
                exact end1 rfl rfl (by rw [hd_hit (by omega) (by omega) hE hkl hf2 (by decide)])
              · have g47' := g47
                try simp only [decide_eq_true_eq, decide_eq_false_iff_not, beq_iff_eq, beq_eq_false_iff_ne, bne_iff_ne, bne_eq_false_iff_eq, Bool.not_eq_true', Bool.not_eq_false', ne_eq, Int.not_lt, Int.not_le, Decidable.not_not] at g47'
                have hf3 : hF l k = 0 := hF_3 h0 (fun h => absurd (show (nth l k).num ≤ (nth l (k - 1)).num from h.2) (Int.not_le.2 g47'))
                refine run_skip ?_
                refine run_blk ?_
                refine run_region ?_
                refine run_q (.none rfl) rfl rfl (q_move rfl rfl) ?_
                refine run_q (.none rfl) rfl rfl (q_add rfl rfl rfl (by omega)) ?_
                refine run_q (.none rfl) rfl rfl (q_assign rfl rfl) ?_
                refine run_nil ?_
                refine run_sub (subMk (.cons (s := 0) rfl (.cons (s := 2) rfl (.cons (s := 3) rfl .nil))) .refl) ?_
                exact run_again (k + 1) (by (try dsimp only); exact ⟨by omega, by rw [hE, firstErr_step hkl hf3]⟩) (by (try dsimp only); omega) (subMk (.cons' (s := 3) rfl (vint (by omega)) (.cons (s := 0) rfl (.cons (s := 2) rfl .nil))) .nil)
            · have g32' := g32
              try simp only [decide_eq_true_eq, decide_eq_false_iff_not, beq_iff_eq, beq_eq_false_iff_ne, bne_iff_ne, bne_eq_false_iff_eq, Bool.not_eq_true', Bool.not_eq_false', ne_eq, Int.not_lt, Int.not_le, Decidable.not_not] at g32'
              have hf3 : hF l k = 0 := hF_3 h0 (by omega)
              refine d_off rfl rfl (.no rfl rfl rfl g32) rfl rfl ?_
              refine d_off rfl rfl (.no rfl rfl rfl g32) rfl rfl ?_
              refine d_off rfl rfl (.no rfl rfl rfl g32) rfl rfl ?_
              refine d_off rfl rfl (.no rfl rfl rfl g32) rfl rfl ?_
              refine d_off rfl rfl (.no rfl rfl rfl g32) rfl rfl ?_
              refine d_off rfl rfl (.no rfl rfl rfl g32) rfl rfl ?_
              refine d_off rfl rfl (.no rfl rfl rfl g32) rfl rfl ?_
              refine d_off rfl rfl (.no rfl rfl rfl g32) rfl rfl ?_
              refine d_off rfl rfl (.no rfl rfl rfl g32) rfl rfl ?_
              refine d_off rfl rfl (.no rfl rfl rfl g32) rfl rfl ?_
              refine d_off rfl rfl (.no rfl rfl rfl g32) rfl rfl ?_
              refine d_off rfl rfl (.no rfl rfl rfl g32) rfl rfl ?_
              refine d_off rfl rfl (.no rfl rfl rfl g32) rfl rfl ?_
              refine d_off rfl rfl (.no rfl rfl rfl g32) rfl rfl ?_
              refine d_q rfl rfl (.none rfl) rfl rfl (q_pickF rfl rfl g32 rfl) ?_
              refine d_nil ?_
              refine run_sub (subMk (.cons (s := 0) rfl (.cons (s := 2) rfl (.cons (s := 3) rfl (.cons (s := 47) rfl .nil)))) .refl) ?_
              refine run_condF rfl rfl ?_
              refine run_skip ?_
              refine run_blk ?_
              refine run_region ?_
              refine run_q (.none rfl) rfl rfl (q_move rfl rfl) ?_
              refine run_q (.none rfl) rfl rfl (q_add rfl rfl rfl (by omega)) ?_
              refine run_q (.none rfl) rfl rfl (q_assign rfl rfl) ?_
              refine run_nil ?_
              refine run_sub (subMk (.cons (s := 0) rfl (.cons (s := 2) rfl (.cons (s := 3) rfl .nil))) .refl) ?_
              exact run_again (k + 1) (by (try dsimp only); exact ⟨by omega, by rw [hE, firstErr_step hkl hf3]⟩) (by (try dsimp only); omega) (subMk (.cons' (s := 3) rfl (vint (by omega)) (.cons (s := 0) rfl (.cons (s := 2) rfl .nil))) .nil)
      · have g13' := g13
        try simp only [decide_eq_true_eq, decide_eq_false_iff_not, beq_iff_eq, beq_eq_false_iff_ne, bne_iff_ne, bne_eq_false_iff_eq, Bool.not_eq_true', Bool.not_eq_false', ne_eq, Int.not_lt, Int.not_le, Decidable.not_not] at g13'
        refine run_exit rfl ?_
        refine run_sub (subMk (.cons (s := 2) rfl .nil) .refl) ?_
        refine run_seq ?_
        refine run_region ?_
        refine run_q (.none rfl) rfl rfl (q_assign rfl rfl) ?_
        refine run_nil ?_
        refine run_ret ?_
        exact end1 rfl rfl (by rw [headsE_3 (by omega) (by omega), hE, firstErr_end (by omega)])

set_option maxHeartbeats 1000000 in
set_option maxRecDepth 100000 in
theorem refGraces_just (l : List Gr) (A : Option Addr) (ca : Nat) (W : World) (hr : Rd W A 5 (l.map Gr.enc)) (hl : l.length ≤ 100000) : Calls Try.prog 21 #[.slice A l.length ca] W (Hr.Just W (.int .i64 (gracesE l))) := by
  refine Just.of_ret ?_
  refine enterA (X := nX) (vs := [.slice A l.length ca]) Try.func21 Try.ntmps21 rfl rfl Mem.nil ?_
  refine run_seq ?_
  refine run_region ?_
  refine run_q (.none rfl) rfl rfl (q_assign rfl rfl) ?_
  refine run_nil ?_
  refine run_seq ?_
  refine run_seq ?_
  refine run_region ?_
  refine run_q (.none rfl) rfl rfl (q_move rfl rfl) ?_
  refine run_q (.none rfl) rfl rfl (q_len rfl Try.underlying27 rfl) ?_
  refine run_q (.none rfl) rfl rfl (q_gtr rfl rfl rfl) ?_
  refine run_nil ?_
  refine run_cond rfl (fun g6 => ?_) (fun g6 => ?_)
  · have g6' := g6
    try simp only [decide_eq_true_eq, decide_eq_false_iff_not, beq_iff_eq, beq_eq_false_iff_ne, bne_iff_ne, bne_eq_false_iff_eq, Bool.not_eq_true', Bool.not_eq_false', ne_eq, Int.not_lt, Int.not_le, Decidable.not_not] at g6'
    refine run_seq ?_
    refine run_region ?_
    refine run_q (.none rfl) rfl rfl (q_assign rfl rfl) ?_
    refine run_nil ?_
    refine run_sub (subMk (.cons (s := 0) rfl (.cons (s := 2) rfl .nil)) .refl) ?_
    refine run_ret ?_
    exact end1 rfl rfl (by rw [gracesE_1 (by omega)])
  · have g6' := g6
    try simp only [decide_eq_true_eq, decide_eq_false_iff_not, beq_iff_eq, beq_eq_false_iff_ne, bne_iff_ne, bne_eq_false_iff_eq, Bool.not_eq_true', Bool.not_eq_false', ne_eq, Int.not_lt, Int.not_le, Decidable.not_not] at g6'
    refine run_skip ?_
    refine run_seq ?_
    refine run_seq ?_
    refine run_region ?_
    refine run_q (.none rfl) rfl rfl (q_assign rfl rfl) ?_
    refine run_nil ?_
    refine run_sub (subMk (.cons (s := 0) rfl (.cons (s := 2) rfl (.cons (s := 3) rfl .nil))) .refl) ?_
    refine run_block ?_
    refine run_sub (subMk (.cons (s := 3) rfl (.cons (s := 0) rfl (.cons (s := 2) rfl .nil))) .nil) ?_
    refine run_loopC1M0 (ι := Nat) (fun k => k ≤ l.length ∧ firstErr (gF l) l.length 0 = firstErr (gF l) (l.length - k) k) (fun k => .int .i64 (k : Int))  (fun k => l.length - k) 0 (by (try dsimp only); exact ⟨by omega, rfl⟩) rfl  ?_
    rintro k hq
    (try dsimp only at hq)
    obtain ⟨hk, hE⟩ := hq
    show Run _ _ _ _ _ _ _ ⟨(3, .int .i64 (k : Int)) :: _, _⟩
    refine run_seq ?_
    refine run_seq ?_
    refine run_region ?_
    refine run_q (.none rfl) rfl rfl (q_move rfl rfl) ?_
    refine run_q (.none rfl) rfl rfl (q_move rfl rfl) ?_
    refine run_q (.none rfl) rfl rfl (q_len rfl Try.underlying27 rfl) ?_
    refine run_q (.none rfl) rfl rfl (q_lss rfl rfl rfl) ?_
    refine run_nil ?_
    refine run_sub (subMk (.cons (s := 0) rfl (.cons (s := 2) rfl (.cons (s := 3) rfl (.cons (s := 10) rfl .nil)))) .refl) ?_
    refine run_cond rfl (fun g10 => ?_) (fun g10 => ?_)
    · have g10' := g10
      try simp only [decide_eq_true_eq, decide_eq_false_iff_not, beq_iff_eq, beq_eq_false_iff_ne, bne_iff_ne, bne_eq_false_iff_eq, Bool.not_eq_true', Bool.not_eq_false', ne_eq, Int.not_lt, Int.not_le, Decidable.not_not] at g10'
      have hkl : k < l.length := by omega
      refine run_skip ?_
      refine run_seq ?_
      refine run_block ?_
      refine run_seq ?_
      refine run_seq ?_
      refine run_region ?_
      refine run_q (.none rfl) rfl rfl (q_move rfl rfl) ?_
      refine run_q (.none rfl) rfl rfl (q_move rfl rfl) ?_
      refine run_q (.none rfl) rfl rfl (q_indexS (q := k) rfl Try.underlying27 sz55 rfl rfl (.inp hr .no) (by simp <;> omega) rfl (by omega)) ?_
      refine run_q (.none rfl) rfl rfl (q_fieldAddr (d := 0) rfl Try.underlying55 rfl rfl sz51 rfl) ?_
      refine run_q (.none rfl) rfl rfl (q_loadFN rfl agg51 rfl (.inp hr .no) (getmap (by omega)) rfl rfl) ?_
      refine run_q (.none rfl) rfl rfl (q_call rfl call36 (.cons rfl Evs.nil) (fun w hk hm => refNumber_just (nth l k).step (nth l k).alter (nth l k).oct w)) ?_
      refine run_q (.none rfl) rfl rfl (q_lss rfl rfl rfl) ?_
      refine run_nil ?_
      refine run_sub (subMk (.cons (s := 0) rfl (.cons (s := 2) rfl (.cons (s := 3) rfl (.cons (s := 19) rfl .nil)))) .refl) ?_
      refine run_cond rfl (fun g19 => ?_) (fun g19 => ?_)
      · have g19' := g19
        try simp only [decide_eq_true_eq, decide_eq_false_iff_not, beq_iff_eq, beq_eq_false_iff_ne, bne_iff_ne, bne_eq_false_iff_eq, Bool.not_eq_true', Bool.not_eq_false', ne_eq, Int.not_lt, Int.not_le, Decidable.not_not] at g19'
        have hn : (nth l k).num < 0 := g19'
        refine run_seq ?_
        refine run_region ?_
        refine run_q (.none rfl) rfl rfl (q_assign rfl rfl) ?_
        refine run_nil ?_
        refine run_ret ?_
        exact end1 rfl rfl (by rw [gr_hit (by omega) hE hkl (graceE_1 hn) (by decide)])
      · have g19' := g19
        try simp only [decide_eq_true_eq, decide_eq_false_iff_not, beq_iff_eq, beq_eq_false_iff_ne, bne_iff_ne, bne_eq_false_iff_eq, Bool.not_eq_true', Bool.not_eq_false', ne_eq, Int.not_lt, Int.not_le, Decidable.not_not] at g19'
        have hn : ¬ (nth l k).num < 0 := Int.not_lt.2 g19'
        refine run_skip ?_
        refine run_seq ?_
        refine run_region ?_
        refine run_q (.none rfl) rfl rfl (q_move rfl rfl) ?_
        refine run_q (.none rfl) rfl rfl (q_move rfl rfl) ?_
        refine run_q (.none rfl) rfl rfl (q_indexS (q := k) rfl Try.underlying27 sz55 rfl rfl (.inp hr .no) (by simp <;> omega) rfl (by omega)) ?_
        refine run_q (.none rfl) rfl rfl (q_fieldAddr (d := 3) rfl Try.underlying55 rfl rfl sz3 rfl) ?_
        refine run_q (.none rfl) rfl rfl (q_loadF rfl one3 rfl (.inp hr .no) (getmap (by omega)) rfl) ?_
        refine run_q (.none rfl) rfl rfl (q_call rfl call49 (.cons rfl (.cons rfl (.cons rfl Evs.nil))) (fun w hk hm => in_just _ _ _ w)) ?_
        refine run_q (.none rfl) rfl rfl (q_not rfl rfl) ?_
        refine run_nil ?_
        refine run_sub (subMk (.cons (s := 0) rfl (.cons (s := 2) rfl (.cons (s := 3) rfl (.cons (s := 26) rfl .nil)))) .refl) ?_
        refine run_cond rfl (fun g26 => ?_) (fun g26 => ?_)
        · have g26' := g26
          try simp only [decide_eq_true_eq, decide_eq_false_iff_not, beq_iff_eq, beq_eq_false_iff_ne, bne_iff_ne, bne_eq_false_iff_eq, Bool.not_eq_true', Bool.not_eq_false', ne_eq, Int.not_lt, Int.not_le, Decidable.not_not] at g26'
          refine run_seq ?_
          refine run_region ?_
          refine run_q (.none rfl) rfl rfl (q_assign rfl rfl) ?_
          refine run_nil ?_
          refine run_ret ?_
          exact end1 rfl rfl (by rw [gr_hit (by omega) hE hkl (graceE_2 hn (by omega)) (by decide)])
        · have g26' := g26
          try simp only [decide_eq_true_eq, decide_eq_false_iff_not, beq_iff_eq, beq_eq_false_iff_ne, bne_iff_ne, bne_eq_false_iff_eq, Bool.not_eq_true', Bool.not_eq_false', ne_eq, Int.not_lt, Int.not_le, Decidable.not_not] at g26'
          have h0 : graceE (nth l k) = 0 := graceE_3 hn (by omega)
          refine run_skip ?_
          refine run_blk ?_
          refine run_region ?_
          refine run_q (.none rfl) rfl rfl (q_move rfl rfl) ?_
          refine run_q (.none rfl) rfl rfl (q_add rfl rfl rfl (by omega)) ?_
          refine run_q (.none rfl) rfl rfl (q_assign rfl rfl) ?_
          refine run_nil ?_
          refine run_sub (subMk (.cons (s := 0) rfl (.cons (s := 2) rfl (.cons (s := 3) rfl .nil))) .refl) ?_
          exact run_again (k + 1) (by (try dsimp only); exact ⟨by omega, by rw [hE, firstErr_step hkl (by rw [gF, h0])]⟩) (by (try dsimp only); omega) (subMk (.cons' (s := 3) rfl (vint (by omega)) (.cons (s := 0) rfl (.cons (s := 2) rfl .nil))) .nil)
    · have g10' := g10
      try simp only [decide_eq_true_eq, decide_eq_false_iff_not, beq_iff_eq, beq_eq_false_iff_ne, bne_iff_ne, bne_eq_false_iff_eq, Bool.not_eq_true', Bool.not_eq_false', ne_eq, Int.not_lt, Int.not_le, Decidable.not_not] at g10'
      refine run_exit rfl ?_
      refine run_sub (subMk (.cons (s := 2) rfl .nil) .refl) ?_
      refine run_seq ?_
      refine run_region ?_
      refine run_q (.none rfl) rfl rfl (q_assign rfl rfl) ?_
      refine run_nil ?_
      refine run_ret ?_
      exact end1 rfl rfl (by rw [gracesE_2 (by omega), hE, firstErr_end (by omega)])

set_option maxRecDepth 100000 in
theorem refabsent_just (x : Syl) (W : World)  : Calls Try.prog 56 #[x.val] W (Hr.Just W (.bool (decide (absS x)))) := by
  refine Just.of_ret ?_
  refine enterA (X := nX) (vs := [x.val]) Try.func56 Try.ntmps56 rfl rfl Mem.nil ?_
  refine run_seq ?_
  refine run_region ?_
  refine run_h (.none rfl) (h_box rfl rfl rfl rfl rfl) ?_
  rintro b1 -
  refine run_q (.none rfl) rfl rfl (q_assign rfl rfl) ?_
  refine run_nil ?_
  refine run_seq ?_
  refine run_region ?_
  refine run_q (.none rfl) rfl rfl (q_fieldB (d := 0) rfl Try.underlying57 rfl rfl sz9 rfl) ?_
  refine run_q (.none rfl) rfl rfl (q_loadB rfl one9 rfl Sel.here rfl) ?_
  refine run_q (.none rfl) rfl rfl (q_eqlStr rfl rfl rfl) ?_
  refine run_q (.none rfl) rfl rfl (q_move rfl rfl) ?_
  refine run_split 6 rfl (fun g6 => ?_) (fun g6 => ?_)
  · have g6' := g6
    try simp only [decide_eq_true_eq, decide_eq_false_iff_not, beq_iff_eq, beq_eq_false_iff_ne, bne_iff_ne, bne_eq_false_iff_eq, Bool.not_eq_true', Bool.not_eq_false', ne_eq, Int.not_lt, Int.not_le, Decidable.not_not] at g6'
    refine run_q (.on rfl rfl rfl g6) rfl rfl (q_fieldB (d := 1) rfl Try.underlying57 rfl rfl sz3 rfl) ?_
    refine run_q (.on rfl rfl rfl g6) rfl rfl (q_loadB rfl one3 rfl Sel.here rfl) ?_
    refine run_q (.on rfl rfl rfl g6) rfl rfl (q_eql rfl rfl rfl) ?_
    refine run_q (.none rfl) rfl rfl (q_pickT rfl rfl g6 rfl) ?_
    refine run_q (.none rfl) rfl rfl (q_assign rfl rfl) ?_
    refine run_nil ?_
    refine run_sub (subMk (.cons (s := 2) rfl .nil) .refl) ?_
    refine run_ret ?_
    exact end1 rfl rfl (congrArg Value.bool (by rw [Bool.eq_iff_iff, decide_eq_true_eq]; simp [absS, empS, g6]))
  · have g6' := g6
    try simp only [decide_eq_true_eq, decide_eq_false_iff_not, beq_iff_eq, beq_eq_false_iff_ne, bne_iff_ne, bne_eq_false_iff_eq, Bool.not_eq_true', Bool.not_eq_false', ne_eq, Int.not_lt, Int.not_le, Decidable.not_not] at g6'
    refine run_off (.no rfl rfl rfl g6) rfl rfl ?_
    refine run_off (.no rfl rfl rfl g6) rfl rfl ?_
    refine run_off (.no rfl rfl rfl g6) rfl rfl ?_
    refine run_q (.none rfl) rfl rfl (q_pickF rfl rfl g6 rfl) ?_
    refine run_q (.none rfl) rfl rfl (q_assign rfl rfl) ?_
    refine run_nil ?_
    refine run_sub (subMk (.cons (s := 2) rfl .nil) .refl) ?_
    refine run_ret ?_
    exact end1 rfl rfl (congrArg Value.bool (by rw [Bool.eq_iff_iff, decide_eq_true_eq]; simp [absS, empS, g6]))

set_option maxHeartbeats 2000000 in
set_option maxRecDepth 100000 in
theorem refLyrics_just (l : List Syl) (A : Option Addr) (ca : Nat) (W : World) (hr : Rd W A 2 (l.map Syl.enc)) (hl : l.length ≤ 100000) : Calls Try.prog 23 #[.slice A l.length ca] W (Hr.Just W (.int .i64 (lyricsE l))) := by
  refine Just.of_ret ?_
  refine enterA (X := nX) (vs := [.slice A l.length ca]) Try.func23 Try.ntmps23 rfl rfl Mem.nil ?_
  refine run_seq ?_
  refine run_region ?_
  refine run_q (.none rfl) rfl rfl (q_assign rfl rfl) ?_
  refine run_nil ?_
  refine run_seq ?_
  refine run_seq ?_
  refine run_region ?_
  refine run_q (.none rfl) rfl rfl (q_move rfl rfl) ?_
  refine run_q (.none rfl) rfl rfl (q_len rfl Try.underlying28 rfl) ?_
  refine run_q (.none rfl) rfl rfl (q_gtr rfl rfl rfl) ?_
  refine run_nil ?_
  refine run_cond rfl (fun g8 => ?_) (fun g8 => ?_)
  · have g8' := g8
    try simp only [decide_eq_true_eq, decide_eq_false_iff_not, beq_iff_eq, beq_eq_false_iff_ne, bne_iff_ne, bne_eq_false_iff_eq, Bool.not_eq_true', Bool.not_eq_false', ne_eq, Int.not_lt, Int.not_le, Decidable.not_not] at g8'
    refine run_seq ?_
    refine run_region ?_
    refine run_q (.none rfl) rfl rfl (q_assign rfl rfl) ?_
    refine run_nil ?_
    refine run_sub (subMk (.cons (s := 0) rfl (.cons (s := 2) rfl .nil)) .refl) ?_
    refine run_ret ?_
    exact end1 rfl rfl (by rw [lyricsE_1 (by omega)])
  · have g8' := g8
    try simp only [decide_eq_true_eq, decide_eq_false_iff_not, beq_iff_eq, beq_eq_false_iff_ne, bne_iff_ne, bne_eq_false_iff_eq, Bool.not_eq_true', Bool.not_eq_false', ne_eq, Int.not_lt, Int.not_le, Decidable.not_not] at g8'
    refine run_skip ?_
    refine run_seq ?_
    refine run_seq ?_
    refine run_region ?_
    refine run_q (.none rfl) rfl rfl (q_assign rfl rfl) ?_
    refine run_nil ?_
    refine run_sub (subMk (.cons (s := 0) rfl (.cons (s := 2) rfl (.cons (s := 3) rfl .nil))) .refl) ?_
    refine run_block ?_
    refine run_sub (subMk (.cons (s := 3) rfl (.cons (s := 0) rfl (.cons (s := 2) rfl .nil))) .nil) ?_
    refine run_loopC1M0 (ι := Nat) (fun i => i ≤ l.length ∧ firstErr (sF l) l.length 0 = firstErr (sF l) (l.length - i) i) (fun i => .int .i64 (i : Int))  (fun i => l.length - i) 0 (by (try dsimp only); exact ⟨by omega, rfl⟩) rfl  ?_
    rintro i hq
    (try dsimp only at hq)
    obtain ⟨hi, hE⟩ := hq
    show Run _ _ _ _ _ _ _ ⟨(3, .int .i64 (i : Int)) :: _, _⟩
    refine run_seq ?_
    refine run_seq ?_
    refine run_region ?_
    refine run_q (.none rfl) rfl rfl (q_move rfl rfl) ?_
    refine run_q (.none rfl) rfl rfl (q_move rfl rfl) ?_
    refine run_q (.none rfl) rfl rfl (q_len rfl Try.underlying28 rfl) ?_
    refine run_q (.none rfl) rfl rfl (q_lss rfl rfl rfl) ?_
    refine run_nil ?_
    refine run_sub (subMk (.cons (s := 0) rfl (.cons (s := 2) rfl (.cons (s := 3) rfl (.cons (s := 12) rfl .nil)))) .refl) ?_
    refine run_cond rfl (fun g12 => ?_) (fun g12 => ?_)
    · have g12' := g12
      try simp only [decide_eq_true_eq, decide_eq_false_iff_not, beq_iff_eq, beq_eq_false_iff_ne, bne_iff_ne, bne_eq_false_iff_eq, Bool.not_eq_true', Bool.not_eq_false', ne_eq, Int.not_lt, Int.not_le, Decidable.not_not] at g12'
      have hkl : i < l.length := by omega
      refine run_skip ?_
      refine run_seq ?_
      refine run_block ?_
      refine run_seq ?_
      refine run_region ?_
      refine run_q (.none rfl) rfl rfl (q_move rfl rfl) ?_
      refine run_q (.none rfl) rfl rfl (q_move rfl rfl) ?_
      refine run_q (.none rfl) rfl rfl (q_indexS (q := i) rfl Try.underlying28 sz57 rfl rfl (.inp hr .no) (by simp <;> omega) rfl (by omega)) ?_
      refine run_q (.none rfl) rfl rfl (q_loadE rfl agg57 rfl (.inp hr .no) (getmap (by omega)) rfl) ?_
      refine run_h (.none rfl) (h_alloc rfl rfl rfl info57) ?_
      rintro b4 -
      refine run_h (.none rfl) (h_storeB rfl rfl sz57 rfl rfl rfl rfl rfl Sel.here rfl) ?_
      rintro - -
      refine run_nil ?_
      refine run_sub (subMk (.cons (s := 0) rfl (.cons (s := 2) rfl (.cons (s := 3) rfl (.cons (s := 4) rfl .nil)))) .refl) ?_
      refine run_seq ?_
      refine run_seq ?_
      refine run_region ?_
      refine run_q (.none rfl) rfl rfl (q_fieldB (d := 1) rfl Try.underlying57 rfl rfl sz3 rfl) ?_
      refine run_q (.none rfl) rfl rfl (q_loadB rfl one3 rfl Sel.here rfl) ?_
      refine run_q (.none rfl) rfl rfl (q_call rfl call49 (.cons rfl (.cons rfl (.cons rfl Evs.nil))) (fun w hk hm => in_just _ _ _ w)) ?_
      refine run_q (.none rfl) rfl rfl (q_not rfl rfl) ?_
      refine run_nil ?_
      refine run_sub (subMk (.cons (s := 0) rfl (.cons (s := 2) rfl (.cons (s := 3) rfl (.cons (s := 4) rfl (.cons (s := 22) rfl .nil))))) .refl) ?_
      refine run_cond rfl (fun g22 => ?_) (fun g22 => ?_)
      · have g22' := g22
        try simp only [decide_eq_true_eq, decide_eq_false_iff_not, beq_iff_eq, beq_eq_false_iff_ne, bne_iff_ne, bne_eq_false_iff_eq, Bool.not_eq_true', Bool.not_eq_false', ne_eq, Int.not_lt, Int.not_le, Decidable.not_not] at g22'
        refine run_seq ?_
        refine run_region ?_
        refine run_q (.none rfl) rfl rfl (q_assign rfl rfl) ?_
        refine run_nil ?_
        refine run_ret ?_
        exact end1 rfl rfl (by rw [lyr_hit (by omega) hE hkl (sylE_1 (by omega)) (by decide)])
      · have g22' := g22
        try simp only [decide_eq_true_eq, decide_eq_false_iff_not, beq_iff_eq, beq_eq_false_iff_ne, bne_iff_ne, bne_eq_false_iff_eq, Bool.not_eq_true', Bool.not_eq_false', ne_eq, Int.not_lt, Int.not_le, Decidable.not_not] at g22'
        refine run_skip ?_
        refine run_seq ?_
        refine run_seq ?_
        refine run_region ?_
        refine run_q (.none rfl) rfl rfl (q_fieldB (d := 0) rfl Try.underlying57 rfl rfl sz9 rfl) ?_
        refine run_q (.none rfl) rfl rfl (q_loadB rfl one9 rfl Sel.here rfl) ?_
        refine run_q (.none rfl) rfl rfl (q_lens rfl Try.underlying9 rfl) ?_
        refine run_q (.none rfl) rfl rfl (q_gtr rfl rfl rfl) ?_
        refine run_nil ?_
        refine run_sub (subMk (.cons (s := 0) rfl (.cons (s := 2) rfl (.cons (s := 3) rfl (.cons (s := 4) rfl (.cons (s := 26) rfl .nil))))) .refl) ?_
        refine run_cond rfl (fun g26 => ?_) (fun g26 => ?_)
        · have g26' := g26
          try simp only [decide_eq_true_eq, decide_eq_false_iff_not, beq_iff_eq, beq_eq_false_iff_ne, bne_iff_ne, bne_eq_false_iff_eq, Bool.not_eq_true', Bool.not_eq_false', ne_eq, Int.not_lt, Int.not_le, Decidable.not_not] at g26'
          refine run_seq ?_
          refine run_region ?_
          refine run_q (.none rfl) rfl rfl (q_assign rfl rfl) ?_
          refine run_nil ?_
          refine run_ret ?_
          exact end1 rfl rfl (by rw [lyr_hit (by omega) hE hkl (sylE_2 (by omega) (by omega)) (by decide)])
        · have g26' := g26
          try simp only [decide_eq_true_eq, decide_eq_false_iff_not, beq_iff_eq, beq_eq_false_iff_ne, bne_iff_ne, bne_eq_false_iff_eq, Bool.not_eq_true', Bool.not_eq_false', ne_eq, Int.not_lt, Int.not_le, Decidable.not_not] at g26'
          refine run_skip ?_
          refine run_seq ?_
          refine run_seq ?_
          refine run_region ?_
          refine run_q (.none rfl) rfl rfl (q_assign rfl rfl) ?_
          refine run_nil ?_
          refine run_block ?_
          refine run_sub (subMk (.cons (s := 5) rfl (.cons (s := 0) rfl (.cons (s := 2) rfl (.cons (s := 3) rfl (.cons (s := 4) rfl .nil))))) (.cons Sel.here .refl .nil)) ?_
          refine run_loopC1M0 (ι := Nat) (fun k => k ≤ (nth l i).text.size ∧ firstErr (byteF (nth l i).text) (nth l i).text.size 0 = firstErr (byteF (nth l i).text) ((nth l i).text.size - k) k) (fun k => .int .i64 (k : Int))  (fun k => (nth l i).text.size - k) 0 (by (try dsimp only); exact ⟨by omega, rfl⟩) rfl  ?_
          rintro k hq
          (try dsimp only at hq)
          obtain ⟨hk, hF⟩ := hq
          show Run _ _ _ _ _ _ _ ⟨(5, .int .i64 (k : Int)) :: _, _⟩
          refine run_seq ?_
          refine run_seq ?_
          refine run_region ?_
          refine run_q (.none rfl) rfl rfl (q_move rfl rfl) ?_
          refine run_q (.none rfl) rfl rfl (q_fieldB (d := 0) rfl Try.underlying57 rfl rfl sz9 rfl) ?_
          refine run_q (.none rfl) rfl rfl (q_loadB rfl one9 rfl Sel.here rfl) ?_
          refine run_q (.none rfl) rfl rfl (q_lens rfl Try.underlying9 rfl) ?_
          refine run_q (.none rfl) rfl rfl (q_lss rfl rfl rfl) ?_
          refine run_nil ?_
          refine run_sub (subMk (.cons (s := 0) rfl (.cons (s := 2) rfl (.cons (s := 3) rfl (.cons (s := 4) rfl (.cons (s := 5) rfl (.cons (s := 31) rfl .nil)))))) .refl) ?_
          refine run_cond rfl (fun g31 => ?_) (fun g31 => ?_)
          · have g31' := g31
            try simp only [decide_eq_true_eq, decide_eq_false_iff_not, beq_iff_eq, beq_eq_false_iff_ne, bne_iff_ne, bne_eq_false_iff_eq, Bool.not_eq_true', Bool.not_eq_false', ne_eq, Int.not_lt, Int.not_le, Decidable.not_not] at g31'
            have hkt : k < (nth l i).text.size := by omega
            refine run_skip ?_
            refine run_seq ?_
            refine run_block ?_
            refine run_seq ?_
            refine run_region ?_
            refine run_q (.none rfl) rfl rfl (q_fieldB (d := 0) rfl Try.underlying57 rfl rfl sz9 rfl) ?_
            refine run_q (.none rfl) rfl rfl (q_loadB rfl one9 rfl Sel.here rfl) ?_
            refine run_q (.none rfl) rfl rfl (q_move rfl rfl) ?_
            refine run_q (.none rfl) rfl rfl (q_indexStr (q := k) rfl Try.underlying9 rfl rfl rfl (bAt_get (by omega))) ?_
            refine run_q (.none rfl) rfl rfl (q_lss rfl rfl rfl) ?_
            refine run_q (.none rfl) rfl rfl (q_move rfl rfl) ?_
            refine run_split 39 rfl (fun g39 => ?_) (fun g39 => ?_)
            · have g39' := g39
              try simp only [decide_eq_true_eq, decide_eq_false_iff_not, beq_iff_eq, beq_eq_false_iff_ne, bne_iff_ne, bne_eq_false_iff_eq, Bool.not_eq_true', Bool.not_eq_false', ne_eq, Int.not_lt, Int.not_le, Decidable.not_not] at g39'
              have hb : byteF (nth l i).text k = 6 := byteF_1 (by unfold bAt; omega)
              refine run_off (.no rfl rfl rfl g39) rfl rfl ?_
              refine run_off (.no rfl rfl rfl g39) rfl rfl ?_
              refine run_off (.no rfl rfl rfl g39) rfl rfl ?_
              refine run_off (.no rfl rfl rfl g39) rfl rfl ?_
              refine run_off (.no rfl rfl rfl g39) rfl rfl ?_
              refine run_q (.none rfl) rfl rfl (q_pickT rfl rfl g39 rfl) ?_
              refine run_nil ?_
              refine run_sub (subMk (.cons (s := 0) rfl (.cons (s := 2) rfl (.cons (s := 3) rfl (.cons (s := 4) rfl (.cons (s := 5) rfl (.cons (s := 45) rfl .nil)))))) .refl) ?_
              refine run_condT rfl rfl ?_
              refine run_seq ?_
              refine run_region ?_
              refine run_q (.none rfl) rfl rfl (q_assign rfl rfl) ?_
              refine run_nil ?_
              refine run_ret ?_
              exact end1 rfl rfl (by rw [lyr_hit (by omega) hE hkl (sylE_3 (by omega) (by omega) (by rw [hF, firstErr_hit hkt (by rw [hb]; decide), hb]; decide)) (by decide)])
            · have g39' := g39
              try simp only [decide_eq_true_eq, decide_eq_false_iff_not, beq_iff_eq, beq_eq_false_iff_ne, bne_iff_ne, bne_eq_false_iff_eq, Bool.not_eq_true', Bool.not_eq_false', ne_eq, Int.not_lt, Int.not_le, Decidable.not_not] at g39'
              refine run_q (.on rfl rfl rfl g39) rfl rfl (q_fieldB (d := 0) rfl Try.underlying57 rfl rfl sz9 rfl) ?_
              refine run_q (.on rfl rfl rfl g39) rfl rfl (q_loadB rfl one9 rfl Sel.here rfl) ?_
              refine run_q (.on rfl rfl rfl g39) rfl rfl (q_move rfl rfl) ?_
              refine run_q (.on rfl rfl rfl g39) rfl rfl (q_indexStr (q := k) rfl Try.underlying9 rfl rfl rfl (bAt_get (by omega))) ?_
              refine run_q (.on rfl rfl rfl g39) rfl rfl (q_eql rfl rfl rfl) ?_
              refine run_q (.none rfl) rfl rfl (q_pickF rfl rfl g39 rfl) ?_
              refine run_nil ?_
              refine run_sub (subMk (.cons (s := 0) rfl (.cons (s := 2) rfl (.cons (s := 3) rfl (.cons (s := 4) rfl (.cons (s := 5) rfl (.cons (s := 45) rfl .nil)))))) .refl) ?_
              refine run_cond rfl (fun g45 => ?_) (fun g45 => ?_)
              · have g45' := g45
                try simp only [decide_eq_true_eq, decide_eq_false_iff_not, beq_iff_eq, beq_eq_false_iff_ne, bne_iff_ne, bne_eq_false_iff_eq, Bool.not_eq_true', Bool.not_eq_false', ne_eq, Int.not_lt, Int.not_le, Decidable.not_not] at g45'
                have hb : byteF (nth l i).text k = 6 := byteF_1 (by unfold bAt; omega)
                refine run_seq ?_
                refine run_region ?_
                refine run_q (.none rfl) rfl rfl (q_assign rfl rfl) ?_
                refine run_nil ?_
                refine run_ret ?_
                exact end1 rfl rfl (by rw [lyr_hit (by omega) hE hkl (sylE_3 (by omega) (by omega) (by rw [hF, firstErr_hit hkt (by rw [hb]; decide), hb]; decide)) (by decide)])
              · have g45' := g45
                try simp only [decide_eq_true_eq, decide_eq_false_iff_not, beq_iff_eq, beq_eq_false_iff_ne, bne_iff_ne, bne_eq_false_iff_eq, Bool.not_eq_true', Bool.not_eq_false', ne_eq, Int.not_lt, Int.not_le, Decidable.not_not] at g45'
                have hb : byteF (nth l i).text k = 0 := byteF_0 (by unfold bAt; omega)
                refine run_skip ?_
                refine run_blk ?_
                refine run_region ?_
                refine run_q (.none rfl) rfl rfl (q_move rfl rfl) ?_
                refine run_q (.none rfl) rfl rfl (q_add rfl rfl rfl (by omega)) ?_
                refine run_q (.none rfl) rfl rfl (q_assign rfl rfl) ?_
                refine run_nil ?_
                refine run_sub (subMk (.cons (s := 0) rfl (.cons (s := 2) rfl (.cons (s := 3) rfl (.cons (s := 4) rfl (.cons (s := 5) rfl .nil))))) .refl) ?_
                exact run_again (k + 1) (by (try dsimp only); exact ⟨by omega, by rw [hF, firstErr_step hkt hb]⟩) (by (try dsimp only); omega) (subMk (.cons' (s := 5) rfl (vint (by omega)) (.cons (s := 0) rfl (.cons (s := 2) rfl (.cons (s := 3) rfl (.cons (s := 4) rfl .nil))))) (.cons Sel.here .refl .nil))
          · have g31' := g31
            try simp only [decide_eq_true_eq, decide_eq_false_iff_not, beq_iff_eq, beq_eq_false_iff_ne, bne_iff_ne, bne_eq_false_iff_eq, Bool.not_eq_true', Bool.not_eq_false', ne_eq, Int.not_lt, Int.not_le, Decidable.not_not] at g31'
            refine run_exit rfl ?_
            refine run_seq ?_
            have hz : firstErr (byteF (nth l i).text) (nth l i).text.size 0 = 0 := by rw [hF, firstErr_end (by omega)]
            refine run_region ?_
            refine run_q (.none rfl) rfl rfl (q_fieldB (d := 0) rfl Try.underlying57 rfl rfl sz9 rfl) ?_
            refine run_q (.none rfl) rfl rfl (q_loadB rfl one9 rfl Sel.here rfl) ?_
            refine run_q (.none rfl) rfl rfl (q_eqlStr rfl rfl rfl) ?_
            refine run_q (.none rfl) rfl rfl (q_move rfl rfl) ?_
            refine run_split 49 rfl (fun g49 => ?_) (fun g49 => ?_)
            · have g49' := g49
              try simp only [decide_eq_true_eq, decide_eq_false_iff_not, beq_iff_eq, beq_eq_false_iff_ne, bne_iff_ne, bne_eq_false_iff_eq, Bool.not_eq_true', Bool.not_eq_false', ne_eq, Int.not_lt, Int.not_le, Decidable.not_not] at g49'
              refine run_q (.on rfl rfl rfl g49) rfl rfl (q_fieldB (d := 1) rfl Try.underlying57 rfl rfl sz3 rfl) ?_
              refine run_q (.on rfl rfl rfl g49) rfl rfl (q_loadB rfl one3 rfl Sel.here rfl) ?_
              refine run_q (.on rfl rfl rfl g49) rfl rfl (q_eql rfl rfl rfl) ?_
              refine run_q (.none rfl) rfl rfl (q_pickT rfl rfl g49 rfl) ?_
              refine run_nil ?_
              refine run_sub (subMk (.cons (s := 0) rfl (.cons (s := 2) rfl (.cons (s := 3) rfl (.cons (s := 53) rfl .nil)))) .refl) ?_
              refine run_cond rfl (fun g53 => ?_) (fun g53 => ?_)
              · have g53' := g53
                try simp only [decide_eq_true_eq, decide_eq_false_iff_not, beq_iff_eq, beq_eq_false_iff_ne, bne_iff_ne, bne_eq_false_iff_eq, Bool.not_eq_true', Bool.not_eq_false', ne_eq, Int.not_lt, Int.not_le, Decidable.not_not] at g53'
                refine run_seq ?_
                refine run_region ?_
                refine run_q (.none rfl) rfl rfl (q_assign rfl rfl) ?_
                refine run_nil ?_
                refine run_ret ?_
                exact end1 rfl rfl (by rw [lyr_hit (by omega) hE hkl (sylE_4 (by omega) (by omega) hz ⟨g49, g53'⟩) (by decide)])
              · have g53' := g53
                try simp only [decide_eq_true_eq, decide_eq_false_iff_not, beq_iff_eq, beq_eq_false_iff_ne, bne_iff_ne, bne_eq_false_iff_eq, Bool.not_eq_true', Bool.not_eq_false', ne_eq, Int.not_lt, Int.not_le, Decidable.not_not] at g53'
                refine run_skip ?_
                refine run_blk ?_
                refine run_region ?_
                refine run_q (.none rfl) rfl rfl (q_move rfl rfl) ?_
                refine run_q (.none rfl) rfl rfl (q_add rfl rfl rfl (by omega)) ?_
                refine run_q (.none rfl) rfl rfl (q_assign rfl rfl) ?_
                refine run_nil ?_
                refine run_sub (subMk (.cons (s := 0) rfl (.cons (s := 2) rfl (.cons (s := 3) rfl .nil))) .refl) ?_
                exact run_again (i + 1) (by (try dsimp only); exact ⟨by omega, by rw [hE, firstErr_step hkl (by rw [sF, sylE_5 (by omega) (by omega) hz (fun h => g53' h.2)])]⟩) (by (try dsimp only); omega) (subMk (.cons' (s := 3) rfl (vint (by omega)) (.cons (s := 0) rfl (.cons (s := 2) rfl .nil))) .nil)
            · have g49' := g49
              try simp only [decide_eq_true_eq, decide_eq_false_iff_not, beq_iff_eq, beq_eq_false_iff_ne, bne_iff_ne, bne_eq_false_iff_eq, Bool.not_eq_true', Bool.not_eq_false', ne_eq, Int.not_lt, Int.not_le, Decidable.not_not] at g49'
              refine run_off (.no rfl rfl rfl g49) rfl rfl ?_
              refine run_off (.no rfl rfl rfl g49) rfl rfl ?_
              refine run_off (.no rfl rfl rfl g49) rfl rfl ?_
              refine run_q (.none rfl) rfl rfl (q_pickF rfl rfl g49 rfl) ?_
              refine run_nil ?_
              refine run_sub (subMk (.cons (s := 0) rfl (.cons (s := 2) rfl (.cons (s := 3) rfl (.cons (s := 53) rfl .nil)))) .refl) ?_
              refine run_condF rfl rfl ?_
              refine run_skip ?_
              refine run_blk ?_
              refine run_region ?_
              refine run_q (.none rfl) rfl rfl (q_move rfl rfl) ?_
              refine run_q (.none rfl) rfl rfl (q_add rfl rfl rfl (by omega)) ?_
              refine run_q (.none rfl) rfl rfl (q_assign rfl rfl) ?_
              refine run_nil ?_
              refine run_sub (subMk (.cons (s := 0) rfl (.cons (s := 2) rfl (.cons (s := 3) rfl .nil))) .refl) ?_
              exact run_again (i + 1) (by (try dsimp only); exact ⟨by omega, by rw [hE, firstErr_step hkl (by rw [sF, sylE_5 (by omega) (by omega) hz (fun h => Bool.noConfusion (h.1.symm.trans g49))])]⟩) (by (try dsimp only); omega) (subMk (.cons' (s := 3) rfl (vint (by omega)) (.cons (s := 0) rfl (.cons (s := 2) rfl .nil))) .nil)
    · have g12' := g12
      try simp only [decide_eq_true_eq, decide_eq_false_iff_not, beq_iff_eq, beq_eq_false_iff_ne, bne_iff_ne, bne_eq_false_iff_eq, Bool.not_eq_true', Bool.not_eq_false', ne_eq, Int.not_lt, Int.not_le, Decidable.not_not] at g12'
      refine run_exit rfl ?_
      refine run_seq ?_
      refine run_seq ?_
      have hzz : firstErr (sF l) l.length 0 = 0 := by rw [hE, firstErr_end (by omega)]
      refine run_region ?_
      refine run_q (.none rfl) rfl rfl (q_move rfl rfl) ?_
      refine run_q (.none rfl) rfl rfl (q_len rfl Try.underlying28 rfl) ?_
      refine run_q (.none rfl) rfl rfl (q_gtr rfl rfl rfl) ?_
      refine run_q (.none rfl) rfl rfl (q_move rfl rfl) ?_
      refine run_split 57 rfl (fun g57 => ?_) (fun g57 => ?_)
      · have g57' := g57
        try simp only [decide_eq_true_eq, decide_eq_false_iff_not, beq_iff_eq, beq_eq_false_iff_ne, bne_iff_ne, bne_eq_false_iff_eq, Bool.not_eq_true', Bool.not_eq_false', ne_eq, Int.not_lt, Int.not_le, Decidable.not_not] at g57'
        refine run_q (.on rfl rfl rfl g57) rfl rfl (q_move rfl rfl) ?_
        refine run_q (.on rfl rfl rfl g57) rfl rfl (q_move rfl rfl) ?_
        refine run_q (.on rfl rfl rfl g57) rfl rfl (q_len rfl Try.underlying28 rfl) ?_
        refine run_q (.on rfl rfl rfl g57) rfl rfl (q_sub rfl rfl rfl (by omega)) ?_
        refine run_q (.on rfl rfl rfl g57) rfl rfl (q_indexS (q := (l.length - 1)) rfl Try.underlying28 sz57 rfl rfl (.inp hr .no) (by simp <;> omega) (by omega) (by omega)) ?_
        refine run_q (.on rfl rfl rfl g57) rfl rfl (q_loadE rfl agg57 rfl (.inp hr .no) (getmap (by omega)) rfl) ?_
        refine run_q (.on rfl rfl rfl g57) rfl rfl (q_call rfl call56 (.cons rfl Evs.nil) (fun w hk hm => refabsent_just (nth l (l.length - 1)) w)) ?_
        refine run_q (.none rfl) rfl rfl (q_pickT rfl rfl g57 rfl) ?_
        refine run_nil ?_
        refine run_sub (subMk (.cons (s := 2) rfl (.cons (s := 65) rfl .nil)) .refl) ?_
        refine run_cond rfl (fun g65 => ?_) (fun g65 => ?_)
        · have g65' := g65
          try simp only [decide_eq_true_eq, decide_eq_false_iff_not, beq_iff_eq, beq_eq_false_iff_ne, bne_iff_ne, bne_eq_false_iff_eq, Bool.not_eq_true', Bool.not_eq_false', ne_eq, Int.not_lt, Int.not_le, Decidable.not_not] at g65'
          refine run_seq ?_
          refine run_region ?_
          refine run_q (.none rfl) rfl rfl (q_assign rfl rfl) ?_
          refine run_nil ?_
          refine run_ret ?_
          exact end1 rfl rfl (by rw [lyricsE_3 (by omega) hzz ⟨by omega, g65'⟩])
        · have g65' := g65
          try simp only [decide_eq_true_eq, decide_eq_false_iff_not, beq_iff_eq, beq_eq_false_iff_ne, bne_iff_ne, bne_eq_false_iff_eq, Bool.not_eq_true', Bool.not_eq_false', ne_eq, Int.not_lt, Int.not_le, Decidable.not_not] at g65'
          refine run_skip ?_
          refine run_seq ?_
          refine run_region ?_
          refine run_q (.none rfl) rfl rfl (q_assign rfl rfl) ?_
          refine run_nil ?_
          refine run_ret ?_
          exact end1 rfl rfl (by rw [lyricsE_4 (by omega) hzz (fun h => g65' h.2)])
      · have g57' := g57
        try simp only [decide_eq_true_eq, decide_eq_false_iff_not, beq_iff_eq, beq_eq_false_iff_ne, bne_iff_ne, bne_eq_false_iff_eq, Bool.not_eq_true', Bool.not_eq_false', ne_eq, Int.not_lt, Int.not_le, Decidable.not_not] at g57'
        refine run_off (.no rfl rfl rfl g57) rfl rfl ?_
        refine run_off (.no rfl rfl rfl g57) rfl rfl ?_
        refine run_off (.no rfl rfl rfl g57) rfl rfl ?_
        refine run_off (.no rfl rfl rfl g57) rfl rfl ?_
        refine run_off (.no rfl rfl rfl g57) rfl rfl ?_
        refine run_off (.no rfl rfl rfl g57) rfl rfl ?_
        refine run_off (.no rfl rfl rfl g57) rfl rfl ?_
        refine run_q (.none rfl) rfl rfl (q_pickF rfl rfl g57 rfl) ?_
        refine run_nil ?_
        refine run_sub (subMk (.cons (s := 2) rfl (.cons (s := 65) rfl .nil)) .refl) ?_
        refine run_condF rfl rfl ?_
        refine run_skip ?_
        refine run_seq ?_
        refine run_region ?_
        refine run_q (.none rfl) rfl rfl (q_assign rfl rfl) ?_
        refine run_nil ?_
        refine run_ret ?_
        exact end1 rfl rfl (by rw [lyricsE_4 (by omega) hzz (by omega)])

end Go.Proofs.Ytneadapfoaccmaa
