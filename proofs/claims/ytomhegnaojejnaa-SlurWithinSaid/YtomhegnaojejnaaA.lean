/- The check of a span, and the height of a curve. -/
import Derived.Test.YtomhegnaojejnaaProg
import Derived.Test.YtomhegnaojejnaaPlain
set_option linter.unusedSimpArgs false
set_option linter.unusedVariables false
namespace Go.Proofs.Ytomhegnaojejnaa
open Go Go.RowKit Hr

theorem sz3 : Hr.Sz Try.prog 3 1 := Hr.Sz.of (by kernel_rfl)
theorem one3 : Hr.One Try.prog 3 := ⟨fun w => by simp [isAgg, run_underlying Try.underlying3], Hr.Sz.of (by kernel_rfl)⟩
theorem call34 : Hr.Callable Try.prog 34 := fun args w => by kernel_rfl
theorem sz4 : Hr.Sz Try.prog 4 1 := Hr.Sz.of (by kernel_rfl)
theorem one4 : Hr.One Try.prog 4 := ⟨fun w => by simp [isAgg, run_underlying Try.underlying4], Hr.Sz.of (by kernel_rfl)⟩
theorem call31 : Hr.Callable Try.prog 31 := fun args w => by kernel_rfl

theorem perm_just (n : Int) (W : World)  : Calls Try.prog 48 #[.int .i64 n] W (Hr.Just W (.bool (decide (-1048576 ≤ n ∧ n ≤ 1048576)))) := by
  refine Just.of_ret ?_
  refine enterA (X := nX) (vs := [.int .i64 n]) Try.func48 Try.ntmps48 rfl rfl Mem.nil ?_
  refine run_seq ?_
  refine run_region ?_
  refine run_q (.none rfl) rfl rfl (q_assign rfl rfl) ?_
  refine run_nil ?_
  refine run_seq ?_
  refine run_region ?_
  refine run_q (.none rfl) rfl rfl (q_move rfl rfl) ?_
  refine run_q (.none rfl) rfl rfl (q_geq rfl rfl rfl) ?_
  refine run_q (.none rfl) rfl rfl (q_move rfl rfl) ?_
  refine run_split 5 rfl (fun g5 => ?_) (fun g5 => ?_)
  · have g5' := g5
    try simp only [decide_eq_true_eq, decide_eq_false_iff_not, beq_iff_eq, beq_eq_false_iff_ne, bne_iff_ne, bne_eq_false_iff_eq, Bool.not_eq_true', Bool.not_eq_false', ne_eq, Int.not_lt, Int.not_le, Decidable.not_not] at g5'
    refine run_q (.on rfl rfl rfl g5) rfl rfl (q_move rfl rfl) ?_
    refine run_q (.on rfl rfl rfl g5) rfl rfl (q_leq rfl rfl rfl) ?_
    refine run_q (.none rfl) rfl rfl (q_pickT rfl rfl g5 rfl) ?_
    refine run_q (.none rfl) rfl rfl (q_assign rfl rfl) ?_
    refine run_nil ?_
    refine run_sub (subMk (.cons (s := 2) rfl .nil) .refl) ?_
    refine run_ret ?_
    exact end1 rfl rfl (congrArg Value.bool (by rw [Bool.eq_iff_iff]; (try simp only [decide_eq_true_eq, Bool.false_eq_true, false_iff, true_iff]); omega))
  · have g5' := g5
    try simp only [decide_eq_true_eq, decide_eq_false_iff_not, beq_iff_eq, beq_eq_false_iff_ne, bne_iff_ne, bne_eq_false_iff_eq, Bool.not_eq_true', Bool.not_eq_false', ne_eq, Int.not_lt, Int.not_le, Decidable.not_not] at g5'
    refine run_off (.no rfl rfl rfl g5) rfl rfl ?_
    refine run_off (.no rfl rfl rfl g5) rfl rfl ?_
    refine run_q (.none rfl) rfl rfl (q_pickF rfl rfl g5 rfl) ?_
    refine run_q (.none rfl) rfl rfl (q_assign rfl rfl) ?_
    refine run_nil ?_
    refine run_sub (subMk (.cons (s := 2) rfl .nil) .refl) ?_
    refine run_ret ?_
    exact end1 rfl rfl (congrArg Value.bool (by rw [Bool.eq_iff_iff]; (try simp only [decide_eq_true_eq, Bool.false_eq_true, false_iff, true_iff]); omega))

theorem size_just (n : Int) (W : World)  : Calls Try.prog 72 #[.int .i64 n] W (Hr.Just W (.bool (decide (0 ≤ n ∧ n ≤ 1048576)))) := by
  refine Just.of_ret ?_
  refine enterA (X := nX) (vs := [.int .i64 n]) Try.func72 Try.ntmps72 rfl rfl Mem.nil ?_
  refine run_seq ?_
  refine run_region ?_
  refine run_q (.none rfl) rfl rfl (q_assign rfl rfl) ?_
  refine run_nil ?_
  refine run_seq ?_
  refine run_region ?_
  refine run_q (.none rfl) rfl rfl (q_move rfl rfl) ?_
  refine run_q (.none rfl) rfl rfl (q_geq rfl rfl rfl) ?_
  refine run_q (.none rfl) rfl rfl (q_move rfl rfl) ?_
  refine run_split 5 rfl (fun g5 => ?_) (fun g5 => ?_)
  · have g5' := g5
    try simp only [decide_eq_true_eq, decide_eq_false_iff_not, beq_iff_eq, beq_eq_false_iff_ne, bne_iff_ne, bne_eq_false_iff_eq, Bool.not_eq_true', Bool.not_eq_false', ne_eq, Int.not_lt, Int.not_le, Decidable.not_not] at g5'
    refine run_q (.on rfl rfl rfl g5) rfl rfl (q_move rfl rfl) ?_
    refine run_q (.on rfl rfl rfl g5) rfl rfl (q_leq rfl rfl rfl) ?_
    refine run_q (.none rfl) rfl rfl (q_pickT rfl rfl g5 rfl) ?_
    refine run_q (.none rfl) rfl rfl (q_assign rfl rfl) ?_
    refine run_nil ?_
    refine run_sub (subMk (.cons (s := 2) rfl .nil) .refl) ?_
    refine run_ret ?_
    exact end1 rfl rfl (congrArg Value.bool (by rw [Bool.eq_iff_iff]; (try simp only [decide_eq_true_eq, Bool.false_eq_true, false_iff, true_iff]); omega))
  · have g5' := g5
    try simp only [decide_eq_true_eq, decide_eq_false_iff_not, beq_iff_eq, beq_eq_false_iff_ne, bne_iff_ne, bne_eq_false_iff_eq, Bool.not_eq_true', Bool.not_eq_false', ne_eq, Int.not_lt, Int.not_le, Decidable.not_not] at g5'
    refine run_off (.no rfl rfl rfl g5) rfl rfl ?_
    refine run_off (.no rfl rfl rfl g5) rfl rfl ?_
    refine run_q (.none rfl) rfl rfl (q_pickF rfl rfl g5 rfl) ?_
    refine run_q (.none rfl) rfl rfl (q_assign rfl rfl) ?_
    refine run_nil ?_
    refine run_sub (subMk (.cons (s := 2) rfl .nil) .refl) ?_
    refine run_ret ?_
    exact end1 rfl rfl (congrArg Value.bool (by rw [Bool.eq_iff_iff]; (try simp only [decide_eq_true_eq, Bool.false_eq_true, false_iff, true_iff]); omega))

theorem high_just (n : Int) (W : World)  : Calls Try.prog 34 #[.int .i64 n] W (Hr.Just W (.bool (decide (-524288 ≤ n ∧ n ≤ 524288)))) := by
  refine Just.of_ret ?_
  refine enterA (X := nX) (vs := [.int .i64 n]) Try.func34 Try.ntmps34 rfl rfl Mem.nil ?_
  refine run_seq ?_
  refine run_region ?_
  refine run_q (.none rfl) rfl rfl (q_assign rfl rfl) ?_
  refine run_nil ?_
  refine run_seq ?_
  refine run_region ?_
  refine run_q (.none rfl) rfl rfl (q_move rfl rfl) ?_
  refine run_q (.none rfl) rfl rfl (q_geq rfl rfl rfl) ?_
  refine run_q (.none rfl) rfl rfl (q_move rfl rfl) ?_
  refine run_split 5 rfl (fun g5 => ?_) (fun g5 => ?_)
  · have g5' := g5
    try simp only [decide_eq_true_eq, decide_eq_false_iff_not, beq_iff_eq, beq_eq_false_iff_ne, bne_iff_ne, bne_eq_false_iff_eq, Bool.not_eq_true', Bool.not_eq_false', ne_eq, Int.not_lt, Int.not_le, Decidable.not_not] at g5'
    refine run_q (.on rfl rfl rfl g5) rfl rfl (q_move rfl rfl) ?_
    refine run_q (.on rfl rfl rfl g5) rfl rfl (q_leq rfl rfl rfl) ?_
    refine run_q (.none rfl) rfl rfl (q_pickT rfl rfl g5 rfl) ?_
    refine run_q (.none rfl) rfl rfl (q_assign rfl rfl) ?_
    refine run_nil ?_
    refine run_sub (subMk (.cons (s := 2) rfl .nil) .refl) ?_
    refine run_ret ?_
    exact end1 rfl rfl (congrArg Value.bool (by rw [Bool.eq_iff_iff]; (try simp only [decide_eq_true_eq, Bool.false_eq_true, false_iff, true_iff]); omega))
  · have g5' := g5
    try simp only [decide_eq_true_eq, decide_eq_false_iff_not, beq_iff_eq, beq_eq_false_iff_ne, bne_iff_ne, bne_eq_false_iff_eq, Bool.not_eq_true', Bool.not_eq_false', ne_eq, Int.not_lt, Int.not_le, Decidable.not_not] at g5'
    refine run_off (.no rfl rfl rfl g5) rfl rfl ?_
    refine run_off (.no rfl rfl rfl g5) rfl rfl ?_
    refine run_q (.none rfl) rfl rfl (q_pickF rfl rfl g5 rfl) ?_
    refine run_q (.none rfl) rfl rfl (q_assign rfl rfl) ?_
    refine run_nil ?_
    refine run_sub (subMk (.cons (s := 2) rfl .nil) .refl) ?_
    refine run_ret ?_
    exact end1 rfl rfl (congrArg Value.bool (by rw [Bool.eq_iff_iff]; (try simp only [decide_eq_true_eq, Bool.false_eq_true, false_iff, true_iff]); omega))

theorem in_just (n lo hi : Int) (W : World)  : Calls Try.prog 31 #[.int .i64 n, .int .i64 lo, .int .i64 hi] W (Hr.Just W (.bool (decide (lo ≤ n ∧ n ≤ hi)))) := by
  refine Just.of_ret ?_
  refine enterA (X := nX) (vs := [.int .i64 n, .int .i64 lo, .int .i64 hi]) Try.func31 Try.ntmps31 rfl rfl Mem.nil ?_
  refine run_seq ?_
  refine run_region ?_
  refine run_q (.none rfl) rfl rfl (q_assign rfl rfl) ?_
  refine run_nil ?_
  refine run_seq ?_
  refine run_region ?_
  refine run_q (.none rfl) rfl rfl (q_move rfl rfl) ?_
  refine run_q (.none rfl) rfl rfl (q_move rfl rfl) ?_
  refine run_q (.none rfl) rfl rfl (q_geq rfl rfl rfl) ?_
  refine run_q (.none rfl) rfl rfl (q_move rfl rfl) ?_
  refine run_split 10 rfl (fun g10 => ?_) (fun g10 => ?_)
  · have g10' := g10
    try simp only [decide_eq_true_eq, decide_eq_false_iff_not, beq_iff_eq, beq_eq_false_iff_ne, bne_iff_ne, bne_eq_false_iff_eq, Bool.not_eq_true', Bool.not_eq_false', ne_eq, Int.not_lt, Int.not_le, Decidable.not_not] at g10'
    refine run_q (.on rfl rfl rfl g10) rfl rfl (q_move rfl rfl) ?_
    refine run_q (.on rfl rfl rfl g10) rfl rfl (q_move rfl rfl) ?_
    refine run_q (.on rfl rfl rfl g10) rfl rfl (q_leq rfl rfl rfl) ?_
    refine run_q (.none rfl) rfl rfl (q_pickT rfl rfl g10 rfl) ?_
    refine run_q (.none rfl) rfl rfl (q_assign rfl rfl) ?_
    refine run_nil ?_
    refine run_sub (subMk (.cons (s := 6) rfl .nil) .refl) ?_
    refine run_ret ?_
    exact end1 rfl rfl (congrArg Value.bool (by rw [Bool.eq_iff_iff]; (try simp only [decide_eq_true_eq, Bool.false_eq_true, false_iff, true_iff]); omega))
  · have g10' := g10
    try simp only [decide_eq_true_eq, decide_eq_false_iff_not, beq_iff_eq, beq_eq_false_iff_ne, bne_iff_ne, bne_eq_false_iff_eq, Bool.not_eq_true', Bool.not_eq_false', ne_eq, Int.not_lt, Int.not_le, Decidable.not_not] at g10'
    refine run_off (.no rfl rfl rfl g10) rfl rfl ?_
    refine run_off (.no rfl rfl rfl g10) rfl rfl ?_
    refine run_off (.no rfl rfl rfl g10) rfl rfl ?_
    refine run_q (.none rfl) rfl rfl (q_pickF rfl rfl g10 rfl) ?_
    refine run_q (.none rfl) rfl rfl (q_assign rfl rfl) ?_
    refine run_nil ?_
    refine run_sub (subMk (.cons (s := 6) rfl .nil) .refl) ?_
    refine run_ret ?_
    exact end1 rfl rfl (congrArg Value.bool (by rw [Bool.eq_iff_iff]; (try simp only [decide_eq_true_eq, Bool.false_eq_true, false_iff, true_iff]); omega))

set_option maxHeartbeats 4000000 in
set_option maxRecDepth 100000 in
theorem check_just (x : Spn) (n : Int) (W : World)  : Calls Try.prog 13 #[x.val, .int .i64 n] W (Hr.Just W (.int .i64 (spE x n))) := by
  refine Just.of_ret ?_
  refine enterA (X := nX) (vs := [x.val, .int .i64 n]) Try.func13 Try.ntmps13 rfl rfl Mem.nil ?_
  refine run_seq ?_
  refine run_region ?_
  refine run_h (.none rfl) (h_box rfl rfl rfl rfl rfl) ?_
  rintro b2 -
  refine run_q (.none rfl) rfl rfl (q_assign rfl rfl) ?_
  refine run_nil ?_
  refine run_seq ?_
  refine run_block ?_
  refine run_seq ?_
  refine run_seq ?_
  refine run_region ?_
  refine run_q (.none rfl) rfl rfl (q_fieldB (d := 0) rfl Try.underlying25 rfl rfl sz3 rfl) ?_
  refine run_q (.none rfl) rfl rfl (q_loadB rfl one3 rfl Sel.here rfl) ?_
  refine run_q (.none rfl) rfl rfl (q_neq rfl rfl rfl) ?_
  refine run_q (.none rfl) rfl rfl (q_move rfl rfl) ?_
  refine run_split 9 rfl (fun g9 => ?_) (fun g9 => ?_)
  · have g9' := g9
    try simp only [decide_eq_true_eq, decide_eq_false_iff_not, beq_iff_eq, beq_eq_false_iff_ne, bne_iff_ne, bne_eq_false_iff_eq, Bool.not_eq_true', Bool.not_eq_false', ne_eq, Int.not_lt, Int.not_le, Decidable.not_not] at g9'
    refine run_q (.on rfl rfl rfl g9) rfl rfl (q_fieldB (d := 0) rfl Try.underlying25 rfl rfl sz3 rfl) ?_
    refine run_q (.on rfl rfl rfl g9) rfl rfl (q_loadB rfl one3 rfl Sel.here rfl) ?_
    refine run_q (.on rfl rfl rfl g9) rfl rfl (q_neq rfl rfl rfl) ?_
    refine run_q (.none rfl) rfl rfl (q_pickT rfl rfl g9 rfl) ?_
    refine run_q (.none rfl) rfl rfl (q_assign rfl rfl) ?_
    refine run_nil ?_
    refine run_sub (subMk (.cons (s := 1) rfl (.cons (s := 2) rfl (.cons (s := 4) rfl (.cons (s := 5) rfl .nil)))) .refl) ?_
    refine run_cond rfl (fun g5 => ?_) (fun g5 => ?_)
    · have g5' := g5
      try simp only [decide_eq_true_eq, decide_eq_false_iff_not, beq_iff_eq, beq_eq_false_iff_ne, bne_iff_ne, bne_eq_false_iff_eq, Bool.not_eq_true', Bool.not_eq_false', ne_eq, Int.not_lt, Int.not_le, Decidable.not_not] at g5'
      refine run_skip ?_
      refine run_condT rfl g5 ?_
      refine run_seq ?_
      refine run_region ?_
      refine run_q (.none rfl) rfl rfl (q_assign rfl rfl) ?_
      refine run_nil ?_
      refine run_sub (subMk (.cons (s := 4) rfl .nil) .refl) ?_
      refine run_ret ?_
      exact end1 rfl rfl (by first | rw [spE, if_pos (by omega)] | rw [spE, if_neg (by omega), if_pos (by omega)] | rw [spE, if_neg (by omega), if_neg (by omega), if_pos ⟨by omega, by assumption, by assumption⟩] | rw [spE, if_neg (by omega), if_neg (by omega), if_neg (fun h => by simp_all)])
    · have g5' := g5
      try simp only [decide_eq_true_eq, decide_eq_false_iff_not, beq_iff_eq, beq_eq_false_iff_ne, bne_iff_ne, bne_eq_false_iff_eq, Bool.not_eq_true', Bool.not_eq_false', ne_eq, Int.not_lt, Int.not_le, Decidable.not_not] at g5'
      refine run_region ?_
      refine run_q (.none rfl) rfl rfl (q_fieldB (d := 3) rfl Try.underlying25 rfl rfl sz3 rfl) ?_
      refine run_q (.none rfl) rfl rfl (q_loadB rfl one3 rfl Sel.here rfl) ?_
      refine run_q (.none rfl) rfl rfl (q_neq rfl rfl rfl) ?_
      refine run_q (.none rfl) rfl rfl (q_move rfl rfl) ?_
      refine run_split 17 rfl (fun g17 => ?_) (fun g17 => ?_)
      · have g17' := g17
        try simp only [decide_eq_true_eq, decide_eq_false_iff_not, beq_iff_eq, beq_eq_false_iff_ne, bne_iff_ne, bne_eq_false_iff_eq, Bool.not_eq_true', Bool.not_eq_false', ne_eq, Int.not_lt, Int.not_le, Decidable.not_not] at g17'
        refine run_q (.on rfl rfl rfl g17) rfl rfl (q_fieldB (d := 3) rfl Try.underlying25 rfl rfl sz3 rfl) ?_
        refine run_q (.on rfl rfl rfl g17) rfl rfl (q_loadB rfl one3 rfl Sel.here rfl) ?_
        refine run_q (.on rfl rfl rfl g17) rfl rfl (q_neq rfl rfl rfl) ?_
        refine run_q (.none rfl) rfl rfl (q_pickT rfl rfl g17 rfl) ?_
        refine run_q (.none rfl) rfl rfl (q_assign rfl rfl) ?_
        refine run_nil ?_
        refine run_sub (subMk (.cons (s := 1) rfl (.cons (s := 2) rfl (.cons (s := 4) rfl (.cons (s := 5) rfl .nil)))) .refl) ?_
        refine run_cond rfl (fun g5 => ?_) (fun g5 => ?_)
        · have g5' := g5
          try simp only [decide_eq_true_eq, decide_eq_false_iff_not, beq_iff_eq, beq_eq_false_iff_ne, bne_iff_ne, bne_eq_false_iff_eq, Bool.not_eq_true', Bool.not_eq_false', ne_eq, Int.not_lt, Int.not_le, Decidable.not_not] at g5'
          refine run_seq ?_
          refine run_region ?_
          refine run_q (.none rfl) rfl rfl (q_assign rfl rfl) ?_
          refine run_nil ?_
          refine run_sub (subMk (.cons (s := 4) rfl .nil) .refl) ?_
          refine run_ret ?_
          exact end1 rfl rfl (by first | rw [spE, if_pos (by omega)] | rw [spE, if_neg (by omega), if_pos (by omega)] | rw [spE, if_neg (by omega), if_neg (by omega), if_pos ⟨by omega, by assumption, by assumption⟩] | rw [spE, if_neg (by omega), if_neg (by omega), if_neg (fun h => by simp_all)])
        · have g5' := g5
          try simp only [decide_eq_true_eq, decide_eq_false_iff_not, beq_iff_eq, beq_eq_false_iff_ne, bne_iff_ne, bne_eq_false_iff_eq, Bool.not_eq_true', Bool.not_eq_false', ne_eq, Int.not_lt, Int.not_le, Decidable.not_not] at g5'
          refine run_seq ?_
          refine run_region ?_
          refine run_q (.none rfl) rfl rfl (q_fieldB (d := 1) rfl Try.underlying25 rfl rfl sz3 rfl) ?_
          refine run_q (.none rfl) rfl rfl (q_loadB rfl one3 rfl Sel.here rfl) ?_
          refine run_q (.none rfl) rfl rfl (q_lss rfl rfl rfl) ?_
          refine run_q (.none rfl) rfl rfl (q_move rfl rfl) ?_
          refine run_split 26 rfl (fun g26 => ?_) (fun g26 => ?_)
          · have g26' := g26
            try simp only [decide_eq_true_eq, decide_eq_false_iff_not, beq_iff_eq, beq_eq_false_iff_ne, bne_iff_ne, bne_eq_false_iff_eq, Bool.not_eq_true', Bool.not_eq_false', ne_eq, Int.not_lt, Int.not_le, Decidable.not_not] at g26'
            refine run_off (.no rfl rfl rfl g26) rfl rfl ?_
            refine run_off (.no rfl rfl rfl g26) rfl rfl ?_
            refine run_off (.no rfl rfl rfl g26) rfl rfl ?_
            refine run_q (.none rfl) rfl rfl (q_pickT rfl rfl g26 rfl) ?_
            refine run_q (.none rfl) rfl rfl (q_move rfl rfl) ?_
            refine run_off (.no rfl rfl rfl rfl) rfl rfl ?_
            refine run_off (.no rfl rfl rfl rfl) rfl rfl ?_
            refine run_off (.no rfl rfl rfl rfl) rfl rfl ?_
            refine run_q (.none rfl) rfl rfl (q_pickT rfl rfl rfl rfl) ?_
            refine run_q (.none rfl) rfl rfl (q_move rfl rfl) ?_
            refine run_off (.no rfl rfl rfl rfl) rfl rfl ?_
            refine run_off (.no rfl rfl rfl rfl) rfl rfl ?_
            refine run_off (.no rfl rfl rfl rfl) rfl rfl ?_
            refine run_off (.no rfl rfl rfl rfl) rfl rfl ?_
            refine run_off (.no rfl rfl rfl rfl) rfl rfl ?_
            refine run_q (.none rfl) rfl rfl (q_pickT rfl rfl rfl rfl) ?_
            refine run_q (.none rfl) rfl rfl (q_move rfl rfl) ?_
            refine run_off (.no rfl rfl rfl rfl) rfl rfl ?_
            refine run_off (.no rfl rfl rfl rfl) rfl rfl ?_
            refine run_off (.no rfl rfl rfl rfl) rfl rfl ?_
            refine run_off (.no rfl rfl rfl rfl) rfl rfl ?_
            refine run_q (.none rfl) rfl rfl (q_pickT rfl rfl rfl rfl) ?_
            refine run_q (.none rfl) rfl rfl (q_move rfl rfl) ?_
            refine run_off (.no rfl rfl rfl rfl) rfl rfl ?_
            refine run_off (.no rfl rfl rfl rfl) rfl rfl ?_
            refine run_off (.no rfl rfl rfl rfl) rfl rfl ?_
            refine run_off (.no rfl rfl rfl rfl) rfl rfl ?_
            refine run_q (.none rfl) rfl rfl (q_pickT rfl rfl rfl rfl) ?_
            refine run_q (.none rfl) rfl rfl (q_move rfl rfl) ?_
            refine run_off (.no rfl rfl rfl rfl) rfl rfl ?_
            refine run_off (.no rfl rfl rfl rfl) rfl rfl ?_
            refine run_off (.no rfl rfl rfl rfl) rfl rfl ?_
            refine run_off (.no rfl rfl rfl rfl) rfl rfl ?_
            refine run_q (.none rfl) rfl rfl (q_pickT rfl rfl rfl rfl) ?_
            refine run_q (.none rfl) rfl rfl (q_assign rfl rfl) ?_
            refine run_nil ?_
            refine run_sub (subMk (.cons (s := 2) rfl (.cons (s := 4) rfl (.cons (s := 22) rfl .nil))) .refl) ?_
            refine run_condT rfl rfl ?_
            refine run_seq ?_
            refine run_region ?_
            refine run_q (.none rfl) rfl rfl (q_assign rfl rfl) ?_
            refine run_nil ?_
            refine run_ret ?_
            exact end1 rfl rfl (by first | rw [spE, if_pos (by omega)] | rw [spE, if_neg (by omega), if_pos (by omega)] | rw [spE, if_neg (by omega), if_neg (by omega), if_pos ⟨by omega, by assumption, by assumption⟩] | rw [spE, if_neg (by omega), if_neg (by omega), if_neg (fun h => by simp_all)])
          · have g26' := g26
            try simp only [decide_eq_true_eq, decide_eq_false_iff_not, beq_iff_eq, beq_eq_false_iff_ne, bne_iff_ne, bne_eq_false_iff_eq, Bool.not_eq_true', Bool.not_eq_false', ne_eq, Int.not_lt, Int.not_le, Decidable.not_not] at g26'
            refine run_q (.on rfl rfl rfl g26) rfl rfl (q_fieldB (d := 2) rfl Try.underlying25 rfl rfl sz3 rfl) ?_
            refine run_q (.on rfl rfl rfl g26) rfl rfl (q_loadB rfl one3 rfl Sel.here rfl) ?_
            refine run_q (.on rfl rfl rfl g26) rfl rfl (q_lss rfl rfl rfl) ?_
            refine run_q (.none rfl) rfl rfl (q_pickF rfl rfl g26 rfl) ?_
            refine run_q (.none rfl) rfl rfl (q_move rfl rfl) ?_
            refine run_split 31 rfl (fun g31 => ?_) (fun g31 => ?_)
            · have g31' := g31
              try simp only [decide_eq_true_eq, decide_eq_false_iff_not, beq_iff_eq, beq_eq_false_iff_ne, bne_iff_ne, bne_eq_false_iff_eq, Bool.not_eq_true', Bool.not_eq_false', ne_eq, Int.not_lt, Int.not_le, Decidable.not_not] at g31'
              refine run_off (.no rfl rfl rfl g31) rfl rfl ?_
              refine run_off (.no rfl rfl rfl g31) rfl rfl ?_
              refine run_off (.no rfl rfl rfl g31) rfl rfl ?_
              refine run_q (.none rfl) rfl rfl (q_pickT rfl rfl g31 rfl) ?_
              refine run_q (.none rfl) rfl rfl (q_move rfl rfl) ?_
              refine run_off (.no rfl rfl rfl rfl) rfl rfl ?_
              refine run_off (.no rfl rfl rfl rfl) rfl rfl ?_
              refine run_off (.no rfl rfl rfl rfl) rfl rfl ?_
              refine run_off (.no rfl rfl rfl rfl) rfl rfl ?_
              refine run_off (.no rfl rfl rfl rfl) rfl rfl ?_
              refine run_q (.none rfl) rfl rfl (q_pickT rfl rfl rfl rfl) ?_
              refine run_q (.none rfl) rfl rfl (q_move rfl rfl) ?_
              refine run_off (.no rfl rfl rfl rfl) rfl rfl ?_
              refine run_off (.no rfl rfl rfl rfl) rfl rfl ?_
              refine run_off (.no rfl rfl rfl rfl) rfl rfl ?_
              refine run_off (.no rfl rfl rfl rfl) rfl rfl ?_
              refine run_q (.none rfl) rfl rfl (q_pickT rfl rfl rfl rfl) ?_
              refine run_q (.none rfl) rfl rfl (q_move rfl rfl) ?_
              refine run_off (.no rfl rfl rfl rfl) rfl rfl ?_
              refine run_off (.no rfl rfl rfl rfl) rfl rfl ?_
              refine run_off (.no rfl rfl rfl rfl) rfl rfl ?_
              refine run_off (.no rfl rfl rfl rfl) rfl rfl ?_
              refine run_q (.none rfl) rfl rfl (q_pickT rfl rfl rfl rfl) ?_
              refine run_q (.none rfl) rfl rfl (q_move rfl rfl) ?_
              refine run_off (.no rfl rfl rfl rfl) rfl rfl ?_
              refine run_off (.no rfl rfl rfl rfl) rfl rfl ?_
              refine run_off (.no rfl rfl rfl rfl) rfl rfl ?_
              refine run_off (.no rfl rfl rfl rfl) rfl rfl ?_
              refine run_q (.none rfl) rfl rfl (q_pickT rfl rfl rfl rfl) ?_
              refine run_q (.none rfl) rfl rfl (q_assign rfl rfl) ?_
              refine run_nil ?_
              refine run_sub (subMk (.cons (s := 2) rfl (.cons (s := 4) rfl (.cons (s := 22) rfl .nil))) .refl) ?_
              refine run_condT rfl rfl ?_
              refine run_seq ?_
              refine run_region ?_
              refine run_q (.none rfl) rfl rfl (q_assign rfl rfl) ?_
              refine run_nil ?_
              refine run_ret ?_
              exact end1 rfl rfl (by first | rw [spE, if_pos (by omega)] | rw [spE, if_neg (by omega), if_pos (by omega)] | rw [spE, if_neg (by omega), if_neg (by omega), if_pos ⟨by omega, by assumption, by assumption⟩] | rw [spE, if_neg (by omega), if_neg (by omega), if_neg (fun h => by simp_all)])
            · have g31' := g31
              try simp only [decide_eq_true_eq, decide_eq_false_iff_not, beq_iff_eq, beq_eq_false_iff_ne, bne_iff_ne, bne_eq_false_iff_eq, Bool.not_eq_true', Bool.not_eq_false', ne_eq, Int.not_lt, Int.not_le, Decidable.not_not] at g31'
              refine run_q (.on rfl rfl rfl g31) rfl rfl (q_fieldB (d := 6) rfl Try.underlying25 rfl rfl sz3 rfl) ?_
              refine run_q (.on rfl rfl rfl g31) rfl rfl (q_loadB rfl one3 rfl Sel.here rfl) ?_
              refine run_q (.on rfl rfl rfl g31) rfl rfl (q_lss rfl rfl rfl) ?_
              refine run_q (.none rfl) rfl rfl (q_pickF rfl rfl g31 rfl) ?_
              refine run_q (.none rfl) rfl rfl (q_move rfl rfl) ?_
              refine run_split 36 rfl (fun g36 => ?_) (fun g36 => ?_)
              · have g36' := g36
                try simp only [decide_eq_true_eq, decide_eq_false_iff_not, beq_iff_eq, beq_eq_false_iff_ne, bne_iff_ne, bne_eq_false_iff_eq, Bool.not_eq_true', Bool.not_eq_false', ne_eq, Int.not_lt, Int.not_le, Decidable.not_not] at g36'
                refine run_off (.no rfl rfl rfl g36) rfl rfl ?_
                refine run_off (.no rfl rfl rfl g36) rfl rfl ?_
                refine run_off (.no rfl rfl rfl g36) rfl rfl ?_
                refine run_off (.no rfl rfl rfl g36) rfl rfl ?_
                refine run_off (.no rfl rfl rfl g36) rfl rfl ?_
                refine run_q (.none rfl) rfl rfl (q_pickT rfl rfl g36 rfl) ?_
                refine run_q (.none rfl) rfl rfl (q_move rfl rfl) ?_
                refine run_off (.no rfl rfl rfl rfl) rfl rfl ?_
                refine run_off (.no rfl rfl rfl rfl) rfl rfl ?_
                refine run_off (.no rfl rfl rfl rfl) rfl rfl ?_
                refine run_off (.no rfl rfl rfl rfl) rfl rfl ?_
                refine run_q (.none rfl) rfl rfl (q_pickT rfl rfl rfl rfl) ?_
                refine run_q (.none rfl) rfl rfl (q_move rfl rfl) ?_
                refine run_off (.no rfl rfl rfl rfl) rfl rfl ?_
                refine run_off (.no rfl rfl rfl rfl) rfl rfl ?_
                refine run_off (.no rfl rfl rfl rfl) rfl rfl ?_
                refine run_off (.no rfl rfl rfl rfl) rfl rfl ?_
                refine run_q (.none rfl) rfl rfl (q_pickT rfl rfl rfl rfl) ?_
                refine run_q (.none rfl) rfl rfl (q_move rfl rfl) ?_
                refine run_off (.no rfl rfl rfl rfl) rfl rfl ?_
                refine run_off (.no rfl rfl rfl rfl) rfl rfl ?_
                refine run_off (.no rfl rfl rfl rfl) rfl rfl ?_
                refine run_off (.no rfl rfl rfl rfl) rfl rfl ?_
                refine run_q (.none rfl) rfl rfl (q_pickT rfl rfl rfl rfl) ?_
                refine run_q (.none rfl) rfl rfl (q_assign rfl rfl) ?_
                refine run_nil ?_
                refine run_sub (subMk (.cons (s := 2) rfl (.cons (s := 4) rfl (.cons (s := 22) rfl .nil))) .refl) ?_
                refine run_condT rfl rfl ?_
                refine run_seq ?_
                refine run_region ?_
                refine run_q (.none rfl) rfl rfl (q_assign rfl rfl) ?_
                refine run_nil ?_
                refine run_ret ?_
                exact end1 rfl rfl (by first | rw [spE, if_pos (by omega)] | rw [spE, if_neg (by omega), if_pos (by omega)] | rw [spE, if_neg (by omega), if_neg (by omega), if_pos ⟨by omega, by assumption, by assumption⟩] | rw [spE, if_neg (by omega), if_neg (by omega), if_neg (fun h => by simp_all)])
              · have g36' := g36
                try simp only [decide_eq_true_eq, decide_eq_false_iff_not, beq_iff_eq, beq_eq_false_iff_ne, bne_iff_ne, bne_eq_false_iff_eq, Bool.not_eq_true', Bool.not_eq_false', ne_eq, Int.not_lt, Int.not_le, Decidable.not_not] at g36'
                refine run_q (.on rfl rfl rfl g36) rfl rfl (q_fieldB (d := 6) rfl Try.underlying25 rfl rfl sz3 rfl) ?_
                refine run_q (.on rfl rfl rfl g36) rfl rfl (q_loadB rfl one3 rfl Sel.here rfl) ?_
                refine run_q (.on rfl rfl rfl g36) rfl rfl (q_fieldB (d := 7) rfl Try.underlying25 rfl rfl sz3 rfl) ?_
                refine run_q (.on rfl rfl rfl g36) rfl rfl (q_loadB rfl one3 rfl Sel.here rfl) ?_
                refine run_q (.on rfl rfl rfl g36) rfl rfl (q_gtr rfl rfl rfl) ?_
                refine run_q (.none rfl) rfl rfl (q_pickF rfl rfl g36 rfl) ?_
                refine run_q (.none rfl) rfl rfl (q_move rfl rfl) ?_
                refine run_split 43 rfl (fun g43 => ?_) (fun g43 => ?_)
                · have g43' := g43
                  try simp only [decide_eq_true_eq, decide_eq_false_iff_not, beq_iff_eq, beq_eq_false_iff_ne, bne_iff_ne, bne_eq_false_iff_eq, Bool.not_eq_true', Bool.not_eq_false', ne_eq, Int.not_lt, Int.not_le, Decidable.not_not] at g43'
                  refine run_off (.no rfl rfl rfl g43) rfl rfl ?_
                  refine run_off (.no rfl rfl rfl g43) rfl rfl ?_
                  refine run_off (.no rfl rfl rfl g43) rfl rfl ?_
                  refine run_off (.no rfl rfl rfl g43) rfl rfl ?_
                  refine run_q (.none rfl) rfl rfl (q_pickT rfl rfl g43 rfl) ?_
                  refine run_q (.none rfl) rfl rfl (q_move rfl rfl) ?_
                  refine run_off (.no rfl rfl rfl rfl) rfl rfl ?_
                  refine run_off (.no rfl rfl rfl rfl) rfl rfl ?_
                  refine run_off (.no rfl rfl rfl rfl) rfl rfl ?_
                  refine run_off (.no rfl rfl rfl rfl) rfl rfl ?_
                  refine run_q (.none rfl) rfl rfl (q_pickT rfl rfl rfl rfl) ?_
                  refine run_q (.none rfl) rfl rfl (q_move rfl rfl) ?_
                  refine run_off (.no rfl rfl rfl rfl) rfl rfl ?_
                  refine run_off (.no rfl rfl rfl rfl) rfl rfl ?_
                  refine run_off (.no rfl rfl rfl rfl) rfl rfl ?_
                  refine run_off (.no rfl rfl rfl rfl) rfl rfl ?_
                  refine run_q (.none rfl) rfl rfl (q_pickT rfl rfl rfl rfl) ?_
                  refine run_q (.none rfl) rfl rfl (q_assign rfl rfl) ?_
                  refine run_nil ?_
                  refine run_sub (subMk (.cons (s := 2) rfl (.cons (s := 4) rfl (.cons (s := 22) rfl .nil))) .refl) ?_
                  refine run_condT rfl rfl ?_
                  refine run_seq ?_
                  refine run_region ?_
                  refine run_q (.none rfl) rfl rfl (q_assign rfl rfl) ?_
                  refine run_nil ?_
                  refine run_ret ?_
                  exact end1 rfl rfl (by first | rw [spE, if_pos (by omega)] | rw [spE, if_neg (by omega), if_pos (by omega)] | rw [spE, if_neg (by omega), if_neg (by omega), if_pos ⟨by omega, by assumption, by assumption⟩] | rw [spE, if_neg (by omega), if_neg (by omega), if_neg (fun h => by simp_all)])
                · have g43' := g43
                  try simp only [decide_eq_true_eq, decide_eq_false_iff_not, beq_iff_eq, beq_eq_false_iff_ne, bne_iff_ne, bne_eq_false_iff_eq, Bool.not_eq_true', Bool.not_eq_false', ne_eq, Int.not_lt, Int.not_le, Decidable.not_not] at g43'
                  refine run_q (.on rfl rfl rfl g43) rfl rfl (q_fieldB (d := 7) rfl Try.underlying25 rfl rfl sz3 rfl) ?_
                  refine run_q (.on rfl rfl rfl g43) rfl rfl (q_loadB rfl one3 rfl Sel.here rfl) ?_
                  refine run_q (.on rfl rfl rfl g43) rfl rfl (q_move rfl rfl) ?_
                  refine run_q (.on rfl rfl rfl g43) rfl rfl (q_geq rfl rfl rfl) ?_
                  refine run_q (.none rfl) rfl rfl (q_pickF rfl rfl g43 rfl) ?_
                  refine run_q (.none rfl) rfl rfl (q_move rfl rfl) ?_
                  refine run_split 49 rfl (fun g49 => ?_) (fun g49 => ?_)
                  · have g49' := g49
                    try simp only [decide_eq_true_eq, decide_eq_false_iff_not, beq_iff_eq, beq_eq_false_iff_ne, bne_iff_ne, bne_eq_false_iff_eq, Bool.not_eq_true', Bool.not_eq_false', ne_eq, Int.not_lt, Int.not_le, Decidable.not_not] at g49'
                    refine run_off (.no rfl rfl rfl g49) rfl rfl ?_
                    refine run_off (.no rfl rfl rfl g49) rfl rfl ?_
                    refine run_off (.no rfl rfl rfl g49) rfl rfl ?_
                    refine run_off (.no rfl rfl rfl g49) rfl rfl ?_
                    refine run_q (.none rfl) rfl rfl (q_pickT rfl rfl g49 rfl) ?_
                    refine run_q (.none rfl) rfl rfl (q_move rfl rfl) ?_
                    refine run_off (.no rfl rfl rfl rfl) rfl rfl ?_
                    refine run_off (.no rfl rfl rfl rfl) rfl rfl ?_
                    refine run_off (.no rfl rfl rfl rfl) rfl rfl ?_
                    refine run_off (.no rfl rfl rfl rfl) rfl rfl ?_
                    refine run_q (.none rfl) rfl rfl (q_pickT rfl rfl rfl rfl) ?_
                    refine run_q (.none rfl) rfl rfl (q_assign rfl rfl) ?_
                    refine run_nil ?_
                    refine run_sub (subMk (.cons (s := 2) rfl (.cons (s := 4) rfl (.cons (s := 22) rfl .nil))) .refl) ?_
                    refine run_condT rfl rfl ?_
                    refine run_seq ?_
                    refine run_region ?_
                    refine run_q (.none rfl) rfl rfl (q_assign rfl rfl) ?_
                    refine run_nil ?_
                    refine run_ret ?_
                    exact end1 rfl rfl (by first | rw [spE, if_pos (by omega)] | rw [spE, if_neg (by omega), if_pos (by omega)] | rw [spE, if_neg (by omega), if_neg (by omega), if_pos ⟨by omega, by assumption, by assumption⟩] | rw [spE, if_neg (by omega), if_neg (by omega), if_neg (fun h => by simp_all)])
                  · have g49' := g49
                    try simp only [decide_eq_true_eq, decide_eq_false_iff_not, beq_iff_eq, beq_eq_false_iff_ne, bne_iff_ne, bne_eq_false_iff_eq, Bool.not_eq_true', Bool.not_eq_false', ne_eq, Int.not_lt, Int.not_le, Decidable.not_not] at g49'
                    refine run_q (.on rfl rfl rfl g49) rfl rfl (q_fieldB (d := 8) rfl Try.underlying25 rfl rfl sz3 rfl) ?_
                    refine run_q (.on rfl rfl rfl g49) rfl rfl (q_loadB rfl one3 rfl Sel.here rfl) ?_
                    refine run_q (.on rfl rfl rfl g49) rfl rfl (q_call rfl call34 (.cons rfl Evs.nil) (fun w hk hm => high_just _ w)) ?_
                    refine run_q (.on rfl rfl rfl g49) rfl rfl (q_not rfl rfl) ?_
                    refine run_q (.none rfl) rfl rfl (q_pickF rfl rfl g49 rfl) ?_
                    refine run_q (.none rfl) rfl rfl (q_move rfl rfl) ?_
                    refine run_split 55 rfl (fun g55 => ?_) (fun g55 => ?_)
                    · have g55' := g55
                      try simp only [decide_eq_true_eq, decide_eq_false_iff_not, beq_iff_eq, beq_eq_false_iff_ne, bne_iff_ne, bne_eq_false_iff_eq, Bool.not_eq_true', Bool.not_eq_false', ne_eq, Int.not_lt, Int.not_le, Decidable.not_not] at g55'
                      refine run_off (.no rfl rfl rfl g55) rfl rfl ?_
                      refine run_off (.no rfl rfl rfl g55) rfl rfl ?_
                      refine run_off (.no rfl rfl rfl g55) rfl rfl ?_
                      refine run_off (.no rfl rfl rfl g55) rfl rfl ?_
                      refine run_q (.none rfl) rfl rfl (q_pickT rfl rfl g55 rfl) ?_
                      refine run_q (.none rfl) rfl rfl (q_assign rfl rfl) ?_
                      refine run_nil ?_
                      refine run_sub (subMk (.cons (s := 2) rfl (.cons (s := 4) rfl (.cons (s := 22) rfl .nil))) .refl) ?_
                      refine run_condT rfl rfl ?_
                      refine run_seq ?_
                      refine run_region ?_
                      refine run_q (.none rfl) rfl rfl (q_assign rfl rfl) ?_
                      refine run_nil ?_
                      refine run_ret ?_
                      exact end1 rfl rfl (by first | rw [spE, if_pos (by omega)] | rw [spE, if_neg (by omega), if_pos (by omega)] | rw [spE, if_neg (by omega), if_neg (by omega), if_pos ⟨by omega, by assumption, by assumption⟩] | rw [spE, if_neg (by omega), if_neg (by omega), if_neg (fun h => by simp_all)])
                    · have g55' := g55
                      try simp only [decide_eq_true_eq, decide_eq_false_iff_not, beq_iff_eq, beq_eq_false_iff_ne, bne_iff_ne, bne_eq_false_iff_eq, Bool.not_eq_true', Bool.not_eq_false', ne_eq, Int.not_lt, Int.not_le, Decidable.not_not] at g55'
                      refine run_q (.on rfl rfl rfl g55) rfl rfl (q_fieldB (d := 9) rfl Try.underlying25 rfl rfl sz3 rfl) ?_
                      refine run_q (.on rfl rfl rfl g55) rfl rfl (q_loadB rfl one3 rfl Sel.here rfl) ?_
                      refine run_q (.on rfl rfl rfl g55) rfl rfl (q_call rfl call34 (.cons rfl Evs.nil) (fun w hk hm => high_just _ w)) ?_
                      refine run_q (.on rfl rfl rfl g55) rfl rfl (q_not rfl rfl) ?_
                      refine run_q (.none rfl) rfl rfl (q_pickF rfl rfl g55 rfl) ?_
                      refine run_q (.none rfl) rfl rfl (q_assign rfl rfl) ?_
                      refine run_nil ?_
                      refine run_sub (subMk (.cons (s := 2) rfl (.cons (s := 4) rfl (.cons (s := 22) rfl .nil))) .refl) ?_
                      refine run_cond rfl (fun g22 => ?_) (fun g22 => ?_)
                      · have g22' := g22
                        try simp only [decide_eq_true_eq, decide_eq_false_iff_not, beq_iff_eq, beq_eq_false_iff_ne, bne_iff_ne, bne_eq_false_iff_eq, Bool.not_eq_true', Bool.not_eq_false', ne_eq, Int.not_lt, Int.not_le, Decidable.not_not] at g22'
                        refine run_seq ?_
                        refine run_region ?_
                        refine run_q (.none rfl) rfl rfl (q_assign rfl rfl) ?_
                        refine run_nil ?_
                        refine run_ret ?_
                        exact end1 rfl rfl (by first | rw [spE, if_pos (by omega)] | rw [spE, if_neg (by omega), if_pos (by omega)] | rw [spE, if_neg (by omega), if_neg (by omega), if_pos ⟨by omega, by assumption, by assumption⟩] | rw [spE, if_neg (by omega), if_neg (by omega), if_neg (fun h => by simp_all)])
                      · have g22' := g22
                        try simp only [decide_eq_true_eq, decide_eq_false_iff_not, beq_iff_eq, beq_eq_false_iff_ne, bne_iff_ne, bne_eq_false_iff_eq, Bool.not_eq_true', Bool.not_eq_false', ne_eq, Int.not_lt, Int.not_le, Decidable.not_not] at g22'
                        refine run_seq ?_
                        refine run_region ?_
                        refine run_q (.none rfl) rfl rfl (q_fieldB (d := 6) rfl Try.underlying25 rfl rfl sz3 rfl) ?_
                        refine run_q (.none rfl) rfl rfl (q_loadB rfl one3 rfl Sel.here rfl) ?_
                        refine run_q (.none rfl) rfl rfl (q_fieldB (d := 7) rfl Try.underlying25 rfl rfl sz3 rfl) ?_
                        refine run_q (.none rfl) rfl rfl (q_loadB rfl one3 rfl Sel.here rfl) ?_
                        refine run_q (.none rfl) rfl rfl (q_eql rfl rfl rfl) ?_
                        refine run_q (.none rfl) rfl rfl (q_move rfl rfl) ?_
                        refine run_split 67 rfl (fun g67 => ?_) (fun g67 => ?_)
                        · have g67' := g67
                          try simp only [decide_eq_true_eq, decide_eq_false_iff_not, beq_iff_eq, beq_eq_false_iff_ne, bne_iff_ne, bne_eq_false_iff_eq, Bool.not_eq_true', Bool.not_eq_false', ne_eq, Int.not_lt, Int.not_le, Decidable.not_not] at g67'
                          refine run_q (.on rfl rfl rfl g67) rfl rfl (q_fieldB (d := 10) rfl Try.underlying25 rfl rfl sz4 rfl) ?_
                          refine run_q (.on rfl rfl rfl g67) rfl rfl (q_loadB rfl one4 rfl Sel.here rfl) ?_
                          refine run_q (.on rfl rfl rfl g67) rfl rfl (q_not rfl rfl) ?_
                          refine run_q (.none rfl) rfl rfl (q_pickT rfl rfl g67 rfl) ?_
                          refine run_q (.none rfl) rfl rfl (q_move rfl rfl) ?_
                          refine run_split 72 rfl (fun g72 => ?_) (fun g72 => ?_)
                          · have g72' := g72
                            try simp only [decide_eq_true_eq, decide_eq_false_iff_not, beq_iff_eq, beq_eq_false_iff_ne, bne_iff_ne, bne_eq_false_iff_eq, Bool.not_eq_true', Bool.not_eq_false', ne_eq, Int.not_lt, Int.not_le, Decidable.not_not] at g72'
                            refine run_q (.on rfl rfl rfl g72) rfl rfl (q_fieldB (d := 11) rfl Try.underlying25 rfl rfl sz4 rfl) ?_
                            refine run_q (.on rfl rfl rfl g72) rfl rfl (q_loadB rfl one4 rfl Sel.here rfl) ?_
                            refine run_q (.on rfl rfl rfl g72) rfl rfl (q_not rfl rfl) ?_
                            refine run_q (.none rfl) rfl rfl (q_pickT rfl rfl g72 rfl) ?_
                            refine run_q (.none rfl) rfl rfl (q_assign rfl rfl) ?_
                            refine run_nil ?_
                            refine run_sub (subMk (.cons (s := 4) rfl (.cons (s := 61) rfl .nil)) .refl) ?_
                            refine run_cond rfl (fun g61 => ?_) (fun g61 => ?_)
                            · have g61' := g61
                              try simp only [decide_eq_true_eq, decide_eq_false_iff_not, beq_iff_eq, beq_eq_false_iff_ne, bne_iff_ne, bne_eq_false_iff_eq, Bool.not_eq_true', Bool.not_eq_false', ne_eq, Int.not_lt, Int.not_le, Decidable.not_not] at g61'
                              refine run_seq ?_
                              refine run_region ?_
                              refine run_q (.none rfl) rfl rfl (q_assign rfl rfl) ?_
                              refine run_nil ?_
                              refine run_ret ?_
                              exact end1 rfl rfl (by first | rw [spE, if_pos (by omega)] | rw [spE, if_neg (by omega), if_pos (by omega)] | rw [spE, if_neg (by omega), if_neg (by omega), if_pos ⟨by omega, by assumption, by assumption⟩] | rw [spE, if_neg (by omega), if_neg (by omega), if_neg (fun h => by simp_all)])
                            · have g61' := g61
                              try simp only [decide_eq_true_eq, decide_eq_false_iff_not, beq_iff_eq, beq_eq_false_iff_ne, bne_iff_ne, bne_eq_false_iff_eq, Bool.not_eq_true', Bool.not_eq_false', ne_eq, Int.not_lt, Int.not_le, Decidable.not_not] at g61'
                              refine run_skip ?_
                              refine run_blk ?_
                              refine run_seq ?_
                              refine run_region ?_
                              refine run_q (.none rfl) rfl rfl (q_assign rfl rfl) ?_
                              refine run_nil ?_
                              refine run_ret ?_
                              exact end1 rfl rfl (by first | rw [spE, if_pos (by omega)] | rw [spE, if_neg (by omega), if_pos (by omega)] | rw [spE, if_neg (by omega), if_neg (by omega), if_pos ⟨by omega, by assumption, by assumption⟩] | rw [spE, if_neg (by omega), if_neg (by omega), if_neg (fun h => by simp_all)])
                          · have g72' := g72
                            try simp only [decide_eq_true_eq, decide_eq_false_iff_not, beq_iff_eq, beq_eq_false_iff_ne, bne_iff_ne, bne_eq_false_iff_eq, Bool.not_eq_true', Bool.not_eq_false', ne_eq, Int.not_lt, Int.not_le, Decidable.not_not] at g72'
                            refine run_off (.no rfl rfl rfl g72) rfl rfl ?_
                            refine run_off (.no rfl rfl rfl g72) rfl rfl ?_
                            refine run_off (.no rfl rfl rfl g72) rfl rfl ?_
                            refine run_q (.none rfl) rfl rfl (q_pickF rfl rfl g72 rfl) ?_
                            refine run_q (.none rfl) rfl rfl (q_assign rfl rfl) ?_
                            refine run_nil ?_
                            refine run_sub (subMk (.cons (s := 4) rfl (.cons (s := 61) rfl .nil)) .refl) ?_
                            refine run_condF rfl rfl ?_
                            refine run_skip ?_
                            refine run_blk ?_
                            refine run_seq ?_
                            refine run_region ?_
                            refine run_q (.none rfl) rfl rfl (q_assign rfl rfl) ?_
                            refine run_nil ?_
                            refine run_ret ?_
                            exact end1 rfl rfl (by first | rw [spE, if_pos (by omega)] | rw [spE, if_neg (by omega), if_pos (by omega)] | rw [spE, if_neg (by omega), if_neg (by omega), if_pos ⟨by omega, by assumption, by assumption⟩] | rw [spE, if_neg (by omega), if_neg (by omega), if_neg (fun h => by simp_all)])
                        · have g67' := g67
                          try simp only [decide_eq_true_eq, decide_eq_false_iff_not, beq_iff_eq, beq_eq_false_iff_ne, bne_iff_ne, bne_eq_false_iff_eq, Bool.not_eq_true', Bool.not_eq_false', ne_eq, Int.not_lt, Int.not_le, Decidable.not_not] at g67'
                          refine run_off (.no rfl rfl rfl g67) rfl rfl ?_
                          refine run_off (.no rfl rfl rfl g67) rfl rfl ?_
                          refine run_off (.no rfl rfl rfl g67) rfl rfl ?_
                          refine run_q (.none rfl) rfl rfl (q_pickF rfl rfl g67 rfl) ?_
                          refine run_q (.none rfl) rfl rfl (q_move rfl rfl) ?_
                          refine run_off (.no rfl rfl rfl rfl) rfl rfl ?_
                          refine run_off (.no rfl rfl rfl rfl) rfl rfl ?_
                          refine run_off (.no rfl rfl rfl rfl) rfl rfl ?_
                          refine run_q (.none rfl) rfl rfl (q_pickF rfl rfl rfl rfl) ?_
                          refine run_q (.none rfl) rfl rfl (q_assign rfl rfl) ?_
                          refine run_nil ?_
                          refine run_sub (subMk (.cons (s := 4) rfl (.cons (s := 61) rfl .nil)) .refl) ?_
                          refine run_condF rfl rfl ?_
                          refine run_skip ?_
                          refine run_blk ?_
                          refine run_seq ?_
                          refine run_region ?_
                          refine run_q (.none rfl) rfl rfl (q_assign rfl rfl) ?_
                          refine run_nil ?_
                          refine run_ret ?_
                          exact end1 rfl rfl (by first | rw [spE, if_pos (by omega)] | rw [spE, if_neg (by omega), if_pos (by omega)] | rw [spE, if_neg (by omega), if_neg (by omega), if_pos ⟨by omega, by assumption, by assumption⟩] | rw [spE, if_neg (by omega), if_neg (by omega), if_neg (fun h => by simp_all)])
      · have g17' := g17
        try simp only [decide_eq_true_eq, decide_eq_false_iff_not, beq_iff_eq, beq_eq_false_iff_ne, bne_iff_ne, bne_eq_false_iff_eq, Bool.not_eq_true', Bool.not_eq_false', ne_eq, Int.not_lt, Int.not_le, Decidable.not_not] at g17'
        refine run_off (.no rfl rfl rfl g17) rfl rfl ?_
        refine run_off (.no rfl rfl rfl g17) rfl rfl ?_
        refine run_off (.no rfl rfl rfl g17) rfl rfl ?_
        refine run_q (.none rfl) rfl rfl (q_pickF rfl rfl g17 rfl) ?_
        refine run_q (.none rfl) rfl rfl (q_assign rfl rfl) ?_
        refine run_nil ?_
        refine run_sub (subMk (.cons (s := 1) rfl (.cons (s := 2) rfl (.cons (s := 4) rfl (.cons (s := 5) rfl .nil)))) .refl) ?_
        refine run_condF rfl rfl ?_
        refine run_seq ?_
        refine run_region ?_
        refine run_q (.none rfl) rfl rfl (q_fieldB (d := 1) rfl Try.underlying25 rfl rfl sz3 rfl) ?_
        refine run_q (.none rfl) rfl rfl (q_loadB rfl one3 rfl Sel.here rfl) ?_
        refine run_q (.none rfl) rfl rfl (q_lss rfl rfl rfl) ?_
        refine run_q (.none rfl) rfl rfl (q_move rfl rfl) ?_
        refine run_split 26 rfl (fun g26 => ?_) (fun g26 => ?_)
        · have g26' := g26
          try simp only [decide_eq_true_eq, decide_eq_false_iff_not, beq_iff_eq, beq_eq_false_iff_ne, bne_iff_ne, bne_eq_false_iff_eq, Bool.not_eq_true', Bool.not_eq_false', ne_eq, Int.not_lt, Int.not_le, Decidable.not_not] at g26'
          refine run_off (.no rfl rfl rfl g26) rfl rfl ?_
          refine run_off (.no rfl rfl rfl g26) rfl rfl ?_
          refine run_off (.no rfl rfl rfl g26) rfl rfl ?_
          refine run_q (.none rfl) rfl rfl (q_pickT rfl rfl g26 rfl) ?_
          refine run_q (.none rfl) rfl rfl (q_move rfl rfl) ?_
          refine run_off (.no rfl rfl rfl rfl) rfl rfl ?_
          refine run_off (.no rfl rfl rfl rfl) rfl rfl ?_
          refine run_off (.no rfl rfl rfl rfl) rfl rfl ?_
          refine run_q (.none rfl) rfl rfl (q_pickT rfl rfl rfl rfl) ?_
          refine run_q (.none rfl) rfl rfl (q_move rfl rfl) ?_
          refine run_off (.no rfl rfl rfl rfl) rfl rfl ?_
          refine run_off (.no rfl rfl rfl rfl) rfl rfl ?_
          refine run_off (.no rfl rfl rfl rfl) rfl rfl ?_
          refine run_off (.no rfl rfl rfl rfl) rfl rfl ?_
          refine run_off (.no rfl rfl rfl rfl) rfl rfl ?_
          refine run_q (.none rfl) rfl rfl (q_pickT rfl rfl rfl rfl) ?_
          refine run_q (.none rfl) rfl rfl (q_move rfl rfl) ?_
          refine run_off (.no rfl rfl rfl rfl) rfl rfl ?_
          refine run_off (.no rfl rfl rfl rfl) rfl rfl ?_
          refine run_off (.no rfl rfl rfl rfl) rfl rfl ?_
          refine run_off (.no rfl rfl rfl rfl) rfl rfl ?_
          refine run_q (.none rfl) rfl rfl (q_pickT rfl rfl rfl rfl) ?_
          refine run_q (.none rfl) rfl rfl (q_move rfl rfl) ?_
          refine run_off (.no rfl rfl rfl rfl) rfl rfl ?_
          refine run_off (.no rfl rfl rfl rfl) rfl rfl ?_
          refine run_off (.no rfl rfl rfl rfl) rfl rfl ?_
          refine run_off (.no rfl rfl rfl rfl) rfl rfl ?_
          refine run_q (.none rfl) rfl rfl (q_pickT rfl rfl rfl rfl) ?_
          refine run_q (.none rfl) rfl rfl (q_move rfl rfl) ?_
          refine run_off (.no rfl rfl rfl rfl) rfl rfl ?_
          refine run_off (.no rfl rfl rfl rfl) rfl rfl ?_
          refine run_off (.no rfl rfl rfl rfl) rfl rfl ?_
          refine run_off (.no rfl rfl rfl rfl) rfl rfl ?_
          refine run_q (.none rfl) rfl rfl (q_pickT rfl rfl rfl rfl) ?_
          refine run_q (.none rfl) rfl rfl (q_assign rfl rfl) ?_
          refine run_nil ?_
          refine run_sub (subMk (.cons (s := 2) rfl (.cons (s := 4) rfl (.cons (s := 22) rfl .nil))) .refl) ?_
          refine run_condT rfl rfl ?_
          refine run_seq ?_
          refine run_region ?_
          refine run_q (.none rfl) rfl rfl (q_assign rfl rfl) ?_
          refine run_nil ?_
          refine run_ret ?_
          exact end1 rfl rfl (by first | rw [spE, if_pos (by omega)] | rw [spE, if_neg (by omega), if_pos (by omega)] | rw [spE, if_neg (by omega), if_neg (by omega), if_pos ⟨by omega, by assumption, by assumption⟩] | rw [spE, if_neg (by omega), if_neg (by omega), if_neg (fun h => by simp_all)])
        · have g26' := g26
          try simp only [decide_eq_true_eq, decide_eq_false_iff_not, beq_iff_eq, beq_eq_false_iff_ne, bne_iff_ne, bne_eq_false_iff_eq, Bool.not_eq_true', Bool.not_eq_false', ne_eq, Int.not_lt, Int.not_le, Decidable.not_not] at g26'
          refine run_q (.on rfl rfl rfl g26) rfl rfl (q_fieldB (d := 2) rfl Try.underlying25 rfl rfl sz3 rfl) ?_
          refine run_q (.on rfl rfl rfl g26) rfl rfl (q_loadB rfl one3 rfl Sel.here rfl) ?_
          refine run_q (.on rfl rfl rfl g26) rfl rfl (q_lss rfl rfl rfl) ?_
          refine run_q (.none rfl) rfl rfl (q_pickF rfl rfl g26 rfl) ?_
          refine run_q (.none rfl) rfl rfl (q_move rfl rfl) ?_
          refine run_split 31 rfl (fun g31 => ?_) (fun g31 => ?_)
          · have g31' := g31
            try simp only [decide_eq_true_eq, decide_eq_false_iff_not, beq_iff_eq, beq_eq_false_iff_ne, bne_iff_ne, bne_eq_false_iff_eq, Bool.not_eq_true', Bool.not_eq_false', ne_eq, Int.not_lt, Int.not_le, Decidable.not_not] at g31'
            refine run_off (.no rfl rfl rfl g31) rfl rfl ?_
            refine run_off (.no rfl rfl rfl g31) rfl rfl ?_
            refine run_off (.no rfl rfl rfl g31) rfl rfl ?_
            refine run_q (.none rfl) rfl rfl (q_pickT rfl rfl g31 rfl) ?_
            refine run_q (.none rfl) rfl rfl (q_move rfl rfl) ?_
            refine run_off (.no rfl rfl rfl rfl) rfl rfl ?_
            refine run_off (.no rfl rfl rfl rfl) rfl rfl ?_
            refine run_off (.no rfl rfl rfl rfl) rfl rfl ?_
            refine run_off (.no rfl rfl rfl rfl) rfl rfl ?_
            refine run_off (.no rfl rfl rfl rfl) rfl rfl ?_
            refine run_q (.none rfl) rfl rfl (q_pickT rfl rfl rfl rfl) ?_
            refine run_q (.none rfl) rfl rfl (q_move rfl rfl) ?_
            refine run_off (.no rfl rfl rfl rfl) rfl rfl ?_
            refine run_off (.no rfl rfl rfl rfl) rfl rfl ?_
            refine run_off (.no rfl rfl rfl rfl) rfl rfl ?_
            refine run_off (.no rfl rfl rfl rfl) rfl rfl ?_
            refine run_q (.none rfl) rfl rfl (q_pickT rfl rfl rfl rfl) ?_
            refine run_q (.none rfl) rfl rfl (q_move rfl rfl) ?_
            refine run_off (.no rfl rfl rfl rfl) rfl rfl ?_
            refine run_off (.no rfl rfl rfl rfl) rfl rfl ?_
            refine run_off (.no rfl rfl rfl rfl) rfl rfl ?_
            refine run_off (.no rfl rfl rfl rfl) rfl rfl ?_
            refine run_q (.none rfl) rfl rfl (q_pickT rfl rfl rfl rfl) ?_
            refine run_q (.none rfl) rfl rfl (q_move rfl rfl) ?_
            refine run_off (.no rfl rfl rfl rfl) rfl rfl ?_
            refine run_off (.no rfl rfl rfl rfl) rfl rfl ?_
            refine run_off (.no rfl rfl rfl rfl) rfl rfl ?_
            refine run_off (.no rfl rfl rfl rfl) rfl rfl ?_
            refine run_q (.none rfl) rfl rfl (q_pickT rfl rfl rfl rfl) ?_
            refine run_q (.none rfl) rfl rfl (q_assign rfl rfl) ?_
            refine run_nil ?_
            refine run_sub (subMk (.cons (s := 2) rfl (.cons (s := 4) rfl (.cons (s := 22) rfl .nil))) .refl) ?_
            refine run_condT rfl rfl ?_
            refine run_seq ?_
            refine run_region ?_
            refine run_q (.none rfl) rfl rfl (q_assign rfl rfl) ?_
            refine run_nil ?_
            refine run_ret ?_
            exact end1 rfl rfl (by first | rw [spE, if_pos (by omega)] | rw [spE, if_neg (by omega), if_pos (by omega)] | rw [spE, if_neg (by omega), if_neg (by omega), if_pos ⟨by omega, by assumption, by assumption⟩] | rw [spE, if_neg (by omega), if_neg (by omega), if_neg (fun h => by simp_all)])
          · have g31' := g31
            try simp only [decide_eq_true_eq, decide_eq_false_iff_not, beq_iff_eq, beq_eq_false_iff_ne, bne_iff_ne, bne_eq_false_iff_eq, Bool.not_eq_true', Bool.not_eq_false', ne_eq, Int.not_lt, Int.not_le, Decidable.not_not] at g31'
            refine run_q (.on rfl rfl rfl g31) rfl rfl (q_fieldB (d := 6) rfl Try.underlying25 rfl rfl sz3 rfl) ?_
            refine run_q (.on rfl rfl rfl g31) rfl rfl (q_loadB rfl one3 rfl Sel.here rfl) ?_
            refine run_q (.on rfl rfl rfl g31) rfl rfl (q_lss rfl rfl rfl) ?_
            refine run_q (.none rfl) rfl rfl (q_pickF rfl rfl g31 rfl) ?_
            refine run_q (.none rfl) rfl rfl (q_move rfl rfl) ?_
            refine run_split 36 rfl (fun g36 => ?_) (fun g36 => ?_)
            · have g36' := g36
              try simp only [decide_eq_true_eq, decide_eq_false_iff_not, beq_iff_eq, beq_eq_false_iff_ne, bne_iff_ne, bne_eq_false_iff_eq, Bool.not_eq_true', Bool.not_eq_false', ne_eq, Int.not_lt, Int.not_le, Decidable.not_not] at g36'
              refine run_off (.no rfl rfl rfl g36) rfl rfl ?_
              refine run_off (.no rfl rfl rfl g36) rfl rfl ?_
              refine run_off (.no rfl rfl rfl g36) rfl rfl ?_
              refine run_off (.no rfl rfl rfl g36) rfl rfl ?_
              refine run_off (.no rfl rfl rfl g36) rfl rfl ?_
              refine run_q (.none rfl) rfl rfl (q_pickT rfl rfl g36 rfl) ?_
              refine run_q (.none rfl) rfl rfl (q_move rfl rfl) ?_
              refine run_off (.no rfl rfl rfl rfl) rfl rfl ?_
              refine run_off (.no rfl rfl rfl rfl) rfl rfl ?_
              refine run_off (.no rfl rfl rfl rfl) rfl rfl ?_
              refine run_off (.no rfl rfl rfl rfl) rfl rfl ?_
              refine run_q (.none rfl) rfl rfl (q_pickT rfl rfl rfl rfl) ?_
              refine run_q (.none rfl) rfl rfl (q_move rfl rfl) ?_
              refine run_off (.no rfl rfl rfl rfl) rfl rfl ?_
              refine run_off (.no rfl rfl rfl rfl) rfl rfl ?_
              refine run_off (.no rfl rfl rfl rfl) rfl rfl ?_
              refine run_off (.no rfl rfl rfl rfl) rfl rfl ?_
              refine run_q (.none rfl) rfl rfl (q_pickT rfl rfl rfl rfl) ?_
              refine run_q (.none rfl) rfl rfl (q_move rfl rfl) ?_
              refine run_off (.no rfl rfl rfl rfl) rfl rfl ?_
              refine run_off (.no rfl rfl rfl rfl) rfl rfl ?_
              refine run_off (.no rfl rfl rfl rfl) rfl rfl ?_
              refine run_off (.no rfl rfl rfl rfl) rfl rfl ?_
              refine run_q (.none rfl) rfl rfl (q_pickT rfl rfl rfl rfl) ?_
              refine run_q (.none rfl) rfl rfl (q_assign rfl rfl) ?_
              refine run_nil ?_
              refine run_sub (subMk (.cons (s := 2) rfl (.cons (s := 4) rfl (.cons (s := 22) rfl .nil))) .refl) ?_
              refine run_condT rfl rfl ?_
              refine run_seq ?_
              refine run_region ?_
              refine run_q (.none rfl) rfl rfl (q_assign rfl rfl) ?_
              refine run_nil ?_
              refine run_ret ?_
              exact end1 rfl rfl (by first | rw [spE, if_pos (by omega)] | rw [spE, if_neg (by omega), if_pos (by omega)] | rw [spE, if_neg (by omega), if_neg (by omega), if_pos ⟨by omega, by assumption, by assumption⟩] | rw [spE, if_neg (by omega), if_neg (by omega), if_neg (fun h => by simp_all)])
            · have g36' := g36
              try simp only [decide_eq_true_eq, decide_eq_false_iff_not, beq_iff_eq, beq_eq_false_iff_ne, bne_iff_ne, bne_eq_false_iff_eq, Bool.not_eq_true', Bool.not_eq_false', ne_eq, Int.not_lt, Int.not_le, Decidable.not_not] at g36'
              refine run_q (.on rfl rfl rfl g36) rfl rfl (q_fieldB (d := 6) rfl Try.underlying25 rfl rfl sz3 rfl) ?_
              refine run_q (.on rfl rfl rfl g36) rfl rfl (q_loadB rfl one3 rfl Sel.here rfl) ?_
              refine run_q (.on rfl rfl rfl g36) rfl rfl (q_fieldB (d := 7) rfl Try.underlying25 rfl rfl sz3 rfl) ?_
              refine run_q (.on rfl rfl rfl g36) rfl rfl (q_loadB rfl one3 rfl Sel.here rfl) ?_
              refine run_q (.on rfl rfl rfl g36) rfl rfl (q_gtr rfl rfl rfl) ?_
              refine run_q (.none rfl) rfl rfl (q_pickF rfl rfl g36 rfl) ?_
              refine run_q (.none rfl) rfl rfl (q_move rfl rfl) ?_
              refine run_split 43 rfl (fun g43 => ?_) (fun g43 => ?_)
              · have g43' := g43
                try simp only [decide_eq_true_eq, decide_eq_false_iff_not, beq_iff_eq, beq_eq_false_iff_ne, bne_iff_ne, bne_eq_false_iff_eq, Bool.not_eq_true', Bool.not_eq_false', ne_eq, Int.not_lt, Int.not_le, Decidable.not_not] at g43'
                refine run_off (.no rfl rfl rfl g43) rfl rfl ?_
                refine run_off (.no rfl rfl rfl g43) rfl rfl ?_
                refine run_off (.no rfl rfl rfl g43) rfl rfl ?_
                refine run_off (.no rfl rfl rfl g43) rfl rfl ?_
                refine run_q (.none rfl) rfl rfl (q_pickT rfl rfl g43 rfl) ?_
                refine run_q (.none rfl) rfl rfl (q_move rfl rfl) ?_
                refine run_off (.no rfl rfl rfl rfl) rfl rfl ?_
                refine run_off (.no rfl rfl rfl rfl) rfl rfl ?_
                refine run_off (.no rfl rfl rfl rfl) rfl rfl ?_
                refine run_off (.no rfl rfl rfl rfl) rfl rfl ?_
                refine run_q (.none rfl) rfl rfl (q_pickT rfl rfl rfl rfl) ?_
                refine run_q (.none rfl) rfl rfl (q_move rfl rfl) ?_
                refine run_off (.no rfl rfl rfl rfl) rfl rfl ?_
                refine run_off (.no rfl rfl rfl rfl) rfl rfl ?_
                refine run_off (.no rfl rfl rfl rfl) rfl rfl ?_
                refine run_off (.no rfl rfl rfl rfl) rfl rfl ?_
                refine run_q (.none rfl) rfl rfl (q_pickT rfl rfl rfl rfl) ?_
                refine run_q (.none rfl) rfl rfl (q_assign rfl rfl) ?_
                refine run_nil ?_
                refine run_sub (subMk (.cons (s := 2) rfl (.cons (s := 4) rfl (.cons (s := 22) rfl .nil))) .refl) ?_
                refine run_condT rfl rfl ?_
                refine run_seq ?_
                refine run_region ?_
                refine run_q (.none rfl) rfl rfl (q_assign rfl rfl) ?_
                refine run_nil ?_
                refine run_ret ?_
                exact end1 rfl rfl (by first | rw [spE, if_pos (by omega)] | rw [spE, if_neg (by omega), if_pos (by omega)] | rw [spE, if_neg (by omega), if_neg (by omega), if_pos ⟨by omega, by assumption, by assumption⟩] | rw [spE, if_neg (by omega), if_neg (by omega), if_neg (fun h => by simp_all)])
              · have g43' := g43
                try simp only [decide_eq_true_eq, decide_eq_false_iff_not, beq_iff_eq, beq_eq_false_iff_ne, bne_iff_ne, bne_eq_false_iff_eq, Bool.not_eq_true', Bool.not_eq_false', ne_eq, Int.not_lt, Int.not_le, Decidable.not_not] at g43'
                refine run_q (.on rfl rfl rfl g43) rfl rfl (q_fieldB (d := 7) rfl Try.underlying25 rfl rfl sz3 rfl) ?_
                refine run_q (.on rfl rfl rfl g43) rfl rfl (q_loadB rfl one3 rfl Sel.here rfl) ?_
                refine run_q (.on rfl rfl rfl g43) rfl rfl (q_move rfl rfl) ?_
                refine run_q (.on rfl rfl rfl g43) rfl rfl (q_geq rfl rfl rfl) ?_
                refine run_q (.none rfl) rfl rfl (q_pickF rfl rfl g43 rfl) ?_
                refine run_q (.none rfl) rfl rfl (q_move rfl rfl) ?_
                refine run_split 49 rfl (fun g49 => ?_) (fun g49 => ?_)
                · have g49' := g49
                  try simp only [decide_eq_true_eq, decide_eq_false_iff_not, beq_iff_eq, beq_eq_false_iff_ne, bne_iff_ne, bne_eq_false_iff_eq, Bool.not_eq_true', Bool.not_eq_false', ne_eq, Int.not_lt, Int.not_le, Decidable.not_not] at g49'
                  refine run_off (.no rfl rfl rfl g49) rfl rfl ?_
                  refine run_off (.no rfl rfl rfl g49) rfl rfl ?_
                  refine run_off (.no rfl rfl rfl g49) rfl rfl ?_
                  refine run_off (.no rfl rfl rfl g49) rfl rfl ?_
                  refine run_q (.none rfl) rfl rfl (q_pickT rfl rfl g49 rfl) ?_
                  refine run_q (.none rfl) rfl rfl (q_move rfl rfl) ?_
                  refine run_off (.no rfl rfl rfl rfl) rfl rfl ?_
                  refine run_off (.no rfl rfl rfl rfl) rfl rfl ?_
                  refine run_off (.no rfl rfl rfl rfl) rfl rfl ?_
                  refine run_off (.no rfl rfl rfl rfl) rfl rfl ?_
                  refine run_q (.none rfl) rfl rfl (q_pickT rfl rfl rfl rfl) ?_
                  refine run_q (.none rfl) rfl rfl (q_assign rfl rfl) ?_
                  refine run_nil ?_
                  refine run_sub (subMk (.cons (s := 2) rfl (.cons (s := 4) rfl (.cons (s := 22) rfl .nil))) .refl) ?_
                  refine run_condT rfl rfl ?_
                  refine run_seq ?_
                  refine run_region ?_
                  refine run_q (.none rfl) rfl rfl (q_assign rfl rfl) ?_
                  refine run_nil ?_
                  refine run_ret ?_
                  exact end1 rfl rfl (by first | rw [spE, if_pos (by omega)] | rw [spE, if_neg (by omega), if_pos (by omega)] | rw [spE, if_neg (by omega), if_neg (by omega), if_pos ⟨by omega, by assumption, by assumption⟩] | rw [spE, if_neg (by omega), if_neg (by omega), if_neg (fun h => by simp_all)])
                · have g49' := g49
                  try simp only [decide_eq_true_eq, decide_eq_false_iff_not, beq_iff_eq, beq_eq_false_iff_ne, bne_iff_ne, bne_eq_false_iff_eq, Bool.not_eq_true', Bool.not_eq_false', ne_eq, Int.not_lt, Int.not_le, Decidable.not_not] at g49'
                  refine run_q (.on rfl rfl rfl g49) rfl rfl (q_fieldB (d := 8) rfl Try.underlying25 rfl rfl sz3 rfl) ?_
                  refine run_q (.on rfl rfl rfl g49) rfl rfl (q_loadB rfl one3 rfl Sel.here rfl) ?_
                  refine run_q (.on rfl rfl rfl g49) rfl rfl (q_call rfl call34 (.cons rfl Evs.nil) (fun w hk hm => high_just _ w)) ?_
                  refine run_q (.on rfl rfl rfl g49) rfl rfl (q_not rfl rfl) ?_
                  refine run_q (.none rfl) rfl rfl (q_pickF rfl rfl g49 rfl) ?_
                  refine run_q (.none rfl) rfl rfl (q_move rfl rfl) ?_
                  refine run_split 55 rfl (fun g55 => ?_) (fun g55 => ?_)
                  · have g55' := g55
                    try simp only [decide_eq_true_eq, decide_eq_false_iff_not, beq_iff_eq, beq_eq_false_iff_ne, bne_iff_ne, bne_eq_false_iff_eq, Bool.not_eq_true', Bool.not_eq_false', ne_eq, Int.not_lt, Int.not_le, Decidable.not_not] at g55'
                    refine run_off (.no rfl rfl rfl g55) rfl rfl ?_
                    refine run_off (.no rfl rfl rfl g55) rfl rfl ?_
                    refine run_off (.no rfl rfl rfl g55) rfl rfl ?_
                    refine run_off (.no rfl rfl rfl g55) rfl rfl ?_
                    refine run_q (.none rfl) rfl rfl (q_pickT rfl rfl g55 rfl) ?_
                    refine run_q (.none rfl) rfl rfl (q_assign rfl rfl) ?_
                    refine run_nil ?_
                    refine run_sub (subMk (.cons (s := 2) rfl (.cons (s := 4) rfl (.cons (s := 22) rfl .nil))) .refl) ?_
                    refine run_condT rfl rfl ?_
                    refine run_seq ?_
                    refine run_region ?_
                    refine run_q (.none rfl) rfl rfl (q_assign rfl rfl) ?_
                    refine run_nil ?_
                    refine run_ret ?_
                    exact end1 rfl rfl (by first | rw [spE, if_pos (by omega)] | rw [spE, if_neg (by omega), if_pos (by omega)] | rw [spE, if_neg (by omega), if_neg (by omega), if_pos ⟨by omega, by assumption, by assumption⟩] | rw [spE, if_neg (by omega), if_neg (by omega), if_neg (fun h => by simp_all)])
                  · have g55' := g55
                    try simp only [decide_eq_true_eq, decide_eq_false_iff_not, beq_iff_eq, beq_eq_false_iff_ne, bne_iff_ne, bne_eq_false_iff_eq, Bool.not_eq_true', Bool.not_eq_false', ne_eq, Int.not_lt, Int.not_le, Decidable.not_not] at g55'
                    refine run_q (.on rfl rfl rfl g55) rfl rfl (q_fieldB (d := 9) rfl Try.underlying25 rfl rfl sz3 rfl) ?_
                    refine run_q (.on rfl rfl rfl g55) rfl rfl (q_loadB rfl one3 rfl Sel.here rfl) ?_
                    refine run_q (.on rfl rfl rfl g55) rfl rfl (q_call rfl call34 (.cons rfl Evs.nil) (fun w hk hm => high_just _ w)) ?_
                    refine run_q (.on rfl rfl rfl g55) rfl rfl (q_not rfl rfl) ?_
                    refine run_q (.none rfl) rfl rfl (q_pickF rfl rfl g55 rfl) ?_
                    refine run_q (.none rfl) rfl rfl (q_assign rfl rfl) ?_
                    refine run_nil ?_
                    refine run_sub (subMk (.cons (s := 2) rfl (.cons (s := 4) rfl (.cons (s := 22) rfl .nil))) .refl) ?_
                    refine run_cond rfl (fun g22 => ?_) (fun g22 => ?_)
                    · have g22' := g22
                      try simp only [decide_eq_true_eq, decide_eq_false_iff_not, beq_iff_eq, beq_eq_false_iff_ne, bne_iff_ne, bne_eq_false_iff_eq, Bool.not_eq_true', Bool.not_eq_false', ne_eq, Int.not_lt, Int.not_le, Decidable.not_not] at g22'
                      refine run_seq ?_
                      refine run_region ?_
                      refine run_q (.none rfl) rfl rfl (q_assign rfl rfl) ?_
                      refine run_nil ?_
                      refine run_ret ?_
                      exact end1 rfl rfl (by first | rw [spE, if_pos (by omega)] | rw [spE, if_neg (by omega), if_pos (by omega)] | rw [spE, if_neg (by omega), if_neg (by omega), if_pos ⟨by omega, by assumption, by assumption⟩] | rw [spE, if_neg (by omega), if_neg (by omega), if_neg (fun h => by simp_all)])
                    · have g22' := g22
                      try simp only [decide_eq_true_eq, decide_eq_false_iff_not, beq_iff_eq, beq_eq_false_iff_ne, bne_iff_ne, bne_eq_false_iff_eq, Bool.not_eq_true', Bool.not_eq_false', ne_eq, Int.not_lt, Int.not_le, Decidable.not_not] at g22'
                      refine run_seq ?_
                      refine run_region ?_
                      refine run_q (.none rfl) rfl rfl (q_fieldB (d := 6) rfl Try.underlying25 rfl rfl sz3 rfl) ?_
                      refine run_q (.none rfl) rfl rfl (q_loadB rfl one3 rfl Sel.here rfl) ?_
                      refine run_q (.none rfl) rfl rfl (q_fieldB (d := 7) rfl Try.underlying25 rfl rfl sz3 rfl) ?_
                      refine run_q (.none rfl) rfl rfl (q_loadB rfl one3 rfl Sel.here rfl) ?_
                      refine run_q (.none rfl) rfl rfl (q_eql rfl rfl rfl) ?_
                      refine run_q (.none rfl) rfl rfl (q_move rfl rfl) ?_
                      refine run_split 67 rfl (fun g67 => ?_) (fun g67 => ?_)
                      · have g67' := g67
                        try simp only [decide_eq_true_eq, decide_eq_false_iff_not, beq_iff_eq, beq_eq_false_iff_ne, bne_iff_ne, bne_eq_false_iff_eq, Bool.not_eq_true', Bool.not_eq_false', ne_eq, Int.not_lt, Int.not_le, Decidable.not_not] at g67'
                        refine run_q (.on rfl rfl rfl g67) rfl rfl (q_fieldB (d := 10) rfl Try.underlying25 rfl rfl sz4 rfl) ?_
                        refine run_q (.on rfl rfl rfl g67) rfl rfl (q_loadB rfl one4 rfl Sel.here rfl) ?_
                        refine run_q (.on rfl rfl rfl g67) rfl rfl (q_not rfl rfl) ?_
                        refine run_q (.none rfl) rfl rfl (q_pickT rfl rfl g67 rfl) ?_
                        refine run_q (.none rfl) rfl rfl (q_move rfl rfl) ?_
                        refine run_split 72 rfl (fun g72 => ?_) (fun g72 => ?_)
                        · have g72' := g72
                          try simp only [decide_eq_true_eq, decide_eq_false_iff_not, beq_iff_eq, beq_eq_false_iff_ne, bne_iff_ne, bne_eq_false_iff_eq, Bool.not_eq_true', Bool.not_eq_false', ne_eq, Int.not_lt, Int.not_le, Decidable.not_not] at g72'
                          refine run_q (.on rfl rfl rfl g72) rfl rfl (q_fieldB (d := 11) rfl Try.underlying25 rfl rfl sz4 rfl) ?_
                          refine run_q (.on rfl rfl rfl g72) rfl rfl (q_loadB rfl one4 rfl Sel.here rfl) ?_
                          refine run_q (.on rfl rfl rfl g72) rfl rfl (q_not rfl rfl) ?_
                          refine run_q (.none rfl) rfl rfl (q_pickT rfl rfl g72 rfl) ?_
                          refine run_q (.none rfl) rfl rfl (q_assign rfl rfl) ?_
                          refine run_nil ?_
                          refine run_sub (subMk (.cons (s := 4) rfl (.cons (s := 61) rfl .nil)) .refl) ?_
                          refine run_cond rfl (fun g61 => ?_) (fun g61 => ?_)
                          · have g61' := g61
                            try simp only [decide_eq_true_eq, decide_eq_false_iff_not, beq_iff_eq, beq_eq_false_iff_ne, bne_iff_ne, bne_eq_false_iff_eq, Bool.not_eq_true', Bool.not_eq_false', ne_eq, Int.not_lt, Int.not_le, Decidable.not_not] at g61'
                            refine run_seq ?_
                            refine run_region ?_
                            refine run_q (.none rfl) rfl rfl (q_assign rfl rfl) ?_
                            refine run_nil ?_
                            refine run_ret ?_
                            exact end1 rfl rfl (by first | rw [spE, if_pos (by omega)] | rw [spE, if_neg (by omega), if_pos (by omega)] | rw [spE, if_neg (by omega), if_neg (by omega), if_pos ⟨by omega, by assumption, by assumption⟩] | rw [spE, if_neg (by omega), if_neg (by omega), if_neg (fun h => by simp_all)])
                          · have g61' := g61
                            try simp only [decide_eq_true_eq, decide_eq_false_iff_not, beq_iff_eq, beq_eq_false_iff_ne, bne_iff_ne, bne_eq_false_iff_eq, Bool.not_eq_true', Bool.not_eq_false', ne_eq, Int.not_lt, Int.not_le, Decidable.not_not] at g61'
                            refine run_skip ?_
                            refine run_blk ?_
                            refine run_seq ?_
                            refine run_region ?_
                            refine run_q (.none rfl) rfl rfl (q_assign rfl rfl) ?_
                            refine run_nil ?_
                            refine run_ret ?_
                            exact end1 rfl rfl (by first | rw [spE, if_pos (by omega)] | rw [spE, if_neg (by omega), if_pos (by omega)] | rw [spE, if_neg (by omega), if_neg (by omega), if_pos ⟨by omega, by assumption, by assumption⟩] | rw [spE, if_neg (by omega), if_neg (by omega), if_neg (fun h => by simp_all)])
                        · have g72' := g72
                          try simp only [decide_eq_true_eq, decide_eq_false_iff_not, beq_iff_eq, beq_eq_false_iff_ne, bne_iff_ne, bne_eq_false_iff_eq, Bool.not_eq_true', Bool.not_eq_false', ne_eq, Int.not_lt, Int.not_le, Decidable.not_not] at g72'
                          refine run_off (.no rfl rfl rfl g72) rfl rfl ?_
                          refine run_off (.no rfl rfl rfl g72) rfl rfl ?_
                          refine run_off (.no rfl rfl rfl g72) rfl rfl ?_
                          refine run_q (.none rfl) rfl rfl (q_pickF rfl rfl g72 rfl) ?_
                          refine run_q (.none rfl) rfl rfl (q_assign rfl rfl) ?_
                          refine run_nil ?_
                          refine run_sub (subMk (.cons (s := 4) rfl (.cons (s := 61) rfl .nil)) .refl) ?_
                          refine run_condF rfl rfl ?_
                          refine run_skip ?_
                          refine run_blk ?_
                          refine run_seq ?_
                          refine run_region ?_
                          refine run_q (.none rfl) rfl rfl (q_assign rfl rfl) ?_
                          refine run_nil ?_
                          refine run_ret ?_
                          exact end1 rfl rfl (by first | rw [spE, if_pos (by omega)] | rw [spE, if_neg (by omega), if_pos (by omega)] | rw [spE, if_neg (by omega), if_neg (by omega), if_pos ⟨by omega, by assumption, by assumption⟩] | rw [spE, if_neg (by omega), if_neg (by omega), if_neg (fun h => by simp_all)])
                      · have g67' := g67
                        try simp only [decide_eq_true_eq, decide_eq_false_iff_not, beq_iff_eq, beq_eq_false_iff_ne, bne_iff_ne, bne_eq_false_iff_eq, Bool.not_eq_true', Bool.not_eq_false', ne_eq, Int.not_lt, Int.not_le, Decidable.not_not] at g67'
                        refine run_off (.no rfl rfl rfl g67) rfl rfl ?_
                        refine run_off (.no rfl rfl rfl g67) rfl rfl ?_
                        refine run_off (.no rfl rfl rfl g67) rfl rfl ?_
                        refine run_q (.none rfl) rfl rfl (q_pickF rfl rfl g67 rfl) ?_
                        refine run_q (.none rfl) rfl rfl (q_move rfl rfl) ?_
                        refine run_off (.no rfl rfl rfl rfl) rfl rfl ?_
                        refine run_off (.no rfl rfl rfl rfl) rfl rfl ?_
                        refine run_off (.no rfl rfl rfl rfl) rfl rfl ?_
                        refine run_q (.none rfl) rfl rfl (q_pickF rfl rfl rfl rfl) ?_
                        refine run_q (.none rfl) rfl rfl (q_assign rfl rfl) ?_
                        refine run_nil ?_
                        refine run_sub (subMk (.cons (s := 4) rfl (.cons (s := 61) rfl .nil)) .refl) ?_
                        refine run_condF rfl rfl ?_
                        refine run_skip ?_
                        refine run_blk ?_
                        refine run_seq ?_
                        refine run_region ?_
                        refine run_q (.none rfl) rfl rfl (q_assign rfl rfl) ?_
                        refine run_nil ?_
                        refine run_ret ?_
                        exact end1 rfl rfl (by first | rw [spE, if_pos (by omega)] | rw [spE, if_neg (by omega), if_pos (by omega)] | rw [spE, if_neg (by omega), if_neg (by omega), if_pos ⟨by omega, by assumption, by assumption⟩] | rw [spE, if_neg (by omega), if_neg (by omega), if_neg (fun h => by simp_all)])
  · have g9' := g9
    try simp only [decide_eq_true_eq, decide_eq_false_iff_not, beq_iff_eq, beq_eq_false_iff_ne, bne_iff_ne, bne_eq_false_iff_eq, Bool.not_eq_true', Bool.not_eq_false', ne_eq, Int.not_lt, Int.not_le, Decidable.not_not] at g9'
    refine run_off (.no rfl rfl rfl g9) rfl rfl ?_
    refine run_off (.no rfl rfl rfl g9) rfl rfl ?_
    refine run_off (.no rfl rfl rfl g9) rfl rfl ?_
    refine run_q (.none rfl) rfl rfl (q_pickF rfl rfl g9 rfl) ?_
    refine run_q (.none rfl) rfl rfl (q_assign rfl rfl) ?_
    refine run_nil ?_
    refine run_sub (subMk (.cons (s := 1) rfl (.cons (s := 2) rfl (.cons (s := 4) rfl (.cons (s := 5) rfl .nil)))) .refl) ?_
    refine run_condF rfl rfl ?_
    refine run_region ?_
    refine run_q (.none rfl) rfl rfl (q_fieldB (d := 3) rfl Try.underlying25 rfl rfl sz3 rfl) ?_
    refine run_q (.none rfl) rfl rfl (q_loadB rfl one3 rfl Sel.here rfl) ?_
    refine run_q (.none rfl) rfl rfl (q_neq rfl rfl rfl) ?_
    refine run_q (.none rfl) rfl rfl (q_move rfl rfl) ?_
    refine run_split 17 rfl (fun g17 => ?_) (fun g17 => ?_)
    · have g17' := g17
      try simp only [decide_eq_true_eq, decide_eq_false_iff_not, beq_iff_eq, beq_eq_false_iff_ne, bne_iff_ne, bne_eq_false_iff_eq, Bool.not_eq_true', Bool.not_eq_false', ne_eq, Int.not_lt, Int.not_le, Decidable.not_not] at g17'
      refine run_q (.on rfl rfl rfl g17) rfl rfl (q_fieldB (d := 3) rfl Try.underlying25 rfl rfl sz3 rfl) ?_
      refine run_q (.on rfl rfl rfl g17) rfl rfl (q_loadB rfl one3 rfl Sel.here rfl) ?_
      refine run_q (.on rfl rfl rfl g17) rfl rfl (q_neq rfl rfl rfl) ?_
      refine run_q (.none rfl) rfl rfl (q_pickT rfl rfl g17 rfl) ?_
      refine run_q (.none rfl) rfl rfl (q_assign rfl rfl) ?_
      refine run_nil ?_
      refine run_sub (subMk (.cons (s := 1) rfl (.cons (s := 2) rfl (.cons (s := 4) rfl (.cons (s := 5) rfl .nil)))) .refl) ?_
      refine run_cond rfl (fun g5 => ?_) (fun g5 => ?_)
      · have g5' := g5
        try simp only [decide_eq_true_eq, decide_eq_false_iff_not, beq_iff_eq, beq_eq_false_iff_ne, bne_iff_ne, bne_eq_false_iff_eq, Bool.not_eq_true', Bool.not_eq_false', ne_eq, Int.not_lt, Int.not_le, Decidable.not_not] at g5'
        refine run_seq ?_
        refine run_region ?_
        refine run_q (.none rfl) rfl rfl (q_assign rfl rfl) ?_
        refine run_nil ?_
        refine run_sub (subMk (.cons (s := 4) rfl .nil) .refl) ?_
        refine run_ret ?_
        exact end1 rfl rfl (by first | rw [spE, if_pos (by omega)] | rw [spE, if_neg (by omega), if_pos (by omega)] | rw [spE, if_neg (by omega), if_neg (by omega), if_pos ⟨by omega, by assumption, by assumption⟩] | rw [spE, if_neg (by omega), if_neg (by omega), if_neg (fun h => by simp_all)])
      · have g5' := g5
        try simp only [decide_eq_true_eq, decide_eq_false_iff_not, beq_iff_eq, beq_eq_false_iff_ne, bne_iff_ne, bne_eq_false_iff_eq, Bool.not_eq_true', Bool.not_eq_false', ne_eq, Int.not_lt, Int.not_le, Decidable.not_not] at g5'
        refine run_seq ?_
        refine run_region ?_
        refine run_q (.none rfl) rfl rfl (q_fieldB (d := 1) rfl Try.underlying25 rfl rfl sz3 rfl) ?_
        refine run_q (.none rfl) rfl rfl (q_loadB rfl one3 rfl Sel.here rfl) ?_
        refine run_q (.none rfl) rfl rfl (q_lss rfl rfl rfl) ?_
        refine run_q (.none rfl) rfl rfl (q_move rfl rfl) ?_
        refine run_split 26 rfl (fun g26 => ?_) (fun g26 => ?_)
        · have g26' := g26
          try simp only [decide_eq_true_eq, decide_eq_false_iff_not, beq_iff_eq, beq_eq_false_iff_ne, bne_iff_ne, bne_eq_false_iff_eq, Bool.not_eq_true', Bool.not_eq_false', ne_eq, Int.not_lt, Int.not_le, Decidable.not_not] at g26'
          refine run_off (.no rfl rfl rfl g26) rfl rfl ?_
          refine run_off (.no rfl rfl rfl g26) rfl rfl ?_
          refine run_off (.no rfl rfl rfl g26) rfl rfl ?_
          refine run_q (.none rfl) rfl rfl (q_pickT rfl rfl g26 rfl) ?_
          refine run_q (.none rfl) rfl rfl (q_move rfl rfl) ?_
          refine run_off (.no rfl rfl rfl rfl) rfl rfl ?_
          refine run_off (.no rfl rfl rfl rfl) rfl rfl ?_
          refine run_off (.no rfl rfl rfl rfl) rfl rfl ?_
          refine run_q (.none rfl) rfl rfl (q_pickT rfl rfl rfl rfl) ?_
          refine run_q (.none rfl) rfl rfl (q_move rfl rfl) ?_
          refine run_off (.no rfl rfl rfl rfl) rfl rfl ?_
          refine run_off (.no rfl rfl rfl rfl) rfl rfl ?_
          refine run_off (.no rfl rfl rfl rfl) rfl rfl ?_
          refine run_off (.no rfl rfl rfl rfl) rfl rfl ?_
          refine run_off (.no rfl rfl rfl rfl) rfl rfl ?_
          refine run_q (.none rfl) rfl rfl (q_pickT rfl rfl rfl rfl) ?_
          refine run_q (.none rfl) rfl rfl (q_move rfl rfl) ?_
          refine run_off (.no rfl rfl rfl rfl) rfl rfl ?_
          refine run_off (.no rfl rfl rfl rfl) rfl rfl ?_
          refine run_off (.no rfl rfl rfl rfl) rfl rfl ?_
          refine run_off (.no rfl rfl rfl rfl) rfl rfl ?_
          refine run_q (.none rfl) rfl rfl (q_pickT rfl rfl rfl rfl) ?_
          refine run_q (.none rfl) rfl rfl (q_move rfl rfl) ?_
          refine run_off (.no rfl rfl rfl rfl) rfl rfl ?_
          refine run_off (.no rfl rfl rfl rfl) rfl rfl ?_
          refine run_off (.no rfl rfl rfl rfl) rfl rfl ?_
          refine run_off (.no rfl rfl rfl rfl) rfl rfl ?_
          refine run_q (.none rfl) rfl rfl (q_pickT rfl rfl rfl rfl) ?_
          refine run_q (.none rfl) rfl rfl (q_move rfl rfl) ?_
          refine run_off (.no rfl rfl rfl rfl) rfl rfl ?_
          refine run_off (.no rfl rfl rfl rfl) rfl rfl ?_
          refine run_off (.no rfl rfl rfl rfl) rfl rfl ?_
          refine run_off (.no rfl rfl rfl rfl) rfl rfl ?_
          refine run_q (.none rfl) rfl rfl (q_pickT rfl rfl rfl rfl) ?_
          refine run_q (.none rfl) rfl rfl (q_assign rfl rfl) ?_
          refine run_nil ?_
          refine run_sub (subMk (.cons (s := 2) rfl (.cons (s := 4) rfl (.cons (s := 22) rfl .nil))) .refl) ?_
          refine run_condT rfl rfl ?_
          refine run_seq ?_
          refine run_region ?_
          refine run_q (.none rfl) rfl rfl (q_assign rfl rfl) ?_
          refine run_nil ?_
          refine run_ret ?_
          exact end1 rfl rfl (by first | rw [spE, if_pos (by omega)] | rw [spE, if_neg (by omega), if_pos (by omega)] | rw [spE, if_neg (by omega), if_neg (by omega), if_pos ⟨by omega, by assumption, by assumption⟩] | rw [spE, if_neg (by omega), if_neg (by omega), if_neg (fun h => by simp_all)])
        · have g26' := g26
          try simp only [decide_eq_true_eq, decide_eq_false_iff_not, beq_iff_eq, beq_eq_false_iff_ne, bne_iff_ne, bne_eq_false_iff_eq, Bool.not_eq_true', Bool.not_eq_false', ne_eq, Int.not_lt, Int.not_le, Decidable.not_not] at g26'
          refine run_q (.on rfl rfl rfl g26) rfl rfl (q_fieldB (d := 2) rfl Try.underlying25 rfl rfl sz3 rfl) ?_
          refine run_q (.on rfl rfl rfl g26) rfl rfl (q_loadB rfl one3 rfl Sel.here rfl) ?_
          refine run_q (.on rfl rfl rfl g26) rfl rfl (q_lss rfl rfl rfl) ?_
          refine run_q (.none rfl) rfl rfl (q_pickF rfl rfl g26 rfl) ?_
          refine run_q (.none rfl) rfl rfl (q_move rfl rfl) ?_
          refine run_split 31 rfl (fun g31 => ?_) (fun g31 => ?_)
          · have g31' := g31
            try simp only [decide_eq_true_eq, decide_eq_false_iff_not, beq_iff_eq, beq_eq_false_iff_ne, bne_iff_ne, bne_eq_false_iff_eq, Bool.not_eq_true', Bool.not_eq_false', ne_eq, Int.not_lt, Int.not_le, Decidable.not_not] at g31'
            refine run_off (.no rfl rfl rfl g31) rfl rfl ?_
            refine run_off (.no rfl rfl rfl g31) rfl rfl ?_
            refine run_off (.no rfl rfl rfl g31) rfl rfl ?_
            refine run_q (.none rfl) rfl rfl (q_pickT rfl rfl g31 rfl) ?_
            refine run_q (.none rfl) rfl rfl (q_move rfl rfl) ?_
            refine run_off (.no rfl rfl rfl rfl) rfl rfl ?_
            refine run_off (.no rfl rfl rfl rfl) rfl rfl ?_
            refine run_off (.no rfl rfl rfl rfl) rfl rfl ?_
            refine run_off (.no rfl rfl rfl rfl) rfl rfl ?_
            refine run_off (.no rfl rfl rfl rfl) rfl rfl ?_
            refine run_q (.none rfl) rfl rfl (q_pickT rfl rfl rfl rfl) ?_
            refine run_q (.none rfl) rfl rfl (q_move rfl rfl) ?_
            refine run_off (.no rfl rfl rfl rfl) rfl rfl ?_
            refine run_off (.no rfl rfl rfl rfl) rfl rfl ?_
            refine run_off (.no rfl rfl rfl rfl) rfl rfl ?_
            refine run_off (.no rfl rfl rfl rfl) rfl rfl ?_
            refine run_q (.none rfl) rfl rfl (q_pickT rfl rfl rfl rfl) ?_
            refine run_q (.none rfl) rfl rfl (q_move rfl rfl) ?_
            refine run_off (.no rfl rfl rfl rfl) rfl rfl ?_
            refine run_off (.no rfl rfl rfl rfl) rfl rfl ?_
            refine run_off (.no rfl rfl rfl rfl) rfl rfl ?_
            refine run_off (.no rfl rfl rfl rfl) rfl rfl ?_
            refine run_q (.none rfl) rfl rfl (q_pickT rfl rfl rfl rfl) ?_
            refine run_q (.none rfl) rfl rfl (q_move rfl rfl) ?_
            refine run_off (.no rfl rfl rfl rfl) rfl rfl ?_
            refine run_off (.no rfl rfl rfl rfl) rfl rfl ?_
            refine run_off (.no rfl rfl rfl rfl) rfl rfl ?_
            refine run_off (.no rfl rfl rfl rfl) rfl rfl ?_
            refine run_q (.none rfl) rfl rfl (q_pickT rfl rfl rfl rfl) ?_
            refine run_q (.none rfl) rfl rfl (q_assign rfl rfl) ?_
            refine run_nil ?_
            refine run_sub (subMk (.cons (s := 2) rfl (.cons (s := 4) rfl (.cons (s := 22) rfl .nil))) .refl) ?_
            refine run_condT rfl rfl ?_
            refine run_seq ?_
            refine run_region ?_
            refine run_q (.none rfl) rfl rfl (q_assign rfl rfl) ?_
            refine run_nil ?_
            refine run_ret ?_
            exact end1 rfl rfl (by first | rw [spE, if_pos (by omega)] | rw [spE, if_neg (by omega), if_pos (by omega)] | rw [spE, if_neg (by omega), if_neg (by omega), if_pos ⟨by omega, by assumption, by assumption⟩] | rw [spE, if_neg (by omega), if_neg (by omega), if_neg (fun h => by simp_all)])
          · have g31' := g31
            try simp only [decide_eq_true_eq, decide_eq_false_iff_not, beq_iff_eq, beq_eq_false_iff_ne, bne_iff_ne, bne_eq_false_iff_eq, Bool.not_eq_true', Bool.not_eq_false', ne_eq, Int.not_lt, Int.not_le, Decidable.not_not] at g31'
            refine run_q (.on rfl rfl rfl g31) rfl rfl (q_fieldB (d := 6) rfl Try.underlying25 rfl rfl sz3 rfl) ?_
            refine run_q (.on rfl rfl rfl g31) rfl rfl (q_loadB rfl one3 rfl Sel.here rfl) ?_
            refine run_q (.on rfl rfl rfl g31) rfl rfl (q_lss rfl rfl rfl) ?_
            refine run_q (.none rfl) rfl rfl (q_pickF rfl rfl g31 rfl) ?_
            refine run_q (.none rfl) rfl rfl (q_move rfl rfl) ?_
            refine run_split 36 rfl (fun g36 => ?_) (fun g36 => ?_)
            · have g36' := g36
              try simp only [decide_eq_true_eq, decide_eq_false_iff_not, beq_iff_eq, beq_eq_false_iff_ne, bne_iff_ne, bne_eq_false_iff_eq, Bool.not_eq_true', Bool.not_eq_false', ne_eq, Int.not_lt, Int.not_le, Decidable.not_not] at g36'
              refine run_off (.no rfl rfl rfl g36) rfl rfl ?_
              refine run_off (.no rfl rfl rfl g36) rfl rfl ?_
              refine run_off (.no rfl rfl rfl g36) rfl rfl ?_
              refine run_off (.no rfl rfl rfl g36) rfl rfl ?_
              refine run_off (.no rfl rfl rfl g36) rfl rfl ?_
              refine run_q (.none rfl) rfl rfl (q_pickT rfl rfl g36 rfl) ?_
              refine run_q (.none rfl) rfl rfl (q_move rfl rfl) ?_
              refine run_off (.no rfl rfl rfl rfl) rfl rfl ?_
              refine run_off (.no rfl rfl rfl rfl) rfl rfl ?_
              refine run_off (.no rfl rfl rfl rfl) rfl rfl ?_
              refine run_off (.no rfl rfl rfl rfl) rfl rfl ?_
              refine run_q (.none rfl) rfl rfl (q_pickT rfl rfl rfl rfl) ?_
              refine run_q (.none rfl) rfl rfl (q_move rfl rfl) ?_
              refine run_off (.no rfl rfl rfl rfl) rfl rfl ?_
              refine run_off (.no rfl rfl rfl rfl) rfl rfl ?_
              refine run_off (.no rfl rfl rfl rfl) rfl rfl ?_
              refine run_off (.no rfl rfl rfl rfl) rfl rfl ?_
              refine run_q (.none rfl) rfl rfl (q_pickT rfl rfl rfl rfl) ?_
              refine run_q (.none rfl) rfl rfl (q_move rfl rfl) ?_
              refine run_off (.no rfl rfl rfl rfl) rfl rfl ?_
              refine run_off (.no rfl rfl rfl rfl) rfl rfl ?_
              refine run_off (.no rfl rfl rfl rfl) rfl rfl ?_
              refine run_off (.no rfl rfl rfl rfl) rfl rfl ?_
              refine run_q (.none rfl) rfl rfl (q_pickT rfl rfl rfl rfl) ?_
              refine run_q (.none rfl) rfl rfl (q_assign rfl rfl) ?_
              refine run_nil ?_
              refine run_sub (subMk (.cons (s := 2) rfl (.cons (s := 4) rfl (.cons (s := 22) rfl .nil))) .refl) ?_
              refine run_condT rfl rfl ?_
              refine run_seq ?_
              refine run_region ?_
              refine run_q (.none rfl) rfl rfl (q_assign rfl rfl) ?_
              refine run_nil ?_
              refine run_ret ?_
              exact end1 rfl rfl (by first | rw [spE, if_pos (by omega)] | rw [spE, if_neg (by omega), if_pos (by omega)] | rw [spE, if_neg (by omega), if_neg (by omega), if_pos ⟨by omega, by assumption, by assumption⟩] | rw [spE, if_neg (by omega), if_neg (by omega), if_neg (fun h => by simp_all)])
            · have g36' := g36
              try simp only [decide_eq_true_eq, decide_eq_false_iff_not, beq_iff_eq, beq_eq_false_iff_ne, bne_iff_ne, bne_eq_false_iff_eq, Bool.not_eq_true', Bool.not_eq_false', ne_eq, Int.not_lt, Int.not_le, Decidable.not_not] at g36'
              refine run_q (.on rfl rfl rfl g36) rfl rfl (q_fieldB (d := 6) rfl Try.underlying25 rfl rfl sz3 rfl) ?_
              refine run_q (.on rfl rfl rfl g36) rfl rfl (q_loadB rfl one3 rfl Sel.here rfl) ?_
              refine run_q (.on rfl rfl rfl g36) rfl rfl (q_fieldB (d := 7) rfl Try.underlying25 rfl rfl sz3 rfl) ?_
              refine run_q (.on rfl rfl rfl g36) rfl rfl (q_loadB rfl one3 rfl Sel.here rfl) ?_
              refine run_q (.on rfl rfl rfl g36) rfl rfl (q_gtr rfl rfl rfl) ?_
              refine run_q (.none rfl) rfl rfl (q_pickF rfl rfl g36 rfl) ?_
              refine run_q (.none rfl) rfl rfl (q_move rfl rfl) ?_
              refine run_split 43 rfl (fun g43 => ?_) (fun g43 => ?_)
              · have g43' := g43
                try simp only [decide_eq_true_eq, decide_eq_false_iff_not, beq_iff_eq, beq_eq_false_iff_ne, bne_iff_ne, bne_eq_false_iff_eq, Bool.not_eq_true', Bool.not_eq_false', ne_eq, Int.not_lt, Int.not_le, Decidable.not_not] at g43'
                refine run_off (.no rfl rfl rfl g43) rfl rfl ?_
                refine run_off (.no rfl rfl rfl g43) rfl rfl ?_
                refine run_off (.no rfl rfl rfl g43) rfl rfl ?_
                refine run_off (.no rfl rfl rfl g43) rfl rfl ?_
                refine run_q (.none rfl) rfl rfl (q_pickT rfl rfl g43 rfl) ?_
                refine run_q (.none rfl) rfl rfl (q_move rfl rfl) ?_
                refine run_off (.no rfl rfl rfl rfl) rfl rfl ?_
                refine run_off (.no rfl rfl rfl rfl) rfl rfl ?_
                refine run_off (.no rfl rfl rfl rfl) rfl rfl ?_
                refine run_off (.no rfl rfl rfl rfl) rfl rfl ?_
                refine run_q (.none rfl) rfl rfl (q_pickT rfl rfl rfl rfl) ?_
                refine run_q (.none rfl) rfl rfl (q_move rfl rfl) ?_
                refine run_off (.no rfl rfl rfl rfl) rfl rfl ?_
                refine run_off (.no rfl rfl rfl rfl) rfl rfl ?_
                refine run_off (.no rfl rfl rfl rfl) rfl rfl ?_
                refine run_off (.no rfl rfl rfl rfl) rfl rfl ?_
                refine run_q (.none rfl) rfl rfl (q_pickT rfl rfl rfl rfl) ?_
                refine run_q (.none rfl) rfl rfl (q_assign rfl rfl) ?_
                refine run_nil ?_
                refine run_sub (subMk (.cons (s := 2) rfl (.cons (s := 4) rfl (.cons (s := 22) rfl .nil))) .refl) ?_
                refine run_condT rfl rfl ?_
                refine run_seq ?_
                refine run_region ?_
                refine run_q (.none rfl) rfl rfl (q_assign rfl rfl) ?_
                refine run_nil ?_
                refine run_ret ?_
                exact end1 rfl rfl (by first | rw [spE, if_pos (by omega)] | rw [spE, if_neg (by omega), if_pos (by omega)] | rw [spE, if_neg (by omega), if_neg (by omega), if_pos ⟨by omega, by assumption, by assumption⟩] | rw [spE, if_neg (by omega), if_neg (by omega), if_neg (fun h => by simp_all)])
              · have g43' := g43
                try simp only [decide_eq_true_eq, decide_eq_false_iff_not, beq_iff_eq, beq_eq_false_iff_ne, bne_iff_ne, bne_eq_false_iff_eq, Bool.not_eq_true', Bool.not_eq_false', ne_eq, Int.not_lt, Int.not_le, Decidable.not_not] at g43'
                refine run_q (.on rfl rfl rfl g43) rfl rfl (q_fieldB (d := 7) rfl Try.underlying25 rfl rfl sz3 rfl) ?_
                refine run_q (.on rfl rfl rfl g43) rfl rfl (q_loadB rfl one3 rfl Sel.here rfl) ?_
                refine run_q (.on rfl rfl rfl g43) rfl rfl (q_move rfl rfl) ?_
                refine run_q (.on rfl rfl rfl g43) rfl rfl (q_geq rfl rfl rfl) ?_
                refine run_q (.none rfl) rfl rfl (q_pickF rfl rfl g43 rfl) ?_
                refine run_q (.none rfl) rfl rfl (q_move rfl rfl) ?_
                refine run_split 49 rfl (fun g49 => ?_) (fun g49 => ?_)
                · have g49' := g49
                  try simp only [decide_eq_true_eq, decide_eq_false_iff_not, beq_iff_eq, beq_eq_false_iff_ne, bne_iff_ne, bne_eq_false_iff_eq, Bool.not_eq_true', Bool.not_eq_false', ne_eq, Int.not_lt, Int.not_le, Decidable.not_not] at g49'
                  refine run_off (.no rfl rfl rfl g49) rfl rfl ?_
                  refine run_off (.no rfl rfl rfl g49) rfl rfl ?_
                  refine run_off (.no rfl rfl rfl g49) rfl rfl ?_
                  refine run_off (.no rfl rfl rfl g49) rfl rfl ?_
                  refine run_q (.none rfl) rfl rfl (q_pickT rfl rfl g49 rfl) ?_
                  refine run_q (.none rfl) rfl rfl (q_move rfl rfl) ?_
                  refine run_off (.no rfl rfl rfl rfl) rfl rfl ?_
                  refine run_off (.no rfl rfl rfl rfl) rfl rfl ?_
                  refine run_off (.no rfl rfl rfl rfl) rfl rfl ?_
                  refine run_off (.no rfl rfl rfl rfl) rfl rfl ?_
                  refine run_q (.none rfl) rfl rfl (q_pickT rfl rfl rfl rfl) ?_
                  refine run_q (.none rfl) rfl rfl (q_assign rfl rfl) ?_
                  refine run_nil ?_
                  refine run_sub (subMk (.cons (s := 2) rfl (.cons (s := 4) rfl (.cons (s := 22) rfl .nil))) .refl) ?_
                  refine run_condT rfl rfl ?_
                  refine run_seq ?_
                  refine run_region ?_
                  refine run_q (.none rfl) rfl rfl (q_assign rfl rfl) ?_
                  refine run_nil ?_
                  refine run_ret ?_
                  exact end1 rfl rfl (by first | rw [spE, if_pos (by omega)] | rw [spE, if_neg (by omega), if_pos (by omega)] | rw [spE, if_neg (by omega), if_neg (by omega), if_pos ⟨by omega, by assumption, by assumption⟩] | rw [spE, if_neg (by omega), if_neg (by omega), if_neg (fun h => by simp_all)])
                · have g49' := g49
                  try simp only [decide_eq_true_eq, decide_eq_false_iff_not, beq_iff_eq, beq_eq_false_iff_ne, bne_iff_ne, bne_eq_false_iff_eq, Bool.not_eq_true', Bool.not_eq_false', ne_eq, Int.not_lt, Int.not_le, Decidable.not_not] at g49'
                  refine run_q (.on rfl rfl rfl g49) rfl rfl (q_fieldB (d := 8) rfl Try.underlying25 rfl rfl sz3 rfl) ?_
                  refine run_q (.on rfl rfl rfl g49) rfl rfl (q_loadB rfl one3 rfl Sel.here rfl) ?_
                  refine run_q (.on rfl rfl rfl g49) rfl rfl (q_call rfl call34 (.cons rfl Evs.nil) (fun w hk hm => high_just _ w)) ?_
                  refine run_q (.on rfl rfl rfl g49) rfl rfl (q_not rfl rfl) ?_
                  refine run_q (.none rfl) rfl rfl (q_pickF rfl rfl g49 rfl) ?_
                  refine run_q (.none rfl) rfl rfl (q_move rfl rfl) ?_
                  refine run_split 55 rfl (fun g55 => ?_) (fun g55 => ?_)
                  · have g55' := g55
                    try simp only [decide_eq_true_eq, decide_eq_false_iff_not, beq_iff_eq, beq_eq_false_iff_ne, bne_iff_ne, bne_eq_false_iff_eq, Bool.not_eq_true', Bool.not_eq_false', ne_eq, Int.not_lt, Int.not_le, Decidable.not_not] at g55'
                    refine run_off (.no rfl rfl rfl g55) rfl rfl ?_
                    refine run_off (.no rfl rfl rfl g55) rfl rfl ?_
                    refine run_off (.no rfl rfl rfl g55) rfl rfl ?_
                    refine run_off (.no rfl rfl rfl g55) rfl rfl ?_
                    refine run_q (.none rfl) rfl rfl (q_pickT rfl rfl g55 rfl) ?_
                    refine run_q (.none rfl) rfl rfl (q_assign rfl rfl) ?_
                    refine run_nil ?_
                    refine run_sub (subMk (.cons (s := 2) rfl (.cons (s := 4) rfl (.cons (s := 22) rfl .nil))) .refl) ?_
                    refine run_condT rfl rfl ?_
                    refine run_seq ?_
                    refine run_region ?_
                    refine run_q (.none rfl) rfl rfl (q_assign rfl rfl) ?_
                    refine run_nil ?_
                    refine run_ret ?_
                    exact end1 rfl rfl (by first | rw [spE, if_pos (by omega)] | rw [spE, if_neg (by omega), if_pos (by omega)] | rw [spE, if_neg (by omega), if_neg (by omega), if_pos ⟨by omega, by assumption, by assumption⟩] | rw [spE, if_neg (by omega), if_neg (by omega), if_neg (fun h => by simp_all)])
                  · have g55' := g55
                    try simp only [decide_eq_true_eq, decide_eq_false_iff_not, beq_iff_eq, beq_eq_false_iff_ne, bne_iff_ne, bne_eq_false_iff_eq, Bool.not_eq_true', Bool.not_eq_false', ne_eq, Int.not_lt, Int.not_le, Decidable.not_not] at g55'
                    refine run_q (.on rfl rfl rfl g55) rfl rfl (q_fieldB (d := 9) rfl Try.underlying25 rfl rfl sz3 rfl) ?_
                    refine run_q (.on rfl rfl rfl g55) rfl rfl (q_loadB rfl one3 rfl Sel.here rfl) ?_
                    refine run_q (.on rfl rfl rfl g55) rfl rfl (q_call rfl call34 (.cons rfl Evs.nil) (fun w hk hm => high_just _ w)) ?_
                    refine run_q (.on rfl rfl rfl g55) rfl rfl (q_not rfl rfl) ?_
                    refine run_q (.none rfl) rfl rfl (q_pickF rfl rfl g55 rfl) ?_
                    refine run_q (.none rfl) rfl rfl (q_assign rfl rfl) ?_
                    refine run_nil ?_
                    refine run_sub (subMk (.cons (s := 2) rfl (.cons (s := 4) rfl (.cons (s := 22) rfl .nil))) .refl) ?_
                    refine run_cond rfl (fun g22 => ?_) (fun g22 => ?_)
                    · have g22' := g22
                      try simp only [decide_eq_true_eq, decide_eq_false_iff_not, beq_iff_eq, beq_eq_false_iff_ne, bne_iff_ne, bne_eq_false_iff_eq, Bool.not_eq_true', Bool.not_eq_false', ne_eq, Int.not_lt, Int.not_le, Decidable.not_not] at g22'
                      refine run_seq ?_
                      refine run_region ?_
                      refine run_q (.none rfl) rfl rfl (q_assign rfl rfl) ?_
                      refine run_nil ?_
                      refine run_ret ?_
                      exact end1 rfl rfl (by first | rw [spE, if_pos (by omega)] | rw [spE, if_neg (by omega), if_pos (by omega)] | rw [spE, if_neg (by omega), if_neg (by omega), if_pos ⟨by omega, by assumption, by assumption⟩] | rw [spE, if_neg (by omega), if_neg (by omega), if_neg (fun h => by simp_all)])
                    · have g22' := g22
                      try simp only [decide_eq_true_eq, decide_eq_false_iff_not, beq_iff_eq, beq_eq_false_iff_ne, bne_iff_ne, bne_eq_false_iff_eq, Bool.not_eq_true', Bool.not_eq_false', ne_eq, Int.not_lt, Int.not_le, Decidable.not_not] at g22'
                      refine run_seq ?_
                      refine run_region ?_
                      refine run_q (.none rfl) rfl rfl (q_fieldB (d := 6) rfl Try.underlying25 rfl rfl sz3 rfl) ?_
                      refine run_q (.none rfl) rfl rfl (q_loadB rfl one3 rfl Sel.here rfl) ?_
                      refine run_q (.none rfl) rfl rfl (q_fieldB (d := 7) rfl Try.underlying25 rfl rfl sz3 rfl) ?_
                      refine run_q (.none rfl) rfl rfl (q_loadB rfl one3 rfl Sel.here rfl) ?_
                      refine run_q (.none rfl) rfl rfl (q_eql rfl rfl rfl) ?_
                      refine run_q (.none rfl) rfl rfl (q_move rfl rfl) ?_
                      refine run_split 67 rfl (fun g67 => ?_) (fun g67 => ?_)
                      · have g67' := g67
                        try simp only [decide_eq_true_eq, decide_eq_false_iff_not, beq_iff_eq, beq_eq_false_iff_ne, bne_iff_ne, bne_eq_false_iff_eq, Bool.not_eq_true', Bool.not_eq_false', ne_eq, Int.not_lt, Int.not_le, Decidable.not_not] at g67'
                        refine run_q (.on rfl rfl rfl g67) rfl rfl (q_fieldB (d := 10) rfl Try.underlying25 rfl rfl sz4 rfl) ?_
                        refine run_q (.on rfl rfl rfl g67) rfl rfl (q_loadB rfl one4 rfl Sel.here rfl) ?_
                        refine run_q (.on rfl rfl rfl g67) rfl rfl (q_not rfl rfl) ?_
                        refine run_q (.none rfl) rfl rfl (q_pickT rfl rfl g67 rfl) ?_
                        refine run_q (.none rfl) rfl rfl (q_move rfl rfl) ?_
                        refine run_split 72 rfl (fun g72 => ?_) (fun g72 => ?_)
                        · have g72' := g72
                          try simp only [decide_eq_true_eq, decide_eq_false_iff_not, beq_iff_eq, beq_eq_false_iff_ne, bne_iff_ne, bne_eq_false_iff_eq, Bool.not_eq_true', Bool.not_eq_false', ne_eq, Int.not_lt, Int.not_le, Decidable.not_not] at g72'
                          refine run_q (.on rfl rfl rfl g72) rfl rfl (q_fieldB (d := 11) rfl Try.underlying25 rfl rfl sz4 rfl) ?_
                          refine run_q (.on rfl rfl rfl g72) rfl rfl (q_loadB rfl one4 rfl Sel.here rfl) ?_
                          refine run_q (.on rfl rfl rfl g72) rfl rfl (q_not rfl rfl) ?_
                          refine run_q (.none rfl) rfl rfl (q_pickT rfl rfl g72 rfl) ?_
                          refine run_q (.none rfl) rfl rfl (q_assign rfl rfl) ?_
                          refine run_nil ?_
                          refine run_sub (subMk (.cons (s := 4) rfl (.cons (s := 61) rfl .nil)) .refl) ?_
                          refine run_cond rfl (fun g61 => ?_) (fun g61 => ?_)
                          · have g61' := g61
                            try simp only [decide_eq_true_eq, decide_eq_false_iff_not, beq_iff_eq, beq_eq_false_iff_ne, bne_iff_ne, bne_eq_false_iff_eq, Bool.not_eq_true', Bool.not_eq_false', ne_eq, Int.not_lt, Int.not_le, Decidable.not_not] at g61'
                            refine run_seq ?_
                            refine run_region ?_
                            refine run_q (.none rfl) rfl rfl (q_assign rfl rfl) ?_
                            refine run_nil ?_
                            refine run_ret ?_
                            exact end1 rfl rfl (by first | rw [spE, if_pos (by omega)] | rw [spE, if_neg (by omega), if_pos (by omega)] | rw [spE, if_neg (by omega), if_neg (by omega), if_pos ⟨by omega, by assumption, by assumption⟩] | rw [spE, if_neg (by omega), if_neg (by omega), if_neg (fun h => by simp_all)])
                          · have g61' := g61
                            try simp only [decide_eq_true_eq, decide_eq_false_iff_not, beq_iff_eq, beq_eq_false_iff_ne, bne_iff_ne, bne_eq_false_iff_eq, Bool.not_eq_true', Bool.not_eq_false', ne_eq, Int.not_lt, Int.not_le, Decidable.not_not] at g61'
                            refine run_skip ?_
                            refine run_blk ?_
                            refine run_seq ?_
                            refine run_region ?_
                            refine run_q (.none rfl) rfl rfl (q_assign rfl rfl) ?_
                            refine run_nil ?_
                            refine run_ret ?_
                            exact end1 rfl rfl (by first | rw [spE, if_pos (by omega)] | rw [spE, if_neg (by omega), if_pos (by omega)] | rw [spE, if_neg (by omega), if_neg (by omega), if_pos ⟨by omega, by assumption, by assumption⟩] | rw [spE, if_neg (by omega), if_neg (by omega), if_neg (fun h => by simp_all)])
                        · have g72' := g72
                          try simp only [decide_eq_true_eq, decide_eq_false_iff_not, beq_iff_eq, beq_eq_false_iff_ne, bne_iff_ne, bne_eq_false_iff_eq, Bool.not_eq_true', Bool.not_eq_false', ne_eq, Int.not_lt, Int.not_le, Decidable.not_not] at g72'
                          refine run_off (.no rfl rfl rfl g72) rfl rfl ?_
                          refine run_off (.no rfl rfl rfl g72) rfl rfl ?_
                          refine run_off (.no rfl rfl rfl g72) rfl rfl ?_
                          refine run_q (.none rfl) rfl rfl (q_pickF rfl rfl g72 rfl) ?_
                          refine run_q (.none rfl) rfl rfl (q_assign rfl rfl) ?_
                          refine run_nil ?_
                          refine run_sub (subMk (.cons (s := 4) rfl (.cons (s := 61) rfl .nil)) .refl) ?_
                          refine run_condF rfl rfl ?_
                          refine run_skip ?_
                          refine run_blk ?_
                          refine run_seq ?_
                          refine run_region ?_
                          refine run_q (.none rfl) rfl rfl (q_assign rfl rfl) ?_
                          refine run_nil ?_
                          refine run_ret ?_
                          exact end1 rfl rfl (by first | rw [spE, if_pos (by omega)] | rw [spE, if_neg (by omega), if_pos (by omega)] | rw [spE, if_neg (by omega), if_neg (by omega), if_pos ⟨by omega, by assumption, by assumption⟩] | rw [spE, if_neg (by omega), if_neg (by omega), if_neg (fun h => by simp_all)])
                      · have g67' := g67
                        try simp only [decide_eq_true_eq, decide_eq_false_iff_not, beq_iff_eq, beq_eq_false_iff_ne, bne_iff_ne, bne_eq_false_iff_eq, Bool.not_eq_true', Bool.not_eq_false', ne_eq, Int.not_lt, Int.not_le, Decidable.not_not] at g67'
                        refine run_off (.no rfl rfl rfl g67) rfl rfl ?_
                        refine run_off (.no rfl rfl rfl g67) rfl rfl ?_
                        refine run_off (.no rfl rfl rfl g67) rfl rfl ?_
                        refine run_q (.none rfl) rfl rfl (q_pickF rfl rfl g67 rfl) ?_
                        refine run_q (.none rfl) rfl rfl (q_move rfl rfl) ?_
                        refine run_off (.no rfl rfl rfl rfl) rfl rfl ?_
                        refine run_off (.no rfl rfl rfl rfl) rfl rfl ?_
                        refine run_off (.no rfl rfl rfl rfl) rfl rfl ?_
                        refine run_q (.none rfl) rfl rfl (q_pickF rfl rfl rfl rfl) ?_
                        refine run_q (.none rfl) rfl rfl (q_assign rfl rfl) ?_
                        refine run_nil ?_
                        refine run_sub (subMk (.cons (s := 4) rfl (.cons (s := 61) rfl .nil)) .refl) ?_
                        refine run_condF rfl rfl ?_
                        refine run_skip ?_
                        refine run_blk ?_
                        refine run_seq ?_
                        refine run_region ?_
                        refine run_q (.none rfl) rfl rfl (q_assign rfl rfl) ?_
                        refine run_nil ?_
                        refine run_ret ?_
                        exact end1 rfl rfl (by first | rw [spE, if_pos (by omega)] | rw [spE, if_neg (by omega), if_pos (by omega)] | rw [spE, if_neg (by omega), if_neg (by omega), if_pos ⟨by omega, by assumption, by assumption⟩] | rw [spE, if_neg (by omega), if_neg (by omega), if_neg (fun h => by simp_all)])
    · have g17' := g17
      try simp only [decide_eq_true_eq, decide_eq_false_iff_not, beq_iff_eq, beq_eq_false_iff_ne, bne_iff_ne, bne_eq_false_iff_eq, Bool.not_eq_true', Bool.not_eq_false', ne_eq, Int.not_lt, Int.not_le, Decidable.not_not] at g17'
      refine run_off (.no rfl rfl rfl g17) rfl rfl ?_
      refine run_off (.no rfl rfl rfl g17) rfl rfl ?_
      refine run_off (.no rfl rfl rfl g17) rfl rfl ?_
      refine run_q (.none rfl) rfl rfl (q_pickF rfl rfl g17 rfl) ?_
      refine run_q (.none rfl) rfl rfl (q_assign rfl rfl) ?_
      refine run_nil ?_
      refine run_sub (subMk (.cons (s := 1) rfl (.cons (s := 2) rfl (.cons (s := 4) rfl (.cons (s := 5) rfl .nil)))) .refl) ?_
      refine run_condF rfl rfl ?_
      refine run_seq ?_
      refine run_region ?_
      refine run_q (.none rfl) rfl rfl (q_fieldB (d := 1) rfl Try.underlying25 rfl rfl sz3 rfl) ?_
      refine run_q (.none rfl) rfl rfl (q_loadB rfl one3 rfl Sel.here rfl) ?_
      refine run_q (.none rfl) rfl rfl (q_lss rfl rfl rfl) ?_
      refine run_q (.none rfl) rfl rfl (q_move rfl rfl) ?_
      refine run_split 26 rfl (fun g26 => ?_) (fun g26 => ?_)
      · have g26' := g26
        try simp only [decide_eq_true_eq, decide_eq_false_iff_not, beq_iff_eq, beq_eq_false_iff_ne, bne_iff_ne, bne_eq_false_iff_eq, Bool.not_eq_true', Bool.not_eq_false', ne_eq, Int.not_lt, Int.not_le, Decidable.not_not] at g26'
        refine run_off (.no rfl rfl rfl g26) rfl rfl ?_
        refine run_off (.no rfl rfl rfl g26) rfl rfl ?_
        refine run_off (.no rfl rfl rfl g26) rfl rfl ?_
        refine run_q (.none rfl) rfl rfl (q_pickT rfl rfl g26 rfl) ?_
        refine run_q (.none rfl) rfl rfl (q_move rfl rfl) ?_
        refine run_off (.no rfl rfl rfl rfl) rfl rfl ?_
        refine run_off (.no rfl rfl rfl rfl) rfl rfl ?_
        refine run_off (.no rfl rfl rfl rfl) rfl rfl ?_
        refine run_q (.none rfl) rfl rfl (q_pickT rfl rfl rfl rfl) ?_
        refine run_q (.none rfl) rfl rfl (q_move rfl rfl) ?_
        refine run_off (.no rfl rfl rfl rfl) rfl rfl ?_
        refine run_off (.no rfl rfl rfl rfl) rfl rfl ?_
        refine run_off (.no rfl rfl rfl rfl) rfl rfl ?_
        refine run_off (.no rfl rfl rfl rfl) rfl rfl ?_
        refine run_off (.no rfl rfl rfl rfl) rfl rfl ?_
        refine run_q (.none rfl) rfl rfl (q_pickT rfl rfl rfl rfl) ?_
        refine run_q (.none rfl) rfl rfl (q_move rfl rfl) ?_
        refine run_off (.no rfl rfl rfl rfl) rfl rfl ?_
        refine run_off (.no rfl rfl rfl rfl) rfl rfl ?_
        refine run_off (.no rfl rfl rfl rfl) rfl rfl ?_
        refine run_off (.no rfl rfl rfl rfl) rfl rfl ?_
        refine run_q (.none rfl) rfl rfl (q_pickT rfl rfl rfl rfl) ?_
        refine run_q (.none rfl) rfl rfl (q_move rfl rfl) ?_
        refine run_off (.no rfl rfl rfl rfl) rfl rfl ?_
        refine run_off (.no rfl rfl rfl rfl) rfl rfl ?_
        refine run_off (.no rfl rfl rfl rfl) rfl rfl ?_
        refine run_off (.no rfl rfl rfl rfl) rfl rfl ?_
        refine run_q (.none rfl) rfl rfl (q_pickT rfl rfl rfl rfl) ?_
        refine run_q (.none rfl) rfl rfl (q_move rfl rfl) ?_
        refine run_off (.no rfl rfl rfl rfl) rfl rfl ?_
        refine run_off (.no rfl rfl rfl rfl) rfl rfl ?_
        refine run_off (.no rfl rfl rfl rfl) rfl rfl ?_
        refine run_off (.no rfl rfl rfl rfl) rfl rfl ?_
        refine run_q (.none rfl) rfl rfl (q_pickT rfl rfl rfl rfl) ?_
        refine run_q (.none rfl) rfl rfl (q_assign rfl rfl) ?_
        refine run_nil ?_
        refine run_sub (subMk (.cons (s := 2) rfl (.cons (s := 4) rfl (.cons (s := 22) rfl .nil))) .refl) ?_
        refine run_condT rfl rfl ?_
        refine run_seq ?_
        refine run_region ?_
        refine run_q (.none rfl) rfl rfl (q_assign rfl rfl) ?_
        refine run_nil ?_
        refine run_ret ?_
        exact end1 rfl rfl (by first | rw [spE, if_pos (by omega)] | rw [spE, if_neg (by omega), if_pos (by omega)] | rw [spE, if_neg (by omega), if_neg (by omega), if_pos ⟨by omega, by assumption, by assumption⟩] | rw [spE, if_neg (by omega), if_neg (by omega), if_neg (fun h => by simp_all)])
      · have g26' := g26
        try simp only [decide_eq_true_eq, decide_eq_false_iff_not, beq_iff_eq, beq_eq_false_iff_ne, bne_iff_ne, bne_eq_false_iff_eq, Bool.not_eq_true', Bool.not_eq_false', ne_eq, Int.not_lt, Int.not_le, Decidable.not_not] at g26'
        refine run_q (.on rfl rfl rfl g26) rfl rfl (q_fieldB (d := 2) rfl Try.underlying25 rfl rfl sz3 rfl) ?_
        refine run_q (.on rfl rfl rfl g26) rfl rfl (q_loadB rfl one3 rfl Sel.here rfl) ?_
        refine run_q (.on rfl rfl rfl g26) rfl rfl (q_lss rfl rfl rfl) ?_
        refine run_q (.none rfl) rfl rfl (q_pickF rfl rfl g26 rfl) ?_
        refine run_q (.none rfl) rfl rfl (q_move rfl rfl) ?_
        refine run_split 31 rfl (fun g31 => ?_) (fun g31 => ?_)
        · have g31' := g31
          try simp only [decide_eq_true_eq, decide_eq_false_iff_not, beq_iff_eq, beq_eq_false_iff_ne, bne_iff_ne, bne_eq_false_iff_eq, Bool.not_eq_true', Bool.not_eq_false', ne_eq, Int.not_lt, Int.not_le, Decidable.not_not] at g31'
          refine run_off (.no rfl rfl rfl g31) rfl rfl ?_
          refine run_off (.no rfl rfl rfl g31) rfl rfl ?_
          refine run_off (.no rfl rfl rfl g31) rfl rfl ?_
          refine run_q (.none rfl) rfl rfl (q_pickT rfl rfl g31 rfl) ?_
          refine run_q (.none rfl) rfl rfl (q_move rfl rfl) ?_
          refine run_off (.no rfl rfl rfl rfl) rfl rfl ?_
          refine run_off (.no rfl rfl rfl rfl) rfl rfl ?_
          refine run_off (.no rfl rfl rfl rfl) rfl rfl ?_
          refine run_off (.no rfl rfl rfl rfl) rfl rfl ?_
          refine run_off (.no rfl rfl rfl rfl) rfl rfl ?_
          refine run_q (.none rfl) rfl rfl (q_pickT rfl rfl rfl rfl) ?_
          refine run_q (.none rfl) rfl rfl (q_move rfl rfl) ?_
          refine run_off (.no rfl rfl rfl rfl) rfl rfl ?_
          refine run_off (.no rfl rfl rfl rfl) rfl rfl ?_
          refine run_off (.no rfl rfl rfl rfl) rfl rfl ?_
          refine run_off (.no rfl rfl rfl rfl) rfl rfl ?_
          refine run_q (.none rfl) rfl rfl (q_pickT rfl rfl rfl rfl) ?_
          refine run_q (.none rfl) rfl rfl (q_move rfl rfl) ?_
          refine run_off (.no rfl rfl rfl rfl) rfl rfl ?_
          refine run_off (.no rfl rfl rfl rfl) rfl rfl ?_
          refine run_off (.no rfl rfl rfl rfl) rfl rfl ?_
          refine run_off (.no rfl rfl rfl rfl) rfl rfl ?_
          refine run_q (.none rfl) rfl rfl (q_pickT rfl rfl rfl rfl) ?_
          refine run_q (.none rfl) rfl rfl (q_move rfl rfl) ?_
          refine run_off (.no rfl rfl rfl rfl) rfl rfl ?_
          refine run_off (.no rfl rfl rfl rfl) rfl rfl ?_
          refine run_off (.no rfl rfl rfl rfl) rfl rfl ?_
          refine run_off (.no rfl rfl rfl rfl) rfl rfl ?_
          refine run_q (.none rfl) rfl rfl (q_pickT rfl rfl rfl rfl) ?_
          refine run_q (.none rfl) rfl rfl (q_assign rfl rfl) ?_
          refine run_nil ?_
          refine run_sub (subMk (.cons (s := 2) rfl (.cons (s := 4) rfl (.cons (s := 22) rfl .nil))) .refl) ?_
          refine run_condT rfl rfl ?_
          refine run_seq ?_
          refine run_region ?_
          refine run_q (.none rfl) rfl rfl (q_assign rfl rfl) ?_
          refine run_nil ?_
          refine run_ret ?_
          exact end1 rfl rfl (by first | rw [spE, if_pos (by omega)] | rw [spE, if_neg (by omega), if_pos (by omega)] | rw [spE, if_neg (by omega), if_neg (by omega), if_pos ⟨by omega, by assumption, by assumption⟩] | rw [spE, if_neg (by omega), if_neg (by omega), if_neg (fun h => by simp_all)])
        · have g31' := g31
          try simp only [decide_eq_true_eq, decide_eq_false_iff_not, beq_iff_eq, beq_eq_false_iff_ne, bne_iff_ne, bne_eq_false_iff_eq, Bool.not_eq_true', Bool.not_eq_false', ne_eq, Int.not_lt, Int.not_le, Decidable.not_not] at g31'
          refine run_q (.on rfl rfl rfl g31) rfl rfl (q_fieldB (d := 6) rfl Try.underlying25 rfl rfl sz3 rfl) ?_
          refine run_q (.on rfl rfl rfl g31) rfl rfl (q_loadB rfl one3 rfl Sel.here rfl) ?_
          refine run_q (.on rfl rfl rfl g31) rfl rfl (q_lss rfl rfl rfl) ?_
          refine run_q (.none rfl) rfl rfl (q_pickF rfl rfl g31 rfl) ?_
          refine run_q (.none rfl) rfl rfl (q_move rfl rfl) ?_
          refine run_split 36 rfl (fun g36 => ?_) (fun g36 => ?_)
          · have g36' := g36
            try simp only [decide_eq_true_eq, decide_eq_false_iff_not, beq_iff_eq, beq_eq_false_iff_ne, bne_iff_ne, bne_eq_false_iff_eq, Bool.not_eq_true', Bool.not_eq_false', ne_eq, Int.not_lt, Int.not_le, Decidable.not_not] at g36'
            refine run_off (.no rfl rfl rfl g36) rfl rfl ?_
            refine run_off (.no rfl rfl rfl g36) rfl rfl ?_
            refine run_off (.no rfl rfl rfl g36) rfl rfl ?_
            refine run_off (.no rfl rfl rfl g36) rfl rfl ?_
            refine run_off (.no rfl rfl rfl g36) rfl rfl ?_
            refine run_q (.none rfl) rfl rfl (q_pickT rfl rfl g36 rfl) ?_
            refine run_q (.none rfl) rfl rfl (q_move rfl rfl) ?_
            refine run_off (.no rfl rfl rfl rfl) rfl rfl ?_
            refine run_off (.no rfl rfl rfl rfl) rfl rfl ?_
            refine run_off (.no rfl rfl rfl rfl) rfl rfl ?_
            refine run_off (.no rfl rfl rfl rfl) rfl rfl ?_
            refine run_q (.none rfl) rfl rfl (q_pickT rfl rfl rfl rfl) ?_
            refine run_q (.none rfl) rfl rfl (q_move rfl rfl) ?_
            refine run_off (.no rfl rfl rfl rfl) rfl rfl ?_
            refine run_off (.no rfl rfl rfl rfl) rfl rfl ?_
            refine run_off (.no rfl rfl rfl rfl) rfl rfl ?_
            refine run_off (.no rfl rfl rfl rfl) rfl rfl ?_
            refine run_q (.none rfl) rfl rfl (q_pickT rfl rfl rfl rfl) ?_
            refine run_q (.none rfl) rfl rfl (q_move rfl rfl) ?_
            refine run_off (.no rfl rfl rfl rfl) rfl rfl ?_
            refine run_off (.no rfl rfl rfl rfl) rfl rfl ?_
            refine run_off (.no rfl rfl rfl rfl) rfl rfl ?_
            refine run_off (.no rfl rfl rfl rfl) rfl rfl ?_
            refine run_q (.none rfl) rfl rfl (q_pickT rfl rfl rfl rfl) ?_
            refine run_q (.none rfl) rfl rfl (q_assign rfl rfl) ?_
            refine run_nil ?_
            refine run_sub (subMk (.cons (s := 2) rfl (.cons (s := 4) rfl (.cons (s := 22) rfl .nil))) .refl) ?_
            refine run_condT rfl rfl ?_
            refine run_seq ?_
            refine run_region ?_
            refine run_q (.none rfl) rfl rfl (q_assign rfl rfl) ?_
            refine run_nil ?_
            refine run_ret ?_
            exact end1 rfl rfl (by first | rw [spE, if_pos (by omega)] | rw [spE, if_neg (by omega), if_pos (by omega)] | rw [spE, if_neg (by omega), if_neg (by omega), if_pos ⟨by omega, by assumption, by assumption⟩] | rw [spE, if_neg (by omega), if_neg (by omega), if_neg (fun h => by simp_all)])
          · have g36' := g36
            try simp only [decide_eq_true_eq, decide_eq_false_iff_not, beq_iff_eq, beq_eq_false_iff_ne, bne_iff_ne, bne_eq_false_iff_eq, Bool.not_eq_true', Bool.not_eq_false', ne_eq, Int.not_lt, Int.not_le, Decidable.not_not] at g36'
            refine run_q (.on rfl rfl rfl g36) rfl rfl (q_fieldB (d := 6) rfl Try.underlying25 rfl rfl sz3 rfl) ?_
            refine run_q (.on rfl rfl rfl g36) rfl rfl (q_loadB rfl one3 rfl Sel.here rfl) ?_
            refine run_q (.on rfl rfl rfl g36) rfl rfl (q_fieldB (d := 7) rfl Try.underlying25 rfl rfl sz3 rfl) ?_
            refine run_q (.on rfl rfl rfl g36) rfl rfl (q_loadB rfl one3 rfl Sel.here rfl) ?_
            refine run_q (.on rfl rfl rfl g36) rfl rfl (q_gtr rfl rfl rfl) ?_
            refine run_q (.none rfl) rfl rfl (q_pickF rfl rfl g36 rfl) ?_
            refine run_q (.none rfl) rfl rfl (q_move rfl rfl) ?_
            refine run_split 43 rfl (fun g43 => ?_) (fun g43 => ?_)
            · have g43' := g43
              try simp only [decide_eq_true_eq, decide_eq_false_iff_not, beq_iff_eq, beq_eq_false_iff_ne, bne_iff_ne, bne_eq_false_iff_eq, Bool.not_eq_true', Bool.not_eq_false', ne_eq, Int.not_lt, Int.not_le, Decidable.not_not] at g43'
              refine run_off (.no rfl rfl rfl g43) rfl rfl ?_
              refine run_off (.no rfl rfl rfl g43) rfl rfl ?_
              refine run_off (.no rfl rfl rfl g43) rfl rfl ?_
              refine run_off (.no rfl rfl rfl g43) rfl rfl ?_
              refine run_q (.none rfl) rfl rfl (q_pickT rfl rfl g43 rfl) ?_
              refine run_q (.none rfl) rfl rfl (q_move rfl rfl) ?_
              refine run_off (.no rfl rfl rfl rfl) rfl rfl ?_
              refine run_off (.no rfl rfl rfl rfl) rfl rfl ?_
              refine run_off (.no rfl rfl rfl rfl) rfl rfl ?_
              refine run_off (.no rfl rfl rfl rfl) rfl rfl ?_
              refine run_q (.none rfl) rfl rfl (q_pickT rfl rfl rfl rfl) ?_
              refine run_q (.none rfl) rfl rfl (q_move rfl rfl) ?_
              refine run_off (.no rfl rfl rfl rfl) rfl rfl ?_
              refine run_off (.no rfl rfl rfl rfl) rfl rfl ?_
              refine run_off (.no rfl rfl rfl rfl) rfl rfl ?_
              refine run_off (.no rfl rfl rfl rfl) rfl rfl ?_
              refine run_q (.none rfl) rfl rfl (q_pickT rfl rfl rfl rfl) ?_
              refine run_q (.none rfl) rfl rfl (q_assign rfl rfl) ?_
              refine run_nil ?_
              refine run_sub (subMk (.cons (s := 2) rfl (.cons (s := 4) rfl (.cons (s := 22) rfl .nil))) .refl) ?_
              refine run_condT rfl rfl ?_
              refine run_seq ?_
              refine run_region ?_
              refine run_q (.none rfl) rfl rfl (q_assign rfl rfl) ?_
              refine run_nil ?_
              refine run_ret ?_
              exact end1 rfl rfl (by first | rw [spE, if_pos (by omega)] | rw [spE, if_neg (by omega), if_pos (by omega)] | rw [spE, if_neg (by omega), if_neg (by omega), if_pos ⟨by omega, by assumption, by assumption⟩] | rw [spE, if_neg (by omega), if_neg (by omega), if_neg (fun h => by simp_all)])
            · have g43' := g43
              try simp only [decide_eq_true_eq, decide_eq_false_iff_not, beq_iff_eq, beq_eq_false_iff_ne, bne_iff_ne, bne_eq_false_iff_eq, Bool.not_eq_true', Bool.not_eq_false', ne_eq, Int.not_lt, Int.not_le, Decidable.not_not] at g43'
              refine run_q (.on rfl rfl rfl g43) rfl rfl (q_fieldB (d := 7) rfl Try.underlying25 rfl rfl sz3 rfl) ?_
              refine run_q (.on rfl rfl rfl g43) rfl rfl (q_loadB rfl one3 rfl Sel.here rfl) ?_
              refine run_q (.on rfl rfl rfl g43) rfl rfl (q_move rfl rfl) ?_
              refine run_q (.on rfl rfl rfl g43) rfl rfl (q_geq rfl rfl rfl) ?_
              refine run_q (.none rfl) rfl rfl (q_pickF rfl rfl g43 rfl) ?_
              refine run_q (.none rfl) rfl rfl (q_move rfl rfl) ?_
              refine run_split 49 rfl (fun g49 => ?_) (fun g49 => ?_)
              · have g49' := g49
                try simp only [decide_eq_true_eq, decide_eq_false_iff_not, beq_iff_eq, beq_eq_false_iff_ne, bne_iff_ne, bne_eq_false_iff_eq, Bool.not_eq_true', Bool.not_eq_false', ne_eq, Int.not_lt, Int.not_le, Decidable.not_not] at g49'
                refine run_off (.no rfl rfl rfl g49) rfl rfl ?_
                refine run_off (.no rfl rfl rfl g49) rfl rfl ?_
                refine run_off (.no rfl rfl rfl g49) rfl rfl ?_
                refine run_off (.no rfl rfl rfl g49) rfl rfl ?_
                refine run_q (.none rfl) rfl rfl (q_pickT rfl rfl g49 rfl) ?_
                refine run_q (.none rfl) rfl rfl (q_move rfl rfl) ?_
                refine run_off (.no rfl rfl rfl rfl) rfl rfl ?_
                refine run_off (.no rfl rfl rfl rfl) rfl rfl ?_
                refine run_off (.no rfl rfl rfl rfl) rfl rfl ?_
                refine run_off (.no rfl rfl rfl rfl) rfl rfl ?_
                refine run_q (.none rfl) rfl rfl (q_pickT rfl rfl rfl rfl) ?_
                refine run_q (.none rfl) rfl rfl (q_assign rfl rfl) ?_
                refine run_nil ?_
                refine run_sub (subMk (.cons (s := 2) rfl (.cons (s := 4) rfl (.cons (s := 22) rfl .nil))) .refl) ?_
                refine run_condT rfl rfl ?_
                refine run_seq ?_
                refine run_region ?_
                refine run_q (.none rfl) rfl rfl (q_assign rfl rfl) ?_
                refine run_nil ?_
                refine run_ret ?_
                exact end1 rfl rfl (by first | rw [spE, if_pos (by omega)] | rw [spE, if_neg (by omega), if_pos (by omega)] | rw [spE, if_neg (by omega), if_neg (by omega), if_pos ⟨by omega, by assumption, by assumption⟩] | rw [spE, if_neg (by omega), if_neg (by omega), if_neg (fun h => by simp_all)])
              · have g49' := g49
                try simp only [decide_eq_true_eq, decide_eq_false_iff_not, beq_iff_eq, beq_eq_false_iff_ne, bne_iff_ne, bne_eq_false_iff_eq, Bool.not_eq_true', Bool.not_eq_false', ne_eq, Int.not_lt, Int.not_le, Decidable.not_not] at g49'
                refine run_q (.on rfl rfl rfl g49) rfl rfl (q_fieldB (d := 8) rfl Try.underlying25 rfl rfl sz3 rfl) ?_
                refine run_q (.on rfl rfl rfl g49) rfl rfl (q_loadB rfl one3 rfl Sel.here rfl) ?_
                refine run_q (.on rfl rfl rfl g49) rfl rfl (q_call rfl call34 (.cons rfl Evs.nil) (fun w hk hm => high_just _ w)) ?_
                refine run_q (.on rfl rfl rfl g49) rfl rfl (q_not rfl rfl) ?_
                refine run_q (.none rfl) rfl rfl (q_pickF rfl rfl g49 rfl) ?_
                refine run_q (.none rfl) rfl rfl (q_move rfl rfl) ?_
                refine run_split 55 rfl (fun g55 => ?_) (fun g55 => ?_)
                · have g55' := g55
                  try simp only [decide_eq_true_eq, decide_eq_false_iff_not, beq_iff_eq, beq_eq_false_iff_ne, bne_iff_ne, bne_eq_false_iff_eq, Bool.not_eq_true', Bool.not_eq_false', ne_eq, Int.not_lt, Int.not_le, Decidable.not_not] at g55'
                  refine run_off (.no rfl rfl rfl g55) rfl rfl ?_
                  refine run_off (.no rfl rfl rfl g55) rfl rfl ?_
                  refine run_off (.no rfl rfl rfl g55) rfl rfl ?_
                  refine run_off (.no rfl rfl rfl g55) rfl rfl ?_
                  refine run_q (.none rfl) rfl rfl (q_pickT rfl rfl g55 rfl) ?_
                  refine run_q (.none rfl) rfl rfl (q_assign rfl rfl) ?_
                  refine run_nil ?_
                  refine run_sub (subMk (.cons (s := 2) rfl (.cons (s := 4) rfl (.cons (s := 22) rfl .nil))) .refl) ?_
                  refine run_condT rfl rfl ?_
                  refine run_seq ?_
                  refine run_region ?_
                  refine run_q (.none rfl) rfl rfl (q_assign rfl rfl) ?_
                  refine run_nil ?_
                  refine run_ret ?_
                  exact end1 rfl rfl (by first | rw [spE, if_pos (by omega)] | rw [spE, if_neg (by omega), if_pos (by omega)] | rw [spE, if_neg (by omega), if_neg (by omega), if_pos ⟨by omega, by assumption, by assumption⟩] | rw [spE, if_neg (by omega), if_neg (by omega), if_neg (fun h => by simp_all)])
                · have g55' := g55
                  try simp only [decide_eq_true_eq, decide_eq_false_iff_not, beq_iff_eq, beq_eq_false_iff_ne, bne_iff_ne, bne_eq_false_iff_eq, Bool.not_eq_true', Bool.not_eq_false', ne_eq, Int.not_lt, Int.not_le, Decidable.not_not] at g55'
                  refine run_q (.on rfl rfl rfl g55) rfl rfl (q_fieldB (d := 9) rfl Try.underlying25 rfl rfl sz3 rfl) ?_
                  refine run_q (.on rfl rfl rfl g55) rfl rfl (q_loadB rfl one3 rfl Sel.here rfl) ?_
                  refine run_q (.on rfl rfl rfl g55) rfl rfl (q_call rfl call34 (.cons rfl Evs.nil) (fun w hk hm => high_just _ w)) ?_
                  refine run_q (.on rfl rfl rfl g55) rfl rfl (q_not rfl rfl) ?_
                  refine run_q (.none rfl) rfl rfl (q_pickF rfl rfl g55 rfl) ?_
                  refine run_q (.none rfl) rfl rfl (q_assign rfl rfl) ?_
                  refine run_nil ?_
                  refine run_sub (subMk (.cons (s := 2) rfl (.cons (s := 4) rfl (.cons (s := 22) rfl .nil))) .refl) ?_
                  refine run_cond rfl (fun g22 => ?_) (fun g22 => ?_)
                  · have g22' := g22
                    try simp only [decide_eq_true_eq, decide_eq_false_iff_not, beq_iff_eq, beq_eq_false_iff_ne, bne_iff_ne, bne_eq_false_iff_eq, Bool.not_eq_true', Bool.not_eq_false', ne_eq, Int.not_lt, Int.not_le, Decidable.not_not] at g22'
                    refine run_seq ?_
                    refine run_region ?_
                    refine run_q (.none rfl) rfl rfl (q_assign rfl rfl) ?_
                    refine run_nil ?_
                    refine run_ret ?_
                    exact end1 rfl rfl (by first | rw [spE, if_pos (by omega)] | rw [spE, if_neg (by omega), if_pos (by omega)] | rw [spE, if_neg (by omega), if_neg (by omega), if_pos ⟨by omega, by assumption, by assumption⟩] | rw [spE, if_neg (by omega), if_neg (by omega), if_neg (fun h => by simp_all)])
                  · have g22' := g22
                    try simp only [decide_eq_true_eq, decide_eq_false_iff_not, beq_iff_eq, beq_eq_false_iff_ne, bne_iff_ne, bne_eq_false_iff_eq, Bool.not_eq_true', Bool.not_eq_false', ne_eq, Int.not_lt, Int.not_le, Decidable.not_not] at g22'
                    refine run_seq ?_
                    refine run_region ?_
                    refine run_q (.none rfl) rfl rfl (q_fieldB (d := 6) rfl Try.underlying25 rfl rfl sz3 rfl) ?_
                    refine run_q (.none rfl) rfl rfl (q_loadB rfl one3 rfl Sel.here rfl) ?_
                    refine run_q (.none rfl) rfl rfl (q_fieldB (d := 7) rfl Try.underlying25 rfl rfl sz3 rfl) ?_
                    refine run_q (.none rfl) rfl rfl (q_loadB rfl one3 rfl Sel.here rfl) ?_
                    refine run_q (.none rfl) rfl rfl (q_eql rfl rfl rfl) ?_
                    refine run_q (.none rfl) rfl rfl (q_move rfl rfl) ?_
                    refine run_split 67 rfl (fun g67 => ?_) (fun g67 => ?_)
                    · have g67' := g67
                      try simp only [decide_eq_true_eq, decide_eq_false_iff_not, beq_iff_eq, beq_eq_false_iff_ne, bne_iff_ne, bne_eq_false_iff_eq, Bool.not_eq_true', Bool.not_eq_false', ne_eq, Int.not_lt, Int.not_le, Decidable.not_not] at g67'
                      refine run_q (.on rfl rfl rfl g67) rfl rfl (q_fieldB (d := 10) rfl Try.underlying25 rfl rfl sz4 rfl) ?_
                      refine run_q (.on rfl rfl rfl g67) rfl rfl (q_loadB rfl one4 rfl Sel.here rfl) ?_
                      refine run_q (.on rfl rfl rfl g67) rfl rfl (q_not rfl rfl) ?_
                      refine run_q (.none rfl) rfl rfl (q_pickT rfl rfl g67 rfl) ?_
                      refine run_q (.none rfl) rfl rfl (q_move rfl rfl) ?_
                      refine run_split 72 rfl (fun g72 => ?_) (fun g72 => ?_)
                      · have g72' := g72
                        try simp only [decide_eq_true_eq, decide_eq_false_iff_not, beq_iff_eq, beq_eq_false_iff_ne, bne_iff_ne, bne_eq_false_iff_eq, Bool.not_eq_true', Bool.not_eq_false', ne_eq, Int.not_lt, Int.not_le, Decidable.not_not] at g72'
                        refine run_q (.on rfl rfl rfl g72) rfl rfl (q_fieldB (d := 11) rfl Try.underlying25 rfl rfl sz4 rfl) ?_
                        refine run_q (.on rfl rfl rfl g72) rfl rfl (q_loadB rfl one4 rfl Sel.here rfl) ?_
                        refine run_q (.on rfl rfl rfl g72) rfl rfl (q_not rfl rfl) ?_
                        refine run_q (.none rfl) rfl rfl (q_pickT rfl rfl g72 rfl) ?_
                        refine run_q (.none rfl) rfl rfl (q_assign rfl rfl) ?_
                        refine run_nil ?_
                        refine run_sub (subMk (.cons (s := 4) rfl (.cons (s := 61) rfl .nil)) .refl) ?_
                        refine run_cond rfl (fun g61 => ?_) (fun g61 => ?_)
                        · have g61' := g61
                          try simp only [decide_eq_true_eq, decide_eq_false_iff_not, beq_iff_eq, beq_eq_false_iff_ne, bne_iff_ne, bne_eq_false_iff_eq, Bool.not_eq_true', Bool.not_eq_false', ne_eq, Int.not_lt, Int.not_le, Decidable.not_not] at g61'
                          refine run_seq ?_
                          refine run_region ?_
                          refine run_q (.none rfl) rfl rfl (q_assign rfl rfl) ?_
                          refine run_nil ?_
                          refine run_ret ?_
                          exact end1 rfl rfl (by first | rw [spE, if_pos (by omega)] | rw [spE, if_neg (by omega), if_pos (by omega)] | rw [spE, if_neg (by omega), if_neg (by omega), if_pos ⟨by omega, by assumption, by assumption⟩] | rw [spE, if_neg (by omega), if_neg (by omega), if_neg (fun h => by simp_all)])
                        · have g61' := g61
                          try simp only [decide_eq_true_eq, decide_eq_false_iff_not, beq_iff_eq, beq_eq_false_iff_ne, bne_iff_ne, bne_eq_false_iff_eq, Bool.not_eq_true', Bool.not_eq_false', ne_eq, Int.not_lt, Int.not_le, Decidable.not_not] at g61'
                          refine run_skip ?_
                          refine run_blk ?_
                          refine run_seq ?_
                          refine run_region ?_
                          refine run_q (.none rfl) rfl rfl (q_assign rfl rfl) ?_
                          refine run_nil ?_
                          refine run_ret ?_
                          exact end1 rfl rfl (by first | rw [spE, if_pos (by omega)] | rw [spE, if_neg (by omega), if_pos (by omega)] | rw [spE, if_neg (by omega), if_neg (by omega), if_pos ⟨by omega, by assumption, by assumption⟩] | rw [spE, if_neg (by omega), if_neg (by omega), if_neg (fun h => by simp_all)])
                      · have g72' := g72
                        try simp only [decide_eq_true_eq, decide_eq_false_iff_not, beq_iff_eq, beq_eq_false_iff_ne, bne_iff_ne, bne_eq_false_iff_eq, Bool.not_eq_true', Bool.not_eq_false', ne_eq, Int.not_lt, Int.not_le, Decidable.not_not] at g72'
                        refine run_off (.no rfl rfl rfl g72) rfl rfl ?_
                        refine run_off (.no rfl rfl rfl g72) rfl rfl ?_
                        refine run_off (.no rfl rfl rfl g72) rfl rfl ?_
                        refine run_q (.none rfl) rfl rfl (q_pickF rfl rfl g72 rfl) ?_
                        refine run_q (.none rfl) rfl rfl (q_assign rfl rfl) ?_
                        refine run_nil ?_
                        refine run_sub (subMk (.cons (s := 4) rfl (.cons (s := 61) rfl .nil)) .refl) ?_
                        refine run_condF rfl rfl ?_
                        refine run_skip ?_
                        refine run_blk ?_
                        refine run_seq ?_
                        refine run_region ?_
                        refine run_q (.none rfl) rfl rfl (q_assign rfl rfl) ?_
                        refine run_nil ?_
                        refine run_ret ?_
                        exact end1 rfl rfl (by first | rw [spE, if_pos (by omega)] | rw [spE, if_neg (by omega), if_pos (by omega)] | rw [spE, if_neg (by omega), if_neg (by omega), if_pos ⟨by omega, by assumption, by assumption⟩] | rw [spE, if_neg (by omega), if_neg (by omega), if_neg (fun h => by simp_all)])
                    · have g67' := g67
                      try simp only [decide_eq_true_eq, decide_eq_false_iff_not, beq_iff_eq, beq_eq_false_iff_ne, bne_iff_ne, bne_eq_false_iff_eq, Bool.not_eq_true', Bool.not_eq_false', ne_eq, Int.not_lt, Int.not_le, Decidable.not_not] at g67'
                      refine run_off (.no rfl rfl rfl g67) rfl rfl ?_
                      refine run_off (.no rfl rfl rfl g67) rfl rfl ?_
                      refine run_off (.no rfl rfl rfl g67) rfl rfl ?_
                      refine run_q (.none rfl) rfl rfl (q_pickF rfl rfl g67 rfl) ?_
                      refine run_q (.none rfl) rfl rfl (q_move rfl rfl) ?_
                      refine run_off (.no rfl rfl rfl rfl) rfl rfl ?_
                      refine run_off (.no rfl rfl rfl rfl) rfl rfl ?_
                      refine run_off (.no rfl rfl rfl rfl) rfl rfl ?_
                      refine run_q (.none rfl) rfl rfl (q_pickF rfl rfl rfl rfl) ?_
                      refine run_q (.none rfl) rfl rfl (q_assign rfl rfl) ?_
                      refine run_nil ?_
                      refine run_sub (subMk (.cons (s := 4) rfl (.cons (s := 61) rfl .nil)) .refl) ?_
                      refine run_condF rfl rfl ?_
                      refine run_skip ?_
                      refine run_blk ?_
                      refine run_seq ?_
                      refine run_region ?_
                      refine run_q (.none rfl) rfl rfl (q_assign rfl rfl) ?_
                      refine run_nil ?_
                      refine run_ret ?_
                      exact end1 rfl rfl (by first | rw [spE, if_pos (by omega)] | rw [spE, if_neg (by omega), if_pos (by omega)] | rw [spE, if_neg (by omega), if_neg (by omega), if_pos ⟨by omega, by assumption, by assumption⟩] | rw [spE, if_neg (by omega), if_neg (by omega), if_neg (fun h => by simp_all)])

set_option maxHeartbeats 4000000 in
set_option maxRecDepth 100000 in
theorem wrong_just (x : Spn) (n : Int) (W : World)  : Calls Try.prog 14 #[x.val, .int .i64 n] W (Hr.Just W (.int .i64 (spE x n))) := by
  refine Just.of_ret ?_
  refine enterA (X := nX) (vs := [x.val, .int .i64 n]) Try.func14 Try.ntmps14 rfl rfl Mem.nil ?_
  refine run_seq ?_
  refine run_region ?_
  refine run_h (.none rfl) (h_box rfl rfl rfl rfl rfl) ?_
  rintro b2 -
  refine run_q (.none rfl) rfl rfl (q_assign rfl rfl) ?_
  refine run_nil ?_
  refine run_seq ?_
  refine run_block ?_
  refine run_seq ?_
  refine run_region ?_
  refine run_q (.none rfl) rfl rfl (q_fieldB (d := 0) rfl Try.underlying25 rfl rfl sz3 rfl) ?_
  refine run_q (.none rfl) rfl rfl (q_loadB rfl one3 rfl Sel.here rfl) ?_
  refine run_q (.none rfl) rfl rfl (q_neq rfl rfl rfl) ?_
  refine run_q (.none rfl) rfl rfl (q_move rfl rfl) ?_
  refine run_split 9 rfl (fun g9 => ?_) (fun g9 => ?_)
  · have g9' := g9
    try simp only [decide_eq_true_eq, decide_eq_false_iff_not, beq_iff_eq, beq_eq_false_iff_ne, bne_iff_ne, bne_eq_false_iff_eq, Bool.not_eq_true', Bool.not_eq_false', ne_eq, Int.not_lt, Int.not_le, Decidable.not_not] at g9'
    refine run_q (.on rfl rfl rfl g9) rfl rfl (q_fieldB (d := 0) rfl Try.underlying25 rfl rfl sz3 rfl) ?_
    refine run_q (.on rfl rfl rfl g9) rfl rfl (q_loadB rfl one3 rfl Sel.here rfl) ?_
    refine run_q (.on rfl rfl rfl g9) rfl rfl (q_neq rfl rfl rfl) ?_
    refine run_q (.none rfl) rfl rfl (q_pickT rfl rfl g9 rfl) ?_
    refine run_q (.none rfl) rfl rfl (q_move rfl rfl) ?_
    refine run_split 14 rfl (fun g14 => ?_) (fun g14 => ?_)
    · have g14' := g14
      try simp only [decide_eq_true_eq, decide_eq_false_iff_not, beq_iff_eq, beq_eq_false_iff_ne, bne_iff_ne, bne_eq_false_iff_eq, Bool.not_eq_true', Bool.not_eq_false', ne_eq, Int.not_lt, Int.not_le, Decidable.not_not] at g14'
      refine run_off (.no rfl rfl rfl g14) rfl rfl ?_
      refine run_off (.no rfl rfl rfl g14) rfl rfl ?_
      refine run_off (.no rfl rfl rfl g14) rfl rfl ?_
      refine run_off (.no rfl rfl rfl g14) rfl rfl ?_
      refine run_off (.off rfl rfl rfl) rfl rfl ?_
      refine run_off (.off rfl rfl rfl) rfl rfl ?_
      refine run_off (.off rfl rfl rfl) rfl rfl ?_
      refine run_off (.no rfl rfl rfl g14) rfl rfl ?_
      refine run_q (.none rfl) rfl rfl (q_pickT rfl rfl g14 rfl) ?_
      refine run_q (.none rfl) rfl rfl (q_assign rfl rfl) ?_
      refine run_nil ?_
      refine run_sub (subMk (.cons (s := 1) rfl (.cons (s := 2) rfl (.cons (s := 4) rfl (.cons (s := 5) rfl .nil)))) .refl) ?_
      refine run_condT rfl rfl ?_
      refine run_seq ?_
      refine run_region ?_
      refine run_q (.none rfl) rfl rfl (q_assign rfl rfl) ?_
      refine run_nil ?_
      refine run_sub (subMk (.cons (s := 4) rfl .nil) .refl) ?_
      refine run_ret ?_
      exact end1 rfl rfl (by first | rw [spE, if_pos (by omega)] | rw [spE, if_neg (by omega), if_pos (by omega)] | rw [spE, if_neg (by omega), if_neg (by omega), if_pos ⟨by omega, by assumption, by assumption⟩] | rw [spE, if_neg (by omega), if_neg (by omega), if_neg (fun h => by simp_all)])
    · have g14' := g14
      try simp only [decide_eq_true_eq, decide_eq_false_iff_not, beq_iff_eq, beq_eq_false_iff_ne, bne_iff_ne, bne_eq_false_iff_eq, Bool.not_eq_true', Bool.not_eq_false', ne_eq, Int.not_lt, Int.not_le, Decidable.not_not] at g14'
      refine run_q (.on rfl rfl rfl g14) rfl rfl (q_fieldB (d := 3) rfl Try.underlying25 rfl rfl sz3 rfl) ?_
      refine run_q (.on rfl rfl rfl g14) rfl rfl (q_loadB rfl one3 rfl Sel.here rfl) ?_
      refine run_q (.on rfl rfl rfl g14) rfl rfl (q_neq rfl rfl rfl) ?_
      refine run_q (.on rfl rfl rfl g14) rfl rfl (q_move rfl rfl) ?_
      refine run_split 18 rfl (fun g18 => ?_) (fun g18 => ?_)
      · have g18' := g18
        try simp only [decide_eq_true_eq, decide_eq_false_iff_not, beq_iff_eq, beq_eq_false_iff_ne, bne_iff_ne, bne_eq_false_iff_eq, Bool.not_eq_true', Bool.not_eq_false', ne_eq, Int.not_lt, Int.not_le, Decidable.not_not] at g18'
        refine run_q (.on rfl rfl rfl g18) rfl rfl (q_fieldB (d := 3) rfl Try.underlying25 rfl rfl sz3 rfl) ?_
        refine run_q (.on rfl rfl rfl g18) rfl rfl (q_loadB rfl one3 rfl Sel.here rfl) ?_
        refine run_q (.on rfl rfl rfl g18) rfl rfl (q_neq rfl rfl rfl) ?_
        refine run_q (.on rfl rfl rfl g14) rfl rfl (q_pickT rfl rfl g18 rfl) ?_
        refine run_q (.none rfl) rfl rfl (q_pickF rfl rfl g14 rfl) ?_
        refine run_q (.none rfl) rfl rfl (q_assign rfl rfl) ?_
        refine run_nil ?_
        refine run_sub (subMk (.cons (s := 1) rfl (.cons (s := 2) rfl (.cons (s := 4) rfl (.cons (s := 5) rfl .nil)))) .refl) ?_
        refine run_cond rfl (fun g5 => ?_) (fun g5 => ?_)
        · have g5' := g5
          try simp only [decide_eq_true_eq, decide_eq_false_iff_not, beq_iff_eq, beq_eq_false_iff_ne, bne_iff_ne, bne_eq_false_iff_eq, Bool.not_eq_true', Bool.not_eq_false', ne_eq, Int.not_lt, Int.not_le, Decidable.not_not] at g5'
          refine run_seq ?_
          refine run_region ?_
          refine run_q (.none rfl) rfl rfl (q_assign rfl rfl) ?_
          refine run_nil ?_
          refine run_sub (subMk (.cons (s := 4) rfl .nil) .refl) ?_
          refine run_ret ?_
          exact end1 rfl rfl (by first | rw [spE, if_pos (by omega)] | rw [spE, if_neg (by omega), if_pos (by omega)] | rw [spE, if_neg (by omega), if_neg (by omega), if_pos ⟨by omega, by assumption, by assumption⟩] | rw [spE, if_neg (by omega), if_neg (by omega), if_neg (fun h => by simp_all)])
        · have g5' := g5
          try simp only [decide_eq_true_eq, decide_eq_false_iff_not, beq_iff_eq, beq_eq_false_iff_ne, bne_iff_ne, bne_eq_false_iff_eq, Bool.not_eq_true', Bool.not_eq_false', ne_eq, Int.not_lt, Int.not_le, Decidable.not_not] at g5'
          refine run_seq ?_
          refine run_region ?_
          refine run_q (.none rfl) rfl rfl (q_fieldB (d := 1) rfl Try.underlying25 rfl rfl sz3 rfl) ?_
          refine run_q (.none rfl) rfl rfl (q_loadB rfl one3 rfl Sel.here rfl) ?_
          refine run_q (.none rfl) rfl rfl (q_lss rfl rfl rfl) ?_
          refine run_q (.none rfl) rfl rfl (q_move rfl rfl) ?_
          refine run_split 28 rfl (fun g28 => ?_) (fun g28 => ?_)
          · have g28' := g28
            try simp only [decide_eq_true_eq, decide_eq_false_iff_not, beq_iff_eq, beq_eq_false_iff_ne, bne_iff_ne, bne_eq_false_iff_eq, Bool.not_eq_true', Bool.not_eq_false', ne_eq, Int.not_lt, Int.not_le, Decidable.not_not] at g28'
            refine run_off (.no rfl rfl rfl g28) rfl rfl ?_
            refine run_off (.no rfl rfl rfl g28) rfl rfl ?_
            refine run_off (.no rfl rfl rfl g28) rfl rfl ?_
            refine run_q (.none rfl) rfl rfl (q_pickT rfl rfl g28 rfl) ?_
            refine run_q (.none rfl) rfl rfl (q_move rfl rfl) ?_
            refine run_off (.no rfl rfl rfl rfl) rfl rfl ?_
            refine run_off (.no rfl rfl rfl rfl) rfl rfl ?_
            refine run_off (.no rfl rfl rfl rfl) rfl rfl ?_
            refine run_q (.none rfl) rfl rfl (q_pickT rfl rfl rfl rfl) ?_
            refine run_q (.none rfl) rfl rfl (q_move rfl rfl) ?_
            refine run_off (.no rfl rfl rfl rfl) rfl rfl ?_
            refine run_off (.no rfl rfl rfl rfl) rfl rfl ?_
            refine run_off (.no rfl rfl rfl rfl) rfl rfl ?_
            refine run_off (.no rfl rfl rfl rfl) rfl rfl ?_
            refine run_off (.no rfl rfl rfl rfl) rfl rfl ?_
            refine run_q (.none rfl) rfl rfl (q_pickT rfl rfl rfl rfl) ?_
            refine run_q (.none rfl) rfl rfl (q_move rfl rfl) ?_
            refine run_off (.no rfl rfl rfl rfl) rfl rfl ?_
            refine run_off (.no rfl rfl rfl rfl) rfl rfl ?_
            refine run_off (.no rfl rfl rfl rfl) rfl rfl ?_
            refine run_off (.no rfl rfl rfl rfl) rfl rfl ?_
            refine run_q (.none rfl) rfl rfl (q_pickT rfl rfl rfl rfl) ?_
            refine run_q (.none rfl) rfl rfl (q_move rfl rfl) ?_
            refine run_off (.no rfl rfl rfl rfl) rfl rfl ?_
            refine run_off (.no rfl rfl rfl rfl) rfl rfl ?_
            refine run_off (.no rfl rfl rfl rfl) rfl rfl ?_
            refine run_off (.no rfl rfl rfl rfl) rfl rfl ?_
            refine run_q (.none rfl) rfl rfl (q_pickT rfl rfl rfl rfl) ?_
            refine run_q (.none rfl) rfl rfl (q_move rfl rfl) ?_
            refine run_off (.no rfl rfl rfl rfl) rfl rfl ?_
            refine run_off (.no rfl rfl rfl rfl) rfl rfl ?_
            refine run_off (.no rfl rfl rfl rfl) rfl rfl ?_
            refine run_off (.no rfl rfl rfl rfl) rfl rfl ?_
            refine run_q (.none rfl) rfl rfl (q_pickT rfl rfl rfl rfl) ?_
            refine run_q (.none rfl) rfl rfl (q_assign rfl rfl) ?_
            refine run_nil ?_
            refine run_sub (subMk (.cons (s := 2) rfl (.cons (s := 4) rfl (.cons (s := 24) rfl .nil))) .refl) ?_
            refine run_condT rfl rfl ?_
            refine run_seq ?_
            refine run_region ?_
            refine run_q (.none rfl) rfl rfl (q_assign rfl rfl) ?_
            refine run_nil ?_
            refine run_ret ?_
            exact end1 rfl rfl (by first | rw [spE, if_pos (by omega)] | rw [spE, if_neg (by omega), if_pos (by omega)] | rw [spE, if_neg (by omega), if_neg (by omega), if_pos ⟨by omega, by assumption, by assumption⟩] | rw [spE, if_neg (by omega), if_neg (by omega), if_neg (fun h => by simp_all)])
          · have g28' := g28
            try simp only [decide_eq_true_eq, decide_eq_false_iff_not, beq_iff_eq, beq_eq_false_iff_ne, bne_iff_ne, bne_eq_false_iff_eq, Bool.not_eq_true', Bool.not_eq_false', ne_eq, Int.not_lt, Int.not_le, Decidable.not_not] at g28'
            refine run_q (.on rfl rfl rfl g28) rfl rfl (q_fieldB (d := 2) rfl Try.underlying25 rfl rfl sz3 rfl) ?_
            refine run_q (.on rfl rfl rfl g28) rfl rfl (q_loadB rfl one3 rfl Sel.here rfl) ?_
            refine run_q (.on rfl rfl rfl g28) rfl rfl (q_lss rfl rfl rfl) ?_
            refine run_q (.none rfl) rfl rfl (q_pickF rfl rfl g28 rfl) ?_
            refine run_q (.none rfl) rfl rfl (q_move rfl rfl) ?_
            refine run_split 33 rfl (fun g33 => ?_) (fun g33 => ?_)
            · have g33' := g33
              try simp only [decide_eq_true_eq, decide_eq_false_iff_not, beq_iff_eq, beq_eq_false_iff_ne, bne_iff_ne, bne_eq_false_iff_eq, Bool.not_eq_true', Bool.not_eq_false', ne_eq, Int.not_lt, Int.not_le, Decidable.not_not] at g33'
              refine run_off (.no rfl rfl rfl g33) rfl rfl ?_
              refine run_off (.no rfl rfl rfl g33) rfl rfl ?_
              refine run_off (.no rfl rfl rfl g33) rfl rfl ?_
              refine run_q (.none rfl) rfl rfl (q_pickT rfl rfl g33 rfl) ?_
              refine run_q (.none rfl) rfl rfl (q_move rfl rfl) ?_
              refine run_off (.no rfl rfl rfl rfl) rfl rfl ?_
              refine run_off (.no rfl rfl rfl rfl) rfl rfl ?_
              refine run_off (.no rfl rfl rfl rfl) rfl rfl ?_
              refine run_off (.no rfl rfl rfl rfl) rfl rfl ?_
              refine run_off (.no rfl rfl rfl rfl) rfl rfl ?_
              refine run_q (.none rfl) rfl rfl (q_pickT rfl rfl rfl rfl) ?_
              refine run_q (.none rfl) rfl rfl (q_move rfl rfl) ?_
              refine run_off (.no rfl rfl rfl rfl) rfl rfl ?_
              refine run_off (.no rfl rfl rfl rfl) rfl rfl ?_
              refine run_off (.no rfl rfl rfl rfl) rfl rfl ?_
              refine run_off (.no rfl rfl rfl rfl) rfl rfl ?_
              refine run_q (.none rfl) rfl rfl (q_pickT rfl rfl rfl rfl) ?_
              refine run_q (.none rfl) rfl rfl (q_move rfl rfl) ?_
              refine run_off (.no rfl rfl rfl rfl) rfl rfl ?_
              refine run_off (.no rfl rfl rfl rfl) rfl rfl ?_
              refine run_off (.no rfl rfl rfl rfl) rfl rfl ?_
              refine run_off (.no rfl rfl rfl rfl) rfl rfl ?_
              refine run_q (.none rfl) rfl rfl (q_pickT rfl rfl rfl rfl) ?_
              refine run_q (.none rfl) rfl rfl (q_move rfl rfl) ?_
              refine run_off (.no rfl rfl rfl rfl) rfl rfl ?_
              refine run_off (.no rfl rfl rfl rfl) rfl rfl ?_
              refine run_off (.no rfl rfl rfl rfl) rfl rfl ?_
              refine run_off (.no rfl rfl rfl rfl) rfl rfl ?_
              refine run_q (.none rfl) rfl rfl (q_pickT rfl rfl rfl rfl) ?_
              refine run_q (.none rfl) rfl rfl (q_assign rfl rfl) ?_
              refine run_nil ?_
              refine run_sub (subMk (.cons (s := 2) rfl (.cons (s := 4) rfl (.cons (s := 24) rfl .nil))) .refl) ?_
              refine run_condT rfl rfl ?_
              refine run_seq ?_
              refine run_region ?_
              refine run_q (.none rfl) rfl rfl (q_assign rfl rfl) ?_
              refine run_nil ?_
              refine run_ret ?_
              exact end1 rfl rfl (by first | rw [spE, if_pos (by omega)] | rw [spE, if_neg (by omega), if_pos (by omega)] | rw [spE, if_neg (by omega), if_neg (by omega), if_pos ⟨by omega, by assumption, by assumption⟩] | rw [spE, if_neg (by omega), if_neg (by omega), if_neg (fun h => by simp_all)])
            · have g33' := g33
              try simp only [decide_eq_true_eq, decide_eq_false_iff_not, beq_iff_eq, beq_eq_false_iff_ne, bne_iff_ne, bne_eq_false_iff_eq, Bool.not_eq_true', Bool.not_eq_false', ne_eq, Int.not_lt, Int.not_le, Decidable.not_not] at g33'
              refine run_q (.on rfl rfl rfl g33) rfl rfl (q_fieldB (d := 6) rfl Try.underlying25 rfl rfl sz3 rfl) ?_
              refine run_q (.on rfl rfl rfl g33) rfl rfl (q_loadB rfl one3 rfl Sel.here rfl) ?_
              refine run_q (.on rfl rfl rfl g33) rfl rfl (q_lss rfl rfl rfl) ?_
              refine run_q (.none rfl) rfl rfl (q_pickF rfl rfl g33 rfl) ?_
              refine run_q (.none rfl) rfl rfl (q_move rfl rfl) ?_
              refine run_split 38 rfl (fun g38 => ?_) (fun g38 => ?_)
              · have g38' := g38
                try simp only [decide_eq_true_eq, decide_eq_false_iff_not, beq_iff_eq, beq_eq_false_iff_ne, bne_iff_ne, bne_eq_false_iff_eq, Bool.not_eq_true', Bool.not_eq_false', ne_eq, Int.not_lt, Int.not_le, Decidable.not_not] at g38'
                refine run_off (.no rfl rfl rfl g38) rfl rfl ?_
                refine run_off (.no rfl rfl rfl g38) rfl rfl ?_
                refine run_off (.no rfl rfl rfl g38) rfl rfl ?_
                refine run_off (.no rfl rfl rfl g38) rfl rfl ?_
                refine run_off (.no rfl rfl rfl g38) rfl rfl ?_
                refine run_q (.none rfl) rfl rfl (q_pickT rfl rfl g38 rfl) ?_
                refine run_q (.none rfl) rfl rfl (q_move rfl rfl) ?_
                refine run_off (.no rfl rfl rfl rfl) rfl rfl ?_
                refine run_off (.no rfl rfl rfl rfl) rfl rfl ?_
                refine run_off (.no rfl rfl rfl rfl) rfl rfl ?_
                refine run_off (.no rfl rfl rfl rfl) rfl rfl ?_
                refine run_q (.none rfl) rfl rfl (q_pickT rfl rfl rfl rfl) ?_
                refine run_q (.none rfl) rfl rfl (q_move rfl rfl) ?_
                refine run_off (.no rfl rfl rfl rfl) rfl rfl ?_
                refine run_off (.no rfl rfl rfl rfl) rfl rfl ?_
                refine run_off (.no rfl rfl rfl rfl) rfl rfl ?_
                refine run_off (.no rfl rfl rfl rfl) rfl rfl ?_
                refine run_q (.none rfl) rfl rfl (q_pickT rfl rfl rfl rfl) ?_
                refine run_q (.none rfl) rfl rfl (q_move rfl rfl) ?_
                refine run_off (.no rfl rfl rfl rfl) rfl rfl ?_
                refine run_off (.no rfl rfl rfl rfl) rfl rfl ?_
                refine run_off (.no rfl rfl rfl rfl) rfl rfl ?_
                refine run_off (.no rfl rfl rfl rfl) rfl rfl ?_
                refine run_q (.none rfl) rfl rfl (q_pickT rfl rfl rfl rfl) ?_
                refine run_q (.none rfl) rfl rfl (q_assign rfl rfl) ?_
                refine run_nil ?_
                refine run_sub (subMk (.cons (s := 2) rfl (.cons (s := 4) rfl (.cons (s := 24) rfl .nil))) .refl) ?_
                refine run_condT rfl rfl ?_
                refine run_seq ?_
                refine run_region ?_
                refine run_q (.none rfl) rfl rfl (q_assign rfl rfl) ?_
                refine run_nil ?_
                refine run_ret ?_
                exact end1 rfl rfl (by first | rw [spE, if_pos (by omega)] | rw [spE, if_neg (by omega), if_pos (by omega)] | rw [spE, if_neg (by omega), if_neg (by omega), if_pos ⟨by omega, by assumption, by assumption⟩] | rw [spE, if_neg (by omega), if_neg (by omega), if_neg (fun h => by simp_all)])
              · have g38' := g38
                try simp only [decide_eq_true_eq, decide_eq_false_iff_not, beq_iff_eq, beq_eq_false_iff_ne, bne_iff_ne, bne_eq_false_iff_eq, Bool.not_eq_true', Bool.not_eq_false', ne_eq, Int.not_lt, Int.not_le, Decidable.not_not] at g38'
                refine run_q (.on rfl rfl rfl g38) rfl rfl (q_fieldB (d := 6) rfl Try.underlying25 rfl rfl sz3 rfl) ?_
                refine run_q (.on rfl rfl rfl g38) rfl rfl (q_loadB rfl one3 rfl Sel.here rfl) ?_
                refine run_q (.on rfl rfl rfl g38) rfl rfl (q_fieldB (d := 7) rfl Try.underlying25 rfl rfl sz3 rfl) ?_
                refine run_q (.on rfl rfl rfl g38) rfl rfl (q_loadB rfl one3 rfl Sel.here rfl) ?_
                refine run_q (.on rfl rfl rfl g38) rfl rfl (q_gtr rfl rfl rfl) ?_
                refine run_q (.none rfl) rfl rfl (q_pickF rfl rfl g38 rfl) ?_
                refine run_q (.none rfl) rfl rfl (q_move rfl rfl) ?_
                refine run_split 45 rfl (fun g45 => ?_) (fun g45 => ?_)
                · have g45' := g45
                  try simp only [decide_eq_true_eq, decide_eq_false_iff_not, beq_iff_eq, beq_eq_false_iff_ne, bne_iff_ne, bne_eq_false_iff_eq, Bool.not_eq_true', Bool.not_eq_false', ne_eq, Int.not_lt, Int.not_le, Decidable.not_not] at g45'
                  refine run_off (.no rfl rfl rfl g45) rfl rfl ?_
                  refine run_off (.no rfl rfl rfl g45) rfl rfl ?_
                  refine run_off (.no rfl rfl rfl g45) rfl rfl ?_
                  refine run_off (.no rfl rfl rfl g45) rfl rfl ?_
                  refine run_q (.none rfl) rfl rfl (q_pickT rfl rfl g45 rfl) ?_
                  refine run_q (.none rfl) rfl rfl (q_move rfl rfl) ?_
                  refine run_off (.no rfl rfl rfl rfl) rfl rfl ?_
                  refine run_off (.no rfl rfl rfl rfl) rfl rfl ?_
                  refine run_off (.no rfl rfl rfl rfl) rfl rfl ?_
                  refine run_off (.no rfl rfl rfl rfl) rfl rfl ?_
                  refine run_q (.none rfl) rfl rfl (q_pickT rfl rfl rfl rfl) ?_
                  refine run_q (.none rfl) rfl rfl (q_move rfl rfl) ?_
                  refine run_off (.no rfl rfl rfl rfl) rfl rfl ?_
                  refine run_off (.no rfl rfl rfl rfl) rfl rfl ?_
                  refine run_off (.no rfl rfl rfl rfl) rfl rfl ?_
                  refine run_off (.no rfl rfl rfl rfl) rfl rfl ?_
                  refine run_q (.none rfl) rfl rfl (q_pickT rfl rfl rfl rfl) ?_
                  refine run_q (.none rfl) rfl rfl (q_assign rfl rfl) ?_
                  refine run_nil ?_
                  refine run_sub (subMk (.cons (s := 2) rfl (.cons (s := 4) rfl (.cons (s := 24) rfl .nil))) .refl) ?_
                  refine run_condT rfl rfl ?_
                  refine run_seq ?_
                  refine run_region ?_
                  refine run_q (.none rfl) rfl rfl (q_assign rfl rfl) ?_
                  refine run_nil ?_
                  refine run_ret ?_
                  exact end1 rfl rfl (by first | rw [spE, if_pos (by omega)] | rw [spE, if_neg (by omega), if_pos (by omega)] | rw [spE, if_neg (by omega), if_neg (by omega), if_pos ⟨by omega, by assumption, by assumption⟩] | rw [spE, if_neg (by omega), if_neg (by omega), if_neg (fun h => by simp_all)])
                · have g45' := g45
                  try simp only [decide_eq_true_eq, decide_eq_false_iff_not, beq_iff_eq, beq_eq_false_iff_ne, bne_iff_ne, bne_eq_false_iff_eq, Bool.not_eq_true', Bool.not_eq_false', ne_eq, Int.not_lt, Int.not_le, Decidable.not_not] at g45'
                  refine run_q (.on rfl rfl rfl g45) rfl rfl (q_fieldB (d := 7) rfl Try.underlying25 rfl rfl sz3 rfl) ?_
                  refine run_q (.on rfl rfl rfl g45) rfl rfl (q_loadB rfl one3 rfl Sel.here rfl) ?_
                  refine run_q (.on rfl rfl rfl g45) rfl rfl (q_move rfl rfl) ?_
                  refine run_q (.on rfl rfl rfl g45) rfl rfl (q_geq rfl rfl rfl) ?_
                  refine run_q (.none rfl) rfl rfl (q_pickF rfl rfl g45 rfl) ?_
                  refine run_q (.none rfl) rfl rfl (q_move rfl rfl) ?_
                  refine run_split 51 rfl (fun g51 => ?_) (fun g51 => ?_)
                  · have g51' := g51
                    try simp only [decide_eq_true_eq, decide_eq_false_iff_not, beq_iff_eq, beq_eq_false_iff_ne, bne_iff_ne, bne_eq_false_iff_eq, Bool.not_eq_true', Bool.not_eq_false', ne_eq, Int.not_lt, Int.not_le, Decidable.not_not] at g51'
                    refine run_off (.no rfl rfl rfl g51) rfl rfl ?_
                    refine run_off (.no rfl rfl rfl g51) rfl rfl ?_
                    refine run_off (.no rfl rfl rfl g51) rfl rfl ?_
                    refine run_off (.no rfl rfl rfl g51) rfl rfl ?_
                    refine run_q (.none rfl) rfl rfl (q_pickT rfl rfl g51 rfl) ?_
                    refine run_q (.none rfl) rfl rfl (q_move rfl rfl) ?_
                    refine run_off (.no rfl rfl rfl rfl) rfl rfl ?_
                    refine run_off (.no rfl rfl rfl rfl) rfl rfl ?_
                    refine run_off (.no rfl rfl rfl rfl) rfl rfl ?_
                    refine run_off (.no rfl rfl rfl rfl) rfl rfl ?_
                    refine run_q (.none rfl) rfl rfl (q_pickT rfl rfl rfl rfl) ?_
                    refine run_q (.none rfl) rfl rfl (q_assign rfl rfl) ?_
                    refine run_nil ?_
                    refine run_sub (subMk (.cons (s := 2) rfl (.cons (s := 4) rfl (.cons (s := 24) rfl .nil))) .refl) ?_
                    refine run_condT rfl rfl ?_
                    refine run_seq ?_
                    refine run_region ?_
                    refine run_q (.none rfl) rfl rfl (q_assign rfl rfl) ?_
                    refine run_nil ?_
                    refine run_ret ?_
                    exact end1 rfl rfl (by first | rw [spE, if_pos (by omega)] | rw [spE, if_neg (by omega), if_pos (by omega)] | rw [spE, if_neg (by omega), if_neg (by omega), if_pos ⟨by omega, by assumption, by assumption⟩] | rw [spE, if_neg (by omega), if_neg (by omega), if_neg (fun h => by simp_all)])
                  · have g51' := g51
                    try simp only [decide_eq_true_eq, decide_eq_false_iff_not, beq_iff_eq, beq_eq_false_iff_ne, bne_iff_ne, bne_eq_false_iff_eq, Bool.not_eq_true', Bool.not_eq_false', ne_eq, Int.not_lt, Int.not_le, Decidable.not_not] at g51'
                    refine run_q (.on rfl rfl rfl g51) rfl rfl (q_fieldB (d := 8) rfl Try.underlying25 rfl rfl sz3 rfl) ?_
                    refine run_q (.on rfl rfl rfl g51) rfl rfl (q_loadB rfl one3 rfl Sel.here rfl) ?_
                    refine run_q (.on rfl rfl rfl g51) rfl rfl (q_call rfl call31 (.cons rfl (.cons rfl (.cons rfl Evs.nil))) (fun w hk hm => in_just _ _ _ w)) ?_
                    refine run_q (.on rfl rfl rfl g51) rfl rfl (q_not rfl rfl) ?_
                    refine run_q (.none rfl) rfl rfl (q_pickF rfl rfl g51 rfl) ?_
                    refine run_q (.none rfl) rfl rfl (q_move rfl rfl) ?_
                    refine run_split 57 rfl (fun g57 => ?_) (fun g57 => ?_)
                    · have g57' := g57
                      try simp only [decide_eq_true_eq, decide_eq_false_iff_not, beq_iff_eq, beq_eq_false_iff_ne, bne_iff_ne, bne_eq_false_iff_eq, Bool.not_eq_true', Bool.not_eq_false', ne_eq, Int.not_lt, Int.not_le, Decidable.not_not] at g57'
                      refine run_off (.no rfl rfl rfl g57) rfl rfl ?_
                      refine run_off (.no rfl rfl rfl g57) rfl rfl ?_
                      refine run_off (.no rfl rfl rfl g57) rfl rfl ?_
                      refine run_off (.no rfl rfl rfl g57) rfl rfl ?_
                      refine run_q (.none rfl) rfl rfl (q_pickT rfl rfl g57 rfl) ?_
                      refine run_q (.none rfl) rfl rfl (q_assign rfl rfl) ?_
                      refine run_nil ?_
                      refine run_sub (subMk (.cons (s := 2) rfl (.cons (s := 4) rfl (.cons (s := 24) rfl .nil))) .refl) ?_
                      refine run_condT rfl rfl ?_
                      refine run_seq ?_
                      refine run_region ?_
                      refine run_q (.none rfl) rfl rfl (q_assign rfl rfl) ?_
                      refine run_nil ?_
                      refine run_ret ?_
                      exact end1 rfl rfl (by first | rw [spE, if_pos (by omega)] | rw [spE, if_neg (by omega), if_pos (by omega)] | rw [spE, if_neg (by omega), if_neg (by omega), if_pos ⟨by omega, by assumption, by assumption⟩] | rw [spE, if_neg (by omega), if_neg (by omega), if_neg (fun h => by simp_all)])
                    · have g57' := g57
                      try simp only [decide_eq_true_eq, decide_eq_false_iff_not, beq_iff_eq, beq_eq_false_iff_ne, bne_iff_ne, bne_eq_false_iff_eq, Bool.not_eq_true', Bool.not_eq_false', ne_eq, Int.not_lt, Int.not_le, Decidable.not_not] at g57'
                      refine run_q (.on rfl rfl rfl g57) rfl rfl (q_fieldB (d := 9) rfl Try.underlying25 rfl rfl sz3 rfl) ?_
                      refine run_q (.on rfl rfl rfl g57) rfl rfl (q_loadB rfl one3 rfl Sel.here rfl) ?_
                      refine run_q (.on rfl rfl rfl g57) rfl rfl (q_call rfl call31 (.cons rfl (.cons rfl (.cons rfl Evs.nil))) (fun w hk hm => in_just _ _ _ w)) ?_
                      refine run_q (.on rfl rfl rfl g57) rfl rfl (q_not rfl rfl) ?_
                      refine run_q (.none rfl) rfl rfl (q_pickF rfl rfl g57 rfl) ?_
                      refine run_q (.none rfl) rfl rfl (q_assign rfl rfl) ?_
                      refine run_nil ?_
                      refine run_sub (subMk (.cons (s := 2) rfl (.cons (s := 4) rfl (.cons (s := 24) rfl .nil))) .refl) ?_
                      refine run_cond rfl (fun g24 => ?_) (fun g24 => ?_)
                      · have g24' := g24
                        try simp only [decide_eq_true_eq, decide_eq_false_iff_not, beq_iff_eq, beq_eq_false_iff_ne, bne_iff_ne, bne_eq_false_iff_eq, Bool.not_eq_true', Bool.not_eq_false', ne_eq, Int.not_lt, Int.not_le, Decidable.not_not] at g24'
                        refine run_seq ?_
                        refine run_region ?_
                        refine run_q (.none rfl) rfl rfl (q_assign rfl rfl) ?_
                        refine run_nil ?_
                        refine run_ret ?_
                        exact end1 rfl rfl (by first | rw [spE, if_pos (by omega)] | rw [spE, if_neg (by omega), if_pos (by omega)] | rw [spE, if_neg (by omega), if_neg (by omega), if_pos ⟨by omega, by assumption, by assumption⟩] | rw [spE, if_neg (by omega), if_neg (by omega), if_neg (fun h => by simp_all)])
                      · have g24' := g24
                        try simp only [decide_eq_true_eq, decide_eq_false_iff_not, beq_iff_eq, beq_eq_false_iff_ne, bne_iff_ne, bne_eq_false_iff_eq, Bool.not_eq_true', Bool.not_eq_false', ne_eq, Int.not_lt, Int.not_le, Decidable.not_not] at g24'
                        refine run_seq ?_
                        refine run_region ?_
                        refine run_q (.none rfl) rfl rfl (q_fieldB (d := 6) rfl Try.underlying25 rfl rfl sz3 rfl) ?_
                        refine run_q (.none rfl) rfl rfl (q_loadB rfl one3 rfl Sel.here rfl) ?_
                        refine run_q (.none rfl) rfl rfl (q_fieldB (d := 7) rfl Try.underlying25 rfl rfl sz3 rfl) ?_
                        refine run_q (.none rfl) rfl rfl (q_loadB rfl one3 rfl Sel.here rfl) ?_
                        refine run_q (.none rfl) rfl rfl (q_eql rfl rfl rfl) ?_
                        refine run_q (.none rfl) rfl rfl (q_move rfl rfl) ?_
                        refine run_split 69 rfl (fun g69 => ?_) (fun g69 => ?_)
                        · have g69' := g69
                          try simp only [decide_eq_true_eq, decide_eq_false_iff_not, beq_iff_eq, beq_eq_false_iff_ne, bne_iff_ne, bne_eq_false_iff_eq, Bool.not_eq_true', Bool.not_eq_false', ne_eq, Int.not_lt, Int.not_le, Decidable.not_not] at g69'
                          refine run_q (.on rfl rfl rfl g69) rfl rfl (q_fieldB (d := 10) rfl Try.underlying25 rfl rfl sz4 rfl) ?_
                          refine run_q (.on rfl rfl rfl g69) rfl rfl (q_loadB rfl one4 rfl Sel.here rfl) ?_
                          refine run_q (.on rfl rfl rfl g69) rfl rfl (q_not rfl rfl) ?_
                          refine run_q (.none rfl) rfl rfl (q_pickT rfl rfl g69 rfl) ?_
                          refine run_q (.none rfl) rfl rfl (q_move rfl rfl) ?_
                          refine run_split 74 rfl (fun g74 => ?_) (fun g74 => ?_)
                          · have g74' := g74
                            try simp only [decide_eq_true_eq, decide_eq_false_iff_not, beq_iff_eq, beq_eq_false_iff_ne, bne_iff_ne, bne_eq_false_iff_eq, Bool.not_eq_true', Bool.not_eq_false', ne_eq, Int.not_lt, Int.not_le, Decidable.not_not] at g74'
                            refine run_q (.on rfl rfl rfl g74) rfl rfl (q_fieldB (d := 11) rfl Try.underlying25 rfl rfl sz4 rfl) ?_
                            refine run_q (.on rfl rfl rfl g74) rfl rfl (q_loadB rfl one4 rfl Sel.here rfl) ?_
                            refine run_q (.on rfl rfl rfl g74) rfl rfl (q_not rfl rfl) ?_
                            refine run_q (.none rfl) rfl rfl (q_pickT rfl rfl g74 rfl) ?_
                            refine run_q (.none rfl) rfl rfl (q_assign rfl rfl) ?_
                            refine run_nil ?_
                            refine run_sub (subMk (.cons (s := 4) rfl (.cons (s := 63) rfl .nil)) .refl) ?_
                            refine run_cond rfl (fun g63 => ?_) (fun g63 => ?_)
                            · have g63' := g63
                              try simp only [decide_eq_true_eq, decide_eq_false_iff_not, beq_iff_eq, beq_eq_false_iff_ne, bne_iff_ne, bne_eq_false_iff_eq, Bool.not_eq_true', Bool.not_eq_false', ne_eq, Int.not_lt, Int.not_le, Decidable.not_not] at g63'
                              refine run_seq ?_
                              refine run_region ?_
                              refine run_q (.none rfl) rfl rfl (q_assign rfl rfl) ?_
                              refine run_nil ?_
                              refine run_ret ?_
                              exact end1 rfl rfl (by first | rw [spE, if_pos (by omega)] | rw [spE, if_neg (by omega), if_pos (by omega)] | rw [spE, if_neg (by omega), if_neg (by omega), if_pos ⟨by omega, by assumption, by assumption⟩] | rw [spE, if_neg (by omega), if_neg (by omega), if_neg (fun h => by simp_all)])
                            · have g63' := g63
                              try simp only [decide_eq_true_eq, decide_eq_false_iff_not, beq_iff_eq, beq_eq_false_iff_ne, bne_iff_ne, bne_eq_false_iff_eq, Bool.not_eq_true', Bool.not_eq_false', ne_eq, Int.not_lt, Int.not_le, Decidable.not_not] at g63'
                              refine run_skip ?_
                              refine run_blk ?_
                              refine run_seq ?_
                              refine run_region ?_
                              refine run_q (.none rfl) rfl rfl (q_assign rfl rfl) ?_
                              refine run_nil ?_
                              refine run_ret ?_
                              exact end1 rfl rfl (by first | rw [spE, if_pos (by omega)] | rw [spE, if_neg (by omega), if_pos (by omega)] | rw [spE, if_neg (by omega), if_neg (by omega), if_pos ⟨by omega, by assumption, by assumption⟩] | rw [spE, if_neg (by omega), if_neg (by omega), if_neg (fun h => by simp_all)])
                          · have g74' := g74
                            try simp only [decide_eq_true_eq, decide_eq_false_iff_not, beq_iff_eq, beq_eq_false_iff_ne, bne_iff_ne, bne_eq_false_iff_eq, Bool.not_eq_true', Bool.not_eq_false', ne_eq, Int.not_lt, Int.not_le, Decidable.not_not] at g74'
                            refine run_off (.no rfl rfl rfl g74) rfl rfl ?_
                            refine run_off (.no rfl rfl rfl g74) rfl rfl ?_
                            refine run_off (.no rfl rfl rfl g74) rfl rfl ?_
                            refine run_q (.none rfl) rfl rfl (q_pickF rfl rfl g74 rfl) ?_
                            refine run_q (.none rfl) rfl rfl (q_assign rfl rfl) ?_
                            refine run_nil ?_
                            refine run_sub (subMk (.cons (s := 4) rfl (.cons (s := 63) rfl .nil)) .refl) ?_
                            refine run_condF rfl rfl ?_
                            refine run_skip ?_
                            refine run_blk ?_
                            refine run_seq ?_
                            refine run_region ?_
                            refine run_q (.none rfl) rfl rfl (q_assign rfl rfl) ?_
                            refine run_nil ?_
                            refine run_ret ?_
                            exact end1 rfl rfl (by first | rw [spE, if_pos (by omega)] | rw [spE, if_neg (by omega), if_pos (by omega)] | rw [spE, if_neg (by omega), if_neg (by omega), if_pos ⟨by omega, by assumption, by assumption⟩] | rw [spE, if_neg (by omega), if_neg (by omega), if_neg (fun h => by simp_all)])
                        · have g69' := g69
                          try simp only [decide_eq_true_eq, decide_eq_false_iff_not, beq_iff_eq, beq_eq_false_iff_ne, bne_iff_ne, bne_eq_false_iff_eq, Bool.not_eq_true', Bool.not_eq_false', ne_eq, Int.not_lt, Int.not_le, Decidable.not_not] at g69'
                          refine run_off (.no rfl rfl rfl g69) rfl rfl ?_
                          refine run_off (.no rfl rfl rfl g69) rfl rfl ?_
                          refine run_off (.no rfl rfl rfl g69) rfl rfl ?_
                          refine run_q (.none rfl) rfl rfl (q_pickF rfl rfl g69 rfl) ?_
                          refine run_q (.none rfl) rfl rfl (q_move rfl rfl) ?_
                          refine run_off (.no rfl rfl rfl rfl) rfl rfl ?_
                          refine run_off (.no rfl rfl rfl rfl) rfl rfl ?_
                          refine run_off (.no rfl rfl rfl rfl) rfl rfl ?_
                          refine run_q (.none rfl) rfl rfl (q_pickF rfl rfl rfl rfl) ?_
                          refine run_q (.none rfl) rfl rfl (q_assign rfl rfl) ?_
                          refine run_nil ?_
                          refine run_sub (subMk (.cons (s := 4) rfl (.cons (s := 63) rfl .nil)) .refl) ?_
                          refine run_condF rfl rfl ?_
                          refine run_skip ?_
                          refine run_blk ?_
                          refine run_seq ?_
                          refine run_region ?_
                          refine run_q (.none rfl) rfl rfl (q_assign rfl rfl) ?_
                          refine run_nil ?_
                          refine run_ret ?_
                          exact end1 rfl rfl (by first | rw [spE, if_pos (by omega)] | rw [spE, if_neg (by omega), if_pos (by omega)] | rw [spE, if_neg (by omega), if_neg (by omega), if_pos ⟨by omega, by assumption, by assumption⟩] | rw [spE, if_neg (by omega), if_neg (by omega), if_neg (fun h => by simp_all)])
      · have g18' := g18
        try simp only [decide_eq_true_eq, decide_eq_false_iff_not, beq_iff_eq, beq_eq_false_iff_ne, bne_iff_ne, bne_eq_false_iff_eq, Bool.not_eq_true', Bool.not_eq_false', ne_eq, Int.not_lt, Int.not_le, Decidable.not_not] at g18'
        refine run_off (.no rfl rfl rfl g18) rfl rfl ?_
        refine run_off (.no rfl rfl rfl g18) rfl rfl ?_
        refine run_off (.no rfl rfl rfl g18) rfl rfl ?_
        refine run_q (.on rfl rfl rfl g14) rfl rfl (q_pickF rfl rfl g18 rfl) ?_
        refine run_q (.none rfl) rfl rfl (q_pickF rfl rfl g14 rfl) ?_
        refine run_q (.none rfl) rfl rfl (q_assign rfl rfl) ?_
        refine run_nil ?_
        refine run_sub (subMk (.cons (s := 1) rfl (.cons (s := 2) rfl (.cons (s := 4) rfl (.cons (s := 5) rfl .nil)))) .refl) ?_
        refine run_condF rfl rfl ?_
        refine run_seq ?_
        refine run_region ?_
        refine run_q (.none rfl) rfl rfl (q_fieldB (d := 1) rfl Try.underlying25 rfl rfl sz3 rfl) ?_
        refine run_q (.none rfl) rfl rfl (q_loadB rfl one3 rfl Sel.here rfl) ?_
        refine run_q (.none rfl) rfl rfl (q_lss rfl rfl rfl) ?_
        refine run_q (.none rfl) rfl rfl (q_move rfl rfl) ?_
        refine run_split 28 rfl (fun g28 => ?_) (fun g28 => ?_)
        · have g28' := g28
          try simp only [decide_eq_true_eq, decide_eq_false_iff_not, beq_iff_eq, beq_eq_false_iff_ne, bne_iff_ne, bne_eq_false_iff_eq, Bool.not_eq_true', Bool.not_eq_false', ne_eq, Int.not_lt, Int.not_le, Decidable.not_not] at g28'
          refine run_off (.no rfl rfl rfl g28) rfl rfl ?_
          refine run_off (.no rfl rfl rfl g28) rfl rfl ?_
          refine run_off (.no rfl rfl rfl g28) rfl rfl ?_
          refine run_q (.none rfl) rfl rfl (q_pickT rfl rfl g28 rfl) ?_
          refine run_q (.none rfl) rfl rfl (q_move rfl rfl) ?_
          refine run_off (.no rfl rfl rfl rfl) rfl rfl ?_
          refine run_off (.no rfl rfl rfl rfl) rfl rfl ?_
          refine run_off (.no rfl rfl rfl rfl) rfl rfl ?_
          refine run_q (.none rfl) rfl rfl (q_pickT rfl rfl rfl rfl) ?_
          refine run_q (.none rfl) rfl rfl (q_move rfl rfl) ?_
          refine run_off (.no rfl rfl rfl rfl) rfl rfl ?_
          refine run_off (.no rfl rfl rfl rfl) rfl rfl ?_
          refine run_off (.no rfl rfl rfl rfl) rfl rfl ?_
          refine run_off (.no rfl rfl rfl rfl) rfl rfl ?_
          refine run_off (.no rfl rfl rfl rfl) rfl rfl ?_
          refine run_q (.none rfl) rfl rfl (q_pickT rfl rfl rfl rfl) ?_
          refine run_q (.none rfl) rfl rfl (q_move rfl rfl) ?_
          refine run_off (.no rfl rfl rfl rfl) rfl rfl ?_
          refine run_off (.no rfl rfl rfl rfl) rfl rfl ?_
          refine run_off (.no rfl rfl rfl rfl) rfl rfl ?_
          refine run_off (.no rfl rfl rfl rfl) rfl rfl ?_
          refine run_q (.none rfl) rfl rfl (q_pickT rfl rfl rfl rfl) ?_
          refine run_q (.none rfl) rfl rfl (q_move rfl rfl) ?_
          refine run_off (.no rfl rfl rfl rfl) rfl rfl ?_
          refine run_off (.no rfl rfl rfl rfl) rfl rfl ?_
          refine run_off (.no rfl rfl rfl rfl) rfl rfl ?_
          refine run_off (.no rfl rfl rfl rfl) rfl rfl ?_
          refine run_q (.none rfl) rfl rfl (q_pickT rfl rfl rfl rfl) ?_
          refine run_q (.none rfl) rfl rfl (q_move rfl rfl) ?_
          refine run_off (.no rfl rfl rfl rfl) rfl rfl ?_
          refine run_off (.no rfl rfl rfl rfl) rfl rfl ?_
          refine run_off (.no rfl rfl rfl rfl) rfl rfl ?_
          refine run_off (.no rfl rfl rfl rfl) rfl rfl ?_
          refine run_q (.none rfl) rfl rfl (q_pickT rfl rfl rfl rfl) ?_
          refine run_q (.none rfl) rfl rfl (q_assign rfl rfl) ?_
          refine run_nil ?_
          refine run_sub (subMk (.cons (s := 2) rfl (.cons (s := 4) rfl (.cons (s := 24) rfl .nil))) .refl) ?_
          refine run_condT rfl rfl ?_
          refine run_seq ?_
          refine run_region ?_
          refine run_q (.none rfl) rfl rfl (q_assign rfl rfl) ?_
          refine run_nil ?_
          refine run_ret ?_
          exact end1 rfl rfl (by first | rw [spE, if_pos (by omega)] | rw [spE, if_neg (by omega), if_pos (by omega)] | rw [spE, if_neg (by omega), if_neg (by omega), if_pos ⟨by omega, by assumption, by assumption⟩] | rw [spE, if_neg (by omega), if_neg (by omega), if_neg (fun h => by simp_all)])
        · have g28' := g28
          try simp only [decide_eq_true_eq, decide_eq_false_iff_not, beq_iff_eq, beq_eq_false_iff_ne, bne_iff_ne, bne_eq_false_iff_eq, Bool.not_eq_true', Bool.not_eq_false', ne_eq, Int.not_lt, Int.not_le, Decidable.not_not] at g28'
          refine run_q (.on rfl rfl rfl g28) rfl rfl (q_fieldB (d := 2) rfl Try.underlying25 rfl rfl sz3 rfl) ?_
          refine run_q (.on rfl rfl rfl g28) rfl rfl (q_loadB rfl one3 rfl Sel.here rfl) ?_
          refine run_q (.on rfl rfl rfl g28) rfl rfl (q_lss rfl rfl rfl) ?_
          refine run_q (.none rfl) rfl rfl (q_pickF rfl rfl g28 rfl) ?_
          refine run_q (.none rfl) rfl rfl (q_move rfl rfl) ?_
          refine run_split 33 rfl (fun g33 => ?_) (fun g33 => ?_)
          · have g33' := g33
            try simp only [decide_eq_true_eq, decide_eq_false_iff_not, beq_iff_eq, beq_eq_false_iff_ne, bne_iff_ne, bne_eq_false_iff_eq, Bool.not_eq_true', Bool.not_eq_false', ne_eq, Int.not_lt, Int.not_le, Decidable.not_not] at g33'
            refine run_off (.no rfl rfl rfl g33) rfl rfl ?_
            refine run_off (.no rfl rfl rfl g33) rfl rfl ?_
            refine run_off (.no rfl rfl rfl g33) rfl rfl ?_
            refine run_q (.none rfl) rfl rfl (q_pickT rfl rfl g33 rfl) ?_
            refine run_q (.none rfl) rfl rfl (q_move rfl rfl) ?_
            refine run_off (.no rfl rfl rfl rfl) rfl rfl ?_
            refine run_off (.no rfl rfl rfl rfl) rfl rfl ?_
            refine run_off (.no rfl rfl rfl rfl) rfl rfl ?_
            refine run_off (.no rfl rfl rfl rfl) rfl rfl ?_
            refine run_off (.no rfl rfl rfl rfl) rfl rfl ?_
            refine run_q (.none rfl) rfl rfl (q_pickT rfl rfl rfl rfl) ?_
            refine run_q (.none rfl) rfl rfl (q_move rfl rfl) ?_
            refine run_off (.no rfl rfl rfl rfl) rfl rfl ?_
            refine run_off (.no rfl rfl rfl rfl) rfl rfl ?_
            refine run_off (.no rfl rfl rfl rfl) rfl rfl ?_
            refine run_off (.no rfl rfl rfl rfl) rfl rfl ?_
            refine run_q (.none rfl) rfl rfl (q_pickT rfl rfl rfl rfl) ?_
            refine run_q (.none rfl) rfl rfl (q_move rfl rfl) ?_
            refine run_off (.no rfl rfl rfl rfl) rfl rfl ?_
            refine run_off (.no rfl rfl rfl rfl) rfl rfl ?_
            refine run_off (.no rfl rfl rfl rfl) rfl rfl ?_
            refine run_off (.no rfl rfl rfl rfl) rfl rfl ?_
            refine run_q (.none rfl) rfl rfl (q_pickT rfl rfl rfl rfl) ?_
            refine run_q (.none rfl) rfl rfl (q_move rfl rfl) ?_
            refine run_off (.no rfl rfl rfl rfl) rfl rfl ?_
            refine run_off (.no rfl rfl rfl rfl) rfl rfl ?_
            refine run_off (.no rfl rfl rfl rfl) rfl rfl ?_
            refine run_off (.no rfl rfl rfl rfl) rfl rfl ?_
            refine run_q (.none rfl) rfl rfl (q_pickT rfl rfl rfl rfl) ?_
            refine run_q (.none rfl) rfl rfl (q_assign rfl rfl) ?_
            refine run_nil ?_
            refine run_sub (subMk (.cons (s := 2) rfl (.cons (s := 4) rfl (.cons (s := 24) rfl .nil))) .refl) ?_
            refine run_condT rfl rfl ?_
            refine run_seq ?_
            refine run_region ?_
            refine run_q (.none rfl) rfl rfl (q_assign rfl rfl) ?_
            refine run_nil ?_
            refine run_ret ?_
            exact end1 rfl rfl (by first | rw [spE, if_pos (by omega)] | rw [spE, if_neg (by omega), if_pos (by omega)] | rw [spE, if_neg (by omega), if_neg (by omega), if_pos ⟨by omega, by assumption, by assumption⟩] | rw [spE, if_neg (by omega), if_neg (by omega), if_neg (fun h => by simp_all)])
          · have g33' := g33
            try simp only [decide_eq_true_eq, decide_eq_false_iff_not, beq_iff_eq, beq_eq_false_iff_ne, bne_iff_ne, bne_eq_false_iff_eq, Bool.not_eq_true', Bool.not_eq_false', ne_eq, Int.not_lt, Int.not_le, Decidable.not_not] at g33'
            refine run_q (.on rfl rfl rfl g33) rfl rfl (q_fieldB (d := 6) rfl Try.underlying25 rfl rfl sz3 rfl) ?_
            refine run_q (.on rfl rfl rfl g33) rfl rfl (q_loadB rfl one3 rfl Sel.here rfl) ?_
            refine run_q (.on rfl rfl rfl g33) rfl rfl (q_lss rfl rfl rfl) ?_
            refine run_q (.none rfl) rfl rfl (q_pickF rfl rfl g33 rfl) ?_
            refine run_q (.none rfl) rfl rfl (q_move rfl rfl) ?_
            refine run_split 38 rfl (fun g38 => ?_) (fun g38 => ?_)
            · have g38' := g38
              try simp only [decide_eq_true_eq, decide_eq_false_iff_not, beq_iff_eq, beq_eq_false_iff_ne, bne_iff_ne, bne_eq_false_iff_eq, Bool.not_eq_true', Bool.not_eq_false', ne_eq, Int.not_lt, Int.not_le, Decidable.not_not] at g38'
              refine run_off (.no rfl rfl rfl g38) rfl rfl ?_
              refine run_off (.no rfl rfl rfl g38) rfl rfl ?_
              refine run_off (.no rfl rfl rfl g38) rfl rfl ?_
              refine run_off (.no rfl rfl rfl g38) rfl rfl ?_
              refine run_off (.no rfl rfl rfl g38) rfl rfl ?_
              refine run_q (.none rfl) rfl rfl (q_pickT rfl rfl g38 rfl) ?_
              refine run_q (.none rfl) rfl rfl (q_move rfl rfl) ?_
              refine run_off (.no rfl rfl rfl rfl) rfl rfl ?_
              refine run_off (.no rfl rfl rfl rfl) rfl rfl ?_
              refine run_off (.no rfl rfl rfl rfl) rfl rfl ?_
              refine run_off (.no rfl rfl rfl rfl) rfl rfl ?_
              refine run_q (.none rfl) rfl rfl (q_pickT rfl rfl rfl rfl) ?_
              refine run_q (.none rfl) rfl rfl (q_move rfl rfl) ?_
              refine run_off (.no rfl rfl rfl rfl) rfl rfl ?_
              refine run_off (.no rfl rfl rfl rfl) rfl rfl ?_
              refine run_off (.no rfl rfl rfl rfl) rfl rfl ?_
              refine run_off (.no rfl rfl rfl rfl) rfl rfl ?_
              refine run_q (.none rfl) rfl rfl (q_pickT rfl rfl rfl rfl) ?_
              refine run_q (.none rfl) rfl rfl (q_move rfl rfl) ?_
              refine run_off (.no rfl rfl rfl rfl) rfl rfl ?_
              refine run_off (.no rfl rfl rfl rfl) rfl rfl ?_
              refine run_off (.no rfl rfl rfl rfl) rfl rfl ?_
              refine run_off (.no rfl rfl rfl rfl) rfl rfl ?_
              refine run_q (.none rfl) rfl rfl (q_pickT rfl rfl rfl rfl) ?_
              refine run_q (.none rfl) rfl rfl (q_assign rfl rfl) ?_
              refine run_nil ?_
              refine run_sub (subMk (.cons (s := 2) rfl (.cons (s := 4) rfl (.cons (s := 24) rfl .nil))) .refl) ?_
              refine run_condT rfl rfl ?_
              refine run_seq ?_
              refine run_region ?_
              refine run_q (.none rfl) rfl rfl (q_assign rfl rfl) ?_
              refine run_nil ?_
              refine run_ret ?_
              exact end1 rfl rfl (by first | rw [spE, if_pos (by omega)] | rw [spE, if_neg (by omega), if_pos (by omega)] | rw [spE, if_neg (by omega), if_neg (by omega), if_pos ⟨by omega, by assumption, by assumption⟩] | rw [spE, if_neg (by omega), if_neg (by omega), if_neg (fun h => by simp_all)])
            · have g38' := g38
              try simp only [decide_eq_true_eq, decide_eq_false_iff_not, beq_iff_eq, beq_eq_false_iff_ne, bne_iff_ne, bne_eq_false_iff_eq, Bool.not_eq_true', Bool.not_eq_false', ne_eq, Int.not_lt, Int.not_le, Decidable.not_not] at g38'
              refine run_q (.on rfl rfl rfl g38) rfl rfl (q_fieldB (d := 6) rfl Try.underlying25 rfl rfl sz3 rfl) ?_
              refine run_q (.on rfl rfl rfl g38) rfl rfl (q_loadB rfl one3 rfl Sel.here rfl) ?_
              refine run_q (.on rfl rfl rfl g38) rfl rfl (q_fieldB (d := 7) rfl Try.underlying25 rfl rfl sz3 rfl) ?_
              refine run_q (.on rfl rfl rfl g38) rfl rfl (q_loadB rfl one3 rfl Sel.here rfl) ?_
              refine run_q (.on rfl rfl rfl g38) rfl rfl (q_gtr rfl rfl rfl) ?_
              refine run_q (.none rfl) rfl rfl (q_pickF rfl rfl g38 rfl) ?_
              refine run_q (.none rfl) rfl rfl (q_move rfl rfl) ?_
              refine run_split 45 rfl (fun g45 => ?_) (fun g45 => ?_)
              · have g45' := g45
                try simp only [decide_eq_true_eq, decide_eq_false_iff_not, beq_iff_eq, beq_eq_false_iff_ne, bne_iff_ne, bne_eq_false_iff_eq, Bool.not_eq_true', Bool.not_eq_false', ne_eq, Int.not_lt, Int.not_le, Decidable.not_not] at g45'
                refine run_off (.no rfl rfl rfl g45) rfl rfl ?_
                refine run_off (.no rfl rfl rfl g45) rfl rfl ?_
                refine run_off (.no rfl rfl rfl g45) rfl rfl ?_
                refine run_off (.no rfl rfl rfl g45) rfl rfl ?_
                refine run_q (.none rfl) rfl rfl (q_pickT rfl rfl g45 rfl) ?_
                refine run_q (.none rfl) rfl rfl (q_move rfl rfl) ?_
                refine run_off (.no rfl rfl rfl rfl) rfl rfl ?_
                refine run_off (.no rfl rfl rfl rfl) rfl rfl ?_
                refine run_off (.no rfl rfl rfl rfl) rfl rfl ?_
                refine run_off (.no rfl rfl rfl rfl) rfl rfl ?_
                refine run_q (.none rfl) rfl rfl (q_pickT rfl rfl rfl rfl) ?_
                refine run_q (.none rfl) rfl rfl (q_move rfl rfl) ?_
                refine run_off (.no rfl rfl rfl rfl) rfl rfl ?_
                refine run_off (.no rfl rfl rfl rfl) rfl rfl ?_
                refine run_off (.no rfl rfl rfl rfl) rfl rfl ?_
                refine run_off (.no rfl rfl rfl rfl) rfl rfl ?_
                refine run_q (.none rfl) rfl rfl (q_pickT rfl rfl rfl rfl) ?_
                refine run_q (.none rfl) rfl rfl (q_assign rfl rfl) ?_
                refine run_nil ?_
                refine run_sub (subMk (.cons (s := 2) rfl (.cons (s := 4) rfl (.cons (s := 24) rfl .nil))) .refl) ?_
                refine run_condT rfl rfl ?_
                refine run_seq ?_
                refine run_region ?_
                refine run_q (.none rfl) rfl rfl (q_assign rfl rfl) ?_
                refine run_nil ?_
                refine run_ret ?_
                exact end1 rfl rfl (by first | rw [spE, if_pos (by omega)] | rw [spE, if_neg (by omega), if_pos (by omega)] | rw [spE, if_neg (by omega), if_neg (by omega), if_pos ⟨by omega, by assumption, by assumption⟩] | rw [spE, if_neg (by omega), if_neg (by omega), if_neg (fun h => by simp_all)])
              · have g45' := g45
                try simp only [decide_eq_true_eq, decide_eq_false_iff_not, beq_iff_eq, beq_eq_false_iff_ne, bne_iff_ne, bne_eq_false_iff_eq, Bool.not_eq_true', Bool.not_eq_false', ne_eq, Int.not_lt, Int.not_le, Decidable.not_not] at g45'
                refine run_q (.on rfl rfl rfl g45) rfl rfl (q_fieldB (d := 7) rfl Try.underlying25 rfl rfl sz3 rfl) ?_
                refine run_q (.on rfl rfl rfl g45) rfl rfl (q_loadB rfl one3 rfl Sel.here rfl) ?_
                refine run_q (.on rfl rfl rfl g45) rfl rfl (q_move rfl rfl) ?_
                refine run_q (.on rfl rfl rfl g45) rfl rfl (q_geq rfl rfl rfl) ?_
                refine run_q (.none rfl) rfl rfl (q_pickF rfl rfl g45 rfl) ?_
                refine run_q (.none rfl) rfl rfl (q_move rfl rfl) ?_
                refine run_split 51 rfl (fun g51 => ?_) (fun g51 => ?_)
                · have g51' := g51
                  try simp only [decide_eq_true_eq, decide_eq_false_iff_not, beq_iff_eq, beq_eq_false_iff_ne, bne_iff_ne, bne_eq_false_iff_eq, Bool.not_eq_true', Bool.not_eq_false', ne_eq, Int.not_lt, Int.not_le, Decidable.not_not] at g51'
                  refine run_off (.no rfl rfl rfl g51) rfl rfl ?_
                  refine run_off (.no rfl rfl rfl g51) rfl rfl ?_
                  refine run_off (.no rfl rfl rfl g51) rfl rfl ?_
                  refine run_off (.no rfl rfl rfl g51) rfl rfl ?_
                  refine run_q (.none rfl) rfl rfl (q_pickT rfl rfl g51 rfl) ?_
                  refine run_q (.none rfl) rfl rfl (q_move rfl rfl) ?_
                  refine run_off (.no rfl rfl rfl rfl) rfl rfl ?_
                  refine run_off (.no rfl rfl rfl rfl) rfl rfl ?_
                  refine run_off (.no rfl rfl rfl rfl) rfl rfl ?_
                  refine run_off (.no rfl rfl rfl rfl) rfl rfl ?_
                  refine run_q (.none rfl) rfl rfl (q_pickT rfl rfl rfl rfl) ?_
                  refine run_q (.none rfl) rfl rfl (q_assign rfl rfl) ?_
                  refine run_nil ?_
                  refine run_sub (subMk (.cons (s := 2) rfl (.cons (s := 4) rfl (.cons (s := 24) rfl .nil))) .refl) ?_
                  refine run_condT rfl rfl ?_
                  refine run_seq ?_
                  refine run_region ?_
                  refine run_q (.none rfl) rfl rfl (q_assign rfl rfl) ?_
                  refine run_nil ?_
                  refine run_ret ?_
                  exact end1 rfl rfl (by first | rw [spE, if_pos (by omega)] | rw [spE, if_neg (by omega), if_pos (by omega)] | rw [spE, if_neg (by omega), if_neg (by omega), if_pos ⟨by omega, by assumption, by assumption⟩] | rw [spE, if_neg (by omega), if_neg (by omega), if_neg (fun h => by simp_all)])
                · have g51' := g51
                  try simp only [decide_eq_true_eq, decide_eq_false_iff_not, beq_iff_eq, beq_eq_false_iff_ne, bne_iff_ne, bne_eq_false_iff_eq, Bool.not_eq_true', Bool.not_eq_false', ne_eq, Int.not_lt, Int.not_le, Decidable.not_not] at g51'
                  refine run_q (.on rfl rfl rfl g51) rfl rfl (q_fieldB (d := 8) rfl Try.underlying25 rfl rfl sz3 rfl) ?_
                  refine run_q (.on rfl rfl rfl g51) rfl rfl (q_loadB rfl one3 rfl Sel.here rfl) ?_
                  refine run_q (.on rfl rfl rfl g51) rfl rfl (q_call rfl call31 (.cons rfl (.cons rfl (.cons rfl Evs.nil))) (fun w hk hm => in_just _ _ _ w)) ?_
                  refine run_q (.on rfl rfl rfl g51) rfl rfl (q_not rfl rfl) ?_
                  refine run_q (.none rfl) rfl rfl (q_pickF rfl rfl g51 rfl) ?_
                  refine run_q (.none rfl) rfl rfl (q_move rfl rfl) ?_
                  refine run_split 57 rfl (fun g57 => ?_) (fun g57 => ?_)
                  · have g57' := g57
                    try simp only [decide_eq_true_eq, decide_eq_false_iff_not, beq_iff_eq, beq_eq_false_iff_ne, bne_iff_ne, bne_eq_false_iff_eq, Bool.not_eq_true', Bool.not_eq_false', ne_eq, Int.not_lt, Int.not_le, Decidable.not_not] at g57'
                    refine run_off (.no rfl rfl rfl g57) rfl rfl ?_
                    refine run_off (.no rfl rfl rfl g57) rfl rfl ?_
                    refine run_off (.no rfl rfl rfl g57) rfl rfl ?_
                    refine run_off (.no rfl rfl rfl g57) rfl rfl ?_
                    refine run_q (.none rfl) rfl rfl (q_pickT rfl rfl g57 rfl) ?_
                    refine run_q (.none rfl) rfl rfl (q_assign rfl rfl) ?_
                    refine run_nil ?_
                    refine run_sub (subMk (.cons (s := 2) rfl (.cons (s := 4) rfl (.cons (s := 24) rfl .nil))) .refl) ?_
                    refine run_condT rfl rfl ?_
                    refine run_seq ?_
                    refine run_region ?_
                    refine run_q (.none rfl) rfl rfl (q_assign rfl rfl) ?_
                    refine run_nil ?_
                    refine run_ret ?_
                    exact end1 rfl rfl (by first | rw [spE, if_pos (by omega)] | rw [spE, if_neg (by omega), if_pos (by omega)] | rw [spE, if_neg (by omega), if_neg (by omega), if_pos ⟨by omega, by assumption, by assumption⟩] | rw [spE, if_neg (by omega), if_neg (by omega), if_neg (fun h => by simp_all)])
                  · have g57' := g57
                    try simp only [decide_eq_true_eq, decide_eq_false_iff_not, beq_iff_eq, beq_eq_false_iff_ne, bne_iff_ne, bne_eq_false_iff_eq, Bool.not_eq_true', Bool.not_eq_false', ne_eq, Int.not_lt, Int.not_le, Decidable.not_not] at g57'
                    refine run_q (.on rfl rfl rfl g57) rfl rfl (q_fieldB (d := 9) rfl Try.underlying25 rfl rfl sz3 rfl) ?_
                    refine run_q (.on rfl rfl rfl g57) rfl rfl (q_loadB rfl one3 rfl Sel.here rfl) ?_
                    refine run_q (.on rfl rfl rfl g57) rfl rfl (q_call rfl call31 (.cons rfl (.cons rfl (.cons rfl Evs.nil))) (fun w hk hm => in_just _ _ _ w)) ?_
                    refine run_q (.on rfl rfl rfl g57) rfl rfl (q_not rfl rfl) ?_
                    refine run_q (.none rfl) rfl rfl (q_pickF rfl rfl g57 rfl) ?_
                    refine run_q (.none rfl) rfl rfl (q_assign rfl rfl) ?_
                    refine run_nil ?_
                    refine run_sub (subMk (.cons (s := 2) rfl (.cons (s := 4) rfl (.cons (s := 24) rfl .nil))) .refl) ?_
                    refine run_cond rfl (fun g24 => ?_) (fun g24 => ?_)
                    · have g24' := g24
                      try simp only [decide_eq_true_eq, decide_eq_false_iff_not, beq_iff_eq, beq_eq_false_iff_ne, bne_iff_ne, bne_eq_false_iff_eq, Bool.not_eq_true', Bool.not_eq_false', ne_eq, Int.not_lt, Int.not_le, Decidable.not_not] at g24'
                      refine run_seq ?_
                      refine run_region ?_
                      refine run_q (.none rfl) rfl rfl (q_assign rfl rfl) ?_
                      refine run_nil ?_
                      refine run_ret ?_
                      exact end1 rfl rfl (by first | rw [spE, if_pos (by omega)] | rw [spE, if_neg (by omega), if_pos (by omega)] | rw [spE, if_neg (by omega), if_neg (by omega), if_pos ⟨by omega, by assumption, by assumption⟩] | rw [spE, if_neg (by omega), if_neg (by omega), if_neg (fun h => by simp_all)])
                    · have g24' := g24
                      try simp only [decide_eq_true_eq, decide_eq_false_iff_not, beq_iff_eq, beq_eq_false_iff_ne, bne_iff_ne, bne_eq_false_iff_eq, Bool.not_eq_true', Bool.not_eq_false', ne_eq, Int.not_lt, Int.not_le, Decidable.not_not] at g24'
                      refine run_seq ?_
                      refine run_region ?_
                      refine run_q (.none rfl) rfl rfl (q_fieldB (d := 6) rfl Try.underlying25 rfl rfl sz3 rfl) ?_
                      refine run_q (.none rfl) rfl rfl (q_loadB rfl one3 rfl Sel.here rfl) ?_
                      refine run_q (.none rfl) rfl rfl (q_fieldB (d := 7) rfl Try.underlying25 rfl rfl sz3 rfl) ?_
                      refine run_q (.none rfl) rfl rfl (q_loadB rfl one3 rfl Sel.here rfl) ?_
                      refine run_q (.none rfl) rfl rfl (q_eql rfl rfl rfl) ?_
                      refine run_q (.none rfl) rfl rfl (q_move rfl rfl) ?_
                      refine run_split 69 rfl (fun g69 => ?_) (fun g69 => ?_)
                      · have g69' := g69
                        try simp only [decide_eq_true_eq, decide_eq_false_iff_not, beq_iff_eq, beq_eq_false_iff_ne, bne_iff_ne, bne_eq_false_iff_eq, Bool.not_eq_true', Bool.not_eq_false', ne_eq, Int.not_lt, Int.not_le, Decidable.not_not] at g69'
                        refine run_q (.on rfl rfl rfl g69) rfl rfl (q_fieldB (d := 10) rfl Try.underlying25 rfl rfl sz4 rfl) ?_
                        refine run_q (.on rfl rfl rfl g69) rfl rfl (q_loadB rfl one4 rfl Sel.here rfl) ?_
                        refine run_q (.on rfl rfl rfl g69) rfl rfl (q_not rfl rfl) ?_
                        refine run_q (.none rfl) rfl rfl (q_pickT rfl rfl g69 rfl) ?_
                        refine run_q (.none rfl) rfl rfl (q_move rfl rfl) ?_
                        refine run_split 74 rfl (fun g74 => ?_) (fun g74 => ?_)
                        · have g74' := g74
                          try simp only [decide_eq_true_eq, decide_eq_false_iff_not, beq_iff_eq, beq_eq_false_iff_ne, bne_iff_ne, bne_eq_false_iff_eq, Bool.not_eq_true', Bool.not_eq_false', ne_eq, Int.not_lt, Int.not_le, Decidable.not_not] at g74'
                          refine run_q (.on rfl rfl rfl g74) rfl rfl (q_fieldB (d := 11) rfl Try.underlying25 rfl rfl sz4 rfl) ?_
                          refine run_q (.on rfl rfl rfl g74) rfl rfl (q_loadB rfl one4 rfl Sel.here rfl) ?_
                          refine run_q (.on rfl rfl rfl g74) rfl rfl (q_not rfl rfl) ?_
                          refine run_q (.none rfl) rfl rfl (q_pickT rfl rfl g74 rfl) ?_
                          refine run_q (.none rfl) rfl rfl (q_assign rfl rfl) ?_
                          refine run_nil ?_
                          refine run_sub (subMk (.cons (s := 4) rfl (.cons (s := 63) rfl .nil)) .refl) ?_
                          refine run_cond rfl (fun g63 => ?_) (fun g63 => ?_)
                          · have g63' := g63
                            try simp only [decide_eq_true_eq, decide_eq_false_iff_not, beq_iff_eq, beq_eq_false_iff_ne, bne_iff_ne, bne_eq_false_iff_eq, Bool.not_eq_true', Bool.not_eq_false', ne_eq, Int.not_lt, Int.not_le, Decidable.not_not] at g63'
                            refine run_seq ?_
                            refine run_region ?_
                            refine run_q (.none rfl) rfl rfl (q_assign rfl rfl) ?_
                            refine run_nil ?_
                            refine run_ret ?_
                            exact end1 rfl rfl (by first | rw [spE, if_pos (by omega)] | rw [spE, if_neg (by omega), if_pos (by omega)] | rw [spE, if_neg (by omega), if_neg (by omega), if_pos ⟨by omega, by assumption, by assumption⟩] | rw [spE, if_neg (by omega), if_neg (by omega), if_neg (fun h => by simp_all)])
                          · have g63' := g63
                            try simp only [decide_eq_true_eq, decide_eq_false_iff_not, beq_iff_eq, beq_eq_false_iff_ne, bne_iff_ne, bne_eq_false_iff_eq, Bool.not_eq_true', Bool.not_eq_false', ne_eq, Int.not_lt, Int.not_le, Decidable.not_not] at g63'
                            refine run_skip ?_
                            refine run_blk ?_
                            refine run_seq ?_
                            refine run_region ?_
                            refine run_q (.none rfl) rfl rfl (q_assign rfl rfl) ?_
                            refine run_nil ?_
                            refine run_ret ?_
                            exact end1 rfl rfl (by first | rw [spE, if_pos (by omega)] | rw [spE, if_neg (by omega), if_pos (by omega)] | rw [spE, if_neg (by omega), if_neg (by omega), if_pos ⟨by omega, by assumption, by assumption⟩] | rw [spE, if_neg (by omega), if_neg (by omega), if_neg (fun h => by simp_all)])
                        · have g74' := g74
                          try simp only [decide_eq_true_eq, decide_eq_false_iff_not, beq_iff_eq, beq_eq_false_iff_ne, bne_iff_ne, bne_eq_false_iff_eq, Bool.not_eq_true', Bool.not_eq_false', ne_eq, Int.not_lt, Int.not_le, Decidable.not_not] at g74'
                          refine run_off (.no rfl rfl rfl g74) rfl rfl ?_
                          refine run_off (.no rfl rfl rfl g74) rfl rfl ?_
                          refine run_off (.no rfl rfl rfl g74) rfl rfl ?_
                          refine run_q (.none rfl) rfl rfl (q_pickF rfl rfl g74 rfl) ?_
                          refine run_q (.none rfl) rfl rfl (q_assign rfl rfl) ?_
                          refine run_nil ?_
                          refine run_sub (subMk (.cons (s := 4) rfl (.cons (s := 63) rfl .nil)) .refl) ?_
                          refine run_condF rfl rfl ?_
                          refine run_skip ?_
                          refine run_blk ?_
                          refine run_seq ?_
                          refine run_region ?_
                          refine run_q (.none rfl) rfl rfl (q_assign rfl rfl) ?_
                          refine run_nil ?_
                          refine run_ret ?_
                          exact end1 rfl rfl (by first | rw [spE, if_pos (by omega)] | rw [spE, if_neg (by omega), if_pos (by omega)] | rw [spE, if_neg (by omega), if_neg (by omega), if_pos ⟨by omega, by assumption, by assumption⟩] | rw [spE, if_neg (by omega), if_neg (by omega), if_neg (fun h => by simp_all)])
                      · have g69' := g69
                        try simp only [decide_eq_true_eq, decide_eq_false_iff_not, beq_iff_eq, beq_eq_false_iff_ne, bne_iff_ne, bne_eq_false_iff_eq, Bool.not_eq_true', Bool.not_eq_false', ne_eq, Int.not_lt, Int.not_le, Decidable.not_not] at g69'
                        refine run_off (.no rfl rfl rfl g69) rfl rfl ?_
                        refine run_off (.no rfl rfl rfl g69) rfl rfl ?_
                        refine run_off (.no rfl rfl rfl g69) rfl rfl ?_
                        refine run_q (.none rfl) rfl rfl (q_pickF rfl rfl g69 rfl) ?_
                        refine run_q (.none rfl) rfl rfl (q_move rfl rfl) ?_
                        refine run_off (.no rfl rfl rfl rfl) rfl rfl ?_
                        refine run_off (.no rfl rfl rfl rfl) rfl rfl ?_
                        refine run_off (.no rfl rfl rfl rfl) rfl rfl ?_
                        refine run_q (.none rfl) rfl rfl (q_pickF rfl rfl rfl rfl) ?_
                        refine run_q (.none rfl) rfl rfl (q_assign rfl rfl) ?_
                        refine run_nil ?_
                        refine run_sub (subMk (.cons (s := 4) rfl (.cons (s := 63) rfl .nil)) .refl) ?_
                        refine run_condF rfl rfl ?_
                        refine run_skip ?_
                        refine run_blk ?_
                        refine run_seq ?_
                        refine run_region ?_
                        refine run_q (.none rfl) rfl rfl (q_assign rfl rfl) ?_
                        refine run_nil ?_
                        refine run_ret ?_
                        exact end1 rfl rfl (by first | rw [spE, if_pos (by omega)] | rw [spE, if_neg (by omega), if_pos (by omega)] | rw [spE, if_neg (by omega), if_neg (by omega), if_pos ⟨by omega, by assumption, by assumption⟩] | rw [spE, if_neg (by omega), if_neg (by omega), if_neg (fun h => by simp_all)])
  · have g9' := g9
    try simp only [decide_eq_true_eq, decide_eq_false_iff_not, beq_iff_eq, beq_eq_false_iff_ne, bne_iff_ne, bne_eq_false_iff_eq, Bool.not_eq_true', Bool.not_eq_false', ne_eq, Int.not_lt, Int.not_le, Decidable.not_not] at g9'
    refine run_off (.no rfl rfl rfl g9) rfl rfl ?_
    refine run_off (.no rfl rfl rfl g9) rfl rfl ?_
    refine run_off (.no rfl rfl rfl g9) rfl rfl ?_
    refine run_q (.none rfl) rfl rfl (q_pickF rfl rfl g9 rfl) ?_
    refine run_q (.none rfl) rfl rfl (q_move rfl rfl) ?_
    refine run_q (.on rfl rfl rfl rfl) rfl rfl (q_fieldB (d := 3) rfl Try.underlying25 rfl rfl sz3 rfl) ?_
    refine run_q (.on rfl rfl rfl rfl) rfl rfl (q_loadB rfl one3 rfl Sel.here rfl) ?_
    refine run_q (.on rfl rfl rfl rfl) rfl rfl (q_neq rfl rfl rfl) ?_
    refine run_q (.on rfl rfl rfl rfl) rfl rfl (q_move rfl rfl) ?_
    refine run_split 18 rfl (fun g18 => ?_) (fun g18 => ?_)
    · have g18' := g18
      try simp only [decide_eq_true_eq, decide_eq_false_iff_not, beq_iff_eq, beq_eq_false_iff_ne, bne_iff_ne, bne_eq_false_iff_eq, Bool.not_eq_true', Bool.not_eq_false', ne_eq, Int.not_lt, Int.not_le, Decidable.not_not] at g18'
      refine run_q (.on rfl rfl rfl g18) rfl rfl (q_fieldB (d := 3) rfl Try.underlying25 rfl rfl sz3 rfl) ?_
      refine run_q (.on rfl rfl rfl g18) rfl rfl (q_loadB rfl one3 rfl Sel.here rfl) ?_
      refine run_q (.on rfl rfl rfl g18) rfl rfl (q_neq rfl rfl rfl) ?_
      refine run_q (.on rfl rfl rfl rfl) rfl rfl (q_pickT rfl rfl g18 rfl) ?_
      refine run_q (.none rfl) rfl rfl (q_pickF rfl rfl rfl rfl) ?_
      refine run_q (.none rfl) rfl rfl (q_assign rfl rfl) ?_
      refine run_nil ?_
      refine run_sub (subMk (.cons (s := 1) rfl (.cons (s := 2) rfl (.cons (s := 4) rfl (.cons (s := 5) rfl .nil)))) .refl) ?_
      refine run_cond rfl (fun g5 => ?_) (fun g5 => ?_)
      · have g5' := g5
        try simp only [decide_eq_true_eq, decide_eq_false_iff_not, beq_iff_eq, beq_eq_false_iff_ne, bne_iff_ne, bne_eq_false_iff_eq, Bool.not_eq_true', Bool.not_eq_false', ne_eq, Int.not_lt, Int.not_le, Decidable.not_not] at g5'
        refine run_seq ?_
        refine run_region ?_
        refine run_q (.none rfl) rfl rfl (q_assign rfl rfl) ?_
        refine run_nil ?_
        refine run_sub (subMk (.cons (s := 4) rfl .nil) .refl) ?_
        refine run_ret ?_
        exact end1 rfl rfl (by first | rw [spE, if_pos (by omega)] | rw [spE, if_neg (by omega), if_pos (by omega)] | rw [spE, if_neg (by omega), if_neg (by omega), if_pos ⟨by omega, by assumption, by assumption⟩] | rw [spE, if_neg (by omega), if_neg (by omega), if_neg (fun h => by simp_all)])
      · have g5' := g5
        try simp only [decide_eq_true_eq, decide_eq_false_iff_not, beq_iff_eq, beq_eq_false_iff_ne, bne_iff_ne, bne_eq_false_iff_eq, Bool.not_eq_true', Bool.not_eq_false', ne_eq, Int.not_lt, Int.not_le, Decidable.not_not] at g5'
        refine run_seq ?_
        refine run_region ?_
        refine run_q (.none rfl) rfl rfl (q_fieldB (d := 1) rfl Try.underlying25 rfl rfl sz3 rfl) ?_
        refine run_q (.none rfl) rfl rfl (q_loadB rfl one3 rfl Sel.here rfl) ?_
        refine run_q (.none rfl) rfl rfl (q_lss rfl rfl rfl) ?_
        refine run_q (.none rfl) rfl rfl (q_move rfl rfl) ?_
        refine run_split 28 rfl (fun g28 => ?_) (fun g28 => ?_)
        · have g28' := g28
          try simp only [decide_eq_true_eq, decide_eq_false_iff_not, beq_iff_eq, beq_eq_false_iff_ne, bne_iff_ne, bne_eq_false_iff_eq, Bool.not_eq_true', Bool.not_eq_false', ne_eq, Int.not_lt, Int.not_le, Decidable.not_not] at g28'
          refine run_off (.no rfl rfl rfl g28) rfl rfl ?_
          refine run_off (.no rfl rfl rfl g28) rfl rfl ?_
          refine run_off (.no rfl rfl rfl g28) rfl rfl ?_
          refine run_q (.none rfl) rfl rfl (q_pickT rfl rfl g28 rfl) ?_
          refine run_q (.none rfl) rfl rfl (q_move rfl rfl) ?_
          refine run_off (.no rfl rfl rfl rfl) rfl rfl ?_
          refine run_off (.no rfl rfl rfl rfl) rfl rfl ?_
          refine run_off (.no rfl rfl rfl rfl) rfl rfl ?_
          refine run_q (.none rfl) rfl rfl (q_pickT rfl rfl rfl rfl) ?_
          refine run_q (.none rfl) rfl rfl (q_move rfl rfl) ?_
          refine run_off (.no rfl rfl rfl rfl) rfl rfl ?_
          refine run_off (.no rfl rfl rfl rfl) rfl rfl ?_
          refine run_off (.no rfl rfl rfl rfl) rfl rfl ?_
          refine run_off (.no rfl rfl rfl rfl) rfl rfl ?_
          refine run_off (.no rfl rfl rfl rfl) rfl rfl ?_
          refine run_q (.none rfl) rfl rfl (q_pickT rfl rfl rfl rfl) ?_
          refine run_q (.none rfl) rfl rfl (q_move rfl rfl) ?_
          refine run_off (.no rfl rfl rfl rfl) rfl rfl ?_
          refine run_off (.no rfl rfl rfl rfl) rfl rfl ?_
          refine run_off (.no rfl rfl rfl rfl) rfl rfl ?_
          refine run_off (.no rfl rfl rfl rfl) rfl rfl ?_
          refine run_q (.none rfl) rfl rfl (q_pickT rfl rfl rfl rfl) ?_
          refine run_q (.none rfl) rfl rfl (q_move rfl rfl) ?_
          refine run_off (.no rfl rfl rfl rfl) rfl rfl ?_
          refine run_off (.no rfl rfl rfl rfl) rfl rfl ?_
          refine run_off (.no rfl rfl rfl rfl) rfl rfl ?_
          refine run_off (.no rfl rfl rfl rfl) rfl rfl ?_
          refine run_q (.none rfl) rfl rfl (q_pickT rfl rfl rfl rfl) ?_
          refine run_q (.none rfl) rfl rfl (q_move rfl rfl) ?_
          refine run_off (.no rfl rfl rfl rfl) rfl rfl ?_
          refine run_off (.no rfl rfl rfl rfl) rfl rfl ?_
          refine run_off (.no rfl rfl rfl rfl) rfl rfl ?_
          refine run_off (.no rfl rfl rfl rfl) rfl rfl ?_
          refine run_q (.none rfl) rfl rfl (q_pickT rfl rfl rfl rfl) ?_
          refine run_q (.none rfl) rfl rfl (q_assign rfl rfl) ?_
          refine run_nil ?_
          refine run_sub (subMk (.cons (s := 2) rfl (.cons (s := 4) rfl (.cons (s := 24) rfl .nil))) .refl) ?_
          refine run_condT rfl rfl ?_
          refine run_seq ?_
          refine run_region ?_
          refine run_q (.none rfl) rfl rfl (q_assign rfl rfl) ?_
          refine run_nil ?_
          refine run_ret ?_
          exact end1 rfl rfl (by first | rw [spE, if_pos (by omega)] | rw [spE, if_neg (by omega), if_pos (by omega)] | rw [spE, if_neg (by omega), if_neg (by omega), if_pos ⟨by omega, by assumption, by assumption⟩] | rw [spE, if_neg (by omega), if_neg (by omega), if_neg (fun h => by simp_all)])
        · have g28' := g28
          try simp only [decide_eq_true_eq, decide_eq_false_iff_not, beq_iff_eq, beq_eq_false_iff_ne, bne_iff_ne, bne_eq_false_iff_eq, Bool.not_eq_true', Bool.not_eq_false', ne_eq, Int.not_lt, Int.not_le, Decidable.not_not] at g28'
          refine run_q (.on rfl rfl rfl g28) rfl rfl (q_fieldB (d := 2) rfl Try.underlying25 rfl rfl sz3 rfl) ?_
          refine run_q (.on rfl rfl rfl g28) rfl rfl (q_loadB rfl one3 rfl Sel.here rfl) ?_
          refine run_q (.on rfl rfl rfl g28) rfl rfl (q_lss rfl rfl rfl) ?_
          refine run_q (.none rfl) rfl rfl (q_pickF rfl rfl g28 rfl) ?_
          refine run_q (.none rfl) rfl rfl (q_move rfl rfl) ?_
          refine run_split 33 rfl (fun g33 => ?_) (fun g33 => ?_)
          · have g33' := g33
            try simp only [decide_eq_true_eq, decide_eq_false_iff_not, beq_iff_eq, beq_eq_false_iff_ne, bne_iff_ne, bne_eq_false_iff_eq, Bool.not_eq_true', Bool.not_eq_false', ne_eq, Int.not_lt, Int.not_le, Decidable.not_not] at g33'
            refine run_off (.no rfl rfl rfl g33) rfl rfl ?_
            refine run_off (.no rfl rfl rfl g33) rfl rfl ?_
            refine run_off (.no rfl rfl rfl g33) rfl rfl ?_
            refine run_q (.none rfl) rfl rfl (q_pickT rfl rfl g33 rfl) ?_
            refine run_q (.none rfl) rfl rfl (q_move rfl rfl) ?_
            refine run_off (.no rfl rfl rfl rfl) rfl rfl ?_
            refine run_off (.no rfl rfl rfl rfl) rfl rfl ?_
            refine run_off (.no rfl rfl rfl rfl) rfl rfl ?_
            refine run_off (.no rfl rfl rfl rfl) rfl rfl ?_
            refine run_off (.no rfl rfl rfl rfl) rfl rfl ?_
            refine run_q (.none rfl) rfl rfl (q_pickT rfl rfl rfl rfl) ?_
            refine run_q (.none rfl) rfl rfl (q_move rfl rfl) ?_
            refine run_off (.no rfl rfl rfl rfl) rfl rfl ?_
            refine run_off (.no rfl rfl rfl rfl) rfl rfl ?_
            refine run_off (.no rfl rfl rfl rfl) rfl rfl ?_
            refine run_off (.no rfl rfl rfl rfl) rfl rfl ?_
            refine run_q (.none rfl) rfl rfl (q_pickT rfl rfl rfl rfl) ?_
            refine run_q (.none rfl) rfl rfl (q_move rfl rfl) ?_
            refine run_off (.no rfl rfl rfl rfl) rfl rfl ?_
            refine run_off (.no rfl rfl rfl rfl) rfl rfl ?_
            refine run_off (.no rfl rfl rfl rfl) rfl rfl ?_
            refine run_off (.no rfl rfl rfl rfl) rfl rfl ?_
            refine run_q (.none rfl) rfl rfl (q_pickT rfl rfl rfl rfl) ?_
            refine run_q (.none rfl) rfl rfl (q_move rfl rfl) ?_
            refine run_off (.no rfl rfl rfl rfl) rfl rfl ?_
            refine run_off (.no rfl rfl rfl rfl) rfl rfl ?_
            refine run_off (.no rfl rfl rfl rfl) rfl rfl ?_
            refine run_off (.no rfl rfl rfl rfl) rfl rfl ?_
            refine run_q (.none rfl) rfl rfl (q_pickT rfl rfl rfl rfl) ?_
            refine run_q (.none rfl) rfl rfl (q_assign rfl rfl) ?_
            refine run_nil ?_
            refine run_sub (subMk (.cons (s := 2) rfl (.cons (s := 4) rfl (.cons (s := 24) rfl .nil))) .refl) ?_
            refine run_condT rfl rfl ?_
            refine run_seq ?_
            refine run_region ?_
            refine run_q (.none rfl) rfl rfl (q_assign rfl rfl) ?_
            refine run_nil ?_
            refine run_ret ?_
            exact end1 rfl rfl (by first | rw [spE, if_pos (by omega)] | rw [spE, if_neg (by omega), if_pos (by omega)] | rw [spE, if_neg (by omega), if_neg (by omega), if_pos ⟨by omega, by assumption, by assumption⟩] | rw [spE, if_neg (by omega), if_neg (by omega), if_neg (fun h => by simp_all)])
          · have g33' := g33
            try simp only [decide_eq_true_eq, decide_eq_false_iff_not, beq_iff_eq, beq_eq_false_iff_ne, bne_iff_ne, bne_eq_false_iff_eq, Bool.not_eq_true', Bool.not_eq_false', ne_eq, Int.not_lt, Int.not_le, Decidable.not_not] at g33'
            refine run_q (.on rfl rfl rfl g33) rfl rfl (q_fieldB (d := 6) rfl Try.underlying25 rfl rfl sz3 rfl) ?_
            refine run_q (.on rfl rfl rfl g33) rfl rfl (q_loadB rfl one3 rfl Sel.here rfl) ?_
            refine run_q (.on rfl rfl rfl g33) rfl rfl (q_lss rfl rfl rfl) ?_
            refine run_q (.none rfl) rfl rfl (q_pickF rfl rfl g33 rfl) ?_
            refine run_q (.none rfl) rfl rfl (q_move rfl rfl) ?_
            refine run_split 38 rfl (fun g38 => ?_) (fun g38 => ?_)
            · have g38' := g38
              try simp only [decide_eq_true_eq, decide_eq_false_iff_not, beq_iff_eq, beq_eq_false_iff_ne, bne_iff_ne, bne_eq_false_iff_eq, Bool.not_eq_true', Bool.not_eq_false', ne_eq, Int.not_lt, Int.not_le, Decidable.not_not] at g38'
              refine run_off (.no rfl rfl rfl g38) rfl rfl ?_
              refine run_off (.no rfl rfl rfl g38) rfl rfl ?_
              refine run_off (.no rfl rfl rfl g38) rfl rfl ?_
              refine run_off (.no rfl rfl rfl g38) rfl rfl ?_
              refine run_off (.no rfl rfl rfl g38) rfl rfl ?_
              refine run_q (.none rfl) rfl rfl (q_pickT rfl rfl g38 rfl) ?_
              refine run_q (.none rfl) rfl rfl (q_move rfl rfl) ?_
              refine run_off (.no rfl rfl rfl rfl) rfl rfl ?_
              refine run_off (.no rfl rfl rfl rfl) rfl rfl ?_
              refine run_off (.no rfl rfl rfl rfl) rfl rfl ?_
              refine run_off (.no rfl rfl rfl rfl) rfl rfl ?_
              refine run_q (.none rfl) rfl rfl (q_pickT rfl rfl rfl rfl) ?_
              refine run_q (.none rfl) rfl rfl (q_move rfl rfl) ?_
              refine run_off (.no rfl rfl rfl rfl) rfl rfl ?_
              refine run_off (.no rfl rfl rfl rfl) rfl rfl ?_
              refine run_off (.no rfl rfl rfl rfl) rfl rfl ?_
              refine run_off (.no rfl rfl rfl rfl) rfl rfl ?_
              refine run_q (.none rfl) rfl rfl (q_pickT rfl rfl rfl rfl) ?_
              refine run_q (.none rfl) rfl rfl (q_move rfl rfl) ?_
              refine run_off (.no rfl rfl rfl rfl) rfl rfl ?_
              refine run_off (.no rfl rfl rfl rfl) rfl rfl ?_
              refine run_off (.no rfl rfl rfl rfl) rfl rfl ?_
              refine run_off (.no rfl rfl rfl rfl) rfl rfl ?_
              refine run_q (.none rfl) rfl rfl (q_pickT rfl rfl rfl rfl) ?_
              refine run_q (.none rfl) rfl rfl (q_assign rfl rfl) ?_
              refine run_nil ?_
              refine run_sub (subMk (.cons (s := 2) rfl (.cons (s := 4) rfl (.cons (s := 24) rfl .nil))) .refl) ?_
              refine run_condT rfl rfl ?_
              refine run_seq ?_
              refine run_region ?_
              refine run_q (.none rfl) rfl rfl (q_assign rfl rfl) ?_
              refine run_nil ?_
              refine run_ret ?_
              exact end1 rfl rfl (by first | rw [spE, if_pos (by omega)] | rw [spE, if_neg (by omega), if_pos (by omega)] | rw [spE, if_neg (by omega), if_neg (by omega), if_pos ⟨by omega, by assumption, by assumption⟩] | rw [spE, if_neg (by omega), if_neg (by omega), if_neg (fun h => by simp_all)])
            · have g38' := g38
              try simp only [decide_eq_true_eq, decide_eq_false_iff_not, beq_iff_eq, beq_eq_false_iff_ne, bne_iff_ne, bne_eq_false_iff_eq, Bool.not_eq_true', Bool.not_eq_false', ne_eq, Int.not_lt, Int.not_le, Decidable.not_not] at g38'
              refine run_q (.on rfl rfl rfl g38) rfl rfl (q_fieldB (d := 6) rfl Try.underlying25 rfl rfl sz3 rfl) ?_
              refine run_q (.on rfl rfl rfl g38) rfl rfl (q_loadB rfl one3 rfl Sel.here rfl) ?_
              refine run_q (.on rfl rfl rfl g38) rfl rfl (q_fieldB (d := 7) rfl Try.underlying25 rfl rfl sz3 rfl) ?_
              refine run_q (.on rfl rfl rfl g38) rfl rfl (q_loadB rfl one3 rfl Sel.here rfl) ?_
              refine run_q (.on rfl rfl rfl g38) rfl rfl (q_gtr rfl rfl rfl) ?_
              refine run_q (.none rfl) rfl rfl (q_pickF rfl rfl g38 rfl) ?_
              refine run_q (.none rfl) rfl rfl (q_move rfl rfl) ?_
              refine run_split 45 rfl (fun g45 => ?_) (fun g45 => ?_)
              · have g45' := g45
                try simp only [decide_eq_true_eq, decide_eq_false_iff_not, beq_iff_eq, beq_eq_false_iff_ne, bne_iff_ne, bne_eq_false_iff_eq, Bool.not_eq_true', Bool.not_eq_false', ne_eq, Int.not_lt, Int.not_le, Decidable.not_not] at g45'
                refine run_off (.no rfl rfl rfl g45) rfl rfl ?_
                refine run_off (.no rfl rfl rfl g45) rfl rfl ?_
                refine run_off (.no rfl rfl rfl g45) rfl rfl ?_
                refine run_off (.no rfl rfl rfl g45) rfl rfl ?_
                refine run_q (.none rfl) rfl rfl (q_pickT rfl rfl g45 rfl) ?_
                refine run_q (.none rfl) rfl rfl (q_move rfl rfl) ?_
                refine run_off (.no rfl rfl rfl rfl) rfl rfl ?_
                refine run_off (.no rfl rfl rfl rfl) rfl rfl ?_
                refine run_off (.no rfl rfl rfl rfl) rfl rfl ?_
                refine run_off (.no rfl rfl rfl rfl) rfl rfl ?_
                refine run_q (.none rfl) rfl rfl (q_pickT rfl rfl rfl rfl) ?_
                refine run_q (.none rfl) rfl rfl (q_move rfl rfl) ?_
                refine run_off (.no rfl rfl rfl rfl) rfl rfl ?_
                refine run_off (.no rfl rfl rfl rfl) rfl rfl ?_
                refine run_off (.no rfl rfl rfl rfl) rfl rfl ?_
                refine run_off (.no rfl rfl rfl rfl) rfl rfl ?_
                refine run_q (.none rfl) rfl rfl (q_pickT rfl rfl rfl rfl) ?_
                refine run_q (.none rfl) rfl rfl (q_assign rfl rfl) ?_
                refine run_nil ?_
                refine run_sub (subMk (.cons (s := 2) rfl (.cons (s := 4) rfl (.cons (s := 24) rfl .nil))) .refl) ?_
                refine run_condT rfl rfl ?_
                refine run_seq ?_
                refine run_region ?_
                refine run_q (.none rfl) rfl rfl (q_assign rfl rfl) ?_
                refine run_nil ?_
                refine run_ret ?_
                exact end1 rfl rfl (by first | rw [spE, if_pos (by omega)] | rw [spE, if_neg (by omega), if_pos (by omega)] | rw [spE, if_neg (by omega), if_neg (by omega), if_pos ⟨by omega, by assumption, by assumption⟩] | rw [spE, if_neg (by omega), if_neg (by omega), if_neg (fun h => by simp_all)])
              · have g45' := g45
                try simp only [decide_eq_true_eq, decide_eq_false_iff_not, beq_iff_eq, beq_eq_false_iff_ne, bne_iff_ne, bne_eq_false_iff_eq, Bool.not_eq_true', Bool.not_eq_false', ne_eq, Int.not_lt, Int.not_le, Decidable.not_not] at g45'
                refine run_q (.on rfl rfl rfl g45) rfl rfl (q_fieldB (d := 7) rfl Try.underlying25 rfl rfl sz3 rfl) ?_
                refine run_q (.on rfl rfl rfl g45) rfl rfl (q_loadB rfl one3 rfl Sel.here rfl) ?_
                refine run_q (.on rfl rfl rfl g45) rfl rfl (q_move rfl rfl) ?_
                refine run_q (.on rfl rfl rfl g45) rfl rfl (q_geq rfl rfl rfl) ?_
                refine run_q (.none rfl) rfl rfl (q_pickF rfl rfl g45 rfl) ?_
                refine run_q (.none rfl) rfl rfl (q_move rfl rfl) ?_
                refine run_split 51 rfl (fun g51 => ?_) (fun g51 => ?_)
                · have g51' := g51
                  try simp only [decide_eq_true_eq, decide_eq_false_iff_not, beq_iff_eq, beq_eq_false_iff_ne, bne_iff_ne, bne_eq_false_iff_eq, Bool.not_eq_true', Bool.not_eq_false', ne_eq, Int.not_lt, Int.not_le, Decidable.not_not] at g51'
                  refine run_off (.no rfl rfl rfl g51) rfl rfl ?_
                  refine run_off (.no rfl rfl rfl g51) rfl rfl ?_
                  refine run_off (.no rfl rfl rfl g51) rfl rfl ?_
                  refine run_off (.no rfl rfl rfl g51) rfl rfl ?_
                  refine run_q (.none rfl) rfl rfl (q_pickT rfl rfl g51 rfl) ?_
                  refine run_q (.none rfl) rfl rfl (q_move rfl rfl) ?_
                  refine run_off (.no rfl rfl rfl rfl) rfl rfl ?_
                  refine run_off (.no rfl rfl rfl rfl) rfl rfl ?_
                  refine run_off (.no rfl rfl rfl rfl) rfl rfl ?_
                  refine run_off (.no rfl rfl rfl rfl) rfl rfl ?_
                  refine run_q (.none rfl) rfl rfl (q_pickT rfl rfl rfl rfl) ?_
                  refine run_q (.none rfl) rfl rfl (q_assign rfl rfl) ?_
                  refine run_nil ?_
                  refine run_sub (subMk (.cons (s := 2) rfl (.cons (s := 4) rfl (.cons (s := 24) rfl .nil))) .refl) ?_
                  refine run_condT rfl rfl ?_
                  refine run_seq ?_
                  refine run_region ?_
                  refine run_q (.none rfl) rfl rfl (q_assign rfl rfl) ?_
                  refine run_nil ?_
                  refine run_ret ?_
                  exact end1 rfl rfl (by first | rw [spE, if_pos (by omega)] | rw [spE, if_neg (by omega), if_pos (by omega)] | rw [spE, if_neg (by omega), if_neg (by omega), if_pos ⟨by omega, by assumption, by assumption⟩] | rw [spE, if_neg (by omega), if_neg (by omega), if_neg (fun h => by simp_all)])
                · have g51' := g51
                  try simp only [decide_eq_true_eq, decide_eq_false_iff_not, beq_iff_eq, beq_eq_false_iff_ne, bne_iff_ne, bne_eq_false_iff_eq, Bool.not_eq_true', Bool.not_eq_false', ne_eq, Int.not_lt, Int.not_le, Decidable.not_not] at g51'
                  refine run_q (.on rfl rfl rfl g51) rfl rfl (q_fieldB (d := 8) rfl Try.underlying25 rfl rfl sz3 rfl) ?_
                  refine run_q (.on rfl rfl rfl g51) rfl rfl (q_loadB rfl one3 rfl Sel.here rfl) ?_
                  refine run_q (.on rfl rfl rfl g51) rfl rfl (q_call rfl call31 (.cons rfl (.cons rfl (.cons rfl Evs.nil))) (fun w hk hm => in_just _ _ _ w)) ?_
                  refine run_q (.on rfl rfl rfl g51) rfl rfl (q_not rfl rfl) ?_
                  refine run_q (.none rfl) rfl rfl (q_pickF rfl rfl g51 rfl) ?_
                  refine run_q (.none rfl) rfl rfl (q_move rfl rfl) ?_
                  refine run_split 57 rfl (fun g57 => ?_) (fun g57 => ?_)
                  · have g57' := g57
                    try simp only [decide_eq_true_eq, decide_eq_false_iff_not, beq_iff_eq, beq_eq_false_iff_ne, bne_iff_ne, bne_eq_false_iff_eq, Bool.not_eq_true', Bool.not_eq_false', ne_eq, Int.not_lt, Int.not_le, Decidable.not_not] at g57'
                    refine run_off (.no rfl rfl rfl g57) rfl rfl ?_
                    refine run_off (.no rfl rfl rfl g57) rfl rfl ?_
                    refine run_off (.no rfl rfl rfl g57) rfl rfl ?_
                    refine run_off (.no rfl rfl rfl g57) rfl rfl ?_
                    refine run_q (.none rfl) rfl rfl (q_pickT rfl rfl g57 rfl) ?_
                    refine run_q (.none rfl) rfl rfl (q_assign rfl rfl) ?_
                    refine run_nil ?_
                    refine run_sub (subMk (.cons (s := 2) rfl (.cons (s := 4) rfl (.cons (s := 24) rfl .nil))) .refl) ?_
                    refine run_condT rfl rfl ?_
                    refine run_seq ?_
                    refine run_region ?_
                    refine run_q (.none rfl) rfl rfl (q_assign rfl rfl) ?_
                    refine run_nil ?_
                    refine run_ret ?_
                    exact end1 rfl rfl (by first | rw [spE, if_pos (by omega)] | rw [spE, if_neg (by omega), if_pos (by omega)] | rw [spE, if_neg (by omega), if_neg (by omega), if_pos ⟨by omega, by assumption, by assumption⟩] | rw [spE, if_neg (by omega), if_neg (by omega), if_neg (fun h => by simp_all)])
                  · have g57' := g57
                    try simp only [decide_eq_true_eq, decide_eq_false_iff_not, beq_iff_eq, beq_eq_false_iff_ne, bne_iff_ne, bne_eq_false_iff_eq, Bool.not_eq_true', Bool.not_eq_false', ne_eq, Int.not_lt, Int.not_le, Decidable.not_not] at g57'
                    refine run_q (.on rfl rfl rfl g57) rfl rfl (q_fieldB (d := 9) rfl Try.underlying25 rfl rfl sz3 rfl) ?_
                    refine run_q (.on rfl rfl rfl g57) rfl rfl (q_loadB rfl one3 rfl Sel.here rfl) ?_
                    refine run_q (.on rfl rfl rfl g57) rfl rfl (q_call rfl call31 (.cons rfl (.cons rfl (.cons rfl Evs.nil))) (fun w hk hm => in_just _ _ _ w)) ?_
                    refine run_q (.on rfl rfl rfl g57) rfl rfl (q_not rfl rfl) ?_
                    refine run_q (.none rfl) rfl rfl (q_pickF rfl rfl g57 rfl) ?_
                    refine run_q (.none rfl) rfl rfl (q_assign rfl rfl) ?_
                    refine run_nil ?_
                    refine run_sub (subMk (.cons (s := 2) rfl (.cons (s := 4) rfl (.cons (s := 24) rfl .nil))) .refl) ?_
                    refine run_cond rfl (fun g24 => ?_) (fun g24 => ?_)
                    · have g24' := g24
                      try simp only [decide_eq_true_eq, decide_eq_false_iff_not, beq_iff_eq, beq_eq_false_iff_ne, bne_iff_ne, bne_eq_false_iff_eq, Bool.not_eq_true', Bool.not_eq_false', ne_eq, Int.not_lt, Int.not_le, Decidable.not_not] at g24'
                      refine run_seq ?_
                      refine run_region ?_
                      refine run_q (.none rfl) rfl rfl (q_assign rfl rfl) ?_
                      refine run_nil ?_
                      refine run_ret ?_
                      exact end1 rfl rfl (by first | rw [spE, if_pos (by omega)] | rw [spE, if_neg (by omega), if_pos (by omega)] | rw [spE, if_neg (by omega), if_neg (by omega), if_pos ⟨by omega, by assumption, by assumption⟩] | rw [spE, if_neg (by omega), if_neg (by omega), if_neg (fun h => by simp_all)])
                    · have g24' := g24
                      try simp only [decide_eq_true_eq, decide_eq_false_iff_not, beq_iff_eq, beq_eq_false_iff_ne, bne_iff_ne, bne_eq_false_iff_eq, Bool.not_eq_true', Bool.not_eq_false', ne_eq, Int.not_lt, Int.not_le, Decidable.not_not] at g24'
                      refine run_seq ?_
                      refine run_region ?_
                      refine run_q (.none rfl) rfl rfl (q_fieldB (d := 6) rfl Try.underlying25 rfl rfl sz3 rfl) ?_
                      refine run_q (.none rfl) rfl rfl (q_loadB rfl one3 rfl Sel.here rfl) ?_
                      refine run_q (.none rfl) rfl rfl (q_fieldB (d := 7) rfl Try.underlying25 rfl rfl sz3 rfl) ?_
                      refine run_q (.none rfl) rfl rfl (q_loadB rfl one3 rfl Sel.here rfl) ?_
                      refine run_q (.none rfl) rfl rfl (q_eql rfl rfl rfl) ?_
                      refine run_q (.none rfl) rfl rfl (q_move rfl rfl) ?_
                      refine run_split 69 rfl (fun g69 => ?_) (fun g69 => ?_)
                      · have g69' := g69
                        try simp only [decide_eq_true_eq, decide_eq_false_iff_not, beq_iff_eq, beq_eq_false_iff_ne, bne_iff_ne, bne_eq_false_iff_eq, Bool.not_eq_true', Bool.not_eq_false', ne_eq, Int.not_lt, Int.not_le, Decidable.not_not] at g69'
                        refine run_q (.on rfl rfl rfl g69) rfl rfl (q_fieldB (d := 10) rfl Try.underlying25 rfl rfl sz4 rfl) ?_
                        refine run_q (.on rfl rfl rfl g69) rfl rfl (q_loadB rfl one4 rfl Sel.here rfl) ?_
                        refine run_q (.on rfl rfl rfl g69) rfl rfl (q_not rfl rfl) ?_
                        refine run_q (.none rfl) rfl rfl (q_pickT rfl rfl g69 rfl) ?_
                        refine run_q (.none rfl) rfl rfl (q_move rfl rfl) ?_
                        refine run_split 74 rfl (fun g74 => ?_) (fun g74 => ?_)
                        · have g74' := g74
                          try simp only [decide_eq_true_eq, decide_eq_false_iff_not, beq_iff_eq, beq_eq_false_iff_ne, bne_iff_ne, bne_eq_false_iff_eq, Bool.not_eq_true', Bool.not_eq_false', ne_eq, Int.not_lt, Int.not_le, Decidable.not_not] at g74'
                          refine run_q (.on rfl rfl rfl g74) rfl rfl (q_fieldB (d := 11) rfl Try.underlying25 rfl rfl sz4 rfl) ?_
                          refine run_q (.on rfl rfl rfl g74) rfl rfl (q_loadB rfl one4 rfl Sel.here rfl) ?_
                          refine run_q (.on rfl rfl rfl g74) rfl rfl (q_not rfl rfl) ?_
                          refine run_q (.none rfl) rfl rfl (q_pickT rfl rfl g74 rfl) ?_
                          refine run_q (.none rfl) rfl rfl (q_assign rfl rfl) ?_
                          refine run_nil ?_
                          refine run_sub (subMk (.cons (s := 4) rfl (.cons (s := 63) rfl .nil)) .refl) ?_
                          refine run_cond rfl (fun g63 => ?_) (fun g63 => ?_)
                          · have g63' := g63
                            try simp only [decide_eq_true_eq, decide_eq_false_iff_not, beq_iff_eq, beq_eq_false_iff_ne, bne_iff_ne, bne_eq_false_iff_eq, Bool.not_eq_true', Bool.not_eq_false', ne_eq, Int.not_lt, Int.not_le, Decidable.not_not] at g63'
                            refine run_seq ?_
                            refine run_region ?_
                            refine run_q (.none rfl) rfl rfl (q_assign rfl rfl) ?_
                            refine run_nil ?_
                            refine run_ret ?_
                            exact end1 rfl rfl (by first | rw [spE, if_pos (by omega)] | rw [spE, if_neg (by omega), if_pos (by omega)] | rw [spE, if_neg (by omega), if_neg (by omega), if_pos ⟨by omega, by assumption, by assumption⟩] | rw [spE, if_neg (by omega), if_neg (by omega), if_neg (fun h => by simp_all)])
                          · have g63' := g63
                            try simp only [decide_eq_true_eq, decide_eq_false_iff_not, beq_iff_eq, beq_eq_false_iff_ne, bne_iff_ne, bne_eq_false_iff_eq, Bool.not_eq_true', Bool.not_eq_false', ne_eq, Int.not_lt, Int.not_le, Decidable.not_not] at g63'
                            refine run_skip ?_
                            refine run_blk ?_
                            refine run_seq ?_
                            refine run_region ?_
                            refine run_q (.none rfl) rfl rfl (q_assign rfl rfl) ?_
                            refine run_nil ?_
                            refine run_ret ?_
                            exact end1 rfl rfl (by first | rw [spE, if_pos (by omega)] | rw [spE, if_neg (by omega), if_pos (by omega)] | rw [spE, if_neg (by omega), if_neg (by omega), if_pos ⟨by omega, by assumption, by assumption⟩] | rw [spE, if_neg (by omega), if_neg (by omega), if_neg (fun h => by simp_all)])
                        · have g74' := g74
                          try simp only [decide_eq_true_eq, decide_eq_false_iff_not, beq_iff_eq, beq_eq_false_iff_ne, bne_iff_ne, bne_eq_false_iff_eq, Bool.not_eq_true', Bool.not_eq_false', ne_eq, Int.not_lt, Int.not_le, Decidable.not_not] at g74'
                          refine run_off (.no rfl rfl rfl g74) rfl rfl ?_
                          refine run_off (.no rfl rfl rfl g74) rfl rfl ?_
                          refine run_off (.no rfl rfl rfl g74) rfl rfl ?_
                          refine run_q (.none rfl) rfl rfl (q_pickF rfl rfl g74 rfl) ?_
                          refine run_q (.none rfl) rfl rfl (q_assign rfl rfl) ?_
                          refine run_nil ?_
                          refine run_sub (subMk (.cons (s := 4) rfl (.cons (s := 63) rfl .nil)) .refl) ?_
                          refine run_condF rfl rfl ?_
                          refine run_skip ?_
                          refine run_blk ?_
                          refine run_seq ?_
                          refine run_region ?_
                          refine run_q (.none rfl) rfl rfl (q_assign rfl rfl) ?_
                          refine run_nil ?_
                          refine run_ret ?_
                          exact end1 rfl rfl (by first | rw [spE, if_pos (by omega)] | rw [spE, if_neg (by omega), if_pos (by omega)] | rw [spE, if_neg (by omega), if_neg (by omega), if_pos ⟨by omega, by assumption, by assumption⟩] | rw [spE, if_neg (by omega), if_neg (by omega), if_neg (fun h => by simp_all)])
                      · have g69' := g69
                        try simp only [decide_eq_true_eq, decide_eq_false_iff_not, beq_iff_eq, beq_eq_false_iff_ne, bne_iff_ne, bne_eq_false_iff_eq, Bool.not_eq_true', Bool.not_eq_false', ne_eq, Int.not_lt, Int.not_le, Decidable.not_not] at g69'
                        refine run_off (.no rfl rfl rfl g69) rfl rfl ?_
                        refine run_off (.no rfl rfl rfl g69) rfl rfl ?_
                        refine run_off (.no rfl rfl rfl g69) rfl rfl ?_
                        refine run_q (.none rfl) rfl rfl (q_pickF rfl rfl g69 rfl) ?_
                        refine run_q (.none rfl) rfl rfl (q_move rfl rfl) ?_
                        refine run_off (.no rfl rfl rfl rfl) rfl rfl ?_
                        refine run_off (.no rfl rfl rfl rfl) rfl rfl ?_
                        refine run_off (.no rfl rfl rfl rfl) rfl rfl ?_
                        refine run_q (.none rfl) rfl rfl (q_pickF rfl rfl rfl rfl) ?_
                        refine run_q (.none rfl) rfl rfl (q_assign rfl rfl) ?_
                        refine run_nil ?_
                        refine run_sub (subMk (.cons (s := 4) rfl (.cons (s := 63) rfl .nil)) .refl) ?_
                        refine run_condF rfl rfl ?_
                        refine run_skip ?_
                        refine run_blk ?_
                        refine run_seq ?_
                        refine run_region ?_
                        refine run_q (.none rfl) rfl rfl (q_assign rfl rfl) ?_
                        refine run_nil ?_
                        refine run_ret ?_
                        exact end1 rfl rfl (by first | rw [spE, if_pos (by omega)] | rw [spE, if_neg (by omega), if_pos (by omega)] | rw [spE, if_neg (by omega), if_neg (by omega), if_pos ⟨by omega, by assumption, by assumption⟩] | rw [spE, if_neg (by omega), if_neg (by omega), if_neg (fun h => by simp_all)])
    · have g18' := g18
      try simp only [decide_eq_true_eq, decide_eq_false_iff_not, beq_iff_eq, beq_eq_false_iff_ne, bne_iff_ne, bne_eq_false_iff_eq, Bool.not_eq_true', Bool.not_eq_false', ne_eq, Int.not_lt, Int.not_le, Decidable.not_not] at g18'
      refine run_off (.no rfl rfl rfl g18) rfl rfl ?_
      refine run_off (.no rfl rfl rfl g18) rfl rfl ?_
      refine run_off (.no rfl rfl rfl g18) rfl rfl ?_
      refine run_q (.on rfl rfl rfl rfl) rfl rfl (q_pickF rfl rfl g18 rfl) ?_
      refine run_q (.none rfl) rfl rfl (q_pickF rfl rfl rfl rfl) ?_
      refine run_q (.none rfl) rfl rfl (q_assign rfl rfl) ?_
      refine run_nil ?_
      refine run_sub (subMk (.cons (s := 1) rfl (.cons (s := 2) rfl (.cons (s := 4) rfl (.cons (s := 5) rfl .nil)))) .refl) ?_
      refine run_condF rfl rfl ?_
      refine run_seq ?_
      refine run_region ?_
      refine run_q (.none rfl) rfl rfl (q_fieldB (d := 1) rfl Try.underlying25 rfl rfl sz3 rfl) ?_
      refine run_q (.none rfl) rfl rfl (q_loadB rfl one3 rfl Sel.here rfl) ?_
      refine run_q (.none rfl) rfl rfl (q_lss rfl rfl rfl) ?_
      refine run_q (.none rfl) rfl rfl (q_move rfl rfl) ?_
      refine run_split 28 rfl (fun g28 => ?_) (fun g28 => ?_)
      · have g28' := g28
        try simp only [decide_eq_true_eq, decide_eq_false_iff_not, beq_iff_eq, beq_eq_false_iff_ne, bne_iff_ne, bne_eq_false_iff_eq, Bool.not_eq_true', Bool.not_eq_false', ne_eq, Int.not_lt, Int.not_le, Decidable.not_not] at g28'
        refine run_off (.no rfl rfl rfl g28) rfl rfl ?_
        refine run_off (.no rfl rfl rfl g28) rfl rfl ?_
        refine run_off (.no rfl rfl rfl g28) rfl rfl ?_
        refine run_q (.none rfl) rfl rfl (q_pickT rfl rfl g28 rfl) ?_
        refine run_q (.none rfl) rfl rfl (q_move rfl rfl) ?_
        refine run_off (.no rfl rfl rfl rfl) rfl rfl ?_
        refine run_off (.no rfl rfl rfl rfl) rfl rfl ?_
        refine run_off (.no rfl rfl rfl rfl) rfl rfl ?_
        refine run_q (.none rfl) rfl rfl (q_pickT rfl rfl rfl rfl) ?_
        refine run_q (.none rfl) rfl rfl (q_move rfl rfl) ?_
        refine run_off (.no rfl rfl rfl rfl) rfl rfl ?_
        refine run_off (.no rfl rfl rfl rfl) rfl rfl ?_
        refine run_off (.no rfl rfl rfl rfl) rfl rfl ?_
        refine run_off (.no rfl rfl rfl rfl) rfl rfl ?_
        refine run_off (.no rfl rfl rfl rfl) rfl rfl ?_
        refine run_q (.none rfl) rfl rfl (q_pickT rfl rfl rfl rfl) ?_
        refine run_q (.none rfl) rfl rfl (q_move rfl rfl) ?_
        refine run_off (.no rfl rfl rfl rfl) rfl rfl ?_
        refine run_off (.no rfl rfl rfl rfl) rfl rfl ?_
        refine run_off (.no rfl rfl rfl rfl) rfl rfl ?_
        refine run_off (.no rfl rfl rfl rfl) rfl rfl ?_
        refine run_q (.none rfl) rfl rfl (q_pickT rfl rfl rfl rfl) ?_
        refine run_q (.none rfl) rfl rfl (q_move rfl rfl) ?_
        refine run_off (.no rfl rfl rfl rfl) rfl rfl ?_
        refine run_off (.no rfl rfl rfl rfl) rfl rfl ?_
        refine run_off (.no rfl rfl rfl rfl) rfl rfl ?_
        refine run_off (.no rfl rfl rfl rfl) rfl rfl ?_
        refine run_q (.none rfl) rfl rfl (q_pickT rfl rfl rfl rfl) ?_
        refine run_q (.none rfl) rfl rfl (q_move rfl rfl) ?_
        refine run_off (.no rfl rfl rfl rfl) rfl rfl ?_
        refine run_off (.no rfl rfl rfl rfl) rfl rfl ?_
        refine run_off (.no rfl rfl rfl rfl) rfl rfl ?_
        refine run_off (.no rfl rfl rfl rfl) rfl rfl ?_
        refine run_q (.none rfl) rfl rfl (q_pickT rfl rfl rfl rfl) ?_
        refine run_q (.none rfl) rfl rfl (q_assign rfl rfl) ?_
        refine run_nil ?_
        refine run_sub (subMk (.cons (s := 2) rfl (.cons (s := 4) rfl (.cons (s := 24) rfl .nil))) .refl) ?_
        refine run_condT rfl rfl ?_
        refine run_seq ?_
        refine run_region ?_
        refine run_q (.none rfl) rfl rfl (q_assign rfl rfl) ?_
        refine run_nil ?_
        refine run_ret ?_
        exact end1 rfl rfl (by first | rw [spE, if_pos (by omega)] | rw [spE, if_neg (by omega), if_pos (by omega)] | rw [spE, if_neg (by omega), if_neg (by omega), if_pos ⟨by omega, by assumption, by assumption⟩] | rw [spE, if_neg (by omega), if_neg (by omega), if_neg (fun h => by simp_all)])
      · have g28' := g28
        try simp only [decide_eq_true_eq, decide_eq_false_iff_not, beq_iff_eq, beq_eq_false_iff_ne, bne_iff_ne, bne_eq_false_iff_eq, Bool.not_eq_true', Bool.not_eq_false', ne_eq, Int.not_lt, Int.not_le, Decidable.not_not] at g28'
        refine run_q (.on rfl rfl rfl g28) rfl rfl (q_fieldB (d := 2) rfl Try.underlying25 rfl rfl sz3 rfl) ?_
        refine run_q (.on rfl rfl rfl g28) rfl rfl (q_loadB rfl one3 rfl Sel.here rfl) ?_
        refine run_q (.on rfl rfl rfl g28) rfl rfl (q_lss rfl rfl rfl) ?_
        refine run_q (.none rfl) rfl rfl (q_pickF rfl rfl g28 rfl) ?_
        refine run_q (.none rfl) rfl rfl (q_move rfl rfl) ?_
        refine run_split 33 rfl (fun g33 => ?_) (fun g33 => ?_)
        · have g33' := g33
          try simp only [decide_eq_true_eq, decide_eq_false_iff_not, beq_iff_eq, beq_eq_false_iff_ne, bne_iff_ne, bne_eq_false_iff_eq, Bool.not_eq_true', Bool.not_eq_false', ne_eq, Int.not_lt, Int.not_le, Decidable.not_not] at g33'
          refine run_off (.no rfl rfl rfl g33) rfl rfl ?_
          refine run_off (.no rfl rfl rfl g33) rfl rfl ?_
          refine run_off (.no rfl rfl rfl g33) rfl rfl ?_
          refine run_q (.none rfl) rfl rfl (q_pickT rfl rfl g33 rfl) ?_
          refine run_q (.none rfl) rfl rfl (q_move rfl rfl) ?_
          refine run_off (.no rfl rfl rfl rfl) rfl rfl ?_
          refine run_off (.no rfl rfl rfl rfl) rfl rfl ?_
          refine run_off (.no rfl rfl rfl rfl) rfl rfl ?_
          refine run_off (.no rfl rfl rfl rfl) rfl rfl ?_
          refine run_off (.no rfl rfl rfl rfl) rfl rfl ?_
          refine run_q (.none rfl) rfl rfl (q_pickT rfl rfl rfl rfl) ?_
          refine run_q (.none rfl) rfl rfl (q_move rfl rfl) ?_
          refine run_off (.no rfl rfl rfl rfl) rfl rfl ?_
          refine run_off (.no rfl rfl rfl rfl) rfl rfl ?_
          refine run_off (.no rfl rfl rfl rfl) rfl rfl ?_
          refine run_off (.no rfl rfl rfl rfl) rfl rfl ?_
          refine run_q (.none rfl) rfl rfl (q_pickT rfl rfl rfl rfl) ?_
          refine run_q (.none rfl) rfl rfl (q_move rfl rfl) ?_
          refine run_off (.no rfl rfl rfl rfl) rfl rfl ?_
          refine run_off (.no rfl rfl rfl rfl) rfl rfl ?_
          refine run_off (.no rfl rfl rfl rfl) rfl rfl ?_
          refine run_off (.no rfl rfl rfl rfl) rfl rfl ?_
          refine run_q (.none rfl) rfl rfl (q_pickT rfl rfl rfl rfl) ?_
          refine run_q (.none rfl) rfl rfl (q_move rfl rfl) ?_
          refine run_off (.no rfl rfl rfl rfl) rfl rfl ?_
          refine run_off (.no rfl rfl rfl rfl) rfl rfl ?_
          refine run_off (.no rfl rfl rfl rfl) rfl rfl ?_
          refine run_off (.no rfl rfl rfl rfl) rfl rfl ?_
          refine run_q (.none rfl) rfl rfl (q_pickT rfl rfl rfl rfl) ?_
          refine run_q (.none rfl) rfl rfl (q_assign rfl rfl) ?_
          refine run_nil ?_
          refine run_sub (subMk (.cons (s := 2) rfl (.cons (s := 4) rfl (.cons (s := 24) rfl .nil))) .refl) ?_
          refine run_condT rfl rfl ?_
          refine run_seq ?_
          refine run_region ?_
          refine run_q (.none rfl) rfl rfl (q_assign rfl rfl) ?_
          refine run_nil ?_
          refine run_ret ?_
          exact end1 rfl rfl (by first | rw [spE, if_pos (by omega)] | rw [spE, if_neg (by omega), if_pos (by omega)] | rw [spE, if_neg (by omega), if_neg (by omega), if_pos ⟨by omega, by assumption, by assumption⟩] | rw [spE, if_neg (by omega), if_neg (by omega), if_neg (fun h => by simp_all)])
        · have g33' := g33
          try simp only [decide_eq_true_eq, decide_eq_false_iff_not, beq_iff_eq, beq_eq_false_iff_ne, bne_iff_ne, bne_eq_false_iff_eq, Bool.not_eq_true', Bool.not_eq_false', ne_eq, Int.not_lt, Int.not_le, Decidable.not_not] at g33'
          refine run_q (.on rfl rfl rfl g33) rfl rfl (q_fieldB (d := 6) rfl Try.underlying25 rfl rfl sz3 rfl) ?_
          refine run_q (.on rfl rfl rfl g33) rfl rfl (q_loadB rfl one3 rfl Sel.here rfl) ?_
          refine run_q (.on rfl rfl rfl g33) rfl rfl (q_lss rfl rfl rfl) ?_
          refine run_q (.none rfl) rfl rfl (q_pickF rfl rfl g33 rfl) ?_
          refine run_q (.none rfl) rfl rfl (q_move rfl rfl) ?_
          refine run_split 38 rfl (fun g38 => ?_) (fun g38 => ?_)
          · have g38' := g38
            try simp only [decide_eq_true_eq, decide_eq_false_iff_not, beq_iff_eq, beq_eq_false_iff_ne, bne_iff_ne, bne_eq_false_iff_eq, Bool.not_eq_true', Bool.not_eq_false', ne_eq, Int.not_lt, Int.not_le, Decidable.not_not] at g38'
            refine run_off (.no rfl rfl rfl g38) rfl rfl ?_
            refine run_off (.no rfl rfl rfl g38) rfl rfl ?_
            refine run_off (.no rfl rfl rfl g38) rfl rfl ?_
            refine run_off (.no rfl rfl rfl g38) rfl rfl ?_
            refine run_off (.no rfl rfl rfl g38) rfl rfl ?_
            refine run_q (.none rfl) rfl rfl (q_pickT rfl rfl g38 rfl) ?_
            refine run_q (.none rfl) rfl rfl (q_move rfl rfl) ?_
            refine run_off (.no rfl rfl rfl rfl) rfl rfl ?_
            refine run_off (.no rfl rfl rfl rfl) rfl rfl ?_
            refine run_off (.no rfl rfl rfl rfl) rfl rfl ?_
            refine run_off (.no rfl rfl rfl rfl) rfl rfl ?_
            refine run_q (.none rfl) rfl rfl (q_pickT rfl rfl rfl rfl) ?_
            refine run_q (.none rfl) rfl rfl (q_move rfl rfl) ?_
            refine run_off (.no rfl rfl rfl rfl) rfl rfl ?_
            refine run_off (.no rfl rfl rfl rfl) rfl rfl ?_
            refine run_off (.no rfl rfl rfl rfl) rfl rfl ?_
            refine run_off (.no rfl rfl rfl rfl) rfl rfl ?_
            refine run_q (.none rfl) rfl rfl (q_pickT rfl rfl rfl rfl) ?_
            refine run_q (.none rfl) rfl rfl (q_move rfl rfl) ?_
            refine run_off (.no rfl rfl rfl rfl) rfl rfl ?_
            refine run_off (.no rfl rfl rfl rfl) rfl rfl ?_
            refine run_off (.no rfl rfl rfl rfl) rfl rfl ?_
            refine run_off (.no rfl rfl rfl rfl) rfl rfl ?_
            refine run_q (.none rfl) rfl rfl (q_pickT rfl rfl rfl rfl) ?_
            refine run_q (.none rfl) rfl rfl (q_assign rfl rfl) ?_
            refine run_nil ?_
            refine run_sub (subMk (.cons (s := 2) rfl (.cons (s := 4) rfl (.cons (s := 24) rfl .nil))) .refl) ?_
            refine run_condT rfl rfl ?_
            refine run_seq ?_
            refine run_region ?_
            refine run_q (.none rfl) rfl rfl (q_assign rfl rfl) ?_
            refine run_nil ?_
            refine run_ret ?_
            exact end1 rfl rfl (by first | rw [spE, if_pos (by omega)] | rw [spE, if_neg (by omega), if_pos (by omega)] | rw [spE, if_neg (by omega), if_neg (by omega), if_pos ⟨by omega, by assumption, by assumption⟩] | rw [spE, if_neg (by omega), if_neg (by omega), if_neg (fun h => by simp_all)])
          · have g38' := g38
            try simp only [decide_eq_true_eq, decide_eq_false_iff_not, beq_iff_eq, beq_eq_false_iff_ne, bne_iff_ne, bne_eq_false_iff_eq, Bool.not_eq_true', Bool.not_eq_false', ne_eq, Int.not_lt, Int.not_le, Decidable.not_not] at g38'
            refine run_q (.on rfl rfl rfl g38) rfl rfl (q_fieldB (d := 6) rfl Try.underlying25 rfl rfl sz3 rfl) ?_
            refine run_q (.on rfl rfl rfl g38) rfl rfl (q_loadB rfl one3 rfl Sel.here rfl) ?_
            refine run_q (.on rfl rfl rfl g38) rfl rfl (q_fieldB (d := 7) rfl Try.underlying25 rfl rfl sz3 rfl) ?_
            refine run_q (.on rfl rfl rfl g38) rfl rfl (q_loadB rfl one3 rfl Sel.here rfl) ?_
            refine run_q (.on rfl rfl rfl g38) rfl rfl (q_gtr rfl rfl rfl) ?_
            refine run_q (.none rfl) rfl rfl (q_pickF rfl rfl g38 rfl) ?_
            refine run_q (.none rfl) rfl rfl (q_move rfl rfl) ?_
            refine run_split 45 rfl (fun g45 => ?_) (fun g45 => ?_)
            · have g45' := g45
              try simp only [decide_eq_true_eq, decide_eq_false_iff_not, beq_iff_eq, beq_eq_false_iff_ne, bne_iff_ne, bne_eq_false_iff_eq, Bool.not_eq_true', Bool.not_eq_false', ne_eq, Int.not_lt, Int.not_le, Decidable.not_not] at g45'
              refine run_off (.no rfl rfl rfl g45) rfl rfl ?_
              refine run_off (.no rfl rfl rfl g45) rfl rfl ?_
              refine run_off (.no rfl rfl rfl g45) rfl rfl ?_
              refine run_off (.no rfl rfl rfl g45) rfl rfl ?_
              refine run_q (.none rfl) rfl rfl (q_pickT rfl rfl g45 rfl) ?_
              refine run_q (.none rfl) rfl rfl (q_move rfl rfl) ?_
              refine run_off (.no rfl rfl rfl rfl) rfl rfl ?_
              refine run_off (.no rfl rfl rfl rfl) rfl rfl ?_
              refine run_off (.no rfl rfl rfl rfl) rfl rfl ?_
              refine run_off (.no rfl rfl rfl rfl) rfl rfl ?_
              refine run_q (.none rfl) rfl rfl (q_pickT rfl rfl rfl rfl) ?_
              refine run_q (.none rfl) rfl rfl (q_move rfl rfl) ?_
              refine run_off (.no rfl rfl rfl rfl) rfl rfl ?_
              refine run_off (.no rfl rfl rfl rfl) rfl rfl ?_
              refine run_off (.no rfl rfl rfl rfl) rfl rfl ?_
              refine run_off (.no rfl rfl rfl rfl) rfl rfl ?_
              refine run_q (.none rfl) rfl rfl (q_pickT rfl rfl rfl rfl) ?_
              refine run_q (.none rfl) rfl rfl (q_assign rfl rfl) ?_
              refine run_nil ?_
              refine run_sub (subMk (.cons (s := 2) rfl (.cons (s := 4) rfl (.cons (s := 24) rfl .nil))) .refl) ?_
              refine run_condT rfl rfl ?_
              refine run_seq ?_
              refine run_region ?_
              refine run_q (.none rfl) rfl rfl (q_assign rfl rfl) ?_
              refine run_nil ?_
              refine run_ret ?_
              exact end1 rfl rfl (by first | rw [spE, if_pos (by omega)] | rw [spE, if_neg (by omega), if_pos (by omega)] | rw [spE, if_neg (by omega), if_neg (by omega), if_pos ⟨by omega, by assumption, by assumption⟩] | rw [spE, if_neg (by omega), if_neg (by omega), if_neg (fun h => by simp_all)])
            · have g45' := g45
              try simp only [decide_eq_true_eq, decide_eq_false_iff_not, beq_iff_eq, beq_eq_false_iff_ne, bne_iff_ne, bne_eq_false_iff_eq, Bool.not_eq_true', Bool.not_eq_false', ne_eq, Int.not_lt, Int.not_le, Decidable.not_not] at g45'
              refine run_q (.on rfl rfl rfl g45) rfl rfl (q_fieldB (d := 7) rfl Try.underlying25 rfl rfl sz3 rfl) ?_
              refine run_q (.on rfl rfl rfl g45) rfl rfl (q_loadB rfl one3 rfl Sel.here rfl) ?_
              refine run_q (.on rfl rfl rfl g45) rfl rfl (q_move rfl rfl) ?_
              refine run_q (.on rfl rfl rfl g45) rfl rfl (q_geq rfl rfl rfl) ?_
              refine run_q (.none rfl) rfl rfl (q_pickF rfl rfl g45 rfl) ?_
              refine run_q (.none rfl) rfl rfl (q_move rfl rfl) ?_
              refine run_split 51 rfl (fun g51 => ?_) (fun g51 => ?_)
              · have g51' := g51
                try simp only [decide_eq_true_eq, decide_eq_false_iff_not, beq_iff_eq, beq_eq_false_iff_ne, bne_iff_ne, bne_eq_false_iff_eq, Bool.not_eq_true', Bool.not_eq_false', ne_eq, Int.not_lt, Int.not_le, Decidable.not_not] at g51'
                refine run_off (.no rfl rfl rfl g51) rfl rfl ?_
                refine run_off (.no rfl rfl rfl g51) rfl rfl ?_
                refine run_off (.no rfl rfl rfl g51) rfl rfl ?_
                refine run_off (.no rfl rfl rfl g51) rfl rfl ?_
                refine run_q (.none rfl) rfl rfl (q_pickT rfl rfl g51 rfl) ?_
                refine run_q (.none rfl) rfl rfl (q_move rfl rfl) ?_
                refine run_off (.no rfl rfl rfl rfl) rfl rfl ?_
                refine run_off (.no rfl rfl rfl rfl) rfl rfl ?_
                refine run_off (.no rfl rfl rfl rfl) rfl rfl ?_
                refine run_off (.no rfl rfl rfl rfl) rfl rfl ?_
                refine run_q (.none rfl) rfl rfl (q_pickT rfl rfl rfl rfl) ?_
                refine run_q (.none rfl) rfl rfl (q_assign rfl rfl) ?_
                refine run_nil ?_
                refine run_sub (subMk (.cons (s := 2) rfl (.cons (s := 4) rfl (.cons (s := 24) rfl .nil))) .refl) ?_
                refine run_condT rfl rfl ?_
                refine run_seq ?_
                refine run_region ?_
                refine run_q (.none rfl) rfl rfl (q_assign rfl rfl) ?_
                refine run_nil ?_
                refine run_ret ?_
                exact end1 rfl rfl (by first | rw [spE, if_pos (by omega)] | rw [spE, if_neg (by omega), if_pos (by omega)] | rw [spE, if_neg (by omega), if_neg (by omega), if_pos ⟨by omega, by assumption, by assumption⟩] | rw [spE, if_neg (by omega), if_neg (by omega), if_neg (fun h => by simp_all)])
              · have g51' := g51
                try simp only [decide_eq_true_eq, decide_eq_false_iff_not, beq_iff_eq, beq_eq_false_iff_ne, bne_iff_ne, bne_eq_false_iff_eq, Bool.not_eq_true', Bool.not_eq_false', ne_eq, Int.not_lt, Int.not_le, Decidable.not_not] at g51'
                refine run_q (.on rfl rfl rfl g51) rfl rfl (q_fieldB (d := 8) rfl Try.underlying25 rfl rfl sz3 rfl) ?_
                refine run_q (.on rfl rfl rfl g51) rfl rfl (q_loadB rfl one3 rfl Sel.here rfl) ?_
                refine run_q (.on rfl rfl rfl g51) rfl rfl (q_call rfl call31 (.cons rfl (.cons rfl (.cons rfl Evs.nil))) (fun w hk hm => in_just _ _ _ w)) ?_
                refine run_q (.on rfl rfl rfl g51) rfl rfl (q_not rfl rfl) ?_
                refine run_q (.none rfl) rfl rfl (q_pickF rfl rfl g51 rfl) ?_
                refine run_q (.none rfl) rfl rfl (q_move rfl rfl) ?_
                refine run_split 57 rfl (fun g57 => ?_) (fun g57 => ?_)
                · have g57' := g57
                  try simp only [decide_eq_true_eq, decide_eq_false_iff_not, beq_iff_eq, beq_eq_false_iff_ne, bne_iff_ne, bne_eq_false_iff_eq, Bool.not_eq_true', Bool.not_eq_false', ne_eq, Int.not_lt, Int.not_le, Decidable.not_not] at g57'
                  refine run_off (.no rfl rfl rfl g57) rfl rfl ?_
                  refine run_off (.no rfl rfl rfl g57) rfl rfl ?_
                  refine run_off (.no rfl rfl rfl g57) rfl rfl ?_
                  refine run_off (.no rfl rfl rfl g57) rfl rfl ?_
                  refine run_q (.none rfl) rfl rfl (q_pickT rfl rfl g57 rfl) ?_
                  refine run_q (.none rfl) rfl rfl (q_assign rfl rfl) ?_
                  refine run_nil ?_
                  refine run_sub (subMk (.cons (s := 2) rfl (.cons (s := 4) rfl (.cons (s := 24) rfl .nil))) .refl) ?_
                  refine run_condT rfl rfl ?_
                  refine run_seq ?_
                  refine run_region ?_
                  refine run_q (.none rfl) rfl rfl (q_assign rfl rfl) ?_
                  refine run_nil ?_
                  refine run_ret ?_
                  exact end1 rfl rfl (by first | rw [spE, if_pos (by omega)] | rw [spE, if_neg (by omega), if_pos (by omega)] | rw [spE, if_neg (by omega), if_neg (by omega), if_pos ⟨by omega, by assumption, by assumption⟩] | rw [spE, if_neg (by omega), if_neg (by omega), if_neg (fun h => by simp_all)])
                · have g57' := g57
                  try simp only [decide_eq_true_eq, decide_eq_false_iff_not, beq_iff_eq, beq_eq_false_iff_ne, bne_iff_ne, bne_eq_false_iff_eq, Bool.not_eq_true', Bool.not_eq_false', ne_eq, Int.not_lt, Int.not_le, Decidable.not_not] at g57'
                  refine run_q (.on rfl rfl rfl g57) rfl rfl (q_fieldB (d := 9) rfl Try.underlying25 rfl rfl sz3 rfl) ?_
                  refine run_q (.on rfl rfl rfl g57) rfl rfl (q_loadB rfl one3 rfl Sel.here rfl) ?_
                  refine run_q (.on rfl rfl rfl g57) rfl rfl (q_call rfl call31 (.cons rfl (.cons rfl (.cons rfl Evs.nil))) (fun w hk hm => in_just _ _ _ w)) ?_
                  refine run_q (.on rfl rfl rfl g57) rfl rfl (q_not rfl rfl) ?_
                  refine run_q (.none rfl) rfl rfl (q_pickF rfl rfl g57 rfl) ?_
                  refine run_q (.none rfl) rfl rfl (q_assign rfl rfl) ?_
                  refine run_nil ?_
                  refine run_sub (subMk (.cons (s := 2) rfl (.cons (s := 4) rfl (.cons (s := 24) rfl .nil))) .refl) ?_
                  refine run_cond rfl (fun g24 => ?_) (fun g24 => ?_)
                  · have g24' := g24
                    try simp only [decide_eq_true_eq, decide_eq_false_iff_not, beq_iff_eq, beq_eq_false_iff_ne, bne_iff_ne, bne_eq_false_iff_eq, Bool.not_eq_true', Bool.not_eq_false', ne_eq, Int.not_lt, Int.not_le, Decidable.not_not] at g24'
                    refine run_seq ?_
                    refine run_region ?_
                    refine run_q (.none rfl) rfl rfl (q_assign rfl rfl) ?_
                    refine run_nil ?_
                    refine run_ret ?_
                    exact end1 rfl rfl (by first | rw [spE, if_pos (by omega)] | rw [spE, if_neg (by omega), if_pos (by omega)] | rw [spE, if_neg (by omega), if_neg (by omega), if_pos ⟨by omega, by assumption, by assumption⟩] | rw [spE, if_neg (by omega), if_neg (by omega), if_neg (fun h => by simp_all)])
                  · have g24' := g24
                    try simp only [decide_eq_true_eq, decide_eq_false_iff_not, beq_iff_eq, beq_eq_false_iff_ne, bne_iff_ne, bne_eq_false_iff_eq, Bool.not_eq_true', Bool.not_eq_false', ne_eq, Int.not_lt, Int.not_le, Decidable.not_not] at g24'
                    refine run_seq ?_
                    refine run_region ?_
                    refine run_q (.none rfl) rfl rfl (q_fieldB (d := 6) rfl Try.underlying25 rfl rfl sz3 rfl) ?_
                    refine run_q (.none rfl) rfl rfl (q_loadB rfl one3 rfl Sel.here rfl) ?_
                    refine run_q (.none rfl) rfl rfl (q_fieldB (d := 7) rfl Try.underlying25 rfl rfl sz3 rfl) ?_
                    refine run_q (.none rfl) rfl rfl (q_loadB rfl one3 rfl Sel.here rfl) ?_
                    refine run_q (.none rfl) rfl rfl (q_eql rfl rfl rfl) ?_
                    refine run_q (.none rfl) rfl rfl (q_move rfl rfl) ?_
                    refine run_split 69 rfl (fun g69 => ?_) (fun g69 => ?_)
                    · have g69' := g69
                      try simp only [decide_eq_true_eq, decide_eq_false_iff_not, beq_iff_eq, beq_eq_false_iff_ne, bne_iff_ne, bne_eq_false_iff_eq, Bool.not_eq_true', Bool.not_eq_false', ne_eq, Int.not_lt, Int.not_le, Decidable.not_not] at g69'
                      refine run_q (.on rfl rfl rfl g69) rfl rfl (q_fieldB (d := 10) rfl Try.underlying25 rfl rfl sz4 rfl) ?_
                      refine run_q (.on rfl rfl rfl g69) rfl rfl (q_loadB rfl one4 rfl Sel.here rfl) ?_
                      refine run_q (.on rfl rfl rfl g69) rfl rfl (q_not rfl rfl) ?_
                      refine run_q (.none rfl) rfl rfl (q_pickT rfl rfl g69 rfl) ?_
                      refine run_q (.none rfl) rfl rfl (q_move rfl rfl) ?_
                      refine run_split 74 rfl (fun g74 => ?_) (fun g74 => ?_)
                      · have g74' := g74
                        try simp only [decide_eq_true_eq, decide_eq_false_iff_not, beq_iff_eq, beq_eq_false_iff_ne, bne_iff_ne, bne_eq_false_iff_eq, Bool.not_eq_true', Bool.not_eq_false', ne_eq, Int.not_lt, Int.not_le, Decidable.not_not] at g74'
                        refine run_q (.on rfl rfl rfl g74) rfl rfl (q_fieldB (d := 11) rfl Try.underlying25 rfl rfl sz4 rfl) ?_
                        refine run_q (.on rfl rfl rfl g74) rfl rfl (q_loadB rfl one4 rfl Sel.here rfl) ?_
                        refine run_q (.on rfl rfl rfl g74) rfl rfl (q_not rfl rfl) ?_
                        refine run_q (.none rfl) rfl rfl (q_pickT rfl rfl g74 rfl) ?_
                        refine run_q (.none rfl) rfl rfl (q_assign rfl rfl) ?_
                        refine run_nil ?_
                        refine run_sub (subMk (.cons (s := 4) rfl (.cons (s := 63) rfl .nil)) .refl) ?_
                        refine run_cond rfl (fun g63 => ?_) (fun g63 => ?_)
                        · have g63' := g63
                          try simp only [decide_eq_true_eq, decide_eq_false_iff_not, beq_iff_eq, beq_eq_false_iff_ne, bne_iff_ne, bne_eq_false_iff_eq, Bool.not_eq_true', Bool.not_eq_false', ne_eq, Int.not_lt, Int.not_le, Decidable.not_not] at g63'
                          refine run_seq ?_
                          refine run_region ?_
                          refine run_q (.none rfl) rfl rfl (q_assign rfl rfl) ?_
                          refine run_nil ?_
                          refine run_ret ?_
                          exact end1 rfl rfl (by first | rw [spE, if_pos (by omega)] | rw [spE, if_neg (by omega), if_pos (by omega)] | rw [spE, if_neg (by omega), if_neg (by omega), if_pos ⟨by omega, by assumption, by assumption⟩] | rw [spE, if_neg (by omega), if_neg (by omega), if_neg (fun h => by simp_all)])
                        · have g63' := g63
                          try simp only [decide_eq_true_eq, decide_eq_false_iff_not, beq_iff_eq, beq_eq_false_iff_ne, bne_iff_ne, bne_eq_false_iff_eq, Bool.not_eq_true', Bool.not_eq_false', ne_eq, Int.not_lt, Int.not_le, Decidable.not_not] at g63'
                          refine run_skip ?_
                          refine run_blk ?_
                          refine run_seq ?_
                          refine run_region ?_
                          refine run_q (.none rfl) rfl rfl (q_assign rfl rfl) ?_
                          refine run_nil ?_
                          refine run_ret ?_
                          exact end1 rfl rfl (by first | rw [spE, if_pos (by omega)] | rw [spE, if_neg (by omega), if_pos (by omega)] | rw [spE, if_neg (by omega), if_neg (by omega), if_pos ⟨by omega, by assumption, by assumption⟩] | rw [spE, if_neg (by omega), if_neg (by omega), if_neg (fun h => by simp_all)])
                      · have g74' := g74
                        try simp only [decide_eq_true_eq, decide_eq_false_iff_not, beq_iff_eq, beq_eq_false_iff_ne, bne_iff_ne, bne_eq_false_iff_eq, Bool.not_eq_true', Bool.not_eq_false', ne_eq, Int.not_lt, Int.not_le, Decidable.not_not] at g74'
                        refine run_off (.no rfl rfl rfl g74) rfl rfl ?_
                        refine run_off (.no rfl rfl rfl g74) rfl rfl ?_
                        refine run_off (.no rfl rfl rfl g74) rfl rfl ?_
                        refine run_q (.none rfl) rfl rfl (q_pickF rfl rfl g74 rfl) ?_
                        refine run_q (.none rfl) rfl rfl (q_assign rfl rfl) ?_
                        refine run_nil ?_
                        refine run_sub (subMk (.cons (s := 4) rfl (.cons (s := 63) rfl .nil)) .refl) ?_
                        refine run_condF rfl rfl ?_
                        refine run_skip ?_
                        refine run_blk ?_
                        refine run_seq ?_
                        refine run_region ?_
                        refine run_q (.none rfl) rfl rfl (q_assign rfl rfl) ?_
                        refine run_nil ?_
                        refine run_ret ?_
                        exact end1 rfl rfl (by first | rw [spE, if_pos (by omega)] | rw [spE, if_neg (by omega), if_pos (by omega)] | rw [spE, if_neg (by omega), if_neg (by omega), if_pos ⟨by omega, by assumption, by assumption⟩] | rw [spE, if_neg (by omega), if_neg (by omega), if_neg (fun h => by simp_all)])
                    · have g69' := g69
                      try simp only [decide_eq_true_eq, decide_eq_false_iff_not, beq_iff_eq, beq_eq_false_iff_ne, bne_iff_ne, bne_eq_false_iff_eq, Bool.not_eq_true', Bool.not_eq_false', ne_eq, Int.not_lt, Int.not_le, Decidable.not_not] at g69'
                      refine run_off (.no rfl rfl rfl g69) rfl rfl ?_
                      refine run_off (.no rfl rfl rfl g69) rfl rfl ?_
                      refine run_off (.no rfl rfl rfl g69) rfl rfl ?_
                      refine run_q (.none rfl) rfl rfl (q_pickF rfl rfl g69 rfl) ?_
                      refine run_q (.none rfl) rfl rfl (q_move rfl rfl) ?_
                      refine run_off (.no rfl rfl rfl rfl) rfl rfl ?_
                      refine run_off (.no rfl rfl rfl rfl) rfl rfl ?_
                      refine run_off (.no rfl rfl rfl rfl) rfl rfl ?_
                      refine run_q (.none rfl) rfl rfl (q_pickF rfl rfl rfl rfl) ?_
                      refine run_q (.none rfl) rfl rfl (q_assign rfl rfl) ?_
                      refine run_nil ?_
                      refine run_sub (subMk (.cons (s := 4) rfl (.cons (s := 63) rfl .nil)) .refl) ?_
                      refine run_condF rfl rfl ?_
                      refine run_skip ?_
                      refine run_blk ?_
                      refine run_seq ?_
                      refine run_region ?_
                      refine run_q (.none rfl) rfl rfl (q_assign rfl rfl) ?_
                      refine run_nil ?_
                      refine run_ret ?_
                      exact end1 rfl rfl (by first | rw [spE, if_pos (by omega)] | rw [spE, if_neg (by omega), if_pos (by omega)] | rw [spE, if_neg (by omega), if_neg (by omega), if_pos ⟨by omega, by assumption, by assumption⟩] | rw [spE, if_neg (by omega), if_neg (by omega), if_neg (fun h => by simp_all)])

theorem height_just (f l : Int) (W : World) (hf : f ≤ 9223372036854775807) (hl : l ≤ 9223372036854775807) : Calls Try.prog 17 #[.int .i64 f, .int .i64 l] W (Hr.Just W (.int .i64 (hgtS f l))) := by
  refine Just.of_ret ?_
  refine enterA (X := nX) (vs := [.int .i64 f, .int .i64 l]) Try.func17 Try.ntmps17 rfl rfl Mem.nil ?_
  refine run_seq ?_
  refine run_region ?_
  refine run_q (.none rfl) rfl rfl (q_assign rfl rfl) ?_
  refine run_nil ?_
  refine run_seq ?_
  refine run_seq ?_
  refine run_region ?_
  refine run_q (.none rfl) rfl rfl (q_move rfl rfl) ?_
  refine run_q (.none rfl) rfl rfl (q_lss rfl rfl rfl) ?_
  refine run_q (.none rfl) rfl rfl (q_move rfl rfl) ?_
  refine run_split 7 rfl (fun g7 => ?_) (fun g7 => ?_)
  · have g7' := g7
    try simp only [decide_eq_true_eq, decide_eq_false_iff_not, beq_iff_eq, beq_eq_false_iff_ne, bne_iff_ne, bne_eq_false_iff_eq, Bool.not_eq_true', Bool.not_eq_false', ne_eq, Int.not_lt, Int.not_le, Decidable.not_not] at g7'
    refine run_off (.no rfl rfl rfl g7) rfl rfl ?_
    refine run_off (.no rfl rfl rfl g7) rfl rfl ?_
    refine run_off (.no rfl rfl rfl g7) rfl rfl ?_
    refine run_q (.none rfl) rfl rfl (q_pickT rfl rfl g7 rfl) ?_
    refine run_nil ?_
    refine run_sub (subMk (.cons (s := 0) rfl (.cons (s := 1) rfl (.cons (s := 4) rfl (.cons (s := 11) rfl .nil)))) .refl) ?_
    refine run_condT rfl rfl ?_
    refine run_seq ?_
    refine run_region ?_
    refine run_q (.none rfl) rfl rfl (q_assign rfl rfl) ?_
    refine run_nil ?_
    refine run_ret ?_
    exact end1 rfl rfl (by first | rw [hgtS, if_pos (by omega)] | (rw [hgtS, if_neg (by omega)] <;> exact vint (by omega)))
  · have g7' := g7
    try simp only [decide_eq_true_eq, decide_eq_false_iff_not, beq_iff_eq, beq_eq_false_iff_ne, bne_iff_ne, bne_eq_false_iff_eq, Bool.not_eq_true', Bool.not_eq_false', ne_eq, Int.not_lt, Int.not_le, Decidable.not_not] at g7'
    refine run_q (.on rfl rfl rfl g7) rfl rfl (q_move rfl rfl) ?_
    refine run_q (.on rfl rfl rfl g7) rfl rfl (q_move rfl rfl) ?_
    refine run_q (.on rfl rfl rfl g7) rfl rfl (q_gtr rfl rfl rfl) ?_
    refine run_q (.none rfl) rfl rfl (q_pickF rfl rfl g7 rfl) ?_
    refine run_nil ?_
    refine run_sub (subMk (.cons (s := 0) rfl (.cons (s := 1) rfl (.cons (s := 4) rfl (.cons (s := 11) rfl .nil)))) .refl) ?_
    refine run_cond rfl (fun g11 => ?_) (fun g11 => ?_)
    · have g11' := g11
      try simp only [decide_eq_true_eq, decide_eq_false_iff_not, beq_iff_eq, beq_eq_false_iff_ne, bne_iff_ne, bne_eq_false_iff_eq, Bool.not_eq_true', Bool.not_eq_false', ne_eq, Int.not_lt, Int.not_le, Decidable.not_not] at g11'
      refine run_seq ?_
      refine run_region ?_
      refine run_q (.none rfl) rfl rfl (q_assign rfl rfl) ?_
      refine run_nil ?_
      refine run_ret ?_
      exact end1 rfl rfl (by first | rw [hgtS, if_pos (by omega)] | (rw [hgtS, if_neg (by omega)] <;> exact vint (by omega)))
    · have g11' := g11
      try simp only [decide_eq_true_eq, decide_eq_false_iff_not, beq_iff_eq, beq_eq_false_iff_ne, bne_iff_ne, bne_eq_false_iff_eq, Bool.not_eq_true', Bool.not_eq_false', ne_eq, Int.not_lt, Int.not_le, Decidable.not_not] at g11'
      refine run_skip ?_
      refine run_seq ?_
      refine run_region ?_
      refine run_q (.none rfl) rfl rfl (q_move rfl rfl) ?_
      refine run_q (.none rfl) rfl rfl (q_move rfl rfl) ?_
      refine run_q (.none rfl) rfl rfl (q_sub rfl rfl rfl (by omega)) ?_
      refine run_q (.none rfl) rfl rfl (q_min2 rfl rfl rfl) ?_
      refine run_q (.none rfl) rfl rfl (q_mul rfl rfl rfl (by omega)) ?_
      refine run_q (.none rfl) rfl rfl (q_add rfl rfl rfl (by omega)) ?_
      refine run_q (.none rfl) rfl rfl (q_min2 rfl rfl rfl) ?_
      refine run_q (.none rfl) rfl rfl (q_assign rfl rfl) ?_
      refine run_nil ?_
      refine run_sub (subMk (.cons (s := 4) rfl .nil) .refl) ?_
      refine run_ret ?_
      exact end1 rfl rfl (by first | rw [hgtS, if_pos (by omega)] | (rw [hgtS, if_neg (by omega)] <;> exact vint (by omega)))

theorem refheight_just (f l : Int) (W : World) (hf : f ≤ 9223372036854775807) (hl : l ≤ 9223372036854775807) : Calls Try.prog 18 #[.int .i64 f, .int .i64 l] W (Hr.Just W (.int .i64 (hgtS f l))) := by
  refine Just.of_ret ?_
  refine enterA (X := nX) (vs := [.int .i64 f, .int .i64 l]) Try.func18 Try.ntmps18 rfl rfl Mem.nil ?_
  refine run_seq ?_
  refine run_region ?_
  refine run_q (.none rfl) rfl rfl (q_assign rfl rfl) ?_
  refine run_nil ?_
  refine run_seq ?_
  refine run_seq ?_
  refine run_region ?_
  refine run_q (.none rfl) rfl rfl (q_move rfl rfl) ?_
  refine run_q (.none rfl) rfl rfl (q_lss rfl rfl rfl) ?_
  refine run_q (.none rfl) rfl rfl (q_move rfl rfl) ?_
  refine run_split 7 rfl (fun g7 => ?_) (fun g7 => ?_)
  · have g7' := g7
    try simp only [decide_eq_true_eq, decide_eq_false_iff_not, beq_iff_eq, beq_eq_false_iff_ne, bne_iff_ne, bne_eq_false_iff_eq, Bool.not_eq_true', Bool.not_eq_false', ne_eq, Int.not_lt, Int.not_le, Decidable.not_not] at g7'
    refine run_off (.no rfl rfl rfl g7) rfl rfl ?_
    refine run_off (.no rfl rfl rfl g7) rfl rfl ?_
    refine run_off (.no rfl rfl rfl g7) rfl rfl ?_
    refine run_q (.none rfl) rfl rfl (q_pickT rfl rfl g7 rfl) ?_
    refine run_nil ?_
    refine run_sub (subMk (.cons (s := 0) rfl (.cons (s := 1) rfl (.cons (s := 4) rfl (.cons (s := 11) rfl .nil)))) .refl) ?_
    refine run_condT rfl rfl ?_
    refine run_seq ?_
    refine run_region ?_
    refine run_q (.none rfl) rfl rfl (q_assign rfl rfl) ?_
    refine run_nil ?_
    refine run_ret ?_
    exact end1 rfl rfl (by first | rw [hgtS, if_pos (by omega)] | (rw [hgtS, if_neg (by omega)] <;> exact vint (by omega)))
  · have g7' := g7
    try simp only [decide_eq_true_eq, decide_eq_false_iff_not, beq_iff_eq, beq_eq_false_iff_ne, bne_iff_ne, bne_eq_false_iff_eq, Bool.not_eq_true', Bool.not_eq_false', ne_eq, Int.not_lt, Int.not_le, Decidable.not_not] at g7'
    refine run_q (.on rfl rfl rfl g7) rfl rfl (q_move rfl rfl) ?_
    refine run_q (.on rfl rfl rfl g7) rfl rfl (q_move rfl rfl) ?_
    refine run_q (.on rfl rfl rfl g7) rfl rfl (q_gtr rfl rfl rfl) ?_
    refine run_q (.none rfl) rfl rfl (q_pickF rfl rfl g7 rfl) ?_
    refine run_nil ?_
    refine run_sub (subMk (.cons (s := 0) rfl (.cons (s := 1) rfl (.cons (s := 4) rfl (.cons (s := 11) rfl .nil)))) .refl) ?_
    refine run_cond rfl (fun g11 => ?_) (fun g11 => ?_)
    · have g11' := g11
      try simp only [decide_eq_true_eq, decide_eq_false_iff_not, beq_iff_eq, beq_eq_false_iff_ne, bne_iff_ne, bne_eq_false_iff_eq, Bool.not_eq_true', Bool.not_eq_false', ne_eq, Int.not_lt, Int.not_le, Decidable.not_not] at g11'
      refine run_seq ?_
      refine run_region ?_
      refine run_q (.none rfl) rfl rfl (q_assign rfl rfl) ?_
      refine run_nil ?_
      refine run_ret ?_
      exact end1 rfl rfl (by first | rw [hgtS, if_pos (by omega)] | (rw [hgtS, if_neg (by omega)] <;> exact vint (by omega)))
    · have g11' := g11
      try simp only [decide_eq_true_eq, decide_eq_false_iff_not, beq_iff_eq, beq_eq_false_iff_ne, bne_iff_ne, bne_eq_false_iff_eq, Bool.not_eq_true', Bool.not_eq_false', ne_eq, Int.not_lt, Int.not_le, Decidable.not_not] at g11'
      refine run_skip ?_
      refine run_seq ?_
      refine run_region ?_
      refine run_q (.none rfl) rfl rfl (q_move rfl rfl) ?_
      refine run_q (.none rfl) rfl rfl (q_move rfl rfl) ?_
      refine run_q (.none rfl) rfl rfl (q_sub rfl rfl rfl (by omega)) ?_
      refine run_q (.none rfl) rfl rfl (q_min2 rfl rfl rfl) ?_
      refine run_q (.none rfl) rfl rfl (q_mul rfl rfl rfl (by omega)) ?_
      refine run_q (.none rfl) rfl rfl (q_add rfl rfl rfl (by omega)) ?_
      refine run_q (.none rfl) rfl rfl (q_min2 rfl rfl rfl) ?_
      refine run_q (.none rfl) rfl rfl (q_assign rfl rfl) ?_
      refine run_nil ?_
      refine run_sub (subMk (.cons (s := 4) rfl .nil) .refl) ?_
      refine run_ret ?_
      exact end1 rfl rfl (by first | rw [hgtS, if_pos (by omega)] | (rw [hgtS, if_neg (by omega)] <;> exact vint (by omega)))

end Go.Proofs.Ytomhegnaojejnaa
