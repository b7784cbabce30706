/- The check of a request. -/
import Derived.Test.YtgphmbipakdggaaRProg
import Derived.Test.YtgphmbipakdggaaRPlain
set_option linter.unusedSimpArgs false
set_option linter.unusedVariables false
namespace Go.Proofs.YtgphmbipakdggaaR
open Go Go.RowKit Hr

theorem sz3 : Hr.Sz Try.prog 3 1 := Hr.Sz.of (by kernel_rfl)
theorem one3 : Hr.One Try.prog 3 := ⟨fun w => by simp [isAgg, run_underlying Try.underlying3], Hr.Sz.of (by kernel_rfl)⟩
theorem call35 : Hr.Callable Try.prog 35 := fun args w => by kernel_rfl

theorem extent_just (n : Int) (W : World)  : Calls Try.prog 35 #[.int .i64 n] W (Hr.Just W (.bool (decide (0 ≤ n ∧ n ≤ 65536)))) := by
  refine Just.of_ret ?_
  refine enterA (X := nX) (vs := [.int .i64 n]) Try.func35 Try.ntmps35 rfl rfl Mem.nil ?_
  refine run_seq ?_
  refine run_region ?_
  refine run_q (.none rfl) rfl rfl (q_assign rfl rfl) ?_
  refine run_nil ?_
  refine run_seq ?_
  refine run_region ?_
  refine run_q (.none rfl) rfl rfl (q_move rfl rfl) ?_
  refine run_q (.none rfl) rfl rfl (q_geq rfl rfl rfl) ?_
  refine run_q (.none rfl) rfl rfl (q_move rfl rfl) ?_
  refine run_split 5 rfl (fun g5 => ?_) (fun g5 => ?_)
  · have g5' := g5
    try simp only [decide_eq_true_eq, decide_eq_false_iff_not, beq_iff_eq, beq_eq_false_iff_ne, bne_iff_ne, bne_eq_false_iff_eq, Bool.not_eq_true', Bool.not_eq_false', ne_eq, Int.not_lt, Int.not_le, Decidable.not_not] at g5'
    refine run_q (.on rfl rfl rfl g5) rfl rfl (q_move rfl rfl) ?_
    refine run_q (.on rfl rfl rfl g5) rfl rfl (q_leq rfl rfl rfl) ?_
    refine run_q (.none rfl) rfl rfl (q_pickT rfl rfl g5 rfl) ?_
    refine run_q (.none rfl) rfl rfl (q_assign rfl rfl) ?_
    refine run_nil ?_
    refine run_sub (subMk (.cons (s := 2) rfl .nil) .refl) ?_
    refine run_ret ?_
    exact end1 rfl rfl (congrArg Value.bool (by rw [Bool.eq_iff_iff]; (try simp only [decide_eq_true_eq, Bool.false_eq_true, false_iff, true_iff]); omega))
  · have g5' := g5
    try simp only [decide_eq_true_eq, decide_eq_false_iff_not, beq_iff_eq, beq_eq_false_iff_ne, bne_iff_ne, bne_eq_false_iff_eq, Bool.not_eq_true', Bool.not_eq_false', ne_eq, Int.not_lt, Int.not_le, Decidable.not_not] at g5'
    refine run_off (.no rfl rfl rfl g5) rfl rfl ?_
    refine run_off (.no rfl rfl rfl g5) rfl rfl ?_
    refine run_q (.none rfl) rfl rfl (q_pickF rfl rfl g5 rfl) ?_
    refine run_q (.none rfl) rfl rfl (q_assign rfl rfl) ?_
    refine run_nil ?_
    refine run_sub (subMk (.cons (s := 2) rfl .nil) .refl) ?_
    refine run_ret ?_
    exact end1 rfl rfl (congrArg Value.bool (by rw [Bool.eq_iff_iff]; (try simp only [decide_eq_true_eq, Bool.false_eq_true, false_iff, true_iff]); omega))

theorem perm_just (n : Int) (W : World)  : Calls Try.prog 48 #[.int .i64 n] W (Hr.Just W (.bool (decide (-1048576 ≤ n ∧ n ≤ 1048576)))) := by
  refine Just.of_ret ?_
  refine enterA (X := nX) (vs := [.int .i64 n]) Try.func48 Try.ntmps48 rfl rfl Mem.nil ?_
  refine run_seq ?_
  refine run_region ?_
  refine run_q (.none rfl) rfl rfl (q_assign rfl rfl) ?_
  refine run_nil ?_
  refine run_seq ?_
  refine run_region ?_
  refine run_q (.none rfl) rfl rfl (q_move rfl rfl) ?_
  refine run_q (.none rfl) rfl rfl (q_geq rfl rfl rfl) ?_
  refine run_q (.none rfl) rfl rfl (q_move rfl rfl) ?_
  refine run_split 5 rfl (fun g5 => ?_) (fun g5 => ?_)
  · have g5' := g5
    try simp only [decide_eq_true_eq, decide_eq_false_iff_not, beq_iff_eq, beq_eq_false_iff_ne, bne_iff_ne, bne_eq_false_iff_eq, Bool.not_eq_true', Bool.not_eq_false', ne_eq, Int.not_lt, Int.not_le, Decidable.not_not] at g5'
    refine run_q (.on rfl rfl rfl g5) rfl rfl (q_move rfl rfl) ?_
    refine run_q (.on rfl rfl rfl g5) rfl rfl (q_leq rfl rfl rfl) ?_
    refine run_q (.none rfl) rfl rfl (q_pickT rfl rfl g5 rfl) ?_
    refine run_q (.none rfl) rfl rfl (q_assign rfl rfl) ?_
    refine run_nil ?_
    refine run_sub (subMk (.cons (s := 2) rfl .nil) .refl) ?_
    refine run_ret ?_
    exact end1 rfl rfl (congrArg Value.bool (by rw [Bool.eq_iff_iff]; (try simp only [decide_eq_true_eq, Bool.false_eq_true, false_iff, true_iff]); omega))
  · have g5' := g5
    try simp only [decide_eq_true_eq, decide_eq_false_iff_not, beq_iff_eq, beq_eq_false_iff_ne, bne_iff_ne, bne_eq_false_iff_eq, Bool.not_eq_true', Bool.not_eq_false', ne_eq, Int.not_lt, Int.not_le, Decidable.not_not] at g5'
    refine run_off (.no rfl rfl rfl g5) rfl rfl ?_
    refine run_off (.no rfl rfl rfl g5) rfl rfl ?_
    refine run_q (.none rfl) rfl rfl (q_pickF rfl rfl g5 rfl) ?_
    refine run_q (.none rfl) rfl rfl (q_assign rfl rfl) ?_
    refine run_nil ?_
    refine run_sub (subMk (.cons (s := 2) rfl .nil) .refl) ?_
    refine run_ret ?_
    exact end1 rfl rfl (congrArg Value.bool (by rw [Bool.eq_iff_iff]; (try simp only [decide_eq_true_eq, Bool.false_eq_true, false_iff, true_iff]); omega))

theorem size_just (n : Int) (W : World)  : Calls Try.prog 68 #[.int .i64 n] W (Hr.Just W (.bool (decide (0 ≤ n ∧ n ≤ 1048576)))) := by
  refine Just.of_ret ?_
  refine enterA (X := nX) (vs := [.int .i64 n]) Try.func68 Try.ntmps68 rfl rfl Mem.nil ?_
  refine run_seq ?_
  refine run_region ?_
  refine run_q (.none rfl) rfl rfl (q_assign rfl rfl) ?_
  refine run_nil ?_
  refine run_seq ?_
  refine run_region ?_
  refine run_q (.none rfl) rfl rfl (q_move rfl rfl) ?_
  refine run_q (.none rfl) rfl rfl (q_geq rfl rfl rfl) ?_
  refine run_q (.none rfl) rfl rfl (q_move rfl rfl) ?_
  refine run_split 5 rfl (fun g5 => ?_) (fun g5 => ?_)
  · have g5' := g5
    try simp only [decide_eq_true_eq, decide_eq_false_iff_not, beq_iff_eq, beq_eq_false_iff_ne, bne_iff_ne, bne_eq_false_iff_eq, Bool.not_eq_true', Bool.not_eq_false', ne_eq, Int.not_lt, Int.not_le, Decidable.not_not] at g5'
    refine run_q (.on rfl rfl rfl g5) rfl rfl (q_move rfl rfl) ?_
    refine run_q (.on rfl rfl rfl g5) rfl rfl (q_leq rfl rfl rfl) ?_
    refine run_q (.none rfl) rfl rfl (q_pickT rfl rfl g5 rfl) ?_
    refine run_q (.none rfl) rfl rfl (q_assign rfl rfl) ?_
    refine run_nil ?_
    refine run_sub (subMk (.cons (s := 2) rfl .nil) .refl) ?_
    refine run_ret ?_
    exact end1 rfl rfl (congrArg Value.bool (by rw [Bool.eq_iff_iff]; (try simp only [decide_eq_true_eq, Bool.false_eq_true, false_iff, true_iff]); omega))
  · have g5' := g5
    try simp only [decide_eq_true_eq, decide_eq_false_iff_not, beq_iff_eq, beq_eq_false_iff_ne, bne_iff_ne, bne_eq_false_iff_eq, Bool.not_eq_true', Bool.not_eq_false', ne_eq, Int.not_lt, Int.not_le, Decidable.not_not] at g5'
    refine run_off (.no rfl rfl rfl g5) rfl rfl ?_
    refine run_off (.no rfl rfl rfl g5) rfl rfl ?_
    refine run_q (.none rfl) rfl rfl (q_pickF rfl rfl g5 rfl) ?_
    refine run_q (.none rfl) rfl rfl (q_assign rfl rfl) ?_
    refine run_nil ?_
    refine run_sub (subMk (.cons (s := 2) rfl .nil) .refl) ?_
    refine run_ret ?_
    exact end1 rfl rfl (congrArg Value.bool (by rw [Bool.eq_iff_iff]; (try simp only [decide_eq_true_eq, Bool.false_eq_true, false_iff, true_iff]); omega))

set_option maxHeartbeats 2000000 in
set_option maxRecDepth 100000 in
theorem check_just (x : Req) (n : Int) (W : World)  : Calls Try.prog 14 #[x.val, .int .i64 n] W (Hr.Just W (.int .i64 (reqE x n))) := by
  refine Just.of_ret ?_
  refine enterA (X := nX) (vs := [x.val, .int .i64 n]) Try.func14 Try.ntmps14 rfl rfl Mem.nil ?_
  refine run_seq ?_
  refine run_region ?_
  refine run_h (.none rfl) (h_box rfl rfl rfl rfl rfl) ?_
  rintro b2 -
  refine run_q (.none rfl) rfl rfl (q_assign rfl rfl) ?_
  refine run_nil ?_
  refine run_seq ?_
  refine run_block ?_
  refine run_seq ?_
  refine run_region ?_
  refine run_q (.none rfl) rfl rfl (q_fieldB (d := 0) rfl Try.underlying25 rfl rfl sz3 rfl) ?_
  refine run_q (.none rfl) rfl rfl (q_loadB rfl one3 rfl Sel.here rfl) ?_
  refine run_q (.none rfl) rfl rfl (q_lss rfl rfl rfl) ?_
  refine run_q (.none rfl) rfl rfl (q_move rfl rfl) ?_
  refine run_split 9 rfl (fun g9 => ?_) (fun g9 => ?_)
  · have g9' := g9
    try simp only [decide_eq_true_eq, decide_eq_false_iff_not, beq_iff_eq, beq_eq_false_iff_ne, bne_iff_ne, bne_eq_false_iff_eq, Bool.not_eq_true', Bool.not_eq_false', ne_eq, Int.not_lt, Int.not_le, Decidable.not_not] at g9'
    refine run_off (.no rfl rfl rfl g9) rfl rfl ?_
    refine run_off (.no rfl rfl rfl g9) rfl rfl ?_
    refine run_off (.no rfl rfl rfl g9) rfl rfl ?_
    refine run_q (.none rfl) rfl rfl (q_pickT rfl rfl g9 rfl) ?_
    refine run_q (.none rfl) rfl rfl (q_move rfl rfl) ?_
    refine run_off (.no rfl rfl rfl rfl) rfl rfl ?_
    refine run_off (.no rfl rfl rfl rfl) rfl rfl ?_
    refine run_off (.no rfl rfl rfl rfl) rfl rfl ?_
    refine run_off (.no rfl rfl rfl rfl) rfl rfl ?_
    refine run_off (.off rfl rfl rfl) rfl rfl ?_
    refine run_off (.off rfl rfl rfl) rfl rfl ?_
    refine run_off (.off rfl rfl rfl) rfl rfl ?_
    refine run_off (.no rfl rfl rfl rfl) rfl rfl ?_
    refine run_q (.none rfl) rfl rfl (q_pickT rfl rfl rfl rfl) ?_
    refine run_q (.none rfl) rfl rfl (q_assign rfl rfl) ?_
    refine run_nil ?_
    refine run_sub (subMk (.cons (s := 1) rfl (.cons (s := 2) rfl (.cons (s := 4) rfl (.cons (s := 5) rfl .nil)))) .refl) ?_
    refine run_condT rfl rfl ?_
    refine run_seq ?_
    refine run_region ?_
    refine run_q (.none rfl) rfl rfl (q_assign rfl rfl) ?_
    refine run_nil ?_
    refine run_sub (subMk (.cons (s := 4) rfl .nil) .refl) ?_
    refine run_ret ?_
    exact end1 rfl rfl (by first | rw [reqE, if_pos (by omega)] | rw [reqE, if_neg (by omega), if_pos (by omega)] | rw [reqE, if_neg (by omega), if_neg (by omega), if_pos (by omega)] | rw [reqE, if_neg (by omega), if_neg (by omega), if_neg (by omega)])
  · have g9' := g9
    try simp only [decide_eq_true_eq, decide_eq_false_iff_not, beq_iff_eq, beq_eq_false_iff_ne, bne_iff_ne, bne_eq_false_iff_eq, Bool.not_eq_true', Bool.not_eq_false', ne_eq, Int.not_lt, Int.not_le, Decidable.not_not] at g9'
    refine run_q (.on rfl rfl rfl g9) rfl rfl (q_fieldB (d := 0) rfl Try.underlying25 rfl rfl sz3 rfl) ?_
    refine run_q (.on rfl rfl rfl g9) rfl rfl (q_loadB rfl one3 rfl Sel.here rfl) ?_
    refine run_q (.on rfl rfl rfl g9) rfl rfl (q_gtr rfl rfl rfl) ?_
    refine run_q (.none rfl) rfl rfl (q_pickF rfl rfl g9 rfl) ?_
    refine run_q (.none rfl) rfl rfl (q_move rfl rfl) ?_
    refine run_split 14 rfl (fun g14 => ?_) (fun g14 => ?_)
    · have g14' := g14
      try simp only [decide_eq_true_eq, decide_eq_false_iff_not, beq_iff_eq, beq_eq_false_iff_ne, bne_iff_ne, bne_eq_false_iff_eq, Bool.not_eq_true', Bool.not_eq_false', ne_eq, Int.not_lt, Int.not_le, Decidable.not_not] at g14'
      refine run_off (.no rfl rfl rfl g14) rfl rfl ?_
      refine run_off (.no rfl rfl rfl g14) rfl rfl ?_
      refine run_off (.no rfl rfl rfl g14) rfl rfl ?_
      refine run_off (.no rfl rfl rfl g14) rfl rfl ?_
      refine run_off (.off rfl rfl rfl) rfl rfl ?_
      refine run_off (.off rfl rfl rfl) rfl rfl ?_
      refine run_off (.off rfl rfl rfl) rfl rfl ?_
      refine run_off (.no rfl rfl rfl g14) rfl rfl ?_
      refine run_q (.none rfl) rfl rfl (q_pickT rfl rfl g14 rfl) ?_
      refine run_q (.none rfl) rfl rfl (q_assign rfl rfl) ?_
      refine run_nil ?_
      refine run_sub (subMk (.cons (s := 1) rfl (.cons (s := 2) rfl (.cons (s := 4) rfl (.cons (s := 5) rfl .nil)))) .refl) ?_
      refine run_condT rfl rfl ?_
      refine run_seq ?_
      refine run_region ?_
      refine run_q (.none rfl) rfl rfl (q_assign rfl rfl) ?_
      refine run_nil ?_
      refine run_sub (subMk (.cons (s := 4) rfl .nil) .refl) ?_
      refine run_ret ?_
      exact end1 rfl rfl (by first | rw [reqE, if_pos (by omega)] | rw [reqE, if_neg (by omega), if_pos (by omega)] | rw [reqE, if_neg (by omega), if_neg (by omega), if_pos (by omega)] | rw [reqE, if_neg (by omega), if_neg (by omega), if_neg (by omega)])
    · have g14' := g14
      try simp only [decide_eq_true_eq, decide_eq_false_iff_not, beq_iff_eq, beq_eq_false_iff_ne, bne_iff_ne, bne_eq_false_iff_eq, Bool.not_eq_true', Bool.not_eq_false', ne_eq, Int.not_lt, Int.not_le, Decidable.not_not] at g14'
      refine run_q (.on rfl rfl rfl g14) rfl rfl (q_fieldB (d := 5) rfl Try.underlying25 rfl rfl sz3 rfl) ?_
      refine run_q (.on rfl rfl rfl g14) rfl rfl (q_loadB rfl one3 rfl Sel.here rfl) ?_
      refine run_q (.on rfl rfl rfl g14) rfl rfl (q_neq rfl rfl rfl) ?_
      refine run_q (.on rfl rfl rfl g14) rfl rfl (q_move rfl rfl) ?_
      refine run_split 18 rfl (fun g18 => ?_) (fun g18 => ?_)
      · have g18' := g18
        try simp only [decide_eq_true_eq, decide_eq_false_iff_not, beq_iff_eq, beq_eq_false_iff_ne, bne_iff_ne, bne_eq_false_iff_eq, Bool.not_eq_true', Bool.not_eq_false', ne_eq, Int.not_lt, Int.not_le, Decidable.not_not] at g18'
        refine run_q (.on rfl rfl rfl g18) rfl rfl (q_fieldB (d := 5) rfl Try.underlying25 rfl rfl sz3 rfl) ?_
        refine run_q (.on rfl rfl rfl g18) rfl rfl (q_loadB rfl one3 rfl Sel.here rfl) ?_
        refine run_q (.on rfl rfl rfl g18) rfl rfl (q_neq rfl rfl rfl) ?_
        refine run_q (.on rfl rfl rfl g14) rfl rfl (q_pickT rfl rfl g18 rfl) ?_
        refine run_q (.none rfl) rfl rfl (q_pickF rfl rfl g14 rfl) ?_
        refine run_q (.none rfl) rfl rfl (q_assign rfl rfl) ?_
        refine run_nil ?_
        refine run_sub (subMk (.cons (s := 1) rfl (.cons (s := 2) rfl (.cons (s := 4) rfl (.cons (s := 5) rfl .nil)))) .refl) ?_
        refine run_cond rfl (fun g5 => ?_) (fun g5 => ?_)
        · have g5' := g5
          try simp only [decide_eq_true_eq, decide_eq_false_iff_not, beq_iff_eq, beq_eq_false_iff_ne, bne_iff_ne, bne_eq_false_iff_eq, Bool.not_eq_true', Bool.not_eq_false', ne_eq, Int.not_lt, Int.not_le, Decidable.not_not] at g5'
          refine run_seq ?_
          refine run_region ?_
          refine run_q (.none rfl) rfl rfl (q_assign rfl rfl) ?_
          refine run_nil ?_
          refine run_sub (subMk (.cons (s := 4) rfl .nil) .refl) ?_
          refine run_ret ?_
          exact end1 rfl rfl (by first | rw [reqE, if_pos (by omega)] | rw [reqE, if_neg (by omega), if_pos (by omega)] | rw [reqE, if_neg (by omega), if_neg (by omega), if_pos (by omega)] | rw [reqE, if_neg (by omega), if_neg (by omega), if_neg (by omega)])
        · have g5' := g5
          try simp only [decide_eq_true_eq, decide_eq_false_iff_not, beq_iff_eq, beq_eq_false_iff_ne, bne_iff_ne, bne_eq_false_iff_eq, Bool.not_eq_true', Bool.not_eq_false', ne_eq, Int.not_lt, Int.not_le, Decidable.not_not] at g5'
          refine run_seq ?_
          refine run_region ?_
          refine run_q (.none rfl) rfl rfl (q_fieldB (d := 1) rfl Try.underlying25 rfl rfl sz3 rfl) ?_
          refine run_q (.none rfl) rfl rfl (q_loadB rfl one3 rfl Sel.here rfl) ?_
          refine run_q (.none rfl) rfl rfl (q_lss rfl rfl rfl) ?_
          refine run_q (.none rfl) rfl rfl (q_move rfl rfl) ?_
          refine run_split 28 rfl (fun g28 => ?_) (fun g28 => ?_)
          · have g28' := g28
            try simp only [decide_eq_true_eq, decide_eq_false_iff_not, beq_iff_eq, beq_eq_false_iff_ne, bne_iff_ne, bne_eq_false_iff_eq, Bool.not_eq_true', Bool.not_eq_false', ne_eq, Int.not_lt, Int.not_le, Decidable.not_not] at g28'
            refine run_off (.no rfl rfl rfl g28) rfl rfl ?_
            refine run_off (.no rfl rfl rfl g28) rfl rfl ?_
            refine run_off (.no rfl rfl rfl g28) rfl rfl ?_
            refine run_q (.none rfl) rfl rfl (q_pickT rfl rfl g28 rfl) ?_
            refine run_q (.none rfl) rfl rfl (q_move rfl rfl) ?_
            refine run_off (.no rfl rfl rfl rfl) rfl rfl ?_
            refine run_off (.no rfl rfl rfl rfl) rfl rfl ?_
            refine run_off (.no rfl rfl rfl rfl) rfl rfl ?_
            refine run_q (.none rfl) rfl rfl (q_pickT rfl rfl rfl rfl) ?_
            refine run_q (.none rfl) rfl rfl (q_move rfl rfl) ?_
            refine run_off (.no rfl rfl rfl rfl) rfl rfl ?_
            refine run_off (.no rfl rfl rfl rfl) rfl rfl ?_
            refine run_off (.no rfl rfl rfl rfl) rfl rfl ?_
            refine run_off (.no rfl rfl rfl rfl) rfl rfl ?_
            refine run_off (.no rfl rfl rfl rfl) rfl rfl ?_
            refine run_q (.none rfl) rfl rfl (q_pickT rfl rfl rfl rfl) ?_
            refine run_q (.none rfl) rfl rfl (q_move rfl rfl) ?_
            refine run_off (.no rfl rfl rfl rfl) rfl rfl ?_
            refine run_off (.no rfl rfl rfl rfl) rfl rfl ?_
            refine run_off (.no rfl rfl rfl rfl) rfl rfl ?_
            refine run_off (.no rfl rfl rfl rfl) rfl rfl ?_
            refine run_q (.none rfl) rfl rfl (q_pickT rfl rfl rfl rfl) ?_
            refine run_q (.none rfl) rfl rfl (q_assign rfl rfl) ?_
            refine run_nil ?_
            refine run_sub (subMk (.cons (s := 2) rfl (.cons (s := 4) rfl (.cons (s := 24) rfl .nil))) .refl) ?_
            refine run_condT rfl rfl ?_
            refine run_seq ?_
            refine run_region ?_
            refine run_q (.none rfl) rfl rfl (q_assign rfl rfl) ?_
            refine run_nil ?_
            refine run_ret ?_
            exact end1 rfl rfl (by first | rw [reqE, if_pos (by omega)] | rw [reqE, if_neg (by omega), if_pos (by omega)] | rw [reqE, if_neg (by omega), if_neg (by omega), if_pos (by omega)] | rw [reqE, if_neg (by omega), if_neg (by omega), if_neg (by omega)])
          · have g28' := g28
            try simp only [decide_eq_true_eq, decide_eq_false_iff_not, beq_iff_eq, beq_eq_false_iff_ne, bne_iff_ne, bne_eq_false_iff_eq, Bool.not_eq_true', Bool.not_eq_false', ne_eq, Int.not_lt, Int.not_le, Decidable.not_not] at g28'
            refine run_q (.on rfl rfl rfl g28) rfl rfl (q_fieldB (d := 2) rfl Try.underlying25 rfl rfl sz3 rfl) ?_
            refine run_q (.on rfl rfl rfl g28) rfl rfl (q_loadB rfl one3 rfl Sel.here rfl) ?_
            refine run_q (.on rfl rfl rfl g28) rfl rfl (q_lss rfl rfl rfl) ?_
            refine run_q (.none rfl) rfl rfl (q_pickF rfl rfl g28 rfl) ?_
            refine run_q (.none rfl) rfl rfl (q_move rfl rfl) ?_
            refine run_split 33 rfl (fun g33 => ?_) (fun g33 => ?_)
            · have g33' := g33
              try simp only [decide_eq_true_eq, decide_eq_false_iff_not, beq_iff_eq, beq_eq_false_iff_ne, bne_iff_ne, bne_eq_false_iff_eq, Bool.not_eq_true', Bool.not_eq_false', ne_eq, Int.not_lt, Int.not_le, Decidable.not_not] at g33'
              refine run_off (.no rfl rfl rfl g33) rfl rfl ?_
              refine run_off (.no rfl rfl rfl g33) rfl rfl ?_
              refine run_off (.no rfl rfl rfl g33) rfl rfl ?_
              refine run_q (.none rfl) rfl rfl (q_pickT rfl rfl g33 rfl) ?_
              refine run_q (.none rfl) rfl rfl (q_move rfl rfl) ?_
              refine run_off (.no rfl rfl rfl rfl) rfl rfl ?_
              refine run_off (.no rfl rfl rfl rfl) rfl rfl ?_
              refine run_off (.no rfl rfl rfl rfl) rfl rfl ?_
              refine run_off (.no rfl rfl rfl rfl) rfl rfl ?_
              refine run_off (.no rfl rfl rfl rfl) rfl rfl ?_
              refine run_q (.none rfl) rfl rfl (q_pickT rfl rfl rfl rfl) ?_
              refine run_q (.none rfl) rfl rfl (q_move rfl rfl) ?_
              refine run_off (.no rfl rfl rfl rfl) rfl rfl ?_
              refine run_off (.no rfl rfl rfl rfl) rfl rfl ?_
              refine run_off (.no rfl rfl rfl rfl) rfl rfl ?_
              refine run_off (.no rfl rfl rfl rfl) rfl rfl ?_
              refine run_q (.none rfl) rfl rfl (q_pickT rfl rfl rfl rfl) ?_
              refine run_q (.none rfl) rfl rfl (q_assign rfl rfl) ?_
              refine run_nil ?_
              refine run_sub (subMk (.cons (s := 2) rfl (.cons (s := 4) rfl (.cons (s := 24) rfl .nil))) .refl) ?_
              refine run_condT rfl rfl ?_
              refine run_seq ?_
              refine run_region ?_
              refine run_q (.none rfl) rfl rfl (q_assign rfl rfl) ?_
              refine run_nil ?_
              refine run_ret ?_
              exact end1 rfl rfl (by first | rw [reqE, if_pos (by omega)] | rw [reqE, if_neg (by omega), if_pos (by omega)] | rw [reqE, if_neg (by omega), if_neg (by omega), if_pos (by omega)] | rw [reqE, if_neg (by omega), if_neg (by omega), if_neg (by omega)])
            · have g33' := g33
              try simp only [decide_eq_true_eq, decide_eq_false_iff_not, beq_iff_eq, beq_eq_false_iff_ne, bne_iff_ne, bne_eq_false_iff_eq, Bool.not_eq_true', Bool.not_eq_false', ne_eq, Int.not_lt, Int.not_le, Decidable.not_not] at g33'
              refine run_q (.on rfl rfl rfl g33) rfl rfl (q_fieldB (d := 3) rfl Try.underlying25 rfl rfl sz3 rfl) ?_
              refine run_q (.on rfl rfl rfl g33) rfl rfl (q_loadB rfl one3 rfl Sel.here rfl) ?_
              refine run_q (.on rfl rfl rfl g33) rfl rfl (q_lss rfl rfl rfl) ?_
              refine run_q (.none rfl) rfl rfl (q_pickF rfl rfl g33 rfl) ?_
              refine run_q (.none rfl) rfl rfl (q_move rfl rfl) ?_
              refine run_split 38 rfl (fun g38 => ?_) (fun g38 => ?_)
              · have g38' := g38
                try simp only [decide_eq_true_eq, decide_eq_false_iff_not, beq_iff_eq, beq_eq_false_iff_ne, bne_iff_ne, bne_eq_false_iff_eq, Bool.not_eq_true', Bool.not_eq_false', ne_eq, Int.not_lt, Int.not_le, Decidable.not_not] at g38'
                refine run_off (.no rfl rfl rfl g38) rfl rfl ?_
                refine run_off (.no rfl rfl rfl g38) rfl rfl ?_
                refine run_off (.no rfl rfl rfl g38) rfl rfl ?_
                refine run_off (.no rfl rfl rfl g38) rfl rfl ?_
                refine run_off (.no rfl rfl rfl g38) rfl rfl ?_
                refine run_q (.none rfl) rfl rfl (q_pickT rfl rfl g38 rfl) ?_
                refine run_q (.none rfl) rfl rfl (q_move rfl rfl) ?_
                refine run_off (.no rfl rfl rfl rfl) rfl rfl ?_
                refine run_off (.no rfl rfl rfl rfl) rfl rfl ?_
                refine run_off (.no rfl rfl rfl rfl) rfl rfl ?_
                refine run_off (.no rfl rfl rfl rfl) rfl rfl ?_
                refine run_q (.none rfl) rfl rfl (q_pickT rfl rfl rfl rfl) ?_
                refine run_q (.none rfl) rfl rfl (q_assign rfl rfl) ?_
                refine run_nil ?_
                refine run_sub (subMk (.cons (s := 2) rfl (.cons (s := 4) rfl (.cons (s := 24) rfl .nil))) .refl) ?_
                refine run_condT rfl rfl ?_
                refine run_seq ?_
                refine run_region ?_
                refine run_q (.none rfl) rfl rfl (q_assign rfl rfl) ?_
                refine run_nil ?_
                refine run_ret ?_
                exact end1 rfl rfl (by first | rw [reqE, if_pos (by omega)] | rw [reqE, if_neg (by omega), if_pos (by omega)] | rw [reqE, if_neg (by omega), if_neg (by omega), if_pos (by omega)] | rw [reqE, if_neg (by omega), if_neg (by omega), if_neg (by omega)])
              · have g38' := g38
                try simp only [decide_eq_true_eq, decide_eq_false_iff_not, beq_iff_eq, beq_eq_false_iff_ne, bne_iff_ne, bne_eq_false_iff_eq, Bool.not_eq_true', Bool.not_eq_false', ne_eq, Int.not_lt, Int.not_le, Decidable.not_not] at g38'
                refine run_q (.on rfl rfl rfl g38) rfl rfl (q_fieldB (d := 4) rfl Try.underlying25 rfl rfl sz3 rfl) ?_
                refine run_q (.on rfl rfl rfl g38) rfl rfl (q_loadB rfl one3 rfl Sel.here rfl) ?_
                refine run_q (.on rfl rfl rfl g38) rfl rfl (q_fieldB (d := 3) rfl Try.underlying25 rfl rfl sz3 rfl) ?_
                refine run_q (.on rfl rfl rfl g38) rfl rfl (q_loadB rfl one3 rfl Sel.here rfl) ?_
                refine run_q (.on rfl rfl rfl g38) rfl rfl (q_lss rfl rfl rfl) ?_
                refine run_q (.none rfl) rfl rfl (q_pickF rfl rfl g38 rfl) ?_
                refine run_q (.none rfl) rfl rfl (q_move rfl rfl) ?_
                refine run_split 45 rfl (fun g45 => ?_) (fun g45 => ?_)
                · have g45' := g45
                  try simp only [decide_eq_true_eq, decide_eq_false_iff_not, beq_iff_eq, beq_eq_false_iff_ne, bne_iff_ne, bne_eq_false_iff_eq, Bool.not_eq_true', Bool.not_eq_false', ne_eq, Int.not_lt, Int.not_le, Decidable.not_not] at g45'
                  refine run_off (.no rfl rfl rfl g45) rfl rfl ?_
                  refine run_off (.no rfl rfl rfl g45) rfl rfl ?_
                  refine run_off (.no rfl rfl rfl g45) rfl rfl ?_
                  refine run_off (.no rfl rfl rfl g45) rfl rfl ?_
                  refine run_q (.none rfl) rfl rfl (q_pickT rfl rfl g45 rfl) ?_
                  refine run_q (.none rfl) rfl rfl (q_assign rfl rfl) ?_
                  refine run_nil ?_
                  refine run_sub (subMk (.cons (s := 2) rfl (.cons (s := 4) rfl (.cons (s := 24) rfl .nil))) .refl) ?_
                  refine run_condT rfl rfl ?_
                  refine run_seq ?_
                  refine run_region ?_
                  refine run_q (.none rfl) rfl rfl (q_assign rfl rfl) ?_
                  refine run_nil ?_
                  refine run_ret ?_
                  exact end1 rfl rfl (by first | rw [reqE, if_pos (by omega)] | rw [reqE, if_neg (by omega), if_pos (by omega)] | rw [reqE, if_neg (by omega), if_neg (by omega), if_pos (by omega)] | rw [reqE, if_neg (by omega), if_neg (by omega), if_neg (by omega)])
                · have g45' := g45
                  try simp only [decide_eq_true_eq, decide_eq_false_iff_not, beq_iff_eq, beq_eq_false_iff_ne, bne_iff_ne, bne_eq_false_iff_eq, Bool.not_eq_true', Bool.not_eq_false', ne_eq, Int.not_lt, Int.not_le, Decidable.not_not] at g45'
                  refine run_q (.on rfl rfl rfl g45) rfl rfl (q_fieldB (d := 4) rfl Try.underlying25 rfl rfl sz3 rfl) ?_
                  refine run_q (.on rfl rfl rfl g45) rfl rfl (q_loadB rfl one3 rfl Sel.here rfl) ?_
                  refine run_q (.on rfl rfl rfl g45) rfl rfl (q_move rfl rfl) ?_
                  refine run_q (.on rfl rfl rfl g45) rfl rfl (q_geq rfl rfl rfl) ?_
                  refine run_q (.none rfl) rfl rfl (q_pickF rfl rfl g45 rfl) ?_
                  refine run_q (.none rfl) rfl rfl (q_assign rfl rfl) ?_
                  refine run_nil ?_
                  refine run_sub (subMk (.cons (s := 2) rfl (.cons (s := 4) rfl (.cons (s := 24) rfl .nil))) .refl) ?_
                  refine run_cond rfl (fun g24 => ?_) (fun g24 => ?_)
                  · have g24' := g24
                    try simp only [decide_eq_true_eq, decide_eq_false_iff_not, beq_iff_eq, beq_eq_false_iff_ne, bne_iff_ne, bne_eq_false_iff_eq, Bool.not_eq_true', Bool.not_eq_false', ne_eq, Int.not_lt, Int.not_le, Decidable.not_not] at g24'
                    refine run_seq ?_
                    refine run_region ?_
                    refine run_q (.none rfl) rfl rfl (q_assign rfl rfl) ?_
                    refine run_nil ?_
                    refine run_ret ?_
                    exact end1 rfl rfl (by first | rw [reqE, if_pos (by omega)] | rw [reqE, if_neg (by omega), if_pos (by omega)] | rw [reqE, if_neg (by omega), if_neg (by omega), if_pos (by omega)] | rw [reqE, if_neg (by omega), if_neg (by omega), if_neg (by omega)])
                  · have g24' := g24
                    try simp only [decide_eq_true_eq, decide_eq_false_iff_not, beq_iff_eq, beq_eq_false_iff_ne, bne_iff_ne, bne_eq_false_iff_eq, Bool.not_eq_true', Bool.not_eq_false', ne_eq, Int.not_lt, Int.not_le, Decidable.not_not] at g24'
                    refine run_seq ?_
                    refine run_region ?_
                    refine run_q (.none rfl) rfl rfl (q_fieldB (d := 6) rfl Try.underlying25 rfl rfl sz3 rfl) ?_
                    refine run_q (.none rfl) rfl rfl (q_loadB rfl one3 rfl Sel.here rfl) ?_
                    refine run_q (.none rfl) rfl rfl (q_lss rfl rfl rfl) ?_
                    refine run_q (.none rfl) rfl rfl (q_move rfl rfl) ?_
                    refine run_split 55 rfl (fun g55 => ?_) (fun g55 => ?_)
                    · have g55' := g55
                      try simp only [decide_eq_true_eq, decide_eq_false_iff_not, beq_iff_eq, beq_eq_false_iff_ne, bne_iff_ne, bne_eq_false_iff_eq, Bool.not_eq_true', Bool.not_eq_false', ne_eq, Int.not_lt, Int.not_le, Decidable.not_not] at g55'
                      refine run_off (.no rfl rfl rfl g55) rfl rfl ?_
                      refine run_off (.no rfl rfl rfl g55) rfl rfl ?_
                      refine run_off (.no rfl rfl rfl g55) rfl rfl ?_
                      refine run_q (.none rfl) rfl rfl (q_pickT rfl rfl g55 rfl) ?_
                      refine run_q (.none rfl) rfl rfl (q_move rfl rfl) ?_
                      refine run_off (.no rfl rfl rfl rfl) rfl rfl ?_
                      refine run_off (.no rfl rfl rfl rfl) rfl rfl ?_
                      refine run_off (.no rfl rfl rfl rfl) rfl rfl ?_
                      refine run_q (.none rfl) rfl rfl (q_pickT rfl rfl rfl rfl) ?_
                      refine run_q (.none rfl) rfl rfl (q_move rfl rfl) ?_
                      refine run_off (.no rfl rfl rfl rfl) rfl rfl ?_
                      refine run_off (.no rfl rfl rfl rfl) rfl rfl ?_
                      refine run_off (.no rfl rfl rfl rfl) rfl rfl ?_
                      refine run_q (.none rfl) rfl rfl (q_pickT rfl rfl rfl rfl) ?_
                      refine run_q (.none rfl) rfl rfl (q_move rfl rfl) ?_
                      refine run_off (.no rfl rfl rfl rfl) rfl rfl ?_
                      refine run_off (.no rfl rfl rfl rfl) rfl rfl ?_
                      refine run_off (.no rfl rfl rfl rfl) rfl rfl ?_
                      refine run_off (.no rfl rfl rfl rfl) rfl rfl ?_
                      refine run_q (.none rfl) rfl rfl (q_pickT rfl rfl rfl rfl) ?_
                      refine run_q (.none rfl) rfl rfl (q_move rfl rfl) ?_
                      refine run_off (.no rfl rfl rfl rfl) rfl rfl ?_
                      refine run_off (.no rfl rfl rfl rfl) rfl rfl ?_
                      refine run_off (.no rfl rfl rfl rfl) rfl rfl ?_
                      refine run_off (.no rfl rfl rfl rfl) rfl rfl ?_
                      refine run_q (.none rfl) rfl rfl (q_pickT rfl rfl rfl rfl) ?_
                      refine run_q (.none rfl) rfl rfl (q_move rfl rfl) ?_
                      refine run_off (.no rfl rfl rfl rfl) rfl rfl ?_
                      refine run_off (.no rfl rfl rfl rfl) rfl rfl ?_
                      refine run_off (.no rfl rfl rfl rfl) rfl rfl ?_
                      refine run_off (.no rfl rfl rfl rfl) rfl rfl ?_
                      refine run_q (.none rfl) rfl rfl (q_pickT rfl rfl rfl rfl) ?_
                      refine run_q (.none rfl) rfl rfl (q_assign rfl rfl) ?_
                      refine run_nil ?_
                      refine run_sub (subMk (.cons (s := 4) rfl (.cons (s := 51) rfl .nil)) .refl) ?_
                      refine run_condT rfl rfl ?_
                      refine run_seq ?_
                      refine run_region ?_
                      refine run_q (.none rfl) rfl rfl (q_assign rfl rfl) ?_
                      refine run_nil ?_
                      refine run_ret ?_
                      exact end1 rfl rfl (by first | rw [reqE, if_pos (by omega)] | rw [reqE, if_neg (by omega), if_pos (by omega)] | rw [reqE, if_neg (by omega), if_neg (by omega), if_pos (by omega)] | rw [reqE, if_neg (by omega), if_neg (by omega), if_neg (by omega)])
                    · have g55' := g55
                      try simp only [decide_eq_true_eq, decide_eq_false_iff_not, beq_iff_eq, beq_eq_false_iff_ne, bne_iff_ne, bne_eq_false_iff_eq, Bool.not_eq_true', Bool.not_eq_false', ne_eq, Int.not_lt, Int.not_le, Decidable.not_not] at g55'
                      refine run_q (.on rfl rfl rfl g55) rfl rfl (q_fieldB (d := 6) rfl Try.underlying25 rfl rfl sz3 rfl) ?_
                      refine run_q (.on rfl rfl rfl g55) rfl rfl (q_loadB rfl one3 rfl Sel.here rfl) ?_
                      refine run_q (.on rfl rfl rfl g55) rfl rfl (q_gtr rfl rfl rfl) ?_
                      refine run_q (.none rfl) rfl rfl (q_pickF rfl rfl g55 rfl) ?_
                      refine run_q (.none rfl) rfl rfl (q_move rfl rfl) ?_
                      refine run_split 60 rfl (fun g60 => ?_) (fun g60 => ?_)
                      · have g60' := g60
                        try simp only [decide_eq_true_eq, decide_eq_false_iff_not, beq_iff_eq, beq_eq_false_iff_ne, bne_iff_ne, bne_eq_false_iff_eq, Bool.not_eq_true', Bool.not_eq_false', ne_eq, Int.not_lt, Int.not_le, Decidable.not_not] at g60'
                        refine run_off (.no rfl rfl rfl g60) rfl rfl ?_
                        refine run_off (.no rfl rfl rfl g60) rfl rfl ?_
                        refine run_off (.no rfl rfl rfl g60) rfl rfl ?_
                        refine run_q (.none rfl) rfl rfl (q_pickT rfl rfl g60 rfl) ?_
                        refine run_q (.none rfl) rfl rfl (q_move rfl rfl) ?_
                        refine run_off (.no rfl rfl rfl rfl) rfl rfl ?_
                        refine run_off (.no rfl rfl rfl rfl) rfl rfl ?_
                        refine run_off (.no rfl rfl rfl rfl) rfl rfl ?_
                        refine run_q (.none rfl) rfl rfl (q_pickT rfl rfl rfl rfl) ?_
                        refine run_q (.none rfl) rfl rfl (q_move rfl rfl) ?_
                        refine run_off (.no rfl rfl rfl rfl) rfl rfl ?_
                        refine run_off (.no rfl rfl rfl rfl) rfl rfl ?_
                        refine run_off (.no rfl rfl rfl rfl) rfl rfl ?_
                        refine run_off (.no rfl rfl rfl rfl) rfl rfl ?_
                        refine run_q (.none rfl) rfl rfl (q_pickT rfl rfl rfl rfl) ?_
                        refine run_q (.none rfl) rfl rfl (q_move rfl rfl) ?_
                        refine run_off (.no rfl rfl rfl rfl) rfl rfl ?_
                        refine run_off (.no rfl rfl rfl rfl) rfl rfl ?_
                        refine run_off (.no rfl rfl rfl rfl) rfl rfl ?_
                        refine run_off (.no rfl rfl rfl rfl) rfl rfl ?_
                        refine run_q (.none rfl) rfl rfl (q_pickT rfl rfl rfl rfl) ?_
                        refine run_q (.none rfl) rfl rfl (q_move rfl rfl) ?_
                        refine run_off (.no rfl rfl rfl rfl) rfl rfl ?_
                        refine run_off (.no rfl rfl rfl rfl) rfl rfl ?_
                        refine run_off (.no rfl rfl rfl rfl) rfl rfl ?_
                        refine run_off (.no rfl rfl rfl rfl) rfl rfl ?_
                        refine run_q (.none rfl) rfl rfl (q_pickT rfl rfl rfl rfl) ?_
                        refine run_q (.none rfl) rfl rfl (q_assign rfl rfl) ?_
                        refine run_nil ?_
                        refine run_sub (subMk (.cons (s := 4) rfl (.cons (s := 51) rfl .nil)) .refl) ?_
                        refine run_condT rfl rfl ?_
                        refine run_seq ?_
                        refine run_region ?_
                        refine run_q (.none rfl) rfl rfl (q_assign rfl rfl) ?_
                        refine run_nil ?_
                        refine run_ret ?_
                        exact end1 rfl rfl (by first | rw [reqE, if_pos (by omega)] | rw [reqE, if_neg (by omega), if_pos (by omega)] | rw [reqE, if_neg (by omega), if_neg (by omega), if_pos (by omega)] | rw [reqE, if_neg (by omega), if_neg (by omega), if_neg (by omega)])
                      · have g60' := g60
                        try simp only [decide_eq_true_eq, decide_eq_false_iff_not, beq_iff_eq, beq_eq_false_iff_ne, bne_iff_ne, bne_eq_false_iff_eq, Bool.not_eq_true', Bool.not_eq_false', ne_eq, Int.not_lt, Int.not_le, Decidable.not_not] at g60'
                        refine run_q (.on rfl rfl rfl g60) rfl rfl (q_fieldB (d := 7) rfl Try.underlying25 rfl rfl sz3 rfl) ?_
                        refine run_q (.on rfl rfl rfl g60) rfl rfl (q_loadB rfl one3 rfl Sel.here rfl) ?_
                        refine run_q (.on rfl rfl rfl g60) rfl rfl (q_lss rfl rfl rfl) ?_
                        refine run_q (.none rfl) rfl rfl (q_pickF rfl rfl g60 rfl) ?_
                        refine run_q (.none rfl) rfl rfl (q_move rfl rfl) ?_
                        refine run_split 65 rfl (fun g65 => ?_) (fun g65 => ?_)
                        · have g65' := g65
                          try simp only [decide_eq_true_eq, decide_eq_false_iff_not, beq_iff_eq, beq_eq_false_iff_ne, bne_iff_ne, bne_eq_false_iff_eq, Bool.not_eq_true', Bool.not_eq_false', ne_eq, Int.not_lt, Int.not_le, Decidable.not_not] at g65'
                          refine run_off (.no rfl rfl rfl g65) rfl rfl ?_
                          refine run_off (.no rfl rfl rfl g65) rfl rfl ?_
                          refine run_off (.no rfl rfl rfl g65) rfl rfl ?_
                          refine run_q (.none rfl) rfl rfl (q_pickT rfl rfl g65 rfl) ?_
                          refine run_q (.none rfl) rfl rfl (q_move rfl rfl) ?_
                          refine run_off (.no rfl rfl rfl rfl) rfl rfl ?_
                          refine run_off (.no rfl rfl rfl rfl) rfl rfl ?_
                          refine run_off (.no rfl rfl rfl rfl) rfl rfl ?_
                          refine run_off (.no rfl rfl rfl rfl) rfl rfl ?_
                          refine run_q (.none rfl) rfl rfl (q_pickT rfl rfl rfl rfl) ?_
                          refine run_q (.none rfl) rfl rfl (q_move rfl rfl) ?_
                          refine run_off (.no rfl rfl rfl rfl) rfl rfl ?_
                          refine run_off (.no rfl rfl rfl rfl) rfl rfl ?_
                          refine run_off (.no rfl rfl rfl rfl) rfl rfl ?_
                          refine run_off (.no rfl rfl rfl rfl) rfl rfl ?_
                          refine run_q (.none rfl) rfl rfl (q_pickT rfl rfl rfl rfl) ?_
                          refine run_q (.none rfl) rfl rfl (q_move rfl rfl) ?_
                          refine run_off (.no rfl rfl rfl rfl) rfl rfl ?_
                          refine run_off (.no rfl rfl rfl rfl) rfl rfl ?_
                          refine run_off (.no rfl rfl rfl rfl) rfl rfl ?_
                          refine run_off (.no rfl rfl rfl rfl) rfl rfl ?_
                          refine run_q (.none rfl) rfl rfl (q_pickT rfl rfl rfl rfl) ?_
                          refine run_q (.none rfl) rfl rfl (q_assign rfl rfl) ?_
                          refine run_nil ?_
                          refine run_sub (subMk (.cons (s := 4) rfl (.cons (s := 51) rfl .nil)) .refl) ?_
                          refine run_condT rfl rfl ?_
                          refine run_seq ?_
                          refine run_region ?_
                          refine run_q (.none rfl) rfl rfl (q_assign rfl rfl) ?_
                          refine run_nil ?_
                          refine run_ret ?_
                          exact end1 rfl rfl (by first | rw [reqE, if_pos (by omega)] | rw [reqE, if_neg (by omega), if_pos (by omega)] | rw [reqE, if_neg (by omega), if_neg (by omega), if_pos (by omega)] | rw [reqE, if_neg (by omega), if_neg (by omega), if_neg (by omega)])
                        · have g65' := g65
                          try simp only [decide_eq_true_eq, decide_eq_false_iff_not, beq_iff_eq, beq_eq_false_iff_ne, bne_iff_ne, bne_eq_false_iff_eq, Bool.not_eq_true', Bool.not_eq_false', ne_eq, Int.not_lt, Int.not_le, Decidable.not_not] at g65'
                          refine run_q (.on rfl rfl rfl g65) rfl rfl (q_fieldB (d := 7) rfl Try.underlying25 rfl rfl sz3 rfl) ?_
                          refine run_q (.on rfl rfl rfl g65) rfl rfl (q_loadB rfl one3 rfl Sel.here rfl) ?_
                          refine run_q (.on rfl rfl rfl g65) rfl rfl (q_gtr rfl rfl rfl) ?_
                          refine run_q (.none rfl) rfl rfl (q_pickF rfl rfl g65 rfl) ?_
                          refine run_q (.none rfl) rfl rfl (q_move rfl rfl) ?_
                          refine run_split 70 rfl (fun g70 => ?_) (fun g70 => ?_)
                          · have g70' := g70
                            try simp only [decide_eq_true_eq, decide_eq_false_iff_not, beq_iff_eq, beq_eq_false_iff_ne, bne_iff_ne, bne_eq_false_iff_eq, Bool.not_eq_true', Bool.not_eq_false', ne_eq, Int.not_lt, Int.not_le, Decidable.not_not] at g70'
                            refine run_off (.no rfl rfl rfl g70) rfl rfl ?_
                            refine run_off (.no rfl rfl rfl g70) rfl rfl ?_
                            refine run_off (.no rfl rfl rfl g70) rfl rfl ?_
                            refine run_off (.no rfl rfl rfl g70) rfl rfl ?_
                            refine run_q (.none rfl) rfl rfl (q_pickT rfl rfl g70 rfl) ?_
                            refine run_q (.none rfl) rfl rfl (q_move rfl rfl) ?_
                            refine run_off (.no rfl rfl rfl rfl) rfl rfl ?_
                            refine run_off (.no rfl rfl rfl rfl) rfl rfl ?_
                            refine run_off (.no rfl rfl rfl rfl) rfl rfl ?_
                            refine run_off (.no rfl rfl rfl rfl) rfl rfl ?_
                            refine run_q (.none rfl) rfl rfl (q_pickT rfl rfl rfl rfl) ?_
                            refine run_q (.none rfl) rfl rfl (q_move rfl rfl) ?_
                            refine run_off (.no rfl rfl rfl rfl) rfl rfl ?_
                            refine run_off (.no rfl rfl rfl rfl) rfl rfl ?_
                            refine run_off (.no rfl rfl rfl rfl) rfl rfl ?_
                            refine run_off (.no rfl rfl rfl rfl) rfl rfl ?_
                            refine run_q (.none rfl) rfl rfl (q_pickT rfl rfl rfl rfl) ?_
                            refine run_q (.none rfl) rfl rfl (q_assign rfl rfl) ?_
                            refine run_nil ?_
                            refine run_sub (subMk (.cons (s := 4) rfl (.cons (s := 51) rfl .nil)) .refl) ?_
                            refine run_condT rfl rfl ?_
                            refine run_seq ?_
                            refine run_region ?_
                            refine run_q (.none rfl) rfl rfl (q_assign rfl rfl) ?_
                            refine run_nil ?_
                            refine run_ret ?_
                            exact end1 rfl rfl (by first | rw [reqE, if_pos (by omega)] | rw [reqE, if_neg (by omega), if_pos (by omega)] | rw [reqE, if_neg (by omega), if_neg (by omega), if_pos (by omega)] | rw [reqE, if_neg (by omega), if_neg (by omega), if_neg (by omega)])
                          · have g70' := g70
                            try simp only [decide_eq_true_eq, decide_eq_false_iff_not, beq_iff_eq, beq_eq_false_iff_ne, bne_iff_ne, bne_eq_false_iff_eq, Bool.not_eq_true', Bool.not_eq_false', ne_eq, Int.not_lt, Int.not_le, Decidable.not_not] at g70'
                            refine run_q (.on rfl rfl rfl g70) rfl rfl (q_fieldB (d := 10) rfl Try.underlying25 rfl rfl sz3 rfl) ?_
                            refine run_q (.on rfl rfl rfl g70) rfl rfl (q_loadB rfl one3 rfl Sel.here rfl) ?_
                            refine run_q (.on rfl rfl rfl g70) rfl rfl (q_call rfl call35 (.cons rfl Evs.nil) (fun w hk hm => extent_just _ w)) ?_
                            refine run_q (.on rfl rfl rfl g70) rfl rfl (q_not rfl rfl) ?_
                            refine run_q (.none rfl) rfl rfl (q_pickF rfl rfl g70 rfl) ?_
                            refine run_q (.none rfl) rfl rfl (q_move rfl rfl) ?_
                            refine run_split 76 rfl (fun g76 => ?_) (fun g76 => ?_)
                            · have g76' := g76
                              try simp only [decide_eq_true_eq, decide_eq_false_iff_not, beq_iff_eq, beq_eq_false_iff_ne, bne_iff_ne, bne_eq_false_iff_eq, Bool.not_eq_true', Bool.not_eq_false', ne_eq, Int.not_lt, Int.not_le, Decidable.not_not] at g76'
                              refine run_off (.no rfl rfl rfl g76) rfl rfl ?_
                              refine run_off (.no rfl rfl rfl g76) rfl rfl ?_
                              refine run_off (.no rfl rfl rfl g76) rfl rfl ?_
                              refine run_off (.no rfl rfl rfl g76) rfl rfl ?_
                              refine run_q (.none rfl) rfl rfl (q_pickT rfl rfl g76 rfl) ?_
                              refine run_q (.none rfl) rfl rfl (q_move rfl rfl) ?_
                              refine run_off (.no rfl rfl rfl rfl) rfl rfl ?_
                              refine run_off (.no rfl rfl rfl rfl) rfl rfl ?_
                              refine run_off (.no rfl rfl rfl rfl) rfl rfl ?_
                              refine run_off (.no rfl rfl rfl rfl) rfl rfl ?_
                              refine run_q (.none rfl) rfl rfl (q_pickT rfl rfl rfl rfl) ?_
                              refine run_q (.none rfl) rfl rfl (q_assign rfl rfl) ?_
                              refine run_nil ?_
                              refine run_sub (subMk (.cons (s := 4) rfl (.cons (s := 51) rfl .nil)) .refl) ?_
                              refine run_condT rfl rfl ?_
                              refine run_seq ?_
                              refine run_region ?_
                              refine run_q (.none rfl) rfl rfl (q_assign rfl rfl) ?_
                              refine run_nil ?_
                              refine run_ret ?_
                              exact end1 rfl rfl (by first | rw [reqE, if_pos (by omega)] | rw [reqE, if_neg (by omega), if_pos (by omega)] | rw [reqE, if_neg (by omega), if_neg (by omega), if_pos (by omega)] | rw [reqE, if_neg (by omega), if_neg (by omega), if_neg (by omega)])
                            · have g76' := g76
                              try simp only [decide_eq_true_eq, decide_eq_false_iff_not, beq_iff_eq, beq_eq_false_iff_ne, bne_iff_ne, bne_eq_false_iff_eq, Bool.not_eq_true', Bool.not_eq_false', ne_eq, Int.not_lt, Int.not_le, Decidable.not_not] at g76'
                              refine run_q (.on rfl rfl rfl g76) rfl rfl (q_fieldB (d := 11) rfl Try.underlying25 rfl rfl sz3 rfl) ?_
                              refine run_q (.on rfl rfl rfl g76) rfl rfl (q_loadB rfl one3 rfl Sel.here rfl) ?_
                              refine run_q (.on rfl rfl rfl g76) rfl rfl (q_call rfl call35 (.cons rfl Evs.nil) (fun w hk hm => extent_just _ w)) ?_
                              refine run_q (.on rfl rfl rfl g76) rfl rfl (q_not rfl rfl) ?_
                              refine run_q (.none rfl) rfl rfl (q_pickF rfl rfl g76 rfl) ?_
                              refine run_q (.none rfl) rfl rfl (q_move rfl rfl) ?_
                              refine run_split 82 rfl (fun g82 => ?_) (fun g82 => ?_)
                              · have g82' := g82
                                try simp only [decide_eq_true_eq, decide_eq_false_iff_not, beq_iff_eq, beq_eq_false_iff_ne, bne_iff_ne, bne_eq_false_iff_eq, Bool.not_eq_true', Bool.not_eq_false', ne_eq, Int.not_lt, Int.not_le, Decidable.not_not] at g82'
                                refine run_off (.no rfl rfl rfl g82) rfl rfl ?_
                                refine run_off (.no rfl rfl rfl g82) rfl rfl ?_
                                refine run_off (.no rfl rfl rfl g82) rfl rfl ?_
                                refine run_off (.no rfl rfl rfl g82) rfl rfl ?_
                                refine run_q (.none rfl) rfl rfl (q_pickT rfl rfl g82 rfl) ?_
                                refine run_q (.none rfl) rfl rfl (q_assign rfl rfl) ?_
                                refine run_nil ?_
                                refine run_sub (subMk (.cons (s := 4) rfl (.cons (s := 51) rfl .nil)) .refl) ?_
                                refine run_condT rfl rfl ?_
                                refine run_seq ?_
                                refine run_region ?_
                                refine run_q (.none rfl) rfl rfl (q_assign rfl rfl) ?_
                                refine run_nil ?_
                                refine run_ret ?_
                                exact end1 rfl rfl (by first | rw [reqE, if_pos (by omega)] | rw [reqE, if_neg (by omega), if_pos (by omega)] | rw [reqE, if_neg (by omega), if_neg (by omega), if_pos (by omega)] | rw [reqE, if_neg (by omega), if_neg (by omega), if_neg (by omega)])
                              · have g82' := g82
                                try simp only [decide_eq_true_eq, decide_eq_false_iff_not, beq_iff_eq, beq_eq_false_iff_ne, bne_iff_ne, bne_eq_false_iff_eq, Bool.not_eq_true', Bool.not_eq_false', ne_eq, Int.not_lt, Int.not_le, Decidable.not_not] at g82'
                                refine run_q (.on rfl rfl rfl g82) rfl rfl (q_fieldB (d := 12) rfl Try.underlying25 rfl rfl sz3 rfl) ?_
                                refine run_q (.on rfl rfl rfl g82) rfl rfl (q_loadB rfl one3 rfl Sel.here rfl) ?_
                                refine run_q (.on rfl rfl rfl g82) rfl rfl (q_call rfl call35 (.cons rfl Evs.nil) (fun w hk hm => extent_just _ w)) ?_
                                refine run_q (.on rfl rfl rfl g82) rfl rfl (q_not rfl rfl) ?_
                                refine run_q (.none rfl) rfl rfl (q_pickF rfl rfl g82 rfl) ?_
                                refine run_q (.none rfl) rfl rfl (q_assign rfl rfl) ?_
                                refine run_nil ?_
                                refine run_sub (subMk (.cons (s := 4) rfl (.cons (s := 51) rfl .nil)) .refl) ?_
                                refine run_cond rfl (fun g51 => ?_) (fun g51 => ?_)
                                · have g51' := g51
                                  try simp only [decide_eq_true_eq, decide_eq_false_iff_not, beq_iff_eq, beq_eq_false_iff_ne, bne_iff_ne, bne_eq_false_iff_eq, Bool.not_eq_true', Bool.not_eq_false', ne_eq, Int.not_lt, Int.not_le, Decidable.not_not] at g51'
                                  refine run_seq ?_
                                  refine run_region ?_
                                  refine run_q (.none rfl) rfl rfl (q_assign rfl rfl) ?_
                                  refine run_nil ?_
                                  refine run_ret ?_
                                  exact end1 rfl rfl (by first | rw [reqE, if_pos (by omega)] | rw [reqE, if_neg (by omega), if_pos (by omega)] | rw [reqE, if_neg (by omega), if_neg (by omega), if_pos (by omega)] | rw [reqE, if_neg (by omega), if_neg (by omega), if_neg (by omega)])
                                · have g51' := g51
                                  try simp only [decide_eq_true_eq, decide_eq_false_iff_not, beq_iff_eq, beq_eq_false_iff_ne, bne_iff_ne, bne_eq_false_iff_eq, Bool.not_eq_true', Bool.not_eq_false', ne_eq, Int.not_lt, Int.not_le, Decidable.not_not] at g51'
                                  refine run_skip ?_
                                  refine run_blk ?_
                                  refine run_seq ?_
                                  refine run_region ?_
                                  refine run_q (.none rfl) rfl rfl (q_assign rfl rfl) ?_
                                  refine run_nil ?_
                                  refine run_ret ?_
                                  exact end1 rfl rfl (by first | rw [reqE, if_pos (by omega)] | rw [reqE, if_neg (by omega), if_pos (by omega)] | rw [reqE, if_neg (by omega), if_neg (by omega), if_pos (by omega)] | rw [reqE, if_neg (by omega), if_neg (by omega), if_neg (by omega)])
      · have g18' := g18
        try simp only [decide_eq_true_eq, decide_eq_false_iff_not, beq_iff_eq, beq_eq_false_iff_ne, bne_iff_ne, bne_eq_false_iff_eq, Bool.not_eq_true', Bool.not_eq_false', ne_eq, Int.not_lt, Int.not_le, Decidable.not_not] at g18'
        refine run_off (.no rfl rfl rfl g18) rfl rfl ?_
        refine run_off (.no rfl rfl rfl g18) rfl rfl ?_
        refine run_off (.no rfl rfl rfl g18) rfl rfl ?_
        refine run_q (.on rfl rfl rfl g14) rfl rfl (q_pickF rfl rfl g18 rfl) ?_
        refine run_q (.none rfl) rfl rfl (q_pickF rfl rfl g14 rfl) ?_
        refine run_q (.none rfl) rfl rfl (q_assign rfl rfl) ?_
        refine run_nil ?_
        refine run_sub (subMk (.cons (s := 1) rfl (.cons (s := 2) rfl (.cons (s := 4) rfl (.cons (s := 5) rfl .nil)))) .refl) ?_
        refine run_condF rfl rfl ?_
        refine run_seq ?_
        refine run_region ?_
        refine run_q (.none rfl) rfl rfl (q_fieldB (d := 1) rfl Try.underlying25 rfl rfl sz3 rfl) ?_
        refine run_q (.none rfl) rfl rfl (q_loadB rfl one3 rfl Sel.here rfl) ?_
        refine run_q (.none rfl) rfl rfl (q_lss rfl rfl rfl) ?_
        refine run_q (.none rfl) rfl rfl (q_move rfl rfl) ?_
        refine run_split 28 rfl (fun g28 => ?_) (fun g28 => ?_)
        · have g28' := g28
          try simp only [decide_eq_true_eq, decide_eq_false_iff_not, beq_iff_eq, beq_eq_false_iff_ne, bne_iff_ne, bne_eq_false_iff_eq, Bool.not_eq_true', Bool.not_eq_false', ne_eq, Int.not_lt, Int.not_le, Decidable.not_not] at g28'
          refine run_off (.no rfl rfl rfl g28) rfl rfl ?_
          refine run_off (.no rfl rfl rfl g28) rfl rfl ?_
          refine run_off (.no rfl rfl rfl g28) rfl rfl ?_
          refine run_q (.none rfl) rfl rfl (q_pickT rfl rfl g28 rfl) ?_
          refine run_q (.none rfl) rfl rfl (q_move rfl rfl) ?_
          refine run_off (.no rfl rfl rfl rfl) rfl rfl ?_
          refine run_off (.no rfl rfl rfl rfl) rfl rfl ?_
          refine run_off (.no rfl rfl rfl rfl) rfl rfl ?_
          refine run_q (.none rfl) rfl rfl (q_pickT rfl rfl rfl rfl) ?_
          refine run_q (.none rfl) rfl rfl (q_move rfl rfl) ?_
          refine run_off (.no rfl rfl rfl rfl) rfl rfl ?_
          refine run_off (.no rfl rfl rfl rfl) rfl rfl ?_
          refine run_off (.no rfl rfl rfl rfl) rfl rfl ?_
          refine run_off (.no rfl rfl rfl rfl) rfl rfl ?_
          refine run_off (.no rfl rfl rfl rfl) rfl rfl ?_
          refine run_q (.none rfl) rfl rfl (q_pickT rfl rfl rfl rfl) ?_
          refine run_q (.none rfl) rfl rfl (q_move rfl rfl) ?_
          refine run_off (.no rfl rfl rfl rfl) rfl rfl ?_
          refine run_off (.no rfl rfl rfl rfl) rfl rfl ?_
          refine run_off (.no rfl rfl rfl rfl) rfl rfl ?_
          refine run_off (.no rfl rfl rfl rfl) rfl rfl ?_
          refine run_q (.none rfl) rfl rfl (q_pickT rfl rfl rfl rfl) ?_
          refine run_q (.none rfl) rfl rfl (q_assign rfl rfl) ?_
          refine run_nil ?_
          refine run_sub (subMk (.cons (s := 2) rfl (.cons (s := 4) rfl (.cons (s := 24) rfl .nil))) .refl) ?_
          refine run_condT rfl rfl ?_
          refine run_seq ?_
          refine run_region ?_
          refine run_q (.none rfl) rfl rfl (q_assign rfl rfl) ?_
          refine run_nil ?_
          refine run_ret ?_
          exact end1 rfl rfl (by first | rw [reqE, if_pos (by omega)] | rw [reqE, if_neg (by omega), if_pos (by omega)] | rw [reqE, if_neg (by omega), if_neg (by omega), if_pos (by omega)] | rw [reqE, if_neg (by omega), if_neg (by omega), if_neg (by omega)])
        · have g28' := g28
          try simp only [decide_eq_true_eq, decide_eq_false_iff_not, beq_iff_eq, beq_eq_false_iff_ne, bne_iff_ne, bne_eq_false_iff_eq, Bool.not_eq_true', Bool.not_eq_false', ne_eq, Int.not_lt, Int.not_le, Decidable.not_not] at g28'
          refine run_q (.on rfl rfl rfl g28) rfl rfl (q_fieldB (d := 2) rfl Try.underlying25 rfl rfl sz3 rfl) ?_
          refine run_q (.on rfl rfl rfl g28) rfl rfl (q_loadB rfl one3 rfl Sel.here rfl) ?_
          refine run_q (.on rfl rfl rfl g28) rfl rfl (q_lss rfl rfl rfl) ?_
          refine run_q (.none rfl) rfl rfl (q_pickF rfl rfl g28 rfl) ?_
          refine run_q (.none rfl) rfl rfl (q_move rfl rfl) ?_
          refine run_split 33 rfl (fun g33 => ?_) (fun g33 => ?_)
          · have g33' := g33
            try simp only [decide_eq_true_eq, decide_eq_false_iff_not, beq_iff_eq, beq_eq_false_iff_ne, bne_iff_ne, bne_eq_false_iff_eq, Bool.not_eq_true', Bool.not_eq_false', ne_eq, Int.not_lt, Int.not_le, Decidable.not_not] at g33'
            refine run_off (.no rfl rfl rfl g33) rfl rfl ?_
            refine run_off (.no rfl rfl rfl g33) rfl rfl ?_
            refine run_off (.no rfl rfl rfl g33) rfl rfl ?_
            refine run_q (.none rfl) rfl rfl (q_pickT rfl rfl g33 rfl) ?_
            refine run_q (.none rfl) rfl rfl (q_move rfl rfl) ?_
            refine run_off (.no rfl rfl rfl rfl) rfl rfl ?_
            refine run_off (.no rfl rfl rfl rfl) rfl rfl ?_
            refine run_off (.no rfl rfl rfl rfl) rfl rfl ?_
            refine run_off (.no rfl rfl rfl rfl) rfl rfl ?_
            refine run_off (.no rfl rfl rfl rfl) rfl rfl ?_
            refine run_q (.none rfl) rfl rfl (q_pickT rfl rfl rfl rfl) ?_
            refine run_q (.none rfl) rfl rfl (q_move rfl rfl) ?_
            refine run_off (.no rfl rfl rfl rfl) rfl rfl ?_
            refine run_off (.no rfl rfl rfl rfl) rfl rfl ?_
            refine run_off (.no rfl rfl rfl rfl) rfl rfl ?_
            refine run_off (.no rfl rfl rfl rfl) rfl rfl ?_
            refine run_q (.none rfl) rfl rfl (q_pickT rfl rfl rfl rfl) ?_
            refine run_q (.none rfl) rfl rfl (q_assign rfl rfl) ?_
            refine run_nil ?_
            refine run_sub (subMk (.cons (s := 2) rfl (.cons (s := 4) rfl (.cons (s := 24) rfl .nil))) .refl) ?_
            refine run_condT rfl rfl ?_
            refine run_seq ?_
            refine run_region ?_
            refine run_q (.none rfl) rfl rfl (q_assign rfl rfl) ?_
            refine run_nil ?_
            refine run_ret ?_
            exact end1 rfl rfl (by first | rw [reqE, if_pos (by omega)] | rw [reqE, if_neg (by omega), if_pos (by omega)] | rw [reqE, if_neg (by omega), if_neg (by omega), if_pos (by omega)] | rw [reqE, if_neg (by omega), if_neg (by omega), if_neg (by omega)])
          · have g33' := g33
            try simp only [decide_eq_true_eq, decide_eq_false_iff_not, beq_iff_eq, beq_eq_false_iff_ne, bne_iff_ne, bne_eq_false_iff_eq, Bool.not_eq_true', Bool.not_eq_false', ne_eq, Int.not_lt, Int.not_le, Decidable.not_not] at g33'
            refine run_q (.on rfl rfl rfl g33) rfl rfl (q_fieldB (d := 3) rfl Try.underlying25 rfl rfl sz3 rfl) ?_
            refine run_q (.on rfl rfl rfl g33) rfl rfl (q_loadB rfl one3 rfl Sel.here rfl) ?_
            refine run_q (.on rfl rfl rfl g33) rfl rfl (q_lss rfl rfl rfl) ?_
            refine run_q (.none rfl) rfl rfl (q_pickF rfl rfl g33 rfl) ?_
            refine run_q (.none rfl) rfl rfl (q_move rfl rfl) ?_
            refine run_split 38 rfl (fun g38 => ?_) (fun g38 => ?_)
            · have g38' := g38
              try simp only [decide_eq_true_eq, decide_eq_false_iff_not, beq_iff_eq, beq_eq_false_iff_ne, bne_iff_ne, bne_eq_false_iff_eq, Bool.not_eq_true', Bool.not_eq_false', ne_eq, Int.not_lt, Int.not_le, Decidable.not_not] at g38'
              refine run_off (.no rfl rfl rfl g38) rfl rfl ?_
              refine run_off (.no rfl rfl rfl g38) rfl rfl ?_
              refine run_off (.no rfl rfl rfl g38) rfl rfl ?_
              refine run_off (.no rfl rfl rfl g38) rfl rfl ?_
              refine run_off (.no rfl rfl rfl g38) rfl rfl ?_
              refine run_q (.none rfl) rfl rfl (q_pickT rfl rfl g38 rfl) ?_
              refine run_q (.none rfl) rfl rfl (q_move rfl rfl) ?_
              refine run_off (.no rfl rfl rfl rfl) rfl rfl ?_
              refine run_off (.no rfl rfl rfl rfl) rfl rfl ?_
              refine run_off (.no rfl rfl rfl rfl) rfl rfl ?_
              refine run_off (.no rfl rfl rfl rfl) rfl rfl ?_
              refine run_q (.none rfl) rfl rfl (q_pickT rfl rfl rfl rfl) ?_
              refine run_q (.none rfl) rfl rfl (q_assign rfl rfl) ?_
              refine run_nil ?_
              refine run_sub (subMk (.cons (s := 2) rfl (.cons (s := 4) rfl (.cons (s := 24) rfl .nil))) .refl) ?_
              refine run_condT rfl rfl ?_
              refine run_seq ?_
              refine run_region ?_
              refine run_q (.none rfl) rfl rfl (q_assign rfl rfl) ?_
              refine run_nil ?_
              refine run_ret ?_
              exact end1 rfl rfl (by first | rw [reqE, if_pos (by omega)] | rw [reqE, if_neg (by omega), if_pos (by omega)] | rw [reqE, if_neg (by omega), if_neg (by omega), if_pos (by omega)] | rw [reqE, if_neg (by omega), if_neg (by omega), if_neg (by omega)])
            · have g38' := g38
              try simp only [decide_eq_true_eq, decide_eq_false_iff_not, beq_iff_eq, beq_eq_false_iff_ne, bne_iff_ne, bne_eq_false_iff_eq, Bool.not_eq_true', Bool.not_eq_false', ne_eq, Int.not_lt, Int.not_le, Decidable.not_not] at g38'
              refine run_q (.on rfl rfl rfl g38) rfl rfl (q_fieldB (d := 4) rfl Try.underlying25 rfl rfl sz3 rfl) ?_
              refine run_q (.on rfl rfl rfl g38) rfl rfl (q_loadB rfl one3 rfl Sel.here rfl) ?_
              refine run_q (.on rfl rfl rfl g38) rfl rfl (q_fieldB (d := 3) rfl Try.underlying25 rfl rfl sz3 rfl) ?_
              refine run_q (.on rfl rfl rfl g38) rfl rfl (q_loadB rfl one3 rfl Sel.here rfl) ?_
              refine run_q (.on rfl rfl rfl g38) rfl rfl (q_lss rfl rfl rfl) ?_
              refine run_q (.none rfl) rfl rfl (q_pickF rfl rfl g38 rfl) ?_
              refine run_q (.none rfl) rfl rfl (q_move rfl rfl) ?_
              refine run_split 45 rfl (fun g45 => ?_) (fun g45 => ?_)
              · have g45' := g45
                try simp only [decide_eq_true_eq, decide_eq_false_iff_not, beq_iff_eq, beq_eq_false_iff_ne, bne_iff_ne, bne_eq_false_iff_eq, Bool.not_eq_true', Bool.not_eq_false', ne_eq, Int.not_lt, Int.not_le, Decidable.not_not] at g45'
                refine run_off (.no rfl rfl rfl g45) rfl rfl ?_
                refine run_off (.no rfl rfl rfl g45) rfl rfl ?_
                refine run_off (.no rfl rfl rfl g45) rfl rfl ?_
                refine run_off (.no rfl rfl rfl g45) rfl rfl ?_
                refine run_q (.none rfl) rfl rfl (q_pickT rfl rfl g45 rfl) ?_
                refine run_q (.none rfl) rfl rfl (q_assign rfl rfl) ?_
                refine run_nil ?_
                refine run_sub (subMk (.cons (s := 2) rfl (.cons (s := 4) rfl (.cons (s := 24) rfl .nil))) .refl) ?_
                refine run_condT rfl rfl ?_
                refine run_seq ?_
                refine run_region ?_
                refine run_q (.none rfl) rfl rfl (q_assign rfl rfl) ?_
                refine run_nil ?_
                refine run_ret ?_
                exact end1 rfl rfl (by first | rw [reqE, if_pos (by omega)] | rw [reqE, if_neg (by omega), if_pos (by omega)] | rw [reqE, if_neg (by omega), if_neg (by omega), if_pos (by omega)] | rw [reqE, if_neg (by omega), if_neg (by omega), if_neg (by omega)])
              · have g45' := g45
                try simp only [decide_eq_true_eq, decide_eq_false_iff_not, beq_iff_eq, beq_eq_false_iff_ne, bne_iff_ne, bne_eq_false_iff_eq, Bool.not_eq_true', Bool.not_eq_false', ne_eq, Int.not_lt, Int.not_le, Decidable.not_not] at g45'
                refine run_q (.on rfl rfl rfl g45) rfl rfl (q_fieldB (d := 4) rfl Try.underlying25 rfl rfl sz3 rfl) ?_
                refine run_q (.on rfl rfl rfl g45) rfl rfl (q_loadB rfl one3 rfl Sel.here rfl) ?_
                refine run_q (.on rfl rfl rfl g45) rfl rfl (q_move rfl rfl) ?_
                refine run_q (.on rfl rfl rfl g45) rfl rfl (q_geq rfl rfl rfl) ?_
                refine run_q (.none rfl) rfl rfl (q_pickF rfl rfl g45 rfl) ?_
                refine run_q (.none rfl) rfl rfl (q_assign rfl rfl) ?_
                refine run_nil ?_
                refine run_sub (subMk (.cons (s := 2) rfl (.cons (s := 4) rfl (.cons (s := 24) rfl .nil))) .refl) ?_
                refine run_cond rfl (fun g24 => ?_) (fun g24 => ?_)
                · have g24' := g24
                  try simp only [decide_eq_true_eq, decide_eq_false_iff_not, beq_iff_eq, beq_eq_false_iff_ne, bne_iff_ne, bne_eq_false_iff_eq, Bool.not_eq_true', Bool.not_eq_false', ne_eq, Int.not_lt, Int.not_le, Decidable.not_not] at g24'
                  refine run_seq ?_
                  refine run_region ?_
                  refine run_q (.none rfl) rfl rfl (q_assign rfl rfl) ?_
                  refine run_nil ?_
                  refine run_ret ?_
                  exact end1 rfl rfl (by first | rw [reqE, if_pos (by omega)] | rw [reqE, if_neg (by omega), if_pos (by omega)] | rw [reqE, if_neg (by omega), if_neg (by omega), if_pos (by omega)] | rw [reqE, if_neg (by omega), if_neg (by omega), if_neg (by omega)])
                · have g24' := g24
                  try simp only [decide_eq_true_eq, decide_eq_false_iff_not, beq_iff_eq, beq_eq_false_iff_ne, bne_iff_ne, bne_eq_false_iff_eq, Bool.not_eq_true', Bool.not_eq_false', ne_eq, Int.not_lt, Int.not_le, Decidable.not_not] at g24'
                  refine run_seq ?_
                  refine run_region ?_
                  refine run_q (.none rfl) rfl rfl (q_fieldB (d := 6) rfl Try.underlying25 rfl rfl sz3 rfl) ?_
                  refine run_q (.none rfl) rfl rfl (q_loadB rfl one3 rfl Sel.here rfl) ?_
                  refine run_q (.none rfl) rfl rfl (q_lss rfl rfl rfl) ?_
                  refine run_q (.none rfl) rfl rfl (q_move rfl rfl) ?_
                  refine run_split 55 rfl (fun g55 => ?_) (fun g55 => ?_)
                  · have g55' := g55
                    try simp only [decide_eq_true_eq, decide_eq_false_iff_not, beq_iff_eq, beq_eq_false_iff_ne, bne_iff_ne, bne_eq_false_iff_eq, Bool.not_eq_true', Bool.not_eq_false', ne_eq, Int.not_lt, Int.not_le, Decidable.not_not] at g55'
                    refine run_off (.no rfl rfl rfl g55) rfl rfl ?_
                    refine run_off (.no rfl rfl rfl g55) rfl rfl ?_
                    refine run_off (.no rfl rfl rfl g55) rfl rfl ?_
                    refine run_q (.none rfl) rfl rfl (q_pickT rfl rfl g55 rfl) ?_
                    refine run_q (.none rfl) rfl rfl (q_move rfl rfl) ?_
                    refine run_off (.no rfl rfl rfl rfl) rfl rfl ?_
                    refine run_off (.no rfl rfl rfl rfl) rfl rfl ?_
                    refine run_off (.no rfl rfl rfl rfl) rfl rfl ?_
                    refine run_q (.none rfl) rfl rfl (q_pickT rfl rfl rfl rfl) ?_
                    refine run_q (.none rfl) rfl rfl (q_move rfl rfl) ?_
                    refine run_off (.no rfl rfl rfl rfl) rfl rfl ?_
                    refine run_off (.no rfl rfl rfl rfl) rfl rfl ?_
                    refine run_off (.no rfl rfl rfl rfl) rfl rfl ?_
                    refine run_q (.none rfl) rfl rfl (q_pickT rfl rfl rfl rfl) ?_
                    refine run_q (.none rfl) rfl rfl (q_move rfl rfl) ?_
                    refine run_off (.no rfl rfl rfl rfl) rfl rfl ?_
                    refine run_off (.no rfl rfl rfl rfl) rfl rfl ?_
                    refine run_off (.no rfl rfl rfl rfl) rfl rfl ?_
                    refine run_off (.no rfl rfl rfl rfl) rfl rfl ?_
                    refine run_q (.none rfl) rfl rfl (q_pickT rfl rfl rfl rfl) ?_
                    refine run_q (.none rfl) rfl rfl (q_move rfl rfl) ?_
                    refine run_off (.no rfl rfl rfl rfl) rfl rfl ?_
                    refine run_off (.no rfl rfl rfl rfl) rfl rfl ?_
                    refine run_off (.no rfl rfl rfl rfl) rfl rfl ?_
                    refine run_off (.no rfl rfl rfl rfl) rfl rfl ?_
                    refine run_q (.none rfl) rfl rfl (q_pickT rfl rfl rfl rfl) ?_
                    refine run_q (.none rfl) rfl rfl (q_move rfl rfl) ?_
                    refine run_off (.no rfl rfl rfl rfl) rfl rfl ?_
                    refine run_off (.no rfl rfl rfl rfl) rfl rfl ?_
                    refine run_off (.no rfl rfl rfl rfl) rfl rfl ?_
                    refine run_off (.no rfl rfl rfl rfl) rfl rfl ?_
                    refine run_q (.none rfl) rfl rfl (q_pickT rfl rfl rfl rfl) ?_
                    refine run_q (.none rfl) rfl rfl (q_assign rfl rfl) ?_
                    refine run_nil ?_
                    refine run_sub (subMk (.cons (s := 4) rfl (.cons (s := 51) rfl .nil)) .refl) ?_
                    refine run_condT rfl rfl ?_
                    refine run_seq ?_
                    refine run_region ?_
                    refine run_q (.none rfl) rfl rfl (q_assign rfl rfl) ?_
                    refine run_nil ?_
                    refine run_ret ?_
                    exact end1 rfl rfl (by first | rw [reqE, if_pos (by omega)] | rw [reqE, if_neg (by omega), if_pos (by omega)] | rw [reqE, if_neg (by omega), if_neg (by omega), if_pos (by omega)] | rw [reqE, if_neg (by omega), if_neg (by omega), if_neg (by omega)])
                  · have g55' := g55
                    try simp only [decide_eq_true_eq, decide_eq_false_iff_not, beq_iff_eq, beq_eq_false_iff_ne, bne_iff_ne, bne_eq_false_iff_eq, Bool.not_eq_true', Bool.not_eq_false', ne_eq, Int.not_lt, Int.not_le, Decidable.not_not] at g55'
                    refine run_q (.on rfl rfl rfl g55) rfl rfl (q_fieldB (d := 6) rfl Try.underlying25 rfl rfl sz3 rfl) ?_
                    refine run_q (.on rfl rfl rfl g55) rfl rfl (q_loadB rfl one3 rfl Sel.here rfl) ?_
                    refine run_q (.on rfl rfl rfl g55) rfl rfl (q_gtr rfl rfl rfl) ?_
                    refine run_q (.none rfl) rfl rfl (q_pickF rfl rfl g55 rfl) ?_
                    refine run_q (.none rfl) rfl rfl (q_move rfl rfl) ?_
                    refine run_split 60 rfl (fun g60 => ?_) (fun g60 => ?_)
                    · have g60' := g60
                      try simp only [decide_eq_true_eq, decide_eq_false_iff_not, beq_iff_eq, beq_eq_false_iff_ne, bne_iff_ne, bne_eq_false_iff_eq, Bool.not_eq_true', Bool.not_eq_false', ne_eq, Int.not_lt, Int.not_le, Decidable.not_not] at g60'
                      refine run_off (.no rfl rfl rfl g60) rfl rfl ?_
                      refine run_off (.no rfl rfl rfl g60) rfl rfl ?_
                      refine run_off (.no rfl rfl rfl g60) rfl rfl ?_
                      refine run_q (.none rfl) rfl rfl (q_pickT rfl rfl g60 rfl) ?_
                      refine run_q (.none rfl) rfl rfl (q_move rfl rfl) ?_
                      refine run_off (.no rfl rfl rfl rfl) rfl rfl ?_
                      refine run_off (.no rfl rfl rfl rfl) rfl rfl ?_
                      refine run_off (.no rfl rfl rfl rfl) rfl rfl ?_
                      refine run_q (.none rfl) rfl rfl (q_pickT rfl rfl rfl rfl) ?_
                      refine run_q (.none rfl) rfl rfl (q_move rfl rfl) ?_
                      refine run_off (.no rfl rfl rfl rfl) rfl rfl ?_
                      refine run_off (.no rfl rfl rfl rfl) rfl rfl ?_
                      refine run_off (.no rfl rfl rfl rfl) rfl rfl ?_
                      refine run_off (.no rfl rfl rfl rfl) rfl rfl ?_
                      refine run_q (.none rfl) rfl rfl (q_pickT rfl rfl rfl rfl) ?_
                      refine run_q (.none rfl) rfl rfl (q_move rfl rfl) ?_
                      refine run_off (.no rfl rfl rfl rfl) rfl rfl ?_
                      refine run_off (.no rfl rfl rfl rfl) rfl rfl ?_
                      refine run_off (.no rfl rfl rfl rfl) rfl rfl ?_
                      refine run_off (.no rfl rfl rfl rfl) rfl rfl ?_
                      refine run_q (.none rfl) rfl rfl (q_pickT rfl rfl rfl rfl) ?_
                      refine run_q (.none rfl) rfl rfl (q_move rfl rfl) ?_
                      refine run_off (.no rfl rfl rfl rfl) rfl rfl ?_
                      refine run_off (.no rfl rfl rfl rfl) rfl rfl ?_
                      refine run_off (.no rfl rfl rfl rfl) rfl rfl ?_
                      refine run_off (.no rfl rfl rfl rfl) rfl rfl ?_
                      refine run_q (.none rfl) rfl rfl (q_pickT rfl rfl rfl rfl) ?_
                      refine run_q (.none rfl) rfl rfl (q_assign rfl rfl) ?_
                      refine run_nil ?_
                      refine run_sub (subMk (.cons (s := 4) rfl (.cons (s := 51) rfl .nil)) .refl) ?_
                      refine run_condT rfl rfl ?_
                      refine run_seq ?_
                      refine run_region ?_
                      refine run_q (.none rfl) rfl rfl (q_assign rfl rfl) ?_
                      refine run_nil ?_
                      refine run_ret ?_
                      exact end1 rfl rfl (by first | rw [reqE, if_pos (by omega)] | rw [reqE, if_neg (by omega), if_pos (by omega)] | rw [reqE, if_neg (by omega), if_neg (by omega), if_pos (by omega)] | rw [reqE, if_neg (by omega), if_neg (by omega), if_neg (by omega)])
                    · have g60' := g60
                      try simp only [decide_eq_true_eq, decide_eq_false_iff_not, beq_iff_eq, beq_eq_false_iff_ne, bne_iff_ne, bne_eq_false_iff_eq, Bool.not_eq_true', Bool.not_eq_false', ne_eq, Int.not_lt, Int.not_le, Decidable.not_not] at g60'
                      refine run_q (.on rfl rfl rfl g60) rfl rfl (q_fieldB (d := 7) rfl Try.underlying25 rfl rfl sz3 rfl) ?_
                      refine run_q (.on rfl rfl rfl g60) rfl rfl (q_loadB rfl one3 rfl Sel.here rfl) ?_
                      refine run_q (.on rfl rfl rfl g60) rfl rfl (q_lss rfl rfl rfl) ?_
                      refine run_q (.none rfl) rfl rfl (q_pickF rfl rfl g60 rfl) ?_
                      refine run_q (.none rfl) rfl rfl (q_move rfl rfl) ?_
                      refine run_split 65 rfl (fun g65 => ?_) (fun g65 => ?_)
                      · have g65' := g65
                        try simp only [decide_eq_true_eq, decide_eq_false_iff_not, beq_iff_eq, beq_eq_false_iff_ne, bne_iff_ne, bne_eq_false_iff_eq, Bool.not_eq_true', Bool.not_eq_false', ne_eq, Int.not_lt, Int.not_le, Decidable.not_not] at g65'
                        refine run_off (.no rfl rfl rfl g65) rfl rfl ?_
                        refine run_off (.no rfl rfl rfl g65) rfl rfl ?_
                        refine run_off (.no rfl rfl rfl g65) rfl rfl ?_
                        refine run_q (.none rfl) rfl rfl (q_pickT rfl rfl g65 rfl) ?_
                        refine run_q (.none rfl) rfl rfl (q_move rfl rfl) ?_
                        refine run_off (.no rfl rfl rfl rfl) rfl rfl ?_
                        refine run_off (.no rfl rfl rfl rfl) rfl rfl ?_
                        refine run_off (.no rfl rfl rfl rfl) rfl rfl ?_
                        refine run_off (.no rfl rfl rfl rfl) rfl rfl ?_
                        refine run_q (.none rfl) rfl rfl (q_pickT rfl rfl rfl rfl) ?_
                        refine run_q (.none rfl) rfl rfl (q_move rfl rfl) ?_
                        refine run_off (.no rfl rfl rfl rfl) rfl rfl ?_
                        refine run_off (.no rfl rfl rfl rfl) rfl rfl ?_
                        refine run_off (.no rfl rfl rfl rfl) rfl rfl ?_
                        refine run_off (.no rfl rfl rfl rfl) rfl rfl ?_
                        refine run_q (.none rfl) rfl rfl (q_pickT rfl rfl rfl rfl) ?_
                        refine run_q (.none rfl) rfl rfl (q_move rfl rfl) ?_
                        refine run_off (.no rfl rfl rfl rfl) rfl rfl ?_
                        refine run_off (.no rfl rfl rfl rfl) rfl rfl ?_
                        refine run_off (.no rfl rfl rfl rfl) rfl rfl ?_
                        refine run_off (.no rfl rfl rfl rfl) rfl rfl ?_
                        refine run_q (.none rfl) rfl rfl (q_pickT rfl rfl rfl rfl) ?_
                        refine run_q (.none rfl) rfl rfl (q_assign rfl rfl) ?_
                        refine run_nil ?_
                        refine run_sub (subMk (.cons (s := 4) rfl (.cons (s := 51) rfl .nil)) .refl) ?_
                        refine run_condT rfl rfl ?_
                        refine run_seq ?_
                        refine run_region ?_
                        refine run_q (.none rfl) rfl rfl (q_assign rfl rfl) ?_
                        refine run_nil ?_
                        refine run_ret ?_
                        exact end1 rfl rfl (by first | rw [reqE, if_pos (by omega)] | rw [reqE, if_neg (by omega), if_pos (by omega)] | rw [reqE, if_neg (by omega), if_neg (by omega), if_pos (by omega)] | rw [reqE, if_neg (by omega), if_neg (by omega), if_neg (by omega)])
                      · have g65' := g65
                        try simp only [decide_eq_true_eq, decide_eq_false_iff_not, beq_iff_eq, beq_eq_false_iff_ne, bne_iff_ne, bne_eq_false_iff_eq, Bool.not_eq_true', Bool.not_eq_false', ne_eq, Int.not_lt, Int.not_le, Decidable.not_not] at g65'
                        refine run_q (.on rfl rfl rfl g65) rfl rfl (q_fieldB (d := 7) rfl Try.underlying25 rfl rfl sz3 rfl) ?_
                        refine run_q (.on rfl rfl rfl g65) rfl rfl (q_loadB rfl one3 rfl Sel.here rfl) ?_
                        refine run_q (.on rfl rfl rfl g65) rfl rfl (q_gtr rfl rfl rfl) ?_
                        refine run_q (.none rfl) rfl rfl (q_pickF rfl rfl g65 rfl) ?_
                        refine run_q (.none rfl) rfl rfl (q_move rfl rfl) ?_
                        refine run_split 70 rfl (fun g70 => ?_) (fun g70 => ?_)
                        · have g70' := g70
                          try simp only [decide_eq_true_eq, decide_eq_false_iff_not, beq_iff_eq, beq_eq_false_iff_ne, bne_iff_ne, bne_eq_false_iff_eq, Bool.not_eq_true', Bool.not_eq_false', ne_eq, Int.not_lt, Int.not_le, Decidable.not_not] at g70'
                          refine run_off (.no rfl rfl rfl g70) rfl rfl ?_
                          refine run_off (.no rfl rfl rfl g70) rfl rfl ?_
                          refine run_off (.no rfl rfl rfl g70) rfl rfl ?_
                          refine run_off (.no rfl rfl rfl g70) rfl rfl ?_
                          refine run_q (.none rfl) rfl rfl (q_pickT rfl rfl g70 rfl) ?_
                          refine run_q (.none rfl) rfl rfl (q_move rfl rfl) ?_
                          refine run_off (.no rfl rfl rfl rfl) rfl rfl ?_
                          refine run_off (.no rfl rfl rfl rfl) rfl rfl ?_
                          refine run_off (.no rfl rfl rfl rfl) rfl rfl ?_
                          refine run_off (.no rfl rfl rfl rfl) rfl rfl ?_
                          refine run_q (.none rfl) rfl rfl (q_pickT rfl rfl rfl rfl) ?_
                          refine run_q (.none rfl) rfl rfl (q_move rfl rfl) ?_
                          refine run_off (.no rfl rfl rfl rfl) rfl rfl ?_
                          refine run_off (.no rfl rfl rfl rfl) rfl rfl ?_
                          refine run_off (.no rfl rfl rfl rfl) rfl rfl ?_
                          refine run_off (.no rfl rfl rfl rfl) rfl rfl ?_
                          refine run_q (.none rfl) rfl rfl (q_pickT rfl rfl rfl rfl) ?_
                          refine run_q (.none rfl) rfl rfl (q_assign rfl rfl) ?_
                          refine run_nil ?_
                          refine run_sub (subMk (.cons (s := 4) rfl (.cons (s := 51) rfl .nil)) .refl) ?_
                          refine run_condT rfl rfl ?_
                          refine run_seq ?_
                          refine run_region ?_
                          refine run_q (.none rfl) rfl rfl (q_assign rfl rfl) ?_
                          refine run_nil ?_
                          refine run_ret ?_
                          exact end1 rfl rfl (by first | rw [reqE, if_pos (by omega)] | rw [reqE, if_neg (by omega), if_pos (by omega)] | rw [reqE, if_neg (by omega), if_neg (by omega), if_pos (by omega)] | rw [reqE, if_neg (by omega), if_neg (by omega), if_neg (by omega)])
                        · have g70' := g70
                          try simp only [decide_eq_true_eq, decide_eq_false_iff_not, beq_iff_eq, beq_eq_false_iff_ne, bne_iff_ne, bne_eq_false_iff_eq, Bool.not_eq_true', Bool.not_eq_false', ne_eq, Int.not_lt, Int.not_le, Decidable.not_not] at g70'
                          refine run_q (.on rfl rfl rfl g70) rfl rfl (q_fieldB (d := 10) rfl Try.underlying25 rfl rfl sz3 rfl) ?_
                          refine run_q (.on rfl rfl rfl g70) rfl rfl (q_loadB rfl one3 rfl Sel.here rfl) ?_
                          refine run_q (.on rfl rfl rfl g70) rfl rfl (q_call rfl call35 (.cons rfl Evs.nil) (fun w hk hm => extent_just _ w)) ?_
                          refine run_q (.on rfl rfl rfl g70) rfl rfl (q_not rfl rfl) ?_
                          refine run_q (.none rfl) rfl rfl (q_pickF rfl rfl g70 rfl) ?_
                          refine run_q (.none rfl) rfl rfl (q_move rfl rfl) ?_
                          refine run_split 76 rfl (fun g76 => ?_) (fun g76 => ?_)
                          · have g76' := g76
                            try simp only [decide_eq_true_eq, decide_eq_false_iff_not, beq_iff_eq, beq_eq_false_iff_ne, bne_iff_ne, bne_eq_false_iff_eq, Bool.not_eq_true', Bool.not_eq_false', ne_eq, Int.not_lt, Int.not_le, Decidable.not_not] at g76'
                            refine run_off (.no rfl rfl rfl g76) rfl rfl ?_
                            refine run_off (.no rfl rfl rfl g76) rfl rfl ?_
                            refine run_off (.no rfl rfl rfl g76) rfl rfl ?_
                            refine run_off (.no rfl rfl rfl g76) rfl rfl ?_
                            refine run_q (.none rfl) rfl rfl (q_pickT rfl rfl g76 rfl) ?_
                            refine run_q (.none rfl) rfl rfl (q_move rfl rfl) ?_
                            refine run_off (.no rfl rfl rfl rfl) rfl rfl ?_
                            refine run_off (.no rfl rfl rfl rfl) rfl rfl ?_
                            refine run_off (.no rfl rfl rfl rfl) rfl rfl ?_
                            refine run_off (.no rfl rfl rfl rfl) rfl rfl ?_
                            refine run_q (.none rfl) rfl rfl (q_pickT rfl rfl rfl rfl) ?_
                            refine run_q (.none rfl) rfl rfl (q_assign rfl rfl) ?_
                            refine run_nil ?_
                            refine run_sub (subMk (.cons (s := 4) rfl (.cons (s := 51) rfl .nil)) .refl) ?_
                            refine run_condT rfl rfl ?_
                            refine run_seq ?_
                            refine run_region ?_
                            refine run_q (.none rfl) rfl rfl (q_assign rfl rfl) ?_
                            refine run_nil ?_
                            refine run_ret ?_
                            exact end1 rfl rfl (by first | rw [reqE, if_pos (by omega)] | rw [reqE, if_neg (by omega), if_pos (by omega)] | rw [reqE, if_neg (by omega), if_neg (by omega), if_pos (by omega)] | rw [reqE, if_neg (by omega), if_neg (by omega), if_neg (by omega)])
                          · have g76' := g76
                            try simp only [decide_eq_true_eq, decide_eq_false_iff_not, beq_iff_eq, beq_eq_false_iff_ne, bne_iff_ne, bne_eq_false_iff_eq, Bool.not_eq_true', Bool.not_eq_false', ne_eq, Int.not_lt, Int.not_le, Decidable.not_not] at g76'
                            refine run_q (.on rfl rfl rfl g76) rfl rfl (q_fieldB (d := 11) rfl Try.underlying25 rfl rfl sz3 rfl) ?_
                            refine run_q (.on rfl rfl rfl g76) rfl rfl (q_loadB rfl one3 rfl Sel.here rfl) ?_
                            refine run_q (.on rfl rfl rfl g76) rfl rfl (q_call rfl call35 (.cons rfl Evs.nil) (fun w hk hm => extent_just _ w)) ?_
                            refine run_q (.on rfl rfl rfl g76) rfl rfl (q_not rfl rfl) ?_
                            refine run_q (.none rfl) rfl rfl (q_pickF rfl rfl g76 rfl) ?_
                            refine run_q (.none rfl) rfl rfl (q_move rfl rfl) ?_
                            refine run_split 82 rfl (fun g82 => ?_) (fun g82 => ?_)
                            · have g82' := g82
                              try simp only [decide_eq_true_eq, decide_eq_false_iff_not, beq_iff_eq, beq_eq_false_iff_ne, bne_iff_ne, bne_eq_false_iff_eq, Bool.not_eq_true', Bool.not_eq_false', ne_eq, Int.not_lt, Int.not_le, Decidable.not_not] at g82'
                              refine run_off (.no rfl rfl rfl g82) rfl rfl ?_
                              refine run_off (.no rfl rfl rfl g82) rfl rfl ?_
                              refine run_off (.no rfl rfl rfl g82) rfl rfl ?_
                              refine run_off (.no rfl rfl rfl g82) rfl rfl ?_
                              refine run_q (.none rfl) rfl rfl (q_pickT rfl rfl g82 rfl) ?_
                              refine run_q (.none rfl) rfl rfl (q_assign rfl rfl) ?_
                              refine run_nil ?_
                              refine run_sub (subMk (.cons (s := 4) rfl (.cons (s := 51) rfl .nil)) .refl) ?_
                              refine run_condT rfl rfl ?_
                              refine run_seq ?_
                              refine run_region ?_
                              refine run_q (.none rfl) rfl rfl (q_assign rfl rfl) ?_
                              refine run_nil ?_
                              refine run_ret ?_
                              exact end1 rfl rfl (by first | rw [reqE, if_pos (by omega)] | rw [reqE, if_neg (by omega), if_pos (by omega)] | rw [reqE, if_neg (by omega), if_neg (by omega), if_pos (by omega)] | rw [reqE, if_neg (by omega), if_neg (by omega), if_neg (by omega)])
                            · have g82' := g82
                              try simp only [decide_eq_true_eq, decide_eq_false_iff_not, beq_iff_eq, beq_eq_false_iff_ne, bne_iff_ne, bne_eq_false_iff_eq, Bool.not_eq_true', Bool.not_eq_false', ne_eq, Int.not_lt, Int.not_le, Decidable.not_not] at g82'
                              refine run_q (.on rfl rfl rfl g82) rfl rfl (q_fieldB (d := 12) rfl Try.underlying25 rfl rfl sz3 rfl) ?_
                              refine run_q (.on rfl rfl rfl g82) rfl rfl (q_loadB rfl one3 rfl Sel.here rfl) ?_
                              refine run_q (.on rfl rfl rfl g82) rfl rfl (q_call rfl call35 (.cons rfl Evs.nil) (fun w hk hm => extent_just _ w)) ?_
                              refine run_q (.on rfl rfl rfl g82) rfl rfl (q_not rfl rfl) ?_
                              refine run_q (.none rfl) rfl rfl (q_pickF rfl rfl g82 rfl) ?_
                              refine run_q (.none rfl) rfl rfl (q_assign rfl rfl) ?_
                              refine run_nil ?_
                              refine run_sub (subMk (.cons (s := 4) rfl (.cons (s := 51) rfl .nil)) .refl) ?_
                              refine run_cond rfl (fun g51 => ?_) (fun g51 => ?_)
                              · have g51' := g51
                                try simp only [decide_eq_true_eq, decide_eq_false_iff_not, beq_iff_eq, beq_eq_false_iff_ne, bne_iff_ne, bne_eq_false_iff_eq, Bool.not_eq_true', Bool.not_eq_false', ne_eq, Int.not_lt, Int.not_le, Decidable.not_not] at g51'
                                refine run_seq ?_
                                refine run_region ?_
                                refine run_q (.none rfl) rfl rfl (q_assign rfl rfl) ?_
                                refine run_nil ?_
                                refine run_ret ?_
                                exact end1 rfl rfl (by first | rw [reqE, if_pos (by omega)] | rw [reqE, if_neg (by omega), if_pos (by omega)] | rw [reqE, if_neg (by omega), if_neg (by omega), if_pos (by omega)] | rw [reqE, if_neg (by omega), if_neg (by omega), if_neg (by omega)])
                              · have g51' := g51
                                try simp only [decide_eq_true_eq, decide_eq_false_iff_not, beq_iff_eq, beq_eq_false_iff_ne, bne_iff_ne, bne_eq_false_iff_eq, Bool.not_eq_true', Bool.not_eq_false', ne_eq, Int.not_lt, Int.not_le, Decidable.not_not] at g51'
                                refine run_skip ?_
                                refine run_blk ?_
                                refine run_seq ?_
                                refine run_region ?_
                                refine run_q (.none rfl) rfl rfl (q_assign rfl rfl) ?_
                                refine run_nil ?_
                                refine run_ret ?_
                                exact end1 rfl rfl (by first | rw [reqE, if_pos (by omega)] | rw [reqE, if_neg (by omega), if_pos (by omega)] | rw [reqE, if_neg (by omega), if_neg (by omega), if_pos (by omega)] | rw [reqE, if_neg (by omega), if_neg (by omega), if_neg (by omega)])

set_option maxHeartbeats 2000000 in
set_option maxRecDepth 100000 in
theorem refcheck_just (x : Req) (n : Int) (W : World)  : Calls Try.prog 15 #[x.val, .int .i64 n] W (Hr.Just W (.int .i64 (reqE x n))) := by
  refine Just.of_ret ?_
  refine enterA (X := nX) (vs := [x.val, .int .i64 n]) Try.func15 Try.ntmps15 rfl rfl Mem.nil ?_
  refine run_seq ?_
  refine run_region ?_
  refine run_h (.none rfl) (h_box rfl rfl rfl rfl rfl) ?_
  rintro b2 -
  refine run_q (.none rfl) rfl rfl (q_assign rfl rfl) ?_
  refine run_nil ?_
  refine run_seq ?_
  refine run_block ?_
  refine run_seq ?_
  refine run_region ?_
  refine run_q (.none rfl) rfl rfl (q_fieldB (d := 0) rfl Try.underlying25 rfl rfl sz3 rfl) ?_
  refine run_q (.none rfl) rfl rfl (q_loadB rfl one3 rfl Sel.here rfl) ?_
  refine run_q (.none rfl) rfl rfl (q_lss rfl rfl rfl) ?_
  refine run_q (.none rfl) rfl rfl (q_move rfl rfl) ?_
  refine run_split 9 rfl (fun g9 => ?_) (fun g9 => ?_)
  · have g9' := g9
    try simp only [decide_eq_true_eq, decide_eq_false_iff_not, beq_iff_eq, beq_eq_false_iff_ne, bne_iff_ne, bne_eq_false_iff_eq, Bool.not_eq_true', Bool.not_eq_false', ne_eq, Int.not_lt, Int.not_le, Decidable.not_not] at g9'
    refine run_off (.no rfl rfl rfl g9) rfl rfl ?_
    refine run_off (.no rfl rfl rfl g9) rfl rfl ?_
    refine run_off (.no rfl rfl rfl g9) rfl rfl ?_
    refine run_q (.none rfl) rfl rfl (q_pickT rfl rfl g9 rfl) ?_
    refine run_q (.none rfl) rfl rfl (q_move rfl rfl) ?_
    refine run_off (.no rfl rfl rfl rfl) rfl rfl ?_
    refine run_off (.no rfl rfl rfl rfl) rfl rfl ?_
    refine run_off (.no rfl rfl rfl rfl) rfl rfl ?_
    refine run_off (.no rfl rfl rfl rfl) rfl rfl ?_
    refine run_off (.off rfl rfl rfl) rfl rfl ?_
    refine run_off (.off rfl rfl rfl) rfl rfl ?_
    refine run_off (.off rfl rfl rfl) rfl rfl ?_
    refine run_off (.no rfl rfl rfl rfl) rfl rfl ?_
    refine run_q (.none rfl) rfl rfl (q_pickT rfl rfl rfl rfl) ?_
    refine run_q (.none rfl) rfl rfl (q_assign rfl rfl) ?_
    refine run_nil ?_
    refine run_sub (subMk (.cons (s := 1) rfl (.cons (s := 2) rfl (.cons (s := 4) rfl (.cons (s := 5) rfl .nil)))) .refl) ?_
    refine run_condT rfl rfl ?_
    refine run_seq ?_
    refine run_region ?_
    refine run_q (.none rfl) rfl rfl (q_assign rfl rfl) ?_
    refine run_nil ?_
    refine run_sub (subMk (.cons (s := 4) rfl .nil) .refl) ?_
    refine run_ret ?_
    exact end1 rfl rfl (by first | rw [reqE, if_pos (by omega)] | rw [reqE, if_neg (by omega), if_pos (by omega)] | rw [reqE, if_neg (by omega), if_neg (by omega), if_pos (by omega)] | rw [reqE, if_neg (by omega), if_neg (by omega), if_neg (by omega)])
  · have g9' := g9
    try simp only [decide_eq_true_eq, decide_eq_false_iff_not, beq_iff_eq, beq_eq_false_iff_ne, bne_iff_ne, bne_eq_false_iff_eq, Bool.not_eq_true', Bool.not_eq_false', ne_eq, Int.not_lt, Int.not_le, Decidable.not_not] at g9'
    refine run_q (.on rfl rfl rfl g9) rfl rfl (q_fieldB (d := 0) rfl Try.underlying25 rfl rfl sz3 rfl) ?_
    refine run_q (.on rfl rfl rfl g9) rfl rfl (q_loadB rfl one3 rfl Sel.here rfl) ?_
    refine run_q (.on rfl rfl rfl g9) rfl rfl (q_gtr rfl rfl rfl) ?_
    refine run_q (.none rfl) rfl rfl (q_pickF rfl rfl g9 rfl) ?_
    refine run_q (.none rfl) rfl rfl (q_move rfl rfl) ?_
    refine run_split 14 rfl (fun g14 => ?_) (fun g14 => ?_)
    · have g14' := g14
      try simp only [decide_eq_true_eq, decide_eq_false_iff_not, beq_iff_eq, beq_eq_false_iff_ne, bne_iff_ne, bne_eq_false_iff_eq, Bool.not_eq_true', Bool.not_eq_false', ne_eq, Int.not_lt, Int.not_le, Decidable.not_not] at g14'
      refine run_off (.no rfl rfl rfl g14) rfl rfl ?_
      refine run_off (.no rfl rfl rfl g14) rfl rfl ?_
      refine run_off (.no rfl rfl rfl g14) rfl rfl ?_
      refine run_off (.no rfl rfl rfl g14) rfl rfl ?_
      refine run_off (.off rfl rfl rfl) rfl rfl ?_
      refine run_off (.off rfl rfl rfl) rfl rfl ?_
      refine run_off (.off rfl rfl rfl) rfl rfl ?_
      refine run_off (.no rfl rfl rfl g14) rfl rfl ?_
      refine run_q (.none rfl) rfl rfl (q_pickT rfl rfl g14 rfl) ?_
      refine run_q (.none rfl) rfl rfl (q_assign rfl rfl) ?_
      refine run_nil ?_
      refine run_sub (subMk (.cons (s := 1) rfl (.cons (s := 2) rfl (.cons (s := 4) rfl (.cons (s := 5) rfl .nil)))) .refl) ?_
      refine run_condT rfl rfl ?_
      refine run_seq ?_
      refine run_region ?_
      refine run_q (.none rfl) rfl rfl (q_assign rfl rfl) ?_
      refine run_nil ?_
      refine run_sub (subMk (.cons (s := 4) rfl .nil) .refl) ?_
      refine run_ret ?_
      exact end1 rfl rfl (by first | rw [reqE, if_pos (by omega)] | rw [reqE, if_neg (by omega), if_pos (by omega)] | rw [reqE, if_neg (by omega), if_neg (by omega), if_pos (by omega)] | rw [reqE, if_neg (by omega), if_neg (by omega), if_neg (by omega)])
    · have g14' := g14
      try simp only [decide_eq_true_eq, decide_eq_false_iff_not, beq_iff_eq, beq_eq_false_iff_ne, bne_iff_ne, bne_eq_false_iff_eq, Bool.not_eq_true', Bool.not_eq_false', ne_eq, Int.not_lt, Int.not_le, Decidable.not_not] at g14'
      refine run_q (.on rfl rfl rfl g14) rfl rfl (q_fieldB (d := 5) rfl Try.underlying25 rfl rfl sz3 rfl) ?_
      refine run_q (.on rfl rfl rfl g14) rfl rfl (q_loadB rfl one3 rfl Sel.here rfl) ?_
      refine run_q (.on rfl rfl rfl g14) rfl rfl (q_neq rfl rfl rfl) ?_
      refine run_q (.on rfl rfl rfl g14) rfl rfl (q_move rfl rfl) ?_
      refine run_split 18 rfl (fun g18 => ?_) (fun g18 => ?_)
      · have g18' := g18
        try simp only [decide_eq_true_eq, decide_eq_false_iff_not, beq_iff_eq, beq_eq_false_iff_ne, bne_iff_ne, bne_eq_false_iff_eq, Bool.not_eq_true', Bool.not_eq_false', ne_eq, Int.not_lt, Int.not_le, Decidable.not_not] at g18'
        refine run_q (.on rfl rfl rfl g18) rfl rfl (q_fieldB (d := 5) rfl Try.underlying25 rfl rfl sz3 rfl) ?_
        refine run_q (.on rfl rfl rfl g18) rfl rfl (q_loadB rfl one3 rfl Sel.here rfl) ?_
        refine run_q (.on rfl rfl rfl g18) rfl rfl (q_neq rfl rfl rfl) ?_
        refine run_q (.on rfl rfl rfl g14) rfl rfl (q_pickT rfl rfl g18 rfl) ?_
        refine run_q (.none rfl) rfl rfl (q_pickF rfl rfl g14 rfl) ?_
        refine run_q (.none rfl) rfl rfl (q_assign rfl rfl) ?_
        refine run_nil ?_
        refine run_sub (subMk (.cons (s := 1) rfl (.cons (s := 2) rfl (.cons (s := 4) rfl (.cons (s := 5) rfl .nil)))) .refl) ?_
        refine run_cond rfl (fun g5 => ?_) (fun g5 => ?_)
        · have g5' := g5
          try simp only [decide_eq_true_eq, decide_eq_false_iff_not, beq_iff_eq, beq_eq_false_iff_ne, bne_iff_ne, bne_eq_false_iff_eq, Bool.not_eq_true', Bool.not_eq_false', ne_eq, Int.not_lt, Int.not_le, Decidable.not_not] at g5'
          refine run_seq ?_
          refine run_region ?_
          refine run_q (.none rfl) rfl rfl (q_assign rfl rfl) ?_
          refine run_nil ?_
          refine run_sub (subMk (.cons (s := 4) rfl .nil) .refl) ?_
          refine run_ret ?_
          exact end1 rfl rfl (by first | rw [reqE, if_pos (by omega)] | rw [reqE, if_neg (by omega), if_pos (by omega)] | rw [reqE, if_neg (by omega), if_neg (by omega), if_pos (by omega)] | rw [reqE, if_neg (by omega), if_neg (by omega), if_neg (by omega)])
        · have g5' := g5
          try simp only [decide_eq_true_eq, decide_eq_false_iff_not, beq_iff_eq, beq_eq_false_iff_ne, bne_iff_ne, bne_eq_false_iff_eq, Bool.not_eq_true', Bool.not_eq_false', ne_eq, Int.not_lt, Int.not_le, Decidable.not_not] at g5'
          refine run_seq ?_
          refine run_region ?_
          refine run_q (.none rfl) rfl rfl (q_fieldB (d := 1) rfl Try.underlying25 rfl rfl sz3 rfl) ?_
          refine run_q (.none rfl) rfl rfl (q_loadB rfl one3 rfl Sel.here rfl) ?_
          refine run_q (.none rfl) rfl rfl (q_lss rfl rfl rfl) ?_
          refine run_q (.none rfl) rfl rfl (q_move rfl rfl) ?_
          refine run_split 28 rfl (fun g28 => ?_) (fun g28 => ?_)
          · have g28' := g28
            try simp only [decide_eq_true_eq, decide_eq_false_iff_not, beq_iff_eq, beq_eq_false_iff_ne, bne_iff_ne, bne_eq_false_iff_eq, Bool.not_eq_true', Bool.not_eq_false', ne_eq, Int.not_lt, Int.not_le, Decidable.not_not] at g28'
            refine run_off (.no rfl rfl rfl g28) rfl rfl ?_
            refine run_off (.no rfl rfl rfl g28) rfl rfl ?_
            refine run_off (.no rfl rfl rfl g28) rfl rfl ?_
            refine run_q (.none rfl) rfl rfl (q_pickT rfl rfl g28 rfl) ?_
            refine run_q (.none rfl) rfl rfl (q_move rfl rfl) ?_
            refine run_off (.no rfl rfl rfl rfl) rfl rfl ?_
            refine run_off (.no rfl rfl rfl rfl) rfl rfl ?_
            refine run_off (.no rfl rfl rfl rfl) rfl rfl ?_
            refine run_q (.none rfl) rfl rfl (q_pickT rfl rfl rfl rfl) ?_
            refine run_q (.none rfl) rfl rfl (q_move rfl rfl) ?_
            refine run_off (.no rfl rfl rfl rfl) rfl rfl ?_
            refine run_off (.no rfl rfl rfl rfl) rfl rfl ?_
            refine run_off (.no rfl rfl rfl rfl) rfl rfl ?_
            refine run_off (.no rfl rfl rfl rfl) rfl rfl ?_
            refine run_off (.no rfl rfl rfl rfl) rfl rfl ?_
            refine run_q (.none rfl) rfl rfl (q_pickT rfl rfl rfl rfl) ?_
            refine run_q (.none rfl) rfl rfl (q_move rfl rfl) ?_
            refine run_off (.no rfl rfl rfl rfl) rfl rfl ?_
            refine run_off (.no rfl rfl rfl rfl) rfl rfl ?_
            refine run_off (.no rfl rfl rfl rfl) rfl rfl ?_
            refine run_off (.no rfl rfl rfl rfl) rfl rfl ?_
            refine run_q (.none rfl) rfl rfl (q_pickT rfl rfl rfl rfl) ?_
            refine run_q (.none rfl) rfl rfl (q_move rfl rfl) ?_
            refine run_off (.no rfl rfl rfl rfl) rfl rfl ?_
            refine run_off (.no rfl rfl rfl rfl) rfl rfl ?_
            refine run_off (.no rfl rfl rfl rfl) rfl rfl ?_
            refine run_q (.none rfl) rfl rfl (q_pickT rfl rfl rfl rfl) ?_
            refine run_q (.none rfl) rfl rfl (q_move rfl rfl) ?_
            refine run_off (.no rfl rfl rfl rfl) rfl rfl ?_
            refine run_off (.no rfl rfl rfl rfl) rfl rfl ?_
            refine run_off (.no rfl rfl rfl rfl) rfl rfl ?_
            refine run_q (.none rfl) rfl rfl (q_pickT rfl rfl rfl rfl) ?_
            refine run_q (.none rfl) rfl rfl (q_move rfl rfl) ?_
            refine run_off (.no rfl rfl rfl rfl) rfl rfl ?_
            refine run_off (.no rfl rfl rfl rfl) rfl rfl ?_
            refine run_off (.no rfl rfl rfl rfl) rfl rfl ?_
            refine run_q (.none rfl) rfl rfl (q_pickT rfl rfl rfl rfl) ?_
            refine run_q (.none rfl) rfl rfl (q_move rfl rfl) ?_
            refine run_off (.no rfl rfl rfl rfl) rfl rfl ?_
            refine run_off (.no rfl rfl rfl rfl) rfl rfl ?_
            refine run_off (.no rfl rfl rfl rfl) rfl rfl ?_
            refine run_q (.none rfl) rfl rfl (q_pickT rfl rfl rfl rfl) ?_
            refine run_q (.none rfl) rfl rfl (q_move rfl rfl) ?_
            refine run_off (.no rfl rfl rfl rfl) rfl rfl ?_
            refine run_off (.no rfl rfl rfl rfl) rfl rfl ?_
            refine run_off (.no rfl rfl rfl rfl) rfl rfl ?_
            refine run_q (.none rfl) rfl rfl (q_pickT rfl rfl rfl rfl) ?_
            refine run_q (.none rfl) rfl rfl (q_move rfl rfl) ?_
            refine run_off (.no rfl rfl rfl rfl) rfl rfl ?_
            refine run_off (.no rfl rfl rfl rfl) rfl rfl ?_
            refine run_off (.no rfl rfl rfl rfl) rfl rfl ?_
            refine run_q (.none rfl) rfl rfl (q_pickT rfl rfl rfl rfl) ?_
            refine run_q (.none rfl) rfl rfl (q_move rfl rfl) ?_
            refine run_off (.no rfl rfl rfl rfl) rfl rfl ?_
            refine run_off (.no rfl rfl rfl rfl) rfl rfl ?_
            refine run_off (.no rfl rfl rfl rfl) rfl rfl ?_
            refine run_q (.none rfl) rfl rfl (q_pickT rfl rfl rfl rfl) ?_
            refine run_q (.none rfl) rfl rfl (q_move rfl rfl) ?_
            refine run_off (.no rfl rfl rfl rfl) rfl rfl ?_
            refine run_off (.no rfl rfl rfl rfl) rfl rfl ?_
            refine run_off (.no rfl rfl rfl rfl) rfl rfl ?_
            refine run_q (.none rfl) rfl rfl (q_pickT rfl rfl rfl rfl) ?_
            refine run_q (.none rfl) rfl rfl (q_move rfl rfl) ?_
            refine run_off (.no rfl rfl rfl rfl) rfl rfl ?_
            refine run_off (.no rfl rfl rfl rfl) rfl rfl ?_
            refine run_off (.no rfl rfl rfl rfl) rfl rfl ?_
            refine run_q (.none rfl) rfl rfl (q_pickT rfl rfl rfl rfl) ?_
            refine run_q (.none rfl) rfl rfl (q_move rfl rfl) ?_
            refine run_off (.no rfl rfl rfl rfl) rfl rfl ?_
            refine run_off (.no rfl rfl rfl rfl) rfl rfl ?_
            refine run_off (.no rfl rfl rfl rfl) rfl rfl ?_
            refine run_q (.none rfl) rfl rfl (q_pickT rfl rfl rfl rfl) ?_
            refine run_q (.none rfl) rfl rfl (q_assign rfl rfl) ?_
            refine run_nil ?_
            refine run_sub (subMk (.cons (s := 4) rfl (.cons (s := 24) rfl .nil)) .refl) ?_
            refine run_condT rfl rfl ?_
            refine run_seq ?_
            refine run_region ?_
            refine run_q (.none rfl) rfl rfl (q_assign rfl rfl) ?_
            refine run_nil ?_
            refine run_ret ?_
            exact end1 rfl rfl (by first | rw [reqE, if_pos (by omega)] | rw [reqE, if_neg (by omega), if_pos (by omega)] | rw [reqE, if_neg (by omega), if_neg (by omega), if_pos (by omega)] | rw [reqE, if_neg (by omega), if_neg (by omega), if_neg (by omega)])
          · have g28' := g28
            try simp only [decide_eq_true_eq, decide_eq_false_iff_not, beq_iff_eq, beq_eq_false_iff_ne, bne_iff_ne, bne_eq_false_iff_eq, Bool.not_eq_true', Bool.not_eq_false', ne_eq, Int.not_lt, Int.not_le, Decidable.not_not] at g28'
            refine run_q (.on rfl rfl rfl g28) rfl rfl (q_fieldB (d := 2) rfl Try.underlying25 rfl rfl sz3 rfl) ?_
            refine run_q (.on rfl rfl rfl g28) rfl rfl (q_loadB rfl one3 rfl Sel.here rfl) ?_
            refine run_q (.on rfl rfl rfl g28) rfl rfl (q_lss rfl rfl rfl) ?_
            refine run_q (.none rfl) rfl rfl (q_pickF rfl rfl g28 rfl) ?_
            refine run_q (.none rfl) rfl rfl (q_move rfl rfl) ?_
            refine run_split 33 rfl (fun g33 => ?_) (fun g33 => ?_)
            · have g33' := g33
              try simp only [decide_eq_true_eq, decide_eq_false_iff_not, beq_iff_eq, beq_eq_false_iff_ne, bne_iff_ne, bne_eq_false_iff_eq, Bool.not_eq_true', Bool.not_eq_false', ne_eq, Int.not_lt, Int.not_le, Decidable.not_not] at g33'
              refine run_off (.no rfl rfl rfl g33) rfl rfl ?_
              refine run_off (.no rfl rfl rfl g33) rfl rfl ?_
              refine run_off (.no rfl rfl rfl g33) rfl rfl ?_
              refine run_q (.none rfl) rfl rfl (q_pickT rfl rfl g33 rfl) ?_
              refine run_q (.none rfl) rfl rfl (q_move rfl rfl) ?_
              refine run_off (.no rfl rfl rfl rfl) rfl rfl ?_
              refine run_off (.no rfl rfl rfl rfl) rfl rfl ?_
              refine run_off (.no rfl rfl rfl rfl) rfl rfl ?_
              refine run_off (.no rfl rfl rfl rfl) rfl rfl ?_
              refine run_off (.no rfl rfl rfl rfl) rfl rfl ?_
              refine run_q (.none rfl) rfl rfl (q_pickT rfl rfl rfl rfl) ?_
              refine run_q (.none rfl) rfl rfl (q_move rfl rfl) ?_
              refine run_off (.no rfl rfl rfl rfl) rfl rfl ?_
              refine run_off (.no rfl rfl rfl rfl) rfl rfl ?_
              refine run_off (.no rfl rfl rfl rfl) rfl rfl ?_
              refine run_off (.no rfl rfl rfl rfl) rfl rfl ?_
              refine run_q (.none rfl) rfl rfl (q_pickT rfl rfl rfl rfl) ?_
              refine run_q (.none rfl) rfl rfl (q_move rfl rfl) ?_
              refine run_off (.no rfl rfl rfl rfl) rfl rfl ?_
              refine run_off (.no rfl rfl rfl rfl) rfl rfl ?_
              refine run_off (.no rfl rfl rfl rfl) rfl rfl ?_
              refine run_q (.none rfl) rfl rfl (q_pickT rfl rfl rfl rfl) ?_
              refine run_q (.none rfl) rfl rfl (q_move rfl rfl) ?_
              refine run_off (.no rfl rfl rfl rfl) rfl rfl ?_
              refine run_off (.no rfl rfl rfl rfl) rfl rfl ?_
              refine run_off (.no rfl rfl rfl rfl) rfl rfl ?_
              refine run_q (.none rfl) rfl rfl (q_pickT rfl rfl rfl rfl) ?_
              refine run_q (.none rfl) rfl rfl (q_move rfl rfl) ?_
              refine run_off (.no rfl rfl rfl rfl) rfl rfl ?_
              refine run_off (.no rfl rfl rfl rfl) rfl rfl ?_
              refine run_off (.no rfl rfl rfl rfl) rfl rfl ?_
              refine run_q (.none rfl) rfl rfl (q_pickT rfl rfl rfl rfl) ?_
              refine run_q (.none rfl) rfl rfl (q_move rfl rfl) ?_
              refine run_off (.no rfl rfl rfl rfl) rfl rfl ?_
              refine run_off (.no rfl rfl rfl rfl) rfl rfl ?_
              refine run_off (.no rfl rfl rfl rfl) rfl rfl ?_
              refine run_q (.none rfl) rfl rfl (q_pickT rfl rfl rfl rfl) ?_
              refine run_q (.none rfl) rfl rfl (q_move rfl rfl) ?_
              refine run_off (.no rfl rfl rfl rfl) rfl rfl ?_
              refine run_off (.no rfl rfl rfl rfl) rfl rfl ?_
              refine run_off (.no rfl rfl rfl rfl) rfl rfl ?_
              refine run_q (.none rfl) rfl rfl (q_pickT rfl rfl rfl rfl) ?_
              refine run_q (.none rfl) rfl rfl (q_move rfl rfl) ?_
              refine run_off (.no rfl rfl rfl rfl) rfl rfl ?_
              refine run_off (.no rfl rfl rfl rfl) rfl rfl ?_
              refine run_off (.no rfl rfl rfl rfl) rfl rfl ?_
              refine run_q (.none rfl) rfl rfl (q_pickT rfl rfl rfl rfl) ?_
              refine run_q (.none rfl) rfl rfl (q_move rfl rfl) ?_
              refine run_off (.no rfl rfl rfl rfl) rfl rfl ?_
              refine run_off (.no rfl rfl rfl rfl) rfl rfl ?_
              refine run_off (.no rfl rfl rfl rfl) rfl rfl ?_
              refine run_q (.none rfl) rfl rfl (q_pickT rfl rfl rfl rfl) ?_
              refine run_q (.none rfl) rfl rfl (q_move rfl rfl) ?_
              refine run_off (.no rfl rfl rfl rfl) rfl rfl ?_
              refine run_off (.no rfl rfl rfl rfl) rfl rfl ?_
              refine run_off (.no rfl rfl rfl rfl) rfl rfl ?_
              refine run_q (.none rfl) rfl rfl (q_pickT rfl rfl rfl rfl) ?_
              refine run_q (.none rfl) rfl rfl (q_move rfl rfl) ?_
              refine run_off (.no rfl rfl rfl rfl) rfl rfl ?_
              refine run_off (.no rfl rfl rfl rfl) rfl rfl ?_
              refine run_off (.no rfl rfl rfl rfl) rfl rfl ?_
              refine run_q (.none rfl) rfl rfl (q_pickT rfl rfl rfl rfl) ?_
              refine run_q (.none rfl) rfl rfl (q_move rfl rfl) ?_
              refine run_off (.no rfl rfl rfl rfl) rfl rfl ?_
              refine run_off (.no rfl rfl rfl rfl) rfl rfl ?_
              refine run_off (.no rfl rfl rfl rfl) rfl rfl ?_
              refine run_q (.none rfl) rfl rfl (q_pickT rfl rfl rfl rfl) ?_
              refine run_q (.none rfl) rfl rfl (q_assign rfl rfl) ?_
              refine run_nil ?_
              refine run_sub (subMk (.cons (s := 4) rfl (.cons (s := 24) rfl .nil)) .refl) ?_
              refine run_condT rfl rfl ?_
              refine run_seq ?_
              refine run_region ?_
              refine run_q (.none rfl) rfl rfl (q_assign rfl rfl) ?_
              refine run_nil ?_
              refine run_ret ?_
              exact end1 rfl rfl (by first | rw [reqE, if_pos (by omega)] | rw [reqE, if_neg (by omega), if_pos (by omega)] | rw [reqE, if_neg (by omega), if_neg (by omega), if_pos (by omega)] | rw [reqE, if_neg (by omega), if_neg (by omega), if_neg (by omega)])
            · have g33' := g33
              try simp only [decide_eq_true_eq, decide_eq_false_iff_not, beq_iff_eq, beq_eq_false_iff_ne, bne_iff_ne, bne_eq_false_iff_eq, Bool.not_eq_true', Bool.not_eq_false', ne_eq, Int.not_lt, Int.not_le, Decidable.not_not] at g33'
              refine run_q (.on rfl rfl rfl g33) rfl rfl (q_fieldB (d := 3) rfl Try.underlying25 rfl rfl sz3 rfl) ?_
              refine run_q (.on rfl rfl rfl g33) rfl rfl (q_loadB rfl one3 rfl Sel.here rfl) ?_
              refine run_q (.on rfl rfl rfl g33) rfl rfl (q_lss rfl rfl rfl) ?_
              refine run_q (.none rfl) rfl rfl (q_pickF rfl rfl g33 rfl) ?_
              refine run_q (.none rfl) rfl rfl (q_move rfl rfl) ?_
              refine run_split 38 rfl (fun g38 => ?_) (fun g38 => ?_)
              · have g38' := g38
                try simp only [decide_eq_true_eq, decide_eq_false_iff_not, beq_iff_eq, beq_eq_false_iff_ne, bne_iff_ne, bne_eq_false_iff_eq, Bool.not_eq_true', Bool.not_eq_false', ne_eq, Int.not_lt, Int.not_le, Decidable.not_not] at g38'
                refine run_off (.no rfl rfl rfl g38) rfl rfl ?_
                refine run_off (.no rfl rfl rfl g38) rfl rfl ?_
                refine run_off (.no rfl rfl rfl g38) rfl rfl ?_
                refine run_off (.no rfl rfl rfl g38) rfl rfl ?_
                refine run_off (.no rfl rfl rfl g38) rfl rfl ?_
                refine run_q (.none rfl) rfl rfl (q_pickT rfl rfl g38 rfl) ?_
                refine run_q (.none rfl) rfl rfl (q_move rfl rfl) ?_
                refine run_off (.no rfl rfl rfl rfl) rfl rfl ?_
                refine run_off (.no rfl rfl rfl rfl) rfl rfl ?_
                refine run_off (.no rfl rfl rfl rfl) rfl rfl ?_
                refine run_off (.no rfl rfl rfl rfl) rfl rfl ?_
                refine run_q (.none rfl) rfl rfl (q_pickT rfl rfl rfl rfl) ?_
                refine run_q (.none rfl) rfl rfl (q_move rfl rfl) ?_
                refine run_off (.no rfl rfl rfl rfl) rfl rfl ?_
                refine run_off (.no rfl rfl rfl rfl) rfl rfl ?_
                refine run_off (.no rfl rfl rfl rfl) rfl rfl ?_
                refine run_q (.none rfl) rfl rfl (q_pickT rfl rfl rfl rfl) ?_
                refine run_q (.none rfl) rfl rfl (q_move rfl rfl) ?_
                refine run_off (.no rfl rfl rfl rfl) rfl rfl ?_
                refine run_off (.no rfl rfl rfl rfl) rfl rfl ?_
                refine run_off (.no rfl rfl rfl rfl) rfl rfl ?_
                refine run_q (.none rfl) rfl rfl (q_pickT rfl rfl rfl rfl) ?_
                refine run_q (.none rfl) rfl rfl (q_move rfl rfl) ?_
                refine run_off (.no rfl rfl rfl rfl) rfl rfl ?_
                refine run_off (.no rfl rfl rfl rfl) rfl rfl ?_
                refine run_off (.no rfl rfl rfl rfl) rfl rfl ?_
                refine run_q (.none rfl) rfl rfl (q_pickT rfl rfl rfl rfl) ?_
                refine run_q (.none rfl) rfl rfl (q_move rfl rfl) ?_
                refine run_off (.no rfl rfl rfl rfl) rfl rfl ?_
                refine run_off (.no rfl rfl rfl rfl) rfl rfl ?_
                refine run_off (.no rfl rfl rfl rfl) rfl rfl ?_
                refine run_q (.none rfl) rfl rfl (q_pickT rfl rfl rfl rfl) ?_
                refine run_q (.none rfl) rfl rfl (q_move rfl rfl) ?_
                refine run_off (.no rfl rfl rfl rfl) rfl rfl ?_
                refine run_off (.no rfl rfl rfl rfl) rfl rfl ?_
                refine run_off (.no rfl rfl rfl rfl) rfl rfl ?_
                refine run_q (.none rfl) rfl rfl (q_pickT rfl rfl rfl rfl) ?_
                refine run_q (.none rfl) rfl rfl (q_move rfl rfl) ?_
                refine run_off (.no rfl rfl rfl rfl) rfl rfl ?_
                refine run_off (.no rfl rfl rfl rfl) rfl rfl ?_
                refine run_off (.no rfl rfl rfl rfl) rfl rfl ?_
                refine run_q (.none rfl) rfl rfl (q_pickT rfl rfl rfl rfl) ?_
                refine run_q (.none rfl) rfl rfl (q_move rfl rfl) ?_
                refine run_off (.no rfl rfl rfl rfl) rfl rfl ?_
                refine run_off (.no rfl rfl rfl rfl) rfl rfl ?_
                refine run_off (.no rfl rfl rfl rfl) rfl rfl ?_
                refine run_q (.none rfl) rfl rfl (q_pickT rfl rfl rfl rfl) ?_
                refine run_q (.none rfl) rfl rfl (q_move rfl rfl) ?_
                refine run_off (.no rfl rfl rfl rfl) rfl rfl ?_
                refine run_off (.no rfl rfl rfl rfl) rfl rfl ?_
                refine run_off (.no rfl rfl rfl rfl) rfl rfl ?_
                refine run_q (.none rfl) rfl rfl (q_pickT rfl rfl rfl rfl) ?_
                refine run_q (.none rfl) rfl rfl (q_move rfl rfl) ?_
                refine run_off (.no rfl rfl rfl rfl) rfl rfl ?_
                refine run_off (.no rfl rfl rfl rfl) rfl rfl ?_
                refine run_off (.no rfl rfl rfl rfl) rfl rfl ?_
                refine run_q (.none rfl) rfl rfl (q_pickT rfl rfl rfl rfl) ?_
                refine run_q (.none rfl) rfl rfl (q_move rfl rfl) ?_
                refine run_off (.no rfl rfl rfl rfl) rfl rfl ?_
                refine run_off (.no rfl rfl rfl rfl) rfl rfl ?_
                refine run_off (.no rfl rfl rfl rfl) rfl rfl ?_
                refine run_q (.none rfl) rfl rfl (q_pickT rfl rfl rfl rfl) ?_
                refine run_q (.none rfl) rfl rfl (q_assign rfl rfl) ?_
                refine run_nil ?_
                refine run_sub (subMk (.cons (s := 4) rfl (.cons (s := 24) rfl .nil)) .refl) ?_
                refine run_condT rfl rfl ?_
                refine run_seq ?_
                refine run_region ?_
                refine run_q (.none rfl) rfl rfl (q_assign rfl rfl) ?_
                refine run_nil ?_
                refine run_ret ?_
                exact end1 rfl rfl (by first | rw [reqE, if_pos (by omega)] | rw [reqE, if_neg (by omega), if_pos (by omega)] | rw [reqE, if_neg (by omega), if_neg (by omega), if_pos (by omega)] | rw [reqE, if_neg (by omega), if_neg (by omega), if_neg (by omega)])
              · have g38' := g38
                try simp only [decide_eq_true_eq, decide_eq_false_iff_not, beq_iff_eq, beq_eq_false_iff_ne, bne_iff_ne, bne_eq_false_iff_eq, Bool.not_eq_true', Bool.not_eq_false', ne_eq, Int.not_lt, Int.not_le, Decidable.not_not] at g38'
                refine run_q (.on rfl rfl rfl g38) rfl rfl (q_fieldB (d := 4) rfl Try.underlying25 rfl rfl sz3 rfl) ?_
                refine run_q (.on rfl rfl rfl g38) rfl rfl (q_loadB rfl one3 rfl Sel.here rfl) ?_
                refine run_q (.on rfl rfl rfl g38) rfl rfl (q_fieldB (d := 3) rfl Try.underlying25 rfl rfl sz3 rfl) ?_
                refine run_q (.on rfl rfl rfl g38) rfl rfl (q_loadB rfl one3 rfl Sel.here rfl) ?_
                refine run_q (.on rfl rfl rfl g38) rfl rfl (q_lss rfl rfl rfl) ?_
                refine run_q (.none rfl) rfl rfl (q_pickF rfl rfl g38 rfl) ?_
                refine run_q (.none rfl) rfl rfl (q_move rfl rfl) ?_
                refine run_split 45 rfl (fun g45 => ?_) (fun g45 => ?_)
                · have g45' := g45
                  try simp only [decide_eq_true_eq, decide_eq_false_iff_not, beq_iff_eq, beq_eq_false_iff_ne, bne_iff_ne, bne_eq_false_iff_eq, Bool.not_eq_true', Bool.not_eq_false', ne_eq, Int.not_lt, Int.not_le, Decidable.not_not] at g45'
                  refine run_off (.no rfl rfl rfl g45) rfl rfl ?_
                  refine run_off (.no rfl rfl rfl g45) rfl rfl ?_
                  refine run_off (.no rfl rfl rfl g45) rfl rfl ?_
                  refine run_off (.no rfl rfl rfl g45) rfl rfl ?_
                  refine run_q (.none rfl) rfl rfl (q_pickT rfl rfl g45 rfl) ?_
                  refine run_q (.none rfl) rfl rfl (q_move rfl rfl) ?_
                  refine run_off (.no rfl rfl rfl rfl) rfl rfl ?_
                  refine run_off (.no rfl rfl rfl rfl) rfl rfl ?_
                  refine run_off (.no rfl rfl rfl rfl) rfl rfl ?_
                  refine run_q (.none rfl) rfl rfl (q_pickT rfl rfl rfl rfl) ?_
                  refine run_q (.none rfl) rfl rfl (q_move rfl rfl) ?_
                  refine run_off (.no rfl rfl rfl rfl) rfl rfl ?_
                  refine run_off (.no rfl rfl rfl rfl) rfl rfl ?_
                  refine run_off (.no rfl rfl rfl rfl) rfl rfl ?_
                  refine run_q (.none rfl) rfl rfl (q_pickT rfl rfl rfl rfl) ?_
                  refine run_q (.none rfl) rfl rfl (q_move rfl rfl) ?_
                  refine run_off (.no rfl rfl rfl rfl) rfl rfl ?_
                  refine run_off (.no rfl rfl rfl rfl) rfl rfl ?_
                  refine run_off (.no rfl rfl rfl rfl) rfl rfl ?_
                  refine run_q (.none rfl) rfl rfl (q_pickT rfl rfl rfl rfl) ?_
                  refine run_q (.none rfl) rfl rfl (q_move rfl rfl) ?_
                  refine run_off (.no rfl rfl rfl rfl) rfl rfl ?_
                  refine run_off (.no rfl rfl rfl rfl) rfl rfl ?_
                  refine run_off (.no rfl rfl rfl rfl) rfl rfl ?_
                  refine run_q (.none rfl) rfl rfl (q_pickT rfl rfl rfl rfl) ?_
                  refine run_q (.none rfl) rfl rfl (q_move rfl rfl) ?_
                  refine run_off (.no rfl rfl rfl rfl) rfl rfl ?_
                  refine run_off (.no rfl rfl rfl rfl) rfl rfl ?_
                  refine run_off (.no rfl rfl rfl rfl) rfl rfl ?_
                  refine run_q (.none rfl) rfl rfl (q_pickT rfl rfl rfl rfl) ?_
                  refine run_q (.none rfl) rfl rfl (q_move rfl rfl) ?_
                  refine run_off (.no rfl rfl rfl rfl) rfl rfl ?_
                  refine run_off (.no rfl rfl rfl rfl) rfl rfl ?_
                  refine run_off (.no rfl rfl rfl rfl) rfl rfl ?_
                  refine run_q (.none rfl) rfl rfl (q_pickT rfl rfl rfl rfl) ?_
                  refine run_q (.none rfl) rfl rfl (q_move rfl rfl) ?_
                  refine run_off (.no rfl rfl rfl rfl) rfl rfl ?_
                  refine run_off (.no rfl rfl rfl rfl) rfl rfl ?_
                  refine run_off (.no rfl rfl rfl rfl) rfl rfl ?_
                  refine run_q (.none rfl) rfl rfl (q_pickT rfl rfl rfl rfl) ?_
                  refine run_q (.none rfl) rfl rfl (q_move rfl rfl) ?_
                  refine run_off (.no rfl rfl rfl rfl) rfl rfl ?_
                  refine run_off (.no rfl rfl rfl rfl) rfl rfl ?_
                  refine run_off (.no rfl rfl rfl rfl) rfl rfl ?_
                  refine run_q (.none rfl) rfl rfl (q_pickT rfl rfl rfl rfl) ?_
                  refine run_q (.none rfl) rfl rfl (q_move rfl rfl) ?_
                  refine run_off (.no rfl rfl rfl rfl) rfl rfl ?_
                  refine run_off (.no rfl rfl rfl rfl) rfl rfl ?_
                  refine run_off (.no rfl rfl rfl rfl) rfl rfl ?_
                  refine run_q (.none rfl) rfl rfl (q_pickT rfl rfl rfl rfl) ?_
                  refine run_q (.none rfl) rfl rfl (q_move rfl rfl) ?_
                  refine run_off (.no rfl rfl rfl rfl) rfl rfl ?_
                  refine run_off (.no rfl rfl rfl rfl) rfl rfl ?_
                  refine run_off (.no rfl rfl rfl rfl) rfl rfl ?_
                  refine run_q (.none rfl) rfl rfl (q_pickT rfl rfl rfl rfl) ?_
                  refine run_q (.none rfl) rfl rfl (q_assign rfl rfl) ?_
                  refine run_nil ?_
                  refine run_sub (subMk (.cons (s := 4) rfl (.cons (s := 24) rfl .nil)) .refl) ?_
                  refine run_condT rfl rfl ?_
                  refine run_seq ?_
                  refine run_region ?_
                  refine run_q (.none rfl) rfl rfl (q_assign rfl rfl) ?_
                  refine run_nil ?_
                  refine run_ret ?_
                  exact end1 rfl rfl (by first | rw [reqE, if_pos (by omega)] | rw [reqE, if_neg (by omega), if_pos (by omega)] | rw [reqE, if_neg (by omega), if_neg (by omega), if_pos (by omega)] | rw [reqE, if_neg (by omega), if_neg (by omega), if_neg (by omega)])
                · have g45' := g45
                  try simp only [decide_eq_true_eq, decide_eq_false_iff_not, beq_iff_eq, beq_eq_false_iff_ne, bne_iff_ne, bne_eq_false_iff_eq, Bool.not_eq_true', Bool.not_eq_false', ne_eq, Int.not_lt, Int.not_le, Decidable.not_not] at g45'
                  refine run_q (.on rfl rfl rfl g45) rfl rfl (q_fieldB (d := 4) rfl Try.underlying25 rfl rfl sz3 rfl) ?_
                  refine run_q (.on rfl rfl rfl g45) rfl rfl (q_loadB rfl one3 rfl Sel.here rfl) ?_
                  refine run_q (.on rfl rfl rfl g45) rfl rfl (q_move rfl rfl) ?_
                  refine run_q (.on rfl rfl rfl g45) rfl rfl (q_geq rfl rfl rfl) ?_
                  refine run_q (.none rfl) rfl rfl (q_pickF rfl rfl g45 rfl) ?_
                  refine run_q (.none rfl) rfl rfl (q_move rfl rfl) ?_
                  refine run_split 51 rfl (fun g51 => ?_) (fun g51 => ?_)
                  · have g51' := g51
                    try simp only [decide_eq_true_eq, decide_eq_false_iff_not, beq_iff_eq, beq_eq_false_iff_ne, bne_iff_ne, bne_eq_false_iff_eq, Bool.not_eq_true', Bool.not_eq_false', ne_eq, Int.not_lt, Int.not_le, Decidable.not_not] at g51'
                    refine run_off (.no rfl rfl rfl g51) rfl rfl ?_
                    refine run_off (.no rfl rfl rfl g51) rfl rfl ?_
                    refine run_off (.no rfl rfl rfl g51) rfl rfl ?_
                    refine run_q (.none rfl) rfl rfl (q_pickT rfl rfl g51 rfl) ?_
                    refine run_q (.none rfl) rfl rfl (q_move rfl rfl) ?_
                    refine run_off (.no rfl rfl rfl rfl) rfl rfl ?_
                    refine run_off (.no rfl rfl rfl rfl) rfl rfl ?_
                    refine run_off (.no rfl rfl rfl rfl) rfl rfl ?_
                    refine run_q (.none rfl) rfl rfl (q_pickT rfl rfl rfl rfl) ?_
                    refine run_q (.none rfl) rfl rfl (q_move rfl rfl) ?_
                    refine run_off (.no rfl rfl rfl rfl) rfl rfl ?_
                    refine run_off (.no rfl rfl rfl rfl) rfl rfl ?_
                    refine run_off (.no rfl rfl rfl rfl) rfl rfl ?_
                    refine run_q (.none rfl) rfl rfl (q_pickT rfl rfl rfl rfl) ?_
                    refine run_q (.none rfl) rfl rfl (q_move rfl rfl) ?_
                    refine run_off (.no rfl rfl rfl rfl) rfl rfl ?_
                    refine run_off (.no rfl rfl rfl rfl) rfl rfl ?_
                    refine run_off (.no rfl rfl rfl rfl) rfl rfl ?_
                    refine run_q (.none rfl) rfl rfl (q_pickT rfl rfl rfl rfl) ?_
                    refine run_q (.none rfl) rfl rfl (q_move rfl rfl) ?_
                    refine run_off (.no rfl rfl rfl rfl) rfl rfl ?_
                    refine run_off (.no rfl rfl rfl rfl) rfl rfl ?_
                    refine run_off (.no rfl rfl rfl rfl) rfl rfl ?_
                    refine run_q (.none rfl) rfl rfl (q_pickT rfl rfl rfl rfl) ?_
                    refine run_q (.none rfl) rfl rfl (q_move rfl rfl) ?_
                    refine run_off (.no rfl rfl rfl rfl) rfl rfl ?_
                    refine run_off (.no rfl rfl rfl rfl) rfl rfl ?_
                    refine run_off (.no rfl rfl rfl rfl) rfl rfl ?_
                    refine run_q (.none rfl) rfl rfl (q_pickT rfl rfl rfl rfl) ?_
                    refine run_q (.none rfl) rfl rfl (q_move rfl rfl) ?_
                    refine run_off (.no rfl rfl rfl rfl) rfl rfl ?_
                    refine run_off (.no rfl rfl rfl rfl) rfl rfl ?_
                    refine run_off (.no rfl rfl rfl rfl) rfl rfl ?_
                    refine run_q (.none rfl) rfl rfl (q_pickT rfl rfl rfl rfl) ?_
                    refine run_q (.none rfl) rfl rfl (q_move rfl rfl) ?_
                    refine run_off (.no rfl rfl rfl rfl) rfl rfl ?_
                    refine run_off (.no rfl rfl rfl rfl) rfl rfl ?_
                    refine run_off (.no rfl rfl rfl rfl) rfl rfl ?_
                    refine run_q (.none rfl) rfl rfl (q_pickT rfl rfl rfl rfl) ?_
                    refine run_q (.none rfl) rfl rfl (q_move rfl rfl) ?_
                    refine run_off (.no rfl rfl rfl rfl) rfl rfl ?_
                    refine run_off (.no rfl rfl rfl rfl) rfl rfl ?_
                    refine run_off (.no rfl rfl rfl rfl) rfl rfl ?_
                    refine run_q (.none rfl) rfl rfl (q_pickT rfl rfl rfl rfl) ?_
                    refine run_q (.none rfl) rfl rfl (q_move rfl rfl) ?_
                    refine run_off (.no rfl rfl rfl rfl) rfl rfl ?_
                    refine run_off (.no rfl rfl rfl rfl) rfl rfl ?_
                    refine run_off (.no rfl rfl rfl rfl) rfl rfl ?_
                    refine run_q (.none rfl) rfl rfl (q_pickT rfl rfl rfl rfl) ?_
                    refine run_q (.none rfl) rfl rfl (q_assign rfl rfl) ?_
                    refine run_nil ?_
                    refine run_sub (subMk (.cons (s := 4) rfl (.cons (s := 24) rfl .nil)) .refl) ?_
                    refine run_condT rfl rfl ?_
                    refine run_seq ?_
                    refine run_region ?_
                    refine run_q (.none rfl) rfl rfl (q_assign rfl rfl) ?_
                    refine run_nil ?_
                    refine run_ret ?_
                    exact end1 rfl rfl (by first | rw [reqE, if_pos (by omega)] | rw [reqE, if_neg (by omega), if_pos (by omega)] | rw [reqE, if_neg (by omega), if_neg (by omega), if_pos (by omega)] | rw [reqE, if_neg (by omega), if_neg (by omega), if_neg (by omega)])
                  · have g51' := g51
                    try simp only [decide_eq_true_eq, decide_eq_false_iff_not, beq_iff_eq, beq_eq_false_iff_ne, bne_iff_ne, bne_eq_false_iff_eq, Bool.not_eq_true', Bool.not_eq_false', ne_eq, Int.not_lt, Int.not_le, Decidable.not_not] at g51'
                    refine run_q (.on rfl rfl rfl g51) rfl rfl (q_fieldB (d := 6) rfl Try.underlying25 rfl rfl sz3 rfl) ?_
                    refine run_q (.on rfl rfl rfl g51) rfl rfl (q_loadB rfl one3 rfl Sel.here rfl) ?_
                    refine run_q (.on rfl rfl rfl g51) rfl rfl (q_lss rfl rfl rfl) ?_
                    refine run_q (.none rfl) rfl rfl (q_pickF rfl rfl g51 rfl) ?_
                    refine run_q (.none rfl) rfl rfl (q_move rfl rfl) ?_
                    refine run_split 56 rfl (fun g56 => ?_) (fun g56 => ?_)
                    · have g56' := g56
                      try simp only [decide_eq_true_eq, decide_eq_false_iff_not, beq_iff_eq, beq_eq_false_iff_ne, bne_iff_ne, bne_eq_false_iff_eq, Bool.not_eq_true', Bool.not_eq_false', ne_eq, Int.not_lt, Int.not_le, Decidable.not_not] at g56'
                      refine run_off (.no rfl rfl rfl g56) rfl rfl ?_
                      refine run_off (.no rfl rfl rfl g56) rfl rfl ?_
                      refine run_off (.no rfl rfl rfl g56) rfl rfl ?_
                      refine run_q (.none rfl) rfl rfl (q_pickT rfl rfl g56 rfl) ?_
                      refine run_q (.none rfl) rfl rfl (q_move rfl rfl) ?_
                      refine run_off (.no rfl rfl rfl rfl) rfl rfl ?_
                      refine run_off (.no rfl rfl rfl rfl) rfl rfl ?_
                      refine run_off (.no rfl rfl rfl rfl) rfl rfl ?_
                      refine run_q (.none rfl) rfl rfl (q_pickT rfl rfl rfl rfl) ?_
                      refine run_q (.none rfl) rfl rfl (q_move rfl rfl) ?_
                      refine run_off (.no rfl rfl rfl rfl) rfl rfl ?_
                      refine run_off (.no rfl rfl rfl rfl) rfl rfl ?_
                      refine run_off (.no rfl rfl rfl rfl) rfl rfl ?_
                      refine run_q (.none rfl) rfl rfl (q_pickT rfl rfl rfl rfl) ?_
                      refine run_q (.none rfl) rfl rfl (q_move rfl rfl) ?_
                      refine run_off (.no rfl rfl rfl rfl) rfl rfl ?_
                      refine run_off (.no rfl rfl rfl rfl) rfl rfl ?_
                      refine run_off (.no rfl rfl rfl rfl) rfl rfl ?_
                      refine run_q (.none rfl) rfl rfl (q_pickT rfl rfl rfl rfl) ?_
                      refine run_q (.none rfl) rfl rfl (q_move rfl rfl) ?_
                      refine run_off (.no rfl rfl rfl rfl) rfl rfl ?_
                      refine run_off (.no rfl rfl rfl rfl) rfl rfl ?_
                      refine run_off (.no rfl rfl rfl rfl) rfl rfl ?_
                      refine run_q (.none rfl) rfl rfl (q_pickT rfl rfl rfl rfl) ?_
                      refine run_q (.none rfl) rfl rfl (q_move rfl rfl) ?_
                      refine run_off (.no rfl rfl rfl rfl) rfl rfl ?_
                      refine run_off (.no rfl rfl rfl rfl) rfl rfl ?_
                      refine run_off (.no rfl rfl rfl rfl) rfl rfl ?_
                      refine run_q (.none rfl) rfl rfl (q_pickT rfl rfl rfl rfl) ?_
                      refine run_q (.none rfl) rfl rfl (q_move rfl rfl) ?_
                      refine run_off (.no rfl rfl rfl rfl) rfl rfl ?_
                      refine run_off (.no rfl rfl rfl rfl) rfl rfl ?_
                      refine run_off (.no rfl rfl rfl rfl) rfl rfl ?_
                      refine run_q (.none rfl) rfl rfl (q_pickT rfl rfl rfl rfl) ?_
                      refine run_q (.none rfl) rfl rfl (q_move rfl rfl) ?_
                      refine run_off (.no rfl rfl rfl rfl) rfl rfl ?_
                      refine run_off (.no rfl rfl rfl rfl) rfl rfl ?_
                      refine run_off (.no rfl rfl rfl rfl) rfl rfl ?_
                      refine run_q (.none rfl) rfl rfl (q_pickT rfl rfl rfl rfl) ?_
                      refine run_q (.none rfl) rfl rfl (q_move rfl rfl) ?_
                      refine run_off (.no rfl rfl rfl rfl) rfl rfl ?_
                      refine run_off (.no rfl rfl rfl rfl) rfl rfl ?_
                      refine run_off (.no rfl rfl rfl rfl) rfl rfl ?_
                      refine run_q (.none rfl) rfl rfl (q_pickT rfl rfl rfl rfl) ?_
                      refine run_q (.none rfl) rfl rfl (q_assign rfl rfl) ?_
                      refine run_nil ?_
                      refine run_sub (subMk (.cons (s := 4) rfl (.cons (s := 24) rfl .nil)) .refl) ?_
                      refine run_condT rfl rfl ?_
                      refine run_seq ?_
                      refine run_region ?_
                      refine run_q (.none rfl) rfl rfl (q_assign rfl rfl) ?_
                      refine run_nil ?_
                      refine run_ret ?_
                      exact end1 rfl rfl (by first | rw [reqE, if_pos (by omega)] | rw [reqE, if_neg (by omega), if_pos (by omega)] | rw [reqE, if_neg (by omega), if_neg (by omega), if_pos (by omega)] | rw [reqE, if_neg (by omega), if_neg (by omega), if_neg (by omega)])
                    · have g56' := g56
                      try simp only [decide_eq_true_eq, decide_eq_false_iff_not, beq_iff_eq, beq_eq_false_iff_ne, bne_iff_ne, bne_eq_false_iff_eq, Bool.not_eq_true', Bool.not_eq_false', ne_eq, Int.not_lt, Int.not_le, Decidable.not_not] at g56'
                      refine run_q (.on rfl rfl rfl g56) rfl rfl (q_fieldB (d := 6) rfl Try.underlying25 rfl rfl sz3 rfl) ?_
                      refine run_q (.on rfl rfl rfl g56) rfl rfl (q_loadB rfl one3 rfl Sel.here rfl) ?_
                      refine run_q (.on rfl rfl rfl g56) rfl rfl (q_gtr rfl rfl rfl) ?_
                      refine run_q (.none rfl) rfl rfl (q_pickF rfl rfl g56 rfl) ?_
                      refine run_q (.none rfl) rfl rfl (q_move rfl rfl) ?_
                      refine run_split 61 rfl (fun g61 => ?_) (fun g61 => ?_)
                      · have g61' := g61
                        try simp only [decide_eq_true_eq, decide_eq_false_iff_not, beq_iff_eq, beq_eq_false_iff_ne, bne_iff_ne, bne_eq_false_iff_eq, Bool.not_eq_true', Bool.not_eq_false', ne_eq, Int.not_lt, Int.not_le, Decidable.not_not] at g61'
                        refine run_off (.no rfl rfl rfl g61) rfl rfl ?_
                        refine run_off (.no rfl rfl rfl g61) rfl rfl ?_
                        refine run_off (.no rfl rfl rfl g61) rfl rfl ?_
                        refine run_q (.none rfl) rfl rfl (q_pickT rfl rfl g61 rfl) ?_
                        refine run_q (.none rfl) rfl rfl (q_move rfl rfl) ?_
                        refine run_off (.no rfl rfl rfl rfl) rfl rfl ?_
                        refine run_off (.no rfl rfl rfl rfl) rfl rfl ?_
                        refine run_off (.no rfl rfl rfl rfl) rfl rfl ?_
                        refine run_q (.none rfl) rfl rfl (q_pickT rfl rfl rfl rfl) ?_
                        refine run_q (.none rfl) rfl rfl (q_move rfl rfl) ?_
                        refine run_off (.no rfl rfl rfl rfl) rfl rfl ?_
                        refine run_off (.no rfl rfl rfl rfl) rfl rfl ?_
                        refine run_off (.no rfl rfl rfl rfl) rfl rfl ?_
                        refine run_q (.none rfl) rfl rfl (q_pickT rfl rfl rfl rfl) ?_
                        refine run_q (.none rfl) rfl rfl (q_move rfl rfl) ?_
                        refine run_off (.no rfl rfl rfl rfl) rfl rfl ?_
                        refine run_off (.no rfl rfl rfl rfl) rfl rfl ?_
                        refine run_off (.no rfl rfl rfl rfl) rfl rfl ?_
                        refine run_q (.none rfl) rfl rfl (q_pickT rfl rfl rfl rfl) ?_
                        refine run_q (.none rfl) rfl rfl (q_move rfl rfl) ?_
                        refine run_off (.no rfl rfl rfl rfl) rfl rfl ?_
                        refine run_off (.no rfl rfl rfl rfl) rfl rfl ?_
                        refine run_off (.no rfl rfl rfl rfl) rfl rfl ?_
                        refine run_q (.none rfl) rfl rfl (q_pickT rfl rfl rfl rfl) ?_
                        refine run_q (.none rfl) rfl rfl (q_move rfl rfl) ?_
                        refine run_off (.no rfl rfl rfl rfl) rfl rfl ?_
                        refine run_off (.no rfl rfl rfl rfl) rfl rfl ?_
                        refine run_off (.no rfl rfl rfl rfl) rfl rfl ?_
                        refine run_q (.none rfl) rfl rfl (q_pickT rfl rfl rfl rfl) ?_
                        refine run_q (.none rfl) rfl rfl (q_move rfl rfl) ?_
                        refine run_off (.no rfl rfl rfl rfl) rfl rfl ?_
                        refine run_off (.no rfl rfl rfl rfl) rfl rfl ?_
                        refine run_off (.no rfl rfl rfl rfl) rfl rfl ?_
                        refine run_q (.none rfl) rfl rfl (q_pickT rfl rfl rfl rfl) ?_
                        refine run_q (.none rfl) rfl rfl (q_move rfl rfl) ?_
                        refine run_off (.no rfl rfl rfl rfl) rfl rfl ?_
                        refine run_off (.no rfl rfl rfl rfl) rfl rfl ?_
                        refine run_off (.no rfl rfl rfl rfl) rfl rfl ?_
                        refine run_q (.none rfl) rfl rfl (q_pickT rfl rfl rfl rfl) ?_
                        refine run_q (.none rfl) rfl rfl (q_assign rfl rfl) ?_
                        refine run_nil ?_
                        refine run_sub (subMk (.cons (s := 4) rfl (.cons (s := 24) rfl .nil)) .refl) ?_
                        refine run_condT rfl rfl ?_
                        refine run_seq ?_
                        refine run_region ?_
                        refine run_q (.none rfl) rfl rfl (q_assign rfl rfl) ?_
                        refine run_nil ?_
                        refine run_ret ?_
                        exact end1 rfl rfl (by first | rw [reqE, if_pos (by omega)] | rw [reqE, if_neg (by omega), if_pos (by omega)] | rw [reqE, if_neg (by omega), if_neg (by omega), if_pos (by omega)] | rw [reqE, if_neg (by omega), if_neg (by omega), if_neg (by omega)])
                      · have g61' := g61
                        try simp only [decide_eq_true_eq, decide_eq_false_iff_not, beq_iff_eq, beq_eq_false_iff_ne, bne_iff_ne, bne_eq_false_iff_eq, Bool.not_eq_true', Bool.not_eq_false', ne_eq, Int.not_lt, Int.not_le, Decidable.not_not] at g61'
                        refine run_q (.on rfl rfl rfl g61) rfl rfl (q_fieldB (d := 7) rfl Try.underlying25 rfl rfl sz3 rfl) ?_
                        refine run_q (.on rfl rfl rfl g61) rfl rfl (q_loadB rfl one3 rfl Sel.here rfl) ?_
                        refine run_q (.on rfl rfl rfl g61) rfl rfl (q_lss rfl rfl rfl) ?_
                        refine run_q (.none rfl) rfl rfl (q_pickF rfl rfl g61 rfl) ?_
                        refine run_q (.none rfl) rfl rfl (q_move rfl rfl) ?_
                        refine run_split 66 rfl (fun g66 => ?_) (fun g66 => ?_)
                        · have g66' := g66
                          try simp only [decide_eq_true_eq, decide_eq_false_iff_not, beq_iff_eq, beq_eq_false_iff_ne, bne_iff_ne, bne_eq_false_iff_eq, Bool.not_eq_true', Bool.not_eq_false', ne_eq, Int.not_lt, Int.not_le, Decidable.not_not] at g66'
                          refine run_off (.no rfl rfl rfl g66) rfl rfl ?_
                          refine run_off (.no rfl rfl rfl g66) rfl rfl ?_
                          refine run_off (.no rfl rfl rfl g66) rfl rfl ?_
                          refine run_q (.none rfl) rfl rfl (q_pickT rfl rfl g66 rfl) ?_
                          refine run_q (.none rfl) rfl rfl (q_move rfl rfl) ?_
                          refine run_off (.no rfl rfl rfl rfl) rfl rfl ?_
                          refine run_off (.no rfl rfl rfl rfl) rfl rfl ?_
                          refine run_off (.no rfl rfl rfl rfl) rfl rfl ?_
                          refine run_q (.none rfl) rfl rfl (q_pickT rfl rfl rfl rfl) ?_
                          refine run_q (.none rfl) rfl rfl (q_move rfl rfl) ?_
                          refine run_off (.no rfl rfl rfl rfl) rfl rfl ?_
                          refine run_off (.no rfl rfl rfl rfl) rfl rfl ?_
                          refine run_off (.no rfl rfl rfl rfl) rfl rfl ?_
                          refine run_q (.none rfl) rfl rfl (q_pickT rfl rfl rfl rfl) ?_
                          refine run_q (.none rfl) rfl rfl (q_move rfl rfl) ?_
                          refine run_off (.no rfl rfl rfl rfl) rfl rfl ?_
                          refine run_off (.no rfl rfl rfl rfl) rfl rfl ?_
                          refine run_off (.no rfl rfl rfl rfl) rfl rfl ?_
                          refine run_q (.none rfl) rfl rfl (q_pickT rfl rfl rfl rfl) ?_
                          refine run_q (.none rfl) rfl rfl (q_move rfl rfl) ?_
                          refine run_off (.no rfl rfl rfl rfl) rfl rfl ?_
                          refine run_off (.no rfl rfl rfl rfl) rfl rfl ?_
                          refine run_off (.no rfl rfl rfl rfl) rfl rfl ?_
                          refine run_q (.none rfl) rfl rfl (q_pickT rfl rfl rfl rfl) ?_
                          refine run_q (.none rfl) rfl rfl (q_move rfl rfl) ?_
                          refine run_off (.no rfl rfl rfl rfl) rfl rfl ?_
                          refine run_off (.no rfl rfl rfl rfl) rfl rfl ?_
                          refine run_off (.no rfl rfl rfl rfl) rfl rfl ?_
                          refine run_q (.none rfl) rfl rfl (q_pickT rfl rfl rfl rfl) ?_
                          refine run_q (.none rfl) rfl rfl (q_move rfl rfl) ?_
                          refine run_off (.no rfl rfl rfl rfl) rfl rfl ?_
                          refine run_off (.no rfl rfl rfl rfl) rfl rfl ?_
                          refine run_off (.no rfl rfl rfl rfl) rfl rfl ?_
                          refine run_q (.none rfl) rfl rfl (q_pickT rfl rfl rfl rfl) ?_
                          refine run_q (.none rfl) rfl rfl (q_assign rfl rfl) ?_
                          refine run_nil ?_
                          refine run_sub (subMk (.cons (s := 4) rfl (.cons (s := 24) rfl .nil)) .refl) ?_
                          refine run_condT rfl rfl ?_
                          refine run_seq ?_
                          refine run_region ?_
                          refine run_q (.none rfl) rfl rfl (q_assign rfl rfl) ?_
                          refine run_nil ?_
                          refine run_ret ?_
                          exact end1 rfl rfl (by first | rw [reqE, if_pos (by omega)] | rw [reqE, if_neg (by omega), if_pos (by omega)] | rw [reqE, if_neg (by omega), if_neg (by omega), if_pos (by omega)] | rw [reqE, if_neg (by omega), if_neg (by omega), if_neg (by omega)])
                        · have g66' := g66
                          try simp only [decide_eq_true_eq, decide_eq_false_iff_not, beq_iff_eq, beq_eq_false_iff_ne, bne_iff_ne, bne_eq_false_iff_eq, Bool.not_eq_true', Bool.not_eq_false', ne_eq, Int.not_lt, Int.not_le, Decidable.not_not] at g66'
                          refine run_q (.on rfl rfl rfl g66) rfl rfl (q_fieldB (d := 7) rfl Try.underlying25 rfl rfl sz3 rfl) ?_
                          refine run_q (.on rfl rfl rfl g66) rfl rfl (q_loadB rfl one3 rfl Sel.here rfl) ?_
                          refine run_q (.on rfl rfl rfl g66) rfl rfl (q_gtr rfl rfl rfl) ?_
                          refine run_q (.none rfl) rfl rfl (q_pickF rfl rfl g66 rfl) ?_
                          refine run_q (.none rfl) rfl rfl (q_move rfl rfl) ?_
                          refine run_split 71 rfl (fun g71 => ?_) (fun g71 => ?_)
                          · have g71' := g71
                            try simp only [decide_eq_true_eq, decide_eq_false_iff_not, beq_iff_eq, beq_eq_false_iff_ne, bne_iff_ne, bne_eq_false_iff_eq, Bool.not_eq_true', Bool.not_eq_false', ne_eq, Int.not_lt, Int.not_le, Decidable.not_not] at g71'
                            refine run_off (.no rfl rfl rfl g71) rfl rfl ?_
                            refine run_off (.no rfl rfl rfl g71) rfl rfl ?_
                            refine run_off (.no rfl rfl rfl g71) rfl rfl ?_
                            refine run_q (.none rfl) rfl rfl (q_pickT rfl rfl g71 rfl) ?_
                            refine run_q (.none rfl) rfl rfl (q_move rfl rfl) ?_
                            refine run_off (.no rfl rfl rfl rfl) rfl rfl ?_
                            refine run_off (.no rfl rfl rfl rfl) rfl rfl ?_
                            refine run_off (.no rfl rfl rfl rfl) rfl rfl ?_
                            refine run_q (.none rfl) rfl rfl (q_pickT rfl rfl rfl rfl) ?_
                            refine run_q (.none rfl) rfl rfl (q_move rfl rfl) ?_
                            refine run_off (.no rfl rfl rfl rfl) rfl rfl ?_
                            refine run_off (.no rfl rfl rfl rfl) rfl rfl ?_
                            refine run_off (.no rfl rfl rfl rfl) rfl rfl ?_
                            refine run_q (.none rfl) rfl rfl (q_pickT rfl rfl rfl rfl) ?_
                            refine run_q (.none rfl) rfl rfl (q_move rfl rfl) ?_
                            refine run_off (.no rfl rfl rfl rfl) rfl rfl ?_
                            refine run_off (.no rfl rfl rfl rfl) rfl rfl ?_
                            refine run_off (.no rfl rfl rfl rfl) rfl rfl ?_
                            refine run_q (.none rfl) rfl rfl (q_pickT rfl rfl rfl rfl) ?_
                            refine run_q (.none rfl) rfl rfl (q_move rfl rfl) ?_
                            refine run_off (.no rfl rfl rfl rfl) rfl rfl ?_
                            refine run_off (.no rfl rfl rfl rfl) rfl rfl ?_
                            refine run_off (.no rfl rfl rfl rfl) rfl rfl ?_
                            refine run_q (.none rfl) rfl rfl (q_pickT rfl rfl rfl rfl) ?_
                            refine run_q (.none rfl) rfl rfl (q_move rfl rfl) ?_
                            refine run_off (.no rfl rfl rfl rfl) rfl rfl ?_
                            refine run_off (.no rfl rfl rfl rfl) rfl rfl ?_
                            refine run_off (.no rfl rfl rfl rfl) rfl rfl ?_
                            refine run_q (.none rfl) rfl rfl (q_pickT rfl rfl rfl rfl) ?_
                            refine run_q (.none rfl) rfl rfl (q_assign rfl rfl) ?_
                            refine run_nil ?_
                            refine run_sub (subMk (.cons (s := 4) rfl (.cons (s := 24) rfl .nil)) .refl) ?_
                            refine run_condT rfl rfl ?_
                            refine run_seq ?_
                            refine run_region ?_
                            refine run_q (.none rfl) rfl rfl (q_assign rfl rfl) ?_
                            refine run_nil ?_
                            refine run_ret ?_
                            exact end1 rfl rfl (by first | rw [reqE, if_pos (by omega)] | rw [reqE, if_neg (by omega), if_pos (by omega)] | rw [reqE, if_neg (by omega), if_neg (by omega), if_pos (by omega)] | rw [reqE, if_neg (by omega), if_neg (by omega), if_neg (by omega)])
                          · have g71' := g71
                            try simp only [decide_eq_true_eq, decide_eq_false_iff_not, beq_iff_eq, beq_eq_false_iff_ne, bne_iff_ne, bne_eq_false_iff_eq, Bool.not_eq_true', Bool.not_eq_false', ne_eq, Int.not_lt, Int.not_le, Decidable.not_not] at g71'
                            refine run_q (.on rfl rfl rfl g71) rfl rfl (q_fieldB (d := 10) rfl Try.underlying25 rfl rfl sz3 rfl) ?_
                            refine run_q (.on rfl rfl rfl g71) rfl rfl (q_loadB rfl one3 rfl Sel.here rfl) ?_
                            refine run_q (.on rfl rfl rfl g71) rfl rfl (q_lss rfl rfl rfl) ?_
                            refine run_q (.none rfl) rfl rfl (q_pickF rfl rfl g71 rfl) ?_
                            refine run_q (.none rfl) rfl rfl (q_move rfl rfl) ?_
                            refine run_split 76 rfl (fun g76 => ?_) (fun g76 => ?_)
                            · have g76' := g76
                              try simp only [decide_eq_true_eq, decide_eq_false_iff_not, beq_iff_eq, beq_eq_false_iff_ne, bne_iff_ne, bne_eq_false_iff_eq, Bool.not_eq_true', Bool.not_eq_false', ne_eq, Int.not_lt, Int.not_le, Decidable.not_not] at g76'
                              refine run_off (.no rfl rfl rfl g76) rfl rfl ?_
                              refine run_off (.no rfl rfl rfl g76) rfl rfl ?_
                              refine run_off (.no rfl rfl rfl g76) rfl rfl ?_
                              refine run_q (.none rfl) rfl rfl (q_pickT rfl rfl g76 rfl) ?_
                              refine run_q (.none rfl) rfl rfl (q_move rfl rfl) ?_
                              refine run_off (.no rfl rfl rfl rfl) rfl rfl ?_
                              refine run_off (.no rfl rfl rfl rfl) rfl rfl ?_
                              refine run_off (.no rfl rfl rfl rfl) rfl rfl ?_
                              refine run_q (.none rfl) rfl rfl (q_pickT rfl rfl rfl rfl) ?_
                              refine run_q (.none rfl) rfl rfl (q_move rfl rfl) ?_
                              refine run_off (.no rfl rfl rfl rfl) rfl rfl ?_
                              refine run_off (.no rfl rfl rfl rfl) rfl rfl ?_
                              refine run_off (.no rfl rfl rfl rfl) rfl rfl ?_
                              refine run_q (.none rfl) rfl rfl (q_pickT rfl rfl rfl rfl) ?_
                              refine run_q (.none rfl) rfl rfl (q_move rfl rfl) ?_
                              refine run_off (.no rfl rfl rfl rfl) rfl rfl ?_
                              refine run_off (.no rfl rfl rfl rfl) rfl rfl ?_
                              refine run_off (.no rfl rfl rfl rfl) rfl rfl ?_
                              refine run_q (.none rfl) rfl rfl (q_pickT rfl rfl rfl rfl) ?_
                              refine run_q (.none rfl) rfl rfl (q_move rfl rfl) ?_
                              refine run_off (.no rfl rfl rfl rfl) rfl rfl ?_
                              refine run_off (.no rfl rfl rfl rfl) rfl rfl ?_
                              refine run_off (.no rfl rfl rfl rfl) rfl rfl ?_
                              refine run_q (.none rfl) rfl rfl (q_pickT rfl rfl rfl rfl) ?_
                              refine run_q (.none rfl) rfl rfl (q_assign rfl rfl) ?_
                              refine run_nil ?_
                              refine run_sub (subMk (.cons (s := 4) rfl (.cons (s := 24) rfl .nil)) .refl) ?_
                              refine run_condT rfl rfl ?_
                              refine run_seq ?_
                              refine run_region ?_
                              refine run_q (.none rfl) rfl rfl (q_assign rfl rfl) ?_
                              refine run_nil ?_
                              refine run_ret ?_
                              exact end1 rfl rfl (by first | rw [reqE, if_pos (by omega)] | rw [reqE, if_neg (by omega), if_pos (by omega)] | rw [reqE, if_neg (by omega), if_neg (by omega), if_pos (by omega)] | rw [reqE, if_neg (by omega), if_neg (by omega), if_neg (by omega)])
                            · have g76' := g76
                              try simp only [decide_eq_true_eq, decide_eq_false_iff_not, beq_iff_eq, beq_eq_false_iff_ne, bne_iff_ne, bne_eq_false_iff_eq, Bool.not_eq_true', Bool.not_eq_false', ne_eq, Int.not_lt, Int.not_le, Decidable.not_not] at g76'
                              refine run_q (.on rfl rfl rfl g76) rfl rfl (q_fieldB (d := 10) rfl Try.underlying25 rfl rfl sz3 rfl) ?_
                              refine run_q (.on rfl rfl rfl g76) rfl rfl (q_loadB rfl one3 rfl Sel.here rfl) ?_
                              refine run_q (.on rfl rfl rfl g76) rfl rfl (q_gtr rfl rfl rfl) ?_
                              refine run_q (.none rfl) rfl rfl (q_pickF rfl rfl g76 rfl) ?_
                              refine run_q (.none rfl) rfl rfl (q_move rfl rfl) ?_
                              refine run_split 81 rfl (fun g81 => ?_) (fun g81 => ?_)
                              · have g81' := g81
                                try simp only [decide_eq_true_eq, decide_eq_false_iff_not, beq_iff_eq, beq_eq_false_iff_ne, bne_iff_ne, bne_eq_false_iff_eq, Bool.not_eq_true', Bool.not_eq_false', ne_eq, Int.not_lt, Int.not_le, Decidable.not_not] at g81'
                                refine run_off (.no rfl rfl rfl g81) rfl rfl ?_
                                refine run_off (.no rfl rfl rfl g81) rfl rfl ?_
                                refine run_off (.no rfl rfl rfl g81) rfl rfl ?_
                                refine run_q (.none rfl) rfl rfl (q_pickT rfl rfl g81 rfl) ?_
                                refine run_q (.none rfl) rfl rfl (q_move rfl rfl) ?_
                                refine run_off (.no rfl rfl rfl rfl) rfl rfl ?_
                                refine run_off (.no rfl rfl rfl rfl) rfl rfl ?_
                                refine run_off (.no rfl rfl rfl rfl) rfl rfl ?_
                                refine run_q (.none rfl) rfl rfl (q_pickT rfl rfl rfl rfl) ?_
                                refine run_q (.none rfl) rfl rfl (q_move rfl rfl) ?_
                                refine run_off (.no rfl rfl rfl rfl) rfl rfl ?_
                                refine run_off (.no rfl rfl rfl rfl) rfl rfl ?_
                                refine run_off (.no rfl rfl rfl rfl) rfl rfl ?_
                                refine run_q (.none rfl) rfl rfl (q_pickT rfl rfl rfl rfl) ?_
                                refine run_q (.none rfl) rfl rfl (q_move rfl rfl) ?_
                                refine run_off (.no rfl rfl rfl rfl) rfl rfl ?_
                                refine run_off (.no rfl rfl rfl rfl) rfl rfl ?_
                                refine run_off (.no rfl rfl rfl rfl) rfl rfl ?_
                                refine run_q (.none rfl) rfl rfl (q_pickT rfl rfl rfl rfl) ?_
                                refine run_q (.none rfl) rfl rfl (q_assign rfl rfl) ?_
                                refine run_nil ?_
                                refine run_sub (subMk (.cons (s := 4) rfl (.cons (s := 24) rfl .nil)) .refl) ?_
                                refine run_condT rfl rfl ?_
                                refine run_seq ?_
                                refine run_region ?_
                                refine run_q (.none rfl) rfl rfl (q_assign rfl rfl) ?_
                                refine run_nil ?_
                                refine run_ret ?_
                                exact end1 rfl rfl (by first | rw [reqE, if_pos (by omega)] | rw [reqE, if_neg (by omega), if_pos (by omega)] | rw [reqE, if_neg (by omega), if_neg (by omega), if_pos (by omega)] | rw [reqE, if_neg (by omega), if_neg (by omega), if_neg (by omega)])
                              · have g81' := g81
                                try simp only [decide_eq_true_eq, decide_eq_false_iff_not, beq_iff_eq, beq_eq_false_iff_ne, bne_iff_ne, bne_eq_false_iff_eq, Bool.not_eq_true', Bool.not_eq_false', ne_eq, Int.not_lt, Int.not_le, Decidable.not_not] at g81'
                                refine run_q (.on rfl rfl rfl g81) rfl rfl (q_fieldB (d := 11) rfl Try.underlying25 rfl rfl sz3 rfl) ?_
                                refine run_q (.on rfl rfl rfl g81) rfl rfl (q_loadB rfl one3 rfl Sel.here rfl) ?_
                                refine run_q (.on rfl rfl rfl g81) rfl rfl (q_lss rfl rfl rfl) ?_
                                refine run_q (.none rfl) rfl rfl (q_pickF rfl rfl g81 rfl) ?_
                                refine run_q (.none rfl) rfl rfl (q_move rfl rfl) ?_
                                refine run_split 86 rfl (fun g86 => ?_) (fun g86 => ?_)
                                · have g86' := g86
                                  try simp only [decide_eq_true_eq, decide_eq_false_iff_not, beq_iff_eq, beq_eq_false_iff_ne, bne_iff_ne, bne_eq_false_iff_eq, Bool.not_eq_true', Bool.not_eq_false', ne_eq, Int.not_lt, Int.not_le, Decidable.not_not] at g86'
                                  refine run_off (.no rfl rfl rfl g86) rfl rfl ?_
                                  refine run_off (.no rfl rfl rfl g86) rfl rfl ?_
                                  refine run_off (.no rfl rfl rfl g86) rfl rfl ?_
                                  refine run_q (.none rfl) rfl rfl (q_pickT rfl rfl g86 rfl) ?_
                                  refine run_q (.none rfl) rfl rfl (q_move rfl rfl) ?_
                                  refine run_off (.no rfl rfl rfl rfl) rfl rfl ?_
                                  refine run_off (.no rfl rfl rfl rfl) rfl rfl ?_
                                  refine run_off (.no rfl rfl rfl rfl) rfl rfl ?_
                                  refine run_q (.none rfl) rfl rfl (q_pickT rfl rfl rfl rfl) ?_
                                  refine run_q (.none rfl) rfl rfl (q_move rfl rfl) ?_
                                  refine run_off (.no rfl rfl rfl rfl) rfl rfl ?_
                                  refine run_off (.no rfl rfl rfl rfl) rfl rfl ?_
                                  refine run_off (.no rfl rfl rfl rfl) rfl rfl ?_
                                  refine run_q (.none rfl) rfl rfl (q_pickT rfl rfl rfl rfl) ?_
                                  refine run_q (.none rfl) rfl rfl (q_assign rfl rfl) ?_
                                  refine run_nil ?_
                                  refine run_sub (subMk (.cons (s := 4) rfl (.cons (s := 24) rfl .nil)) .refl) ?_
                                  refine run_condT rfl rfl ?_
                                  refine run_seq ?_
                                  refine run_region ?_
                                  refine run_q (.none rfl) rfl rfl (q_assign rfl rfl) ?_
                                  refine run_nil ?_
                                  refine run_ret ?_
                                  exact end1 rfl rfl (by first | rw [reqE, if_pos (by omega)] | rw [reqE, if_neg (by omega), if_pos (by omega)] | rw [reqE, if_neg (by omega), if_neg (by omega), if_pos (by omega)] | rw [reqE, if_neg (by omega), if_neg (by omega), if_neg (by omega)])
                                · have g86' := g86
                                  try simp only [decide_eq_true_eq, decide_eq_false_iff_not, beq_iff_eq, beq_eq_false_iff_ne, bne_iff_ne, bne_eq_false_iff_eq, Bool.not_eq_true', Bool.not_eq_false', ne_eq, Int.not_lt, Int.not_le, Decidable.not_not] at g86'
                                  refine run_q (.on rfl rfl rfl g86) rfl rfl (q_fieldB (d := 11) rfl Try.underlying25 rfl rfl sz3 rfl) ?_
                                  refine run_q (.on rfl rfl rfl g86) rfl rfl (q_loadB rfl one3 rfl Sel.here rfl) ?_
                                  refine run_q (.on rfl rfl rfl g86) rfl rfl (q_gtr rfl rfl rfl) ?_
                                  refine run_q (.none rfl) rfl rfl (q_pickF rfl rfl g86 rfl) ?_
                                  refine run_q (.none rfl) rfl rfl (q_move rfl rfl) ?_
                                  refine run_split 91 rfl (fun g91 => ?_) (fun g91 => ?_)
                                  · have g91' := g91
                                    try simp only [decide_eq_true_eq, decide_eq_false_iff_not, beq_iff_eq, beq_eq_false_iff_ne, bne_iff_ne, bne_eq_false_iff_eq, Bool.not_eq_true', Bool.not_eq_false', ne_eq, Int.not_lt, Int.not_le, Decidable.not_not] at g91'
                                    refine run_off (.no rfl rfl rfl g91) rfl rfl ?_
                                    refine run_off (.no rfl rfl rfl g91) rfl rfl ?_
                                    refine run_off (.no rfl rfl rfl g91) rfl rfl ?_
                                    refine run_q (.none rfl) rfl rfl (q_pickT rfl rfl g91 rfl) ?_
                                    refine run_q (.none rfl) rfl rfl (q_move rfl rfl) ?_
                                    refine run_off (.no rfl rfl rfl rfl) rfl rfl ?_
                                    refine run_off (.no rfl rfl rfl rfl) rfl rfl ?_
                                    refine run_off (.no rfl rfl rfl rfl) rfl rfl ?_
                                    refine run_q (.none rfl) rfl rfl (q_pickT rfl rfl rfl rfl) ?_
                                    refine run_q (.none rfl) rfl rfl (q_assign rfl rfl) ?_
                                    refine run_nil ?_
                                    refine run_sub (subMk (.cons (s := 4) rfl (.cons (s := 24) rfl .nil)) .refl) ?_
                                    refine run_condT rfl rfl ?_
                                    refine run_seq ?_
                                    refine run_region ?_
                                    refine run_q (.none rfl) rfl rfl (q_assign rfl rfl) ?_
                                    refine run_nil ?_
                                    refine run_ret ?_
                                    exact end1 rfl rfl (by first | rw [reqE, if_pos (by omega)] | rw [reqE, if_neg (by omega), if_pos (by omega)] | rw [reqE, if_neg (by omega), if_neg (by omega), if_pos (by omega)] | rw [reqE, if_neg (by omega), if_neg (by omega), if_neg (by omega)])
                                  · have g91' := g91
                                    try simp only [decide_eq_true_eq, decide_eq_false_iff_not, beq_iff_eq, beq_eq_false_iff_ne, bne_iff_ne, bne_eq_false_iff_eq, Bool.not_eq_true', Bool.not_eq_false', ne_eq, Int.not_lt, Int.not_le, Decidable.not_not] at g91'
                                    refine run_q (.on rfl rfl rfl g91) rfl rfl (q_fieldB (d := 12) rfl Try.underlying25 rfl rfl sz3 rfl) ?_
                                    refine run_q (.on rfl rfl rfl g91) rfl rfl (q_loadB rfl one3 rfl Sel.here rfl) ?_
                                    refine run_q (.on rfl rfl rfl g91) rfl rfl (q_lss rfl rfl rfl) ?_
                                    refine run_q (.none rfl) rfl rfl (q_pickF rfl rfl g91 rfl) ?_
                                    refine run_q (.none rfl) rfl rfl (q_move rfl rfl) ?_
                                    refine run_split 96 rfl (fun g96 => ?_) (fun g96 => ?_)
                                    · have g96' := g96
                                      try simp only [decide_eq_true_eq, decide_eq_false_iff_not, beq_iff_eq, beq_eq_false_iff_ne, bne_iff_ne, bne_eq_false_iff_eq, Bool.not_eq_true', Bool.not_eq_false', ne_eq, Int.not_lt, Int.not_le, Decidable.not_not] at g96'
                                      refine run_off (.no rfl rfl rfl g96) rfl rfl ?_
                                      refine run_off (.no rfl rfl rfl g96) rfl rfl ?_
                                      refine run_off (.no rfl rfl rfl g96) rfl rfl ?_
                                      refine run_q (.none rfl) rfl rfl (q_pickT rfl rfl g96 rfl) ?_
                                      refine run_q (.none rfl) rfl rfl (q_assign rfl rfl) ?_
                                      refine run_nil ?_
                                      refine run_sub (subMk (.cons (s := 4) rfl (.cons (s := 24) rfl .nil)) .refl) ?_
                                      refine run_condT rfl rfl ?_
                                      refine run_seq ?_
                                      refine run_region ?_
                                      refine run_q (.none rfl) rfl rfl (q_assign rfl rfl) ?_
                                      refine run_nil ?_
                                      refine run_ret ?_
                                      exact end1 rfl rfl (by first | rw [reqE, if_pos (by omega)] | rw [reqE, if_neg (by omega), if_pos (by omega)] | rw [reqE, if_neg (by omega), if_neg (by omega), if_pos (by omega)] | rw [reqE, if_neg (by omega), if_neg (by omega), if_neg (by omega)])
                                    · have g96' := g96
                                      try simp only [decide_eq_true_eq, decide_eq_false_iff_not, beq_iff_eq, beq_eq_false_iff_ne, bne_iff_ne, bne_eq_false_iff_eq, Bool.not_eq_true', Bool.not_eq_false', ne_eq, Int.not_lt, Int.not_le, Decidable.not_not] at g96'
                                      refine run_q (.on rfl rfl rfl g96) rfl rfl (q_fieldB (d := 12) rfl Try.underlying25 rfl rfl sz3 rfl) ?_
                                      refine run_q (.on rfl rfl rfl g96) rfl rfl (q_loadB rfl one3 rfl Sel.here rfl) ?_
                                      refine run_q (.on rfl rfl rfl g96) rfl rfl (q_gtr rfl rfl rfl) ?_
                                      refine run_q (.none rfl) rfl rfl (q_pickF rfl rfl g96 rfl) ?_
                                      refine run_q (.none rfl) rfl rfl (q_assign rfl rfl) ?_
                                      refine run_nil ?_
                                      refine run_sub (subMk (.cons (s := 4) rfl (.cons (s := 24) rfl .nil)) .refl) ?_
                                      refine run_cond rfl (fun g24 => ?_) (fun g24 => ?_)
                                      · have g24' := g24
                                        try simp only [decide_eq_true_eq, decide_eq_false_iff_not, beq_iff_eq, beq_eq_false_iff_ne, bne_iff_ne, bne_eq_false_iff_eq, Bool.not_eq_true', Bool.not_eq_false', ne_eq, Int.not_lt, Int.not_le, Decidable.not_not] at g24'
                                        refine run_seq ?_
                                        refine run_region ?_
                                        refine run_q (.none rfl) rfl rfl (q_assign rfl rfl) ?_
                                        refine run_nil ?_
                                        refine run_ret ?_
                                        exact end1 rfl rfl (by first | rw [reqE, if_pos (by omega)] | rw [reqE, if_neg (by omega), if_pos (by omega)] | rw [reqE, if_neg (by omega), if_neg (by omega), if_pos (by omega)] | rw [reqE, if_neg (by omega), if_neg (by omega), if_neg (by omega)])
                                      · have g24' := g24
                                        try simp only [decide_eq_true_eq, decide_eq_false_iff_not, beq_iff_eq, beq_eq_false_iff_ne, bne_iff_ne, bne_eq_false_iff_eq, Bool.not_eq_true', Bool.not_eq_false', ne_eq, Int.not_lt, Int.not_le, Decidable.not_not] at g24'
                                        refine run_skip ?_
                                        refine run_blk ?_
                                        refine run_seq ?_
                                        refine run_region ?_
                                        refine run_q (.none rfl) rfl rfl (q_assign rfl rfl) ?_
                                        refine run_nil ?_
                                        refine run_ret ?_
                                        exact end1 rfl rfl (by first | rw [reqE, if_pos (by omega)] | rw [reqE, if_neg (by omega), if_pos (by omega)] | rw [reqE, if_neg (by omega), if_neg (by omega), if_pos (by omega)] | rw [reqE, if_neg (by omega), if_neg (by omega), if_neg (by omega)])
      · have g18' := g18
        try simp only [decide_eq_true_eq, decide_eq_false_iff_not, beq_iff_eq, beq_eq_false_iff_ne, bne_iff_ne, bne_eq_false_iff_eq, Bool.not_eq_true', Bool.not_eq_false', ne_eq, Int.not_lt, Int.not_le, Decidable.not_not] at g18'
        refine run_off (.no rfl rfl rfl g18) rfl rfl ?_
        refine run_off (.no rfl rfl rfl g18) rfl rfl ?_
        refine run_off (.no rfl rfl rfl g18) rfl rfl ?_
        refine run_q (.on rfl rfl rfl g14) rfl rfl (q_pickF rfl rfl g18 rfl) ?_
        refine run_q (.none rfl) rfl rfl (q_pickF rfl rfl g14 rfl) ?_
        refine run_q (.none rfl) rfl rfl (q_assign rfl rfl) ?_
        refine run_nil ?_
        refine run_sub (subMk (.cons (s := 1) rfl (.cons (s := 2) rfl (.cons (s := 4) rfl (.cons (s := 5) rfl .nil)))) .refl) ?_
        refine run_condF rfl rfl ?_
        refine run_seq ?_
        refine run_region ?_
        refine run_q (.none rfl) rfl rfl (q_fieldB (d := 1) rfl Try.underlying25 rfl rfl sz3 rfl) ?_
        refine run_q (.none rfl) rfl rfl (q_loadB rfl one3 rfl Sel.here rfl) ?_
        refine run_q (.none rfl) rfl rfl (q_lss rfl rfl rfl) ?_
        refine run_q (.none rfl) rfl rfl (q_move rfl rfl) ?_
        refine run_split 28 rfl (fun g28 => ?_) (fun g28 => ?_)
        · have g28' := g28
          try simp only [decide_eq_true_eq, decide_eq_false_iff_not, beq_iff_eq, beq_eq_false_iff_ne, bne_iff_ne, bne_eq_false_iff_eq, Bool.not_eq_true', Bool.not_eq_false', ne_eq, Int.not_lt, Int.not_le, Decidable.not_not] at g28'
          refine run_off (.no rfl rfl rfl g28) rfl rfl ?_
          refine run_off (.no rfl rfl rfl g28) rfl rfl ?_
          refine run_off (.no rfl rfl rfl g28) rfl rfl ?_
          refine run_q (.none rfl) rfl rfl (q_pickT rfl rfl g28 rfl) ?_
          refine run_q (.none rfl) rfl rfl (q_move rfl rfl) ?_
          refine run_off (.no rfl rfl rfl rfl) rfl rfl ?_
          refine run_off (.no rfl rfl rfl rfl) rfl rfl ?_
          refine run_off (.no rfl rfl rfl rfl) rfl rfl ?_
          refine run_q (.none rfl) rfl rfl (q_pickT rfl rfl rfl rfl) ?_
          refine run_q (.none rfl) rfl rfl (q_move rfl rfl) ?_
          refine run_off (.no rfl rfl rfl rfl) rfl rfl ?_
          refine run_off (.no rfl rfl rfl rfl) rfl rfl ?_
          refine run_off (.no rfl rfl rfl rfl) rfl rfl ?_
          refine run_off (.no rfl rfl rfl rfl) rfl rfl ?_
          refine run_off (.no rfl rfl rfl rfl) rfl rfl ?_
          refine run_q (.none rfl) rfl rfl (q_pickT rfl rfl rfl rfl) ?_
          refine run_q (.none rfl) rfl rfl (q_move rfl rfl) ?_
          refine run_off (.no rfl rfl rfl rfl) rfl rfl ?_
          refine run_off (.no rfl rfl rfl rfl) rfl rfl ?_
          refine run_off (.no rfl rfl rfl rfl) rfl rfl ?_
          refine run_off (.no rfl rfl rfl rfl) rfl rfl ?_
          refine run_q (.none rfl) rfl rfl (q_pickT rfl rfl rfl rfl) ?_
          refine run_q (.none rfl) rfl rfl (q_move rfl rfl) ?_
          refine run_off (.no rfl rfl rfl rfl) rfl rfl ?_
          refine run_off (.no rfl rfl rfl rfl) rfl rfl ?_
          refine run_off (.no rfl rfl rfl rfl) rfl rfl ?_
          refine run_q (.none rfl) rfl rfl (q_pickT rfl rfl rfl rfl) ?_
          refine run_q (.none rfl) rfl rfl (q_move rfl rfl) ?_
          refine run_off (.no rfl rfl rfl rfl) rfl rfl ?_
          refine run_off (.no rfl rfl rfl rfl) rfl rfl ?_
          refine run_off (.no rfl rfl rfl rfl) rfl rfl ?_
          refine run_q (.none rfl) rfl rfl (q_pickT rfl rfl rfl rfl) ?_
          refine run_q (.none rfl) rfl rfl (q_move rfl rfl) ?_
          refine run_off (.no rfl rfl rfl rfl) rfl rfl ?_
          refine run_off (.no rfl rfl rfl rfl) rfl rfl ?_
          refine run_off (.no rfl rfl rfl rfl) rfl rfl ?_
          refine run_q (.none rfl) rfl rfl (q_pickT rfl rfl rfl rfl) ?_
          refine run_q (.none rfl) rfl rfl (q_move rfl rfl) ?_
          refine run_off (.no rfl rfl rfl rfl) rfl rfl ?_
          refine run_off (.no rfl rfl rfl rfl) rfl rfl ?_
          refine run_off (.no rfl rfl rfl rfl) rfl rfl ?_
          refine run_q (.none rfl) rfl rfl (q_pickT rfl rfl rfl rfl) ?_
          refine run_q (.none rfl) rfl rfl (q_move rfl rfl) ?_
          refine run_off (.no rfl rfl rfl rfl) rfl rfl ?_
          refine run_off (.no rfl rfl rfl rfl) rfl rfl ?_
          refine run_off (.no rfl rfl rfl rfl) rfl rfl ?_
          refine run_q (.none rfl) rfl rfl (q_pickT rfl rfl rfl rfl) ?_
          refine run_q (.none rfl) rfl rfl (q_move rfl rfl) ?_
          refine run_off (.no rfl rfl rfl rfl) rfl rfl ?_
          refine run_off (.no rfl rfl rfl rfl) rfl rfl ?_
          refine run_off (.no rfl rfl rfl rfl) rfl rfl ?_
          refine run_q (.none rfl) rfl rfl (q_pickT rfl rfl rfl rfl) ?_
          refine run_q (.none rfl) rfl rfl (q_move rfl rfl) ?_
          refine run_off (.no rfl rfl rfl rfl) rfl rfl ?_
          refine run_off (.no rfl rfl rfl rfl) rfl rfl ?_
          refine run_off (.no rfl rfl rfl rfl) rfl rfl ?_
          refine run_q (.none rfl) rfl rfl (q_pickT rfl rfl rfl rfl) ?_
          refine run_q (.none rfl) rfl rfl (q_move rfl rfl) ?_
          refine run_off (.no rfl rfl rfl rfl) rfl rfl ?_
          refine run_off (.no rfl rfl rfl rfl) rfl rfl ?_
          refine run_off (.no rfl rfl rfl rfl) rfl rfl ?_
          refine run_q (.none rfl) rfl rfl (q_pickT rfl rfl rfl rfl) ?_
          refine run_q (.none rfl) rfl rfl (q_move rfl rfl) ?_
          refine run_off (.no rfl rfl rfl rfl) rfl rfl ?_
          refine run_off (.no rfl rfl rfl rfl) rfl rfl ?_
          refine run_off (.no rfl rfl rfl rfl) rfl rfl ?_
          refine run_q (.none rfl) rfl rfl (q_pickT rfl rfl rfl rfl) ?_
          refine run_q (.none rfl) rfl rfl (q_move rfl rfl) ?_
          refine run_off (.no rfl rfl rfl rfl) rfl rfl ?_
          refine run_off (.no rfl rfl rfl rfl) rfl rfl ?_
          refine run_off (.no rfl rfl rfl rfl) rfl rfl ?_
          refine run_q (.none rfl) rfl rfl (q_pickT rfl rfl rfl rfl) ?_
          refine run_q (.none rfl) rfl rfl (q_assign rfl rfl) ?_
          refine run_nil ?_
          refine run_sub (subMk (.cons (s := 4) rfl (.cons (s := 24) rfl .nil)) .refl) ?_
          refine run_condT rfl rfl ?_
          refine run_seq ?_
          refine run_region ?_
          refine run_q (.none rfl) rfl rfl (q_assign rfl rfl) ?_
          refine run_nil ?_
          refine run_ret ?_
          exact end1 rfl rfl (by first | rw [reqE, if_pos (by omega)] | rw [reqE, if_neg (by omega), if_pos (by omega)] | rw [reqE, if_neg (by omega), if_neg (by omega), if_pos (by omega)] | rw [reqE, if_neg (by omega), if_neg (by omega), if_neg (by omega)])
        · have g28' := g28
          try simp only [decide_eq_true_eq, decide_eq_false_iff_not, beq_iff_eq, beq_eq_false_iff_ne, bne_iff_ne, bne_eq_false_iff_eq, Bool.not_eq_true', Bool.not_eq_false', ne_eq, Int.not_lt, Int.not_le, Decidable.not_not] at g28'
          refine run_q (.on rfl rfl rfl g28) rfl rfl (q_fieldB (d := 2) rfl Try.underlying25 rfl rfl sz3 rfl) ?_
          refine run_q (.on rfl rfl rfl g28) rfl rfl (q_loadB rfl one3 rfl Sel.here rfl) ?_
          refine run_q (.on rfl rfl rfl g28) rfl rfl (q_lss rfl rfl rfl) ?_
          refine run_q (.none rfl) rfl rfl (q_pickF rfl rfl g28 rfl) ?_
          refine run_q (.none rfl) rfl rfl (q_move rfl rfl) ?_
          refine run_split 33 rfl (fun g33 => ?_) (fun g33 => ?_)
          · have g33' := g33
            try simp only [decide_eq_true_eq, decide_eq_false_iff_not, beq_iff_eq, beq_eq_false_iff_ne, bne_iff_ne, bne_eq_false_iff_eq, Bool.not_eq_true', Bool.not_eq_false', ne_eq, Int.not_lt, Int.not_le, Decidable.not_not] at g33'
            refine run_off (.no rfl rfl rfl g33) rfl rfl ?_
            refine run_off (.no rfl rfl rfl g33) rfl rfl ?_
            refine run_off (.no rfl rfl rfl g33) rfl rfl ?_
            refine run_q (.none rfl) rfl rfl (q_pickT rfl rfl g33 rfl) ?_
            refine run_q (.none rfl) rfl rfl (q_move rfl rfl) ?_
            refine run_off (.no rfl rfl rfl rfl) rfl rfl ?_
            refine run_off (.no rfl rfl rfl rfl) rfl rfl ?_
            refine run_off (.no rfl rfl rfl rfl) rfl rfl ?_
            refine run_off (.no rfl rfl rfl rfl) rfl rfl ?_
            refine run_off (.no rfl rfl rfl rfl) rfl rfl ?_
            refine run_q (.none rfl) rfl rfl (q_pickT rfl rfl rfl rfl) ?_
            refine run_q (.none rfl) rfl rfl (q_move rfl rfl) ?_
            refine run_off (.no rfl rfl rfl rfl) rfl rfl ?_
            refine run_off (.no rfl rfl rfl rfl) rfl rfl ?_
            refine run_off (.no rfl rfl rfl rfl) rfl rfl ?_
            refine run_off (.no rfl rfl rfl rfl) rfl rfl ?_
            refine run_q (.none rfl) rfl rfl (q_pickT rfl rfl rfl rfl) ?_
            refine run_q (.none rfl) rfl rfl (q_move rfl rfl) ?_
            refine run_off (.no rfl rfl rfl rfl) rfl rfl ?_
            refine run_off (.no rfl rfl rfl rfl) rfl rfl ?_
            refine run_off (.no rfl rfl rfl rfl) rfl rfl ?_
            refine run_q (.none rfl) rfl rfl (q_pickT rfl rfl rfl rfl) ?_
            refine run_q (.none rfl) rfl rfl (q_move rfl rfl) ?_
            refine run_off (.no rfl rfl rfl rfl) rfl rfl ?_
            refine run_off (.no rfl rfl rfl rfl) rfl rfl ?_
            refine run_off (.no rfl rfl rfl rfl) rfl rfl ?_
            refine run_q (.none rfl) rfl rfl (q_pickT rfl rfl rfl rfl) ?_
            refine run_q (.none rfl) rfl rfl (q_move rfl rfl) ?_
            refine run_off (.no rfl rfl rfl rfl) rfl rfl ?_
            refine run_off (.no rfl rfl rfl rfl) rfl rfl ?_
            refine run_off (.no rfl rfl rfl rfl) rfl rfl ?_
            refine run_q (.none rfl) rfl rfl (q_pickT rfl rfl rfl rfl) ?_
            refine run_q (.none rfl) rfl rfl (q_move rfl rfl) ?_
            refine run_off (.no rfl rfl rfl rfl) rfl rfl ?_
            refine run_off (.no rfl rfl rfl rfl) rfl rfl ?_
            refine run_off (.no rfl rfl rfl rfl) rfl rfl ?_
            refine run_q (.none rfl) rfl rfl (q_pickT rfl rfl rfl rfl) ?_
            refine run_q (.none rfl) rfl rfl (q_move rfl rfl) ?_
            refine run_off (.no rfl rfl rfl rfl) rfl rfl ?_
            refine run_off (.no rfl rfl rfl rfl) rfl rfl ?_
            refine run_off (.no rfl rfl rfl rfl) rfl rfl ?_
            refine run_q (.none rfl) rfl rfl (q_pickT rfl rfl rfl rfl) ?_
            refine run_q (.none rfl) rfl rfl (q_move rfl rfl) ?_
            refine run_off (.no rfl rfl rfl rfl) rfl rfl ?_
            refine run_off (.no rfl rfl rfl rfl) rfl rfl ?_
            refine run_off (.no rfl rfl rfl rfl) rfl rfl ?_
            refine run_q (.none rfl) rfl rfl (q_pickT rfl rfl rfl rfl) ?_
            refine run_q (.none rfl) rfl rfl (q_move rfl rfl) ?_
            refine run_off (.no rfl rfl rfl rfl) rfl rfl ?_
            refine run_off (.no rfl rfl rfl rfl) rfl rfl ?_
            refine run_off (.no rfl rfl rfl rfl) rfl rfl ?_
            refine run_q (.none rfl) rfl rfl (q_pickT rfl rfl rfl rfl) ?_
            refine run_q (.none rfl) rfl rfl (q_move rfl rfl) ?_
            refine run_off (.no rfl rfl rfl rfl) rfl rfl ?_
            refine run_off (.no rfl rfl rfl rfl) rfl rfl ?_
            refine run_off (.no rfl rfl rfl rfl) rfl rfl ?_
            refine run_q (.none rfl) rfl rfl (q_pickT rfl rfl rfl rfl) ?_
            refine run_q (.none rfl) rfl rfl (q_move rfl rfl) ?_
            refine run_off (.no rfl rfl rfl rfl) rfl rfl ?_
            refine run_off (.no rfl rfl rfl rfl) rfl rfl ?_
            refine run_off (.no rfl rfl rfl rfl) rfl rfl ?_
            refine run_q (.none rfl) rfl rfl (q_pickT rfl rfl rfl rfl) ?_
            refine run_q (.none rfl) rfl rfl (q_move rfl rfl) ?_
            refine run_off (.no rfl rfl rfl rfl) rfl rfl ?_
            refine run_off (.no rfl rfl rfl rfl) rfl rfl ?_
            refine run_off (.no rfl rfl rfl rfl) rfl rfl ?_
            refine run_q (.none rfl) rfl rfl (q_pickT rfl rfl rfl rfl) ?_
            refine run_q (.none rfl) rfl rfl (q_assign rfl rfl) ?_
            refine run_nil ?_
            refine run_sub (subMk (.cons (s := 4) rfl (.cons (s := 24) rfl .nil)) .refl) ?_
            refine run_condT rfl rfl ?_
            refine run_seq ?_
            refine run_region ?_
            refine run_q (.none rfl) rfl rfl (q_assign rfl rfl) ?_
            refine run_nil ?_
            refine run_ret ?_
            exact end1 rfl rfl (by first | rw [reqE, if_pos (by omega)] | rw [reqE, if_neg (by omega), if_pos (by omega)] | rw [reqE, if_neg (by omega), if_neg (by omega), if_pos (by omega)] | rw [reqE, if_neg (by omega), if_neg (by omega), if_neg (by omega)])
          · have g33' := g33
            try simp only [decide_eq_true_eq, decide_eq_false_iff_not, beq_iff_eq, beq_eq_false_iff_ne, bne_iff_ne, bne_eq_false_iff_eq, Bool.not_eq_true', Bool.not_eq_false', ne_eq, Int.not_lt, Int.not_le, Decidable.not_not] at g33'
            refine run_q (.on rfl rfl rfl g33) rfl rfl (q_fieldB (d := 3) rfl Try.underlying25 rfl rfl sz3 rfl) ?_
            refine run_q (.on rfl rfl rfl g33) rfl rfl (q_loadB rfl one3 rfl Sel.here rfl) ?_
            refine run_q (.on rfl rfl rfl g33) rfl rfl (q_lss rfl rfl rfl) ?_
            refine run_q (.none rfl) rfl rfl (q_pickF rfl rfl g33 rfl) ?_
            refine run_q (.none rfl) rfl rfl (q_move rfl rfl) ?_
            refine run_split 38 rfl (fun g38 => ?_) (fun g38 => ?_)
            · have g38' := g38
              try simp only [decide_eq_true_eq, decide_eq_false_iff_not, beq_iff_eq, beq_eq_false_iff_ne, bne_iff_ne, bne_eq_false_iff_eq, Bool.not_eq_true', Bool.not_eq_false', ne_eq, Int.not_lt, Int.not_le, Decidable.not_not] at g38'
              refine run_off (.no rfl rfl rfl g38) rfl rfl ?_
              refine run_off (.no rfl rfl rfl g38) rfl rfl ?_
              refine run_off (.no rfl rfl rfl g38) rfl rfl ?_
              refine run_off (.no rfl rfl rfl g38) rfl rfl ?_
              refine run_off (.no rfl rfl rfl g38) rfl rfl ?_
              refine run_q (.none rfl) rfl rfl (q_pickT rfl rfl g38 rfl) ?_
              refine run_q (.none rfl) rfl rfl (q_move rfl rfl) ?_
              refine run_off (.no rfl rfl rfl rfl) rfl rfl ?_
              refine run_off (.no rfl rfl rfl rfl) rfl rfl ?_
              refine run_off (.no rfl rfl rfl rfl) rfl rfl ?_
              refine run_off (.no rfl rfl rfl rfl) rfl rfl ?_
              refine run_q (.none rfl) rfl rfl (q_pickT rfl rfl rfl rfl) ?_
              refine run_q (.none rfl) rfl rfl (q_move rfl rfl) ?_
              refine run_off (.no rfl rfl rfl rfl) rfl rfl ?_
              refine run_off (.no rfl rfl rfl rfl) rfl rfl ?_
              refine run_off (.no rfl rfl rfl rfl) rfl rfl ?_
              refine run_q (.none rfl) rfl rfl (q_pickT rfl rfl rfl rfl) ?_
              refine run_q (.none rfl) rfl rfl (q_move rfl rfl) ?_
              refine run_off (.no rfl rfl rfl rfl) rfl rfl ?_
              refine run_off (.no rfl rfl rfl rfl) rfl rfl ?_
              refine run_off (.no rfl rfl rfl rfl) rfl rfl ?_
              refine run_q (.none rfl) rfl rfl (q_pickT rfl rfl rfl rfl) ?_
              refine run_q (.none rfl) rfl rfl (q_move rfl rfl) ?_
              refine run_off (.no rfl rfl rfl rfl) rfl rfl ?_
              refine run_off (.no rfl rfl rfl rfl) rfl rfl ?_
              refine run_off (.no rfl rfl rfl rfl) rfl rfl ?_
              refine run_q (.none rfl) rfl rfl (q_pickT rfl rfl rfl rfl) ?_
              refine run_q (.none rfl) rfl rfl (q_move rfl rfl) ?_
              refine run_off (.no rfl rfl rfl rfl) rfl rfl ?_
              refine run_off (.no rfl rfl rfl rfl) rfl rfl ?_
              refine run_off (.no rfl rfl rfl rfl) rfl rfl ?_
              refine run_q (.none rfl) rfl rfl (q_pickT rfl rfl rfl rfl) ?_
              refine run_q (.none rfl) rfl rfl (q_move rfl rfl) ?_
              refine run_off (.no rfl rfl rfl rfl) rfl rfl ?_
              refine run_off (.no rfl rfl rfl rfl) rfl rfl ?_
              refine run_off (.no rfl rfl rfl rfl) rfl rfl ?_
              refine run_q (.none rfl) rfl rfl (q_pickT rfl rfl rfl rfl) ?_
              refine run_q (.none rfl) rfl rfl (q_move rfl rfl) ?_
              refine run_off (.no rfl rfl rfl rfl) rfl rfl ?_
              refine run_off (.no rfl rfl rfl rfl) rfl rfl ?_
              refine run_off (.no rfl rfl rfl rfl) rfl rfl ?_
              refine run_q (.none rfl) rfl rfl (q_pickT rfl rfl rfl rfl) ?_
              refine run_q (.none rfl) rfl rfl (q_move rfl rfl) ?_
              refine run_off (.no rfl rfl rfl rfl) rfl rfl ?_
              refine run_off (.no rfl rfl rfl rfl) rfl rfl ?_
              refine run_off (.no rfl rfl rfl rfl) rfl rfl ?_
              refine run_q (.none rfl) rfl rfl (q_pickT rfl rfl rfl rfl) ?_
              refine run_q (.none rfl) rfl rfl (q_move rfl rfl) ?_
              refine run_off (.no rfl rfl rfl rfl) rfl rfl ?_
              refine run_off (.no rfl rfl rfl rfl) rfl rfl ?_
              refine run_off (.no rfl rfl rfl rfl) rfl rfl ?_
              refine run_q (.none rfl) rfl rfl (q_pickT rfl rfl rfl rfl) ?_
              refine run_q (.none rfl) rfl rfl (q_move rfl rfl) ?_
              refine run_off (.no rfl rfl rfl rfl) rfl rfl ?_
              refine run_off (.no rfl rfl rfl rfl) rfl rfl ?_
              refine run_off (.no rfl rfl rfl rfl) rfl rfl ?_
              refine run_q (.none rfl) rfl rfl (q_pickT rfl rfl rfl rfl) ?_
              refine run_q (.none rfl) rfl rfl (q_move rfl rfl) ?_
              refine run_off (.no rfl rfl rfl rfl) rfl rfl ?_
              refine run_off (.no rfl rfl rfl rfl) rfl rfl ?_
              refine run_off (.no rfl rfl rfl rfl) rfl rfl ?_
              refine run_q (.none rfl) rfl rfl (q_pickT rfl rfl rfl rfl) ?_
              refine run_q (.none rfl) rfl rfl (q_assign rfl rfl) ?_
              refine run_nil ?_
              refine run_sub (subMk (.cons (s := 4) rfl (.cons (s := 24) rfl .nil)) .refl) ?_
              refine run_condT rfl rfl ?_
              refine run_seq ?_
              refine run_region ?_
              refine run_q (.none rfl) rfl rfl (q_assign rfl rfl) ?_
              refine run_nil ?_
              refine run_ret ?_
              exact end1 rfl rfl (by first | rw [reqE, if_pos (by omega)] | rw [reqE, if_neg (by omega), if_pos (by omega)] | rw [reqE, if_neg (by omega), if_neg (by omega), if_pos (by omega)] | rw [reqE, if_neg (by omega), if_neg (by omega), if_neg (by omega)])
            · have g38' := g38
              try simp only [decide_eq_true_eq, decide_eq_false_iff_not, beq_iff_eq, beq_eq_false_iff_ne, bne_iff_ne, bne_eq_false_iff_eq, Bool.not_eq_true', Bool.not_eq_false', ne_eq, Int.not_lt, Int.not_le, Decidable.not_not] at g38'
              refine run_q (.on rfl rfl rfl g38) rfl rfl (q_fieldB (d := 4) rfl Try.underlying25 rfl rfl sz3 rfl) ?_
              refine run_q (.on rfl rfl rfl g38) rfl rfl (q_loadB rfl one3 rfl Sel.here rfl) ?_
              refine run_q (.on rfl rfl rfl g38) rfl rfl (q_fieldB (d := 3) rfl Try.underlying25 rfl rfl sz3 rfl) ?_
              refine run_q (.on rfl rfl rfl g38) rfl rfl (q_loadB rfl one3 rfl Sel.here rfl) ?_
              refine run_q (.on rfl rfl rfl g38) rfl rfl (q_lss rfl rfl rfl) ?_
              refine run_q (.none rfl) rfl rfl (q_pickF rfl rfl g38 rfl) ?_
              refine run_q (.none rfl) rfl rfl (q_move rfl rfl) ?_
              refine run_split 45 rfl (fun g45 => ?_) (fun g45 => ?_)
              · have g45' := g45
                try simp only [decide_eq_true_eq, decide_eq_false_iff_not, beq_iff_eq, beq_eq_false_iff_ne, bne_iff_ne, bne_eq_false_iff_eq, Bool.not_eq_true', Bool.not_eq_false', ne_eq, Int.not_lt, Int.not_le, Decidable.not_not] at g45'
                refine run_off (.no rfl rfl rfl g45) rfl rfl ?_
                refine run_off (.no rfl rfl rfl g45) rfl rfl ?_
                refine run_off (.no rfl rfl rfl g45) rfl rfl ?_
                refine run_off (.no rfl rfl rfl g45) rfl rfl ?_
                refine run_q (.none rfl) rfl rfl (q_pickT rfl rfl g45 rfl) ?_
                refine run_q (.none rfl) rfl rfl (q_move rfl rfl) ?_
                refine run_off (.no rfl rfl rfl rfl) rfl rfl ?_
                refine run_off (.no rfl rfl rfl rfl) rfl rfl ?_
                refine run_off (.no rfl rfl rfl rfl) rfl rfl ?_
                refine run_q (.none rfl) rfl rfl (q_pickT rfl rfl rfl rfl) ?_
                refine run_q (.none rfl) rfl rfl (q_move rfl rfl) ?_
                refine run_off (.no rfl rfl rfl rfl) rfl rfl ?_
                refine run_off (.no rfl rfl rfl rfl) rfl rfl ?_
                refine run_off (.no rfl rfl rfl rfl) rfl rfl ?_
                refine run_q (.none rfl) rfl rfl (q_pickT rfl rfl rfl rfl) ?_
                refine run_q (.none rfl) rfl rfl (q_move rfl rfl) ?_
                refine run_off (.no rfl rfl rfl rfl) rfl rfl ?_
                refine run_off (.no rfl rfl rfl rfl) rfl rfl ?_
                refine run_off (.no rfl rfl rfl rfl) rfl rfl ?_
                refine run_q (.none rfl) rfl rfl (q_pickT rfl rfl rfl rfl) ?_
                refine run_q (.none rfl) rfl rfl (q_move rfl rfl) ?_
                refine run_off (.no rfl rfl rfl rfl) rfl rfl ?_
                refine run_off (.no rfl rfl rfl rfl) rfl rfl ?_
                refine run_off (.no rfl rfl rfl rfl) rfl rfl ?_
                refine run_q (.none rfl) rfl rfl (q_pickT rfl rfl rfl rfl) ?_
                refine run_q (.none rfl) rfl rfl (q_move rfl rfl) ?_
                refine run_off (.no rfl rfl rfl rfl) rfl rfl ?_
                refine run_off (.no rfl rfl rfl rfl) rfl rfl ?_
                refine run_off (.no rfl rfl rfl rfl) rfl rfl ?_
                refine run_q (.none rfl) rfl rfl (q_pickT rfl rfl rfl rfl) ?_
                refine run_q (.none rfl) rfl rfl (q_move rfl rfl) ?_
                refine run_off (.no rfl rfl rfl rfl) rfl rfl ?_
                refine run_off (.no rfl rfl rfl rfl) rfl rfl ?_
                refine run_off (.no rfl rfl rfl rfl) rfl rfl ?_
                refine run_q (.none rfl) rfl rfl (q_pickT rfl rfl rfl rfl) ?_
                refine run_q (.none rfl) rfl rfl (q_move rfl rfl) ?_
                refine run_off (.no rfl rfl rfl rfl) rfl rfl ?_
                refine run_off (.no rfl rfl rfl rfl) rfl rfl ?_
                refine run_off (.no rfl rfl rfl rfl) rfl rfl ?_
                refine run_q (.none rfl) rfl rfl (q_pickT rfl rfl rfl rfl) ?_
                refine run_q (.none rfl) rfl rfl (q_move rfl rfl) ?_
                refine run_off (.no rfl rfl rfl rfl) rfl rfl ?_
                refine run_off (.no rfl rfl rfl rfl) rfl rfl ?_
                refine run_off (.no rfl rfl rfl rfl) rfl rfl ?_
                refine run_q (.none rfl) rfl rfl (q_pickT rfl rfl rfl rfl) ?_
                refine run_q (.none rfl) rfl rfl (q_move rfl rfl) ?_
                refine run_off (.no rfl rfl rfl rfl) rfl rfl ?_
                refine run_off (.no rfl rfl rfl rfl) rfl rfl ?_
                refine run_off (.no rfl rfl rfl rfl) rfl rfl ?_
                refine run_q (.none rfl) rfl rfl (q_pickT rfl rfl rfl rfl) ?_
                refine run_q (.none rfl) rfl rfl (q_move rfl rfl) ?_
                refine run_off (.no rfl rfl rfl rfl) rfl rfl ?_
                refine run_off (.no rfl rfl rfl rfl) rfl rfl ?_
                refine run_off (.no rfl rfl rfl rfl) rfl rfl ?_
                refine run_q (.none rfl) rfl rfl (q_pickT rfl rfl rfl rfl) ?_
                refine run_q (.none rfl) rfl rfl (q_assign rfl rfl) ?_
                refine run_nil ?_
                refine run_sub (subMk (.cons (s := 4) rfl (.cons (s := 24) rfl .nil)) .refl) ?_
                refine run_condT rfl rfl ?_
                refine run_seq ?_
                refine run_region ?_
                refine run_q (.none rfl) rfl rfl (q_assign rfl rfl) ?_
                refine run_nil ?_
                refine run_ret ?_
                exact end1 rfl rfl (by first | rw [reqE, if_pos (by omega)] | rw [reqE, if_neg (by omega), if_pos (by omega)] | rw [reqE, if_neg (by omega), if_neg (by omega), if_pos (by omega)] | rw [reqE, if_neg (by omega), if_neg (by omega), if_neg (by omega)])
              · have g45' := g45
                try simp only [decide_eq_true_eq, decide_eq_false_iff_not, beq_iff_eq, beq_eq_false_iff_ne, bne_iff_ne, bne_eq_false_iff_eq, Bool.not_eq_true', Bool.not_eq_false', ne_eq, Int.not_lt, Int.not_le, Decidable.not_not] at g45'
                refine run_q (.on rfl rfl rfl g45) rfl rfl (q_fieldB (d := 4) rfl Try.underlying25 rfl rfl sz3 rfl) ?_
                refine run_q (.on rfl rfl rfl g45) rfl rfl (q_loadB rfl one3 rfl Sel.here rfl) ?_
                refine run_q (.on rfl rfl rfl g45) rfl rfl (q_move rfl rfl) ?_
                refine run_q (.on rfl rfl rfl g45) rfl rfl (q_geq rfl rfl rfl) ?_
                refine run_q (.none rfl) rfl rfl (q_pickF rfl rfl g45 rfl) ?_
                refine run_q (.none rfl) rfl rfl (q_move rfl rfl) ?_
                refine run_split 51 rfl (fun g51 => ?_) (fun g51 => ?_)
                · have g51' := g51
                  try simp only [decide_eq_true_eq, decide_eq_false_iff_not, beq_iff_eq, beq_eq_false_iff_ne, bne_iff_ne, bne_eq_false_iff_eq, Bool.not_eq_true', Bool.not_eq_false', ne_eq, Int.not_lt, Int.not_le, Decidable.not_not] at g51'
                  refine run_off (.no rfl rfl rfl g51) rfl rfl ?_
                  refine run_off (.no rfl rfl rfl g51) rfl rfl ?_
                  refine run_off (.no rfl rfl rfl g51) rfl rfl ?_
                  refine run_q (.none rfl) rfl rfl (q_pickT rfl rfl g51 rfl) ?_
                  refine run_q (.none rfl) rfl rfl (q_move rfl rfl) ?_
                  refine run_off (.no rfl rfl rfl rfl) rfl rfl ?_
                  refine run_off (.no rfl rfl rfl rfl) rfl rfl ?_
                  refine run_off (.no rfl rfl rfl rfl) rfl rfl ?_
                  refine run_q (.none rfl) rfl rfl (q_pickT rfl rfl rfl rfl) ?_
                  refine run_q (.none rfl) rfl rfl (q_move rfl rfl) ?_
                  refine run_off (.no rfl rfl rfl rfl) rfl rfl ?_
                  refine run_off (.no rfl rfl rfl rfl) rfl rfl ?_
                  refine run_off (.no rfl rfl rfl rfl) rfl rfl ?_
                  refine run_q (.none rfl) rfl rfl (q_pickT rfl rfl rfl rfl) ?_
                  refine run_q (.none rfl) rfl rfl (q_move rfl rfl) ?_
                  refine run_off (.no rfl rfl rfl rfl) rfl rfl ?_
                  refine run_off (.no rfl rfl rfl rfl) rfl rfl ?_
                  refine run_off (.no rfl rfl rfl rfl) rfl rfl ?_
                  refine run_q (.none rfl) rfl rfl (q_pickT rfl rfl rfl rfl) ?_
                  refine run_q (.none rfl) rfl rfl (q_move rfl rfl) ?_
                  refine run_off (.no rfl rfl rfl rfl) rfl rfl ?_
                  refine run_off (.no rfl rfl rfl rfl) rfl rfl ?_
                  refine run_off (.no rfl rfl rfl rfl) rfl rfl ?_
                  refine run_q (.none rfl) rfl rfl (q_pickT rfl rfl rfl rfl) ?_
                  refine run_q (.none rfl) rfl rfl (q_move rfl rfl) ?_
                  refine run_off (.no rfl rfl rfl rfl) rfl rfl ?_
                  refine run_off (.no rfl rfl rfl rfl) rfl rfl ?_
                  refine run_off (.no rfl rfl rfl rfl) rfl rfl ?_
                  refine run_q (.none rfl) rfl rfl (q_pickT rfl rfl rfl rfl) ?_
                  refine run_q (.none rfl) rfl rfl (q_move rfl rfl) ?_
                  refine run_off (.no rfl rfl rfl rfl) rfl rfl ?_
                  refine run_off (.no rfl rfl rfl rfl) rfl rfl ?_
                  refine run_off (.no rfl rfl rfl rfl) rfl rfl ?_
                  refine run_q (.none rfl) rfl rfl (q_pickT rfl rfl rfl rfl) ?_
                  refine run_q (.none rfl) rfl rfl (q_move rfl rfl) ?_
                  refine run_off (.no rfl rfl rfl rfl) rfl rfl ?_
                  refine run_off (.no rfl rfl rfl rfl) rfl rfl ?_
                  refine run_off (.no rfl rfl rfl rfl) rfl rfl ?_
                  refine run_q (.none rfl) rfl rfl (q_pickT rfl rfl rfl rfl) ?_
                  refine run_q (.none rfl) rfl rfl (q_move rfl rfl) ?_
                  refine run_off (.no rfl rfl rfl rfl) rfl rfl ?_
                  refine run_off (.no rfl rfl rfl rfl) rfl rfl ?_
                  refine run_off (.no rfl rfl rfl rfl) rfl rfl ?_
                  refine run_q (.none rfl) rfl rfl (q_pickT rfl rfl rfl rfl) ?_
                  refine run_q (.none rfl) rfl rfl (q_move rfl rfl) ?_
                  refine run_off (.no rfl rfl rfl rfl) rfl rfl ?_
                  refine run_off (.no rfl rfl rfl rfl) rfl rfl ?_
                  refine run_off (.no rfl rfl rfl rfl) rfl rfl ?_
                  refine run_q (.none rfl) rfl rfl (q_pickT rfl rfl rfl rfl) ?_
                  refine run_q (.none rfl) rfl rfl (q_assign rfl rfl) ?_
                  refine run_nil ?_
                  refine run_sub (subMk (.cons (s := 4) rfl (.cons (s := 24) rfl .nil)) .refl) ?_
                  refine run_condT rfl rfl ?_
                  refine run_seq ?_
                  refine run_region ?_
                  refine run_q (.none rfl) rfl rfl (q_assign rfl rfl) ?_
                  refine run_nil ?_
                  refine run_ret ?_
                  exact end1 rfl rfl (by first | rw [reqE, if_pos (by omega)] | rw [reqE, if_neg (by omega), if_pos (by omega)] | rw [reqE, if_neg (by omega), if_neg (by omega), if_pos (by omega)] | rw [reqE, if_neg (by omega), if_neg (by omega), if_neg (by omega)])
                · have g51' := g51
                  try simp only [decide_eq_true_eq, decide_eq_false_iff_not, beq_iff_eq, beq_eq_false_iff_ne, bne_iff_ne, bne_eq_false_iff_eq, Bool.not_eq_true', Bool.not_eq_false', ne_eq, Int.not_lt, Int.not_le, Decidable.not_not] at g51'
                  refine run_q (.on rfl rfl rfl g51) rfl rfl (q_fieldB (d := 6) rfl Try.underlying25 rfl rfl sz3 rfl) ?_
                  refine run_q (.on rfl rfl rfl g51) rfl rfl (q_loadB rfl one3 rfl Sel.here rfl) ?_
                  refine run_q (.on rfl rfl rfl g51) rfl rfl (q_lss rfl rfl rfl) ?_
                  refine run_q (.none rfl) rfl rfl (q_pickF rfl rfl g51 rfl) ?_
                  refine run_q (.none rfl) rfl rfl (q_move rfl rfl) ?_
                  refine run_split 56 rfl (fun g56 => ?_) (fun g56 => ?_)
                  · have g56' := g56
                    try simp only [decide_eq_true_eq, decide_eq_false_iff_not, beq_iff_eq, beq_eq_false_iff_ne, bne_iff_ne, bne_eq_false_iff_eq, Bool.not_eq_true', Bool.not_eq_false', ne_eq, Int.not_lt, Int.not_le, Decidable.not_not] at g56'
                    refine run_off (.no rfl rfl rfl g56) rfl rfl ?_
                    refine run_off (.no rfl rfl rfl g56) rfl rfl ?_
                    refine run_off (.no rfl rfl rfl g56) rfl rfl ?_
                    refine run_q (.none rfl) rfl rfl (q_pickT rfl rfl g56 rfl) ?_
                    refine run_q (.none rfl) rfl rfl (q_move rfl rfl) ?_
                    refine run_off (.no rfl rfl rfl rfl) rfl rfl ?_
                    refine run_off (.no rfl rfl rfl rfl) rfl rfl ?_
                    refine run_off (.no rfl rfl rfl rfl) rfl rfl ?_
                    refine run_q (.none rfl) rfl rfl (q_pickT rfl rfl rfl rfl) ?_
                    refine run_q (.none rfl) rfl rfl (q_move rfl rfl) ?_
                    refine run_off (.no rfl rfl rfl rfl) rfl rfl ?_
                    refine run_off (.no rfl rfl rfl rfl) rfl rfl ?_
                    refine run_off (.no rfl rfl rfl rfl) rfl rfl ?_
                    refine run_q (.none rfl) rfl rfl (q_pickT rfl rfl rfl rfl) ?_
                    refine run_q (.none rfl) rfl rfl (q_move rfl rfl) ?_
                    refine run_off (.no rfl rfl rfl rfl) rfl rfl ?_
                    refine run_off (.no rfl rfl rfl rfl) rfl rfl ?_
                    refine run_off (.no rfl rfl rfl rfl) rfl rfl ?_
                    refine run_q (.none rfl) rfl rfl (q_pickT rfl rfl rfl rfl) ?_
                    refine run_q (.none rfl) rfl rfl (q_move rfl rfl) ?_
                    refine run_off (.no rfl rfl rfl rfl) rfl rfl ?_
                    refine run_off (.no rfl rfl rfl rfl) rfl rfl ?_
                    refine run_off (.no rfl rfl rfl rfl) rfl rfl ?_
                    refine run_q (.none rfl) rfl rfl (q_pickT rfl rfl rfl rfl) ?_
                    refine run_q (.none rfl) rfl rfl (q_move rfl rfl) ?_
                    refine run_off (.no rfl rfl rfl rfl) rfl rfl ?_
                    refine run_off (.no rfl rfl rfl rfl) rfl rfl ?_
                    refine run_off (.no rfl rfl rfl rfl) rfl rfl ?_
                    refine run_q (.none rfl) rfl rfl (q_pickT rfl rfl rfl rfl) ?_
                    refine run_q (.none rfl) rfl rfl (q_move rfl rfl) ?_
                    refine run_off (.no rfl rfl rfl rfl) rfl rfl ?_
                    refine run_off (.no rfl rfl rfl rfl) rfl rfl ?_
                    refine run_off (.no rfl rfl rfl rfl) rfl rfl ?_
                    refine run_q (.none rfl) rfl rfl (q_pickT rfl rfl rfl rfl) ?_
                    refine run_q (.none rfl) rfl rfl (q_move rfl rfl) ?_
                    refine run_off (.no rfl rfl rfl rfl) rfl rfl ?_
                    refine run_off (.no rfl rfl rfl rfl) rfl rfl ?_
                    refine run_off (.no rfl rfl rfl rfl) rfl rfl ?_
                    refine run_q (.none rfl) rfl rfl (q_pickT rfl rfl rfl rfl) ?_
                    refine run_q (.none rfl) rfl rfl (q_move rfl rfl) ?_
                    refine run_off (.no rfl rfl rfl rfl) rfl rfl ?_
                    refine run_off (.no rfl rfl rfl rfl) rfl rfl ?_
                    refine run_off (.no rfl rfl rfl rfl) rfl rfl ?_
                    refine run_q (.none rfl) rfl rfl (q_pickT rfl rfl rfl rfl) ?_
                    refine run_q (.none rfl) rfl rfl (q_assign rfl rfl) ?_
                    refine run_nil ?_
                    refine run_sub (subMk (.cons (s := 4) rfl (.cons (s := 24) rfl .nil)) .refl) ?_
                    refine run_condT rfl rfl ?_
                    refine run_seq ?_
                    refine run_region ?_
                    refine run_q (.none rfl) rfl rfl (q_assign rfl rfl) ?_
                    refine run_nil ?_
                    refine run_ret ?_
                    exact end1 rfl rfl (by first | rw [reqE, if_pos (by omega)] | rw [reqE, if_neg (by omega), if_pos (by omega)] | rw [reqE, if_neg (by omega), if_neg (by omega), if_pos (by omega)] | rw [reqE, if_neg (by omega), if_neg (by omega), if_neg (by omega)])
                  · have g56' := g56
                    try simp only [decide_eq_true_eq, decide_eq_false_iff_not, beq_iff_eq, beq_eq_false_iff_ne, bne_iff_ne, bne_eq_false_iff_eq, Bool.not_eq_true', Bool.not_eq_false', ne_eq, Int.not_lt, Int.not_le, Decidable.not_not] at g56'
                    refine run_q (.on rfl rfl rfl g56) rfl rfl (q_fieldB (d := 6) rfl Try.underlying25 rfl rfl sz3 rfl) ?_
                    refine run_q (.on rfl rfl rfl g56) rfl rfl (q_loadB rfl one3 rfl Sel.here rfl) ?_
                    refine run_q (.on rfl rfl rfl g56) rfl rfl (q_gtr rfl rfl rfl) ?_
                    refine run_q (.none rfl) rfl rfl (q_pickF rfl rfl g56 rfl) ?_
                    refine run_q (.none rfl) rfl rfl (q_move rfl rfl) ?_
                    refine run_split 61 rfl (fun g61 => ?_) (fun g61 => ?_)
                    · have g61' := g61
                      try simp only [decide_eq_true_eq, decide_eq_false_iff_not, beq_iff_eq, beq_eq_false_iff_ne, bne_iff_ne, bne_eq_false_iff_eq, Bool.not_eq_true', Bool.not_eq_false', ne_eq, Int.not_lt, Int.not_le, Decidable.not_not] at g61'
                      refine run_off (.no rfl rfl rfl g61) rfl rfl ?_
                      refine run_off (.no rfl rfl rfl g61) rfl rfl ?_
                      refine run_off (.no rfl rfl rfl g61) rfl rfl ?_
                      refine run_q (.none rfl) rfl rfl (q_pickT rfl rfl g61 rfl) ?_
                      refine run_q (.none rfl) rfl rfl (q_move rfl rfl) ?_
                      refine run_off (.no rfl rfl rfl rfl) rfl rfl ?_
                      refine run_off (.no rfl rfl rfl rfl) rfl rfl ?_
                      refine run_off (.no rfl rfl rfl rfl) rfl rfl ?_
                      refine run_q (.none rfl) rfl rfl (q_pickT rfl rfl rfl rfl) ?_
                      refine run_q (.none rfl) rfl rfl (q_move rfl rfl) ?_
                      refine run_off (.no rfl rfl rfl rfl) rfl rfl ?_
                      refine run_off (.no rfl rfl rfl rfl) rfl rfl ?_
                      refine run_off (.no rfl rfl rfl rfl) rfl rfl ?_
                      refine run_q (.none rfl) rfl rfl (q_pickT rfl rfl rfl rfl) ?_
                      refine run_q (.none rfl) rfl rfl (q_move rfl rfl) ?_
                      refine run_off (.no rfl rfl rfl rfl) rfl rfl ?_
                      refine run_off (.no rfl rfl rfl rfl) rfl rfl ?_
                      refine run_off (.no rfl rfl rfl rfl) rfl rfl ?_
                      refine run_q (.none rfl) rfl rfl (q_pickT rfl rfl rfl rfl) ?_
                      refine run_q (.none rfl) rfl rfl (q_move rfl rfl) ?_
                      refine run_off (.no rfl rfl rfl rfl) rfl rfl ?_
                      refine run_off (.no rfl rfl rfl rfl) rfl rfl ?_
                      refine run_off (.no rfl rfl rfl rfl) rfl rfl ?_
                      refine run_q (.none rfl) rfl rfl (q_pickT rfl rfl rfl rfl) ?_
                      refine run_q (.none rfl) rfl rfl (q_move rfl rfl) ?_
                      refine run_off (.no rfl rfl rfl rfl) rfl rfl ?_
                      refine run_off (.no rfl rfl rfl rfl) rfl rfl ?_
                      refine run_off (.no rfl rfl rfl rfl) rfl rfl ?_
                      refine run_q (.none rfl) rfl rfl (q_pickT rfl rfl rfl rfl) ?_
                      refine run_q (.none rfl) rfl rfl (q_move rfl rfl) ?_
                      refine run_off (.no rfl rfl rfl rfl) rfl rfl ?_
                      refine run_off (.no rfl rfl rfl rfl) rfl rfl ?_
                      refine run_off (.no rfl rfl rfl rfl) rfl rfl ?_
                      refine run_q (.none rfl) rfl rfl (q_pickT rfl rfl rfl rfl) ?_
                      refine run_q (.none rfl) rfl rfl (q_move rfl rfl) ?_
                      refine run_off (.no rfl rfl rfl rfl) rfl rfl ?_
                      refine run_off (.no rfl rfl rfl rfl) rfl rfl ?_
                      refine run_off (.no rfl rfl rfl rfl) rfl rfl ?_
                      refine run_q (.none rfl) rfl rfl (q_pickT rfl rfl rfl rfl) ?_
                      refine run_q (.none rfl) rfl rfl (q_assign rfl rfl) ?_
                      refine run_nil ?_
                      refine run_sub (subMk (.cons (s := 4) rfl (.cons (s := 24) rfl .nil)) .refl) ?_
                      refine run_condT rfl rfl ?_
                      refine run_seq ?_
                      refine run_region ?_
                      refine run_q (.none rfl) rfl rfl (q_assign rfl rfl) ?_
                      refine run_nil ?_
                      refine run_ret ?_
                      exact end1 rfl rfl (by first | rw [reqE, if_pos (by omega)] | rw [reqE, if_neg (by omega), if_pos (by omega)] | rw [reqE, if_neg (by omega), if_neg (by omega), if_pos (by omega)] | rw [reqE, if_neg (by omega), if_neg (by omega), if_neg (by omega)])
                    · have g61' := g61
                      try simp only [decide_eq_true_eq, decide_eq_false_iff_not, beq_iff_eq, beq_eq_false_iff_ne, bne_iff_ne, bne_eq_false_iff_eq, Bool.not_eq_true', Bool.not_eq_false', ne_eq, Int.not_lt, Int.not_le, Decidable.not_not] at g61'
                      refine run_q (.on rfl rfl rfl g61) rfl rfl (q_fieldB (d := 7) rfl Try.underlying25 rfl rfl sz3 rfl) ?_
                      refine run_q (.on rfl rfl rfl g61) rfl rfl (q_loadB rfl one3 rfl Sel.here rfl) ?_
                      refine run_q (.on rfl rfl rfl g61) rfl rfl (q_lss rfl rfl rfl) ?_
                      refine run_q (.none rfl) rfl rfl (q_pickF rfl rfl g61 rfl) ?_
                      refine run_q (.none rfl) rfl rfl (q_move rfl rfl) ?_
                      refine run_split 66 rfl (fun g66 => ?_) (fun g66 => ?_)
                      · have g66' := g66
                        try simp only [decide_eq_true_eq, decide_eq_false_iff_not, beq_iff_eq, beq_eq_false_iff_ne, bne_iff_ne, bne_eq_false_iff_eq, Bool.not_eq_true', Bool.not_eq_false', ne_eq, Int.not_lt, Int.not_le, Decidable.not_not] at g66'
                        refine run_off (.no rfl rfl rfl g66) rfl rfl ?_
                        refine run_off (.no rfl rfl rfl g66) rfl rfl ?_
                        refine run_off (.no rfl rfl rfl g66) rfl rfl ?_
                        refine run_q (.none rfl) rfl rfl (q_pickT rfl rfl g66 rfl) ?_
                        refine run_q (.none rfl) rfl rfl (q_move rfl rfl) ?_
                        refine run_off (.no rfl rfl rfl rfl) rfl rfl ?_
                        refine run_off (.no rfl rfl rfl rfl) rfl rfl ?_
                        refine run_off (.no rfl rfl rfl rfl) rfl rfl ?_
                        refine run_q (.none rfl) rfl rfl (q_pickT rfl rfl rfl rfl) ?_
                        refine run_q (.none rfl) rfl rfl (q_move rfl rfl) ?_
                        refine run_off (.no rfl rfl rfl rfl) rfl rfl ?_
                        refine run_off (.no rfl rfl rfl rfl) rfl rfl ?_
                        refine run_off (.no rfl rfl rfl rfl) rfl rfl ?_
                        refine run_q (.none rfl) rfl rfl (q_pickT rfl rfl rfl rfl) ?_
                        refine run_q (.none rfl) rfl rfl (q_move rfl rfl) ?_
                        refine run_off (.no rfl rfl rfl rfl) rfl rfl ?_
                        refine run_off (.no rfl rfl rfl rfl) rfl rfl ?_
                        refine run_off (.no rfl rfl rfl rfl) rfl rfl ?_
                        refine run_q (.none rfl) rfl rfl (q_pickT rfl rfl rfl rfl) ?_
                        refine run_q (.none rfl) rfl rfl (q_move rfl rfl) ?_
                        refine run_off (.no rfl rfl rfl rfl) rfl rfl ?_
                        refine run_off (.no rfl rfl rfl rfl) rfl rfl ?_
                        refine run_off (.no rfl rfl rfl rfl) rfl rfl ?_
                        refine run_q (.none rfl) rfl rfl (q_pickT rfl rfl rfl rfl) ?_
                        refine run_q (.none rfl) rfl rfl (q_move rfl rfl) ?_
                        refine run_off (.no rfl rfl rfl rfl) rfl rfl ?_
                        refine run_off (.no rfl rfl rfl rfl) rfl rfl ?_
                        refine run_off (.no rfl rfl rfl rfl) rfl rfl ?_
                        refine run_q (.none rfl) rfl rfl (q_pickT rfl rfl rfl rfl) ?_
                        refine run_q (.none rfl) rfl rfl (q_move rfl rfl) ?_
                        refine run_off (.no rfl rfl rfl rfl) rfl rfl ?_
                        refine run_off (.no rfl rfl rfl rfl) rfl rfl ?_
                        refine run_off (.no rfl rfl rfl rfl) rfl rfl ?_
                        refine run_q (.none rfl) rfl rfl (q_pickT rfl rfl rfl rfl) ?_
                        refine run_q (.none rfl) rfl rfl (q_assign rfl rfl) ?_
                        refine run_nil ?_
                        refine run_sub (subMk (.cons (s := 4) rfl (.cons (s := 24) rfl .nil)) .refl) ?_
                        refine run_condT rfl rfl ?_
                        refine run_seq ?_
                        refine run_region ?_
                        refine run_q (.none rfl) rfl rfl (q_assign rfl rfl) ?_
                        refine run_nil ?_
                        refine run_ret ?_
                        exact end1 rfl rfl (by first | rw [reqE, if_pos (by omega)] | rw [reqE, if_neg (by omega), if_pos (by omega)] | rw [reqE, if_neg (by omega), if_neg (by omega), if_pos (by omega)] | rw [reqE, if_neg (by omega), if_neg (by omega), if_neg (by omega)])
                      · have g66' := g66
                        try simp only [decide_eq_true_eq, decide_eq_false_iff_not, beq_iff_eq, beq_eq_false_iff_ne, bne_iff_ne, bne_eq_false_iff_eq, Bool.not_eq_true', Bool.not_eq_false', ne_eq, Int.not_lt, Int.not_le, Decidable.not_not] at g66'
                        refine run_q (.on rfl rfl rfl g66) rfl rfl (q_fieldB (d := 7) rfl Try.underlying25 rfl rfl sz3 rfl) ?_
                        refine run_q (.on rfl rfl rfl g66) rfl rfl (q_loadB rfl one3 rfl Sel.here rfl) ?_
                        refine run_q (.on rfl rfl rfl g66) rfl rfl (q_gtr rfl rfl rfl) ?_
                        refine run_q (.none rfl) rfl rfl (q_pickF rfl rfl g66 rfl) ?_
                        refine run_q (.none rfl) rfl rfl (q_move rfl rfl) ?_
                        refine run_split 71 rfl (fun g71 => ?_) (fun g71 => ?_)
                        · have g71' := g71
                          try simp only [decide_eq_true_eq, decide_eq_false_iff_not, beq_iff_eq, beq_eq_false_iff_ne, bne_iff_ne, bne_eq_false_iff_eq, Bool.not_eq_true', Bool.not_eq_false', ne_eq, Int.not_lt, Int.not_le, Decidable.not_not] at g71'
                          refine run_off (.no rfl rfl rfl g71) rfl rfl ?_
                          refine run_off (.no rfl rfl rfl g71) rfl rfl ?_
                          refine run_off (.no rfl rfl rfl g71) rfl rfl ?_
                          refine run_q (.none rfl) rfl rfl (q_pickT rfl rfl g71 rfl) ?_
                          refine run_q (.none rfl) rfl rfl (q_move rfl rfl) ?_
                          refine run_off (.no rfl rfl rfl rfl) rfl rfl ?_
                          refine run_off (.no rfl rfl rfl rfl) rfl rfl ?_
                          refine run_off (.no rfl rfl rfl rfl) rfl rfl ?_
                          refine run_q (.none rfl) rfl rfl (q_pickT rfl rfl rfl rfl) ?_
                          refine run_q (.none rfl) rfl rfl (q_move rfl rfl) ?_
                          refine run_off (.no rfl rfl rfl rfl) rfl rfl ?_
                          refine run_off (.no rfl rfl rfl rfl) rfl rfl ?_
                          refine run_off (.no rfl rfl rfl rfl) rfl rfl ?_
                          refine run_q (.none rfl) rfl rfl (q_pickT rfl rfl rfl rfl) ?_
                          refine run_q (.none rfl) rfl rfl (q_move rfl rfl) ?_
                          refine run_off (.no rfl rfl rfl rfl) rfl rfl ?_
                          refine run_off (.no rfl rfl rfl rfl) rfl rfl ?_
                          refine run_off (.no rfl rfl rfl rfl) rfl rfl ?_
                          refine run_q (.none rfl) rfl rfl (q_pickT rfl rfl rfl rfl) ?_
                          refine run_q (.none rfl) rfl rfl (q_move rfl rfl) ?_
                          refine run_off (.no rfl rfl rfl rfl) rfl rfl ?_
                          refine run_off (.no rfl rfl rfl rfl) rfl rfl ?_
                          refine run_off (.no rfl rfl rfl rfl) rfl rfl ?_
                          refine run_q (.none rfl) rfl rfl (q_pickT rfl rfl rfl rfl) ?_
                          refine run_q (.none rfl) rfl rfl (q_move rfl rfl) ?_
                          refine run_off (.no rfl rfl rfl rfl) rfl rfl ?_
                          refine run_off (.no rfl rfl rfl rfl) rfl rfl ?_
                          refine run_off (.no rfl rfl rfl rfl) rfl rfl ?_
                          refine run_q (.none rfl) rfl rfl (q_pickT rfl rfl rfl rfl) ?_
                          refine run_q (.none rfl) rfl rfl (q_assign rfl rfl) ?_
                          refine run_nil ?_
                          refine run_sub (subMk (.cons (s := 4) rfl (.cons (s := 24) rfl .nil)) .refl) ?_
                          refine run_condT rfl rfl ?_
                          refine run_seq ?_
                          refine run_region ?_
                          refine run_q (.none rfl) rfl rfl (q_assign rfl rfl) ?_
                          refine run_nil ?_
                          refine run_ret ?_
                          exact end1 rfl rfl (by first | rw [reqE, if_pos (by omega)] | rw [reqE, if_neg (by omega), if_pos (by omega)] | rw [reqE, if_neg (by omega), if_neg (by omega), if_pos (by omega)] | rw [reqE, if_neg (by omega), if_neg (by omega), if_neg (by omega)])
                        · have g71' := g71
                          try simp only [decide_eq_true_eq, decide_eq_false_iff_not, beq_iff_eq, beq_eq_false_iff_ne, bne_iff_ne, bne_eq_false_iff_eq, Bool.not_eq_true', Bool.not_eq_false', ne_eq, Int.not_lt, Int.not_le, Decidable.not_not] at g71'
                          refine run_q (.on rfl rfl rfl g71) rfl rfl (q_fieldB (d := 10) rfl Try.underlying25 rfl rfl sz3 rfl) ?_
                          refine run_q (.on rfl rfl rfl g71) rfl rfl (q_loadB rfl one3 rfl Sel.here rfl) ?_
                          refine run_q (.on rfl rfl rfl g71) rfl rfl (q_lss rfl rfl rfl) ?_
                          refine run_q (.none rfl) rfl rfl (q_pickF rfl rfl g71 rfl) ?_
                          refine run_q (.none rfl) rfl rfl (q_move rfl rfl) ?_
                          refine run_split 76 rfl (fun g76 => ?_) (fun g76 => ?_)
                          · have g76' := g76
                            try simp only [decide_eq_true_eq, decide_eq_false_iff_not, beq_iff_eq, beq_eq_false_iff_ne, bne_iff_ne, bne_eq_false_iff_eq, Bool.not_eq_true', Bool.not_eq_false', ne_eq, Int.not_lt, Int.not_le, Decidable.not_not] at g76'
                            refine run_off (.no rfl rfl rfl g76) rfl rfl ?_
                            refine run_off (.no rfl rfl rfl g76) rfl rfl ?_
                            refine run_off (.no rfl rfl rfl g76) rfl rfl ?_
                            refine run_q (.none rfl) rfl rfl (q_pickT rfl rfl g76 rfl) ?_
                            refine run_q (.none rfl) rfl rfl (q_move rfl rfl) ?_
                            refine run_off (.no rfl rfl rfl rfl) rfl rfl ?_
                            refine run_off (.no rfl rfl rfl rfl) rfl rfl ?_
                            refine run_off (.no rfl rfl rfl rfl) rfl rfl ?_
                            refine run_q (.none rfl) rfl rfl (q_pickT rfl rfl rfl rfl) ?_
                            refine run_q (.none rfl) rfl rfl (q_move rfl rfl) ?_
                            refine run_off (.no rfl rfl rfl rfl) rfl rfl ?_
                            refine run_off (.no rfl rfl rfl rfl) rfl rfl ?_
                            refine run_off (.no rfl rfl rfl rfl) rfl rfl ?_
                            refine run_q (.none rfl) rfl rfl (q_pickT rfl rfl rfl rfl) ?_
                            refine run_q (.none rfl) rfl rfl (q_move rfl rfl) ?_
                            refine run_off (.no rfl rfl rfl rfl) rfl rfl ?_
                            refine run_off (.no rfl rfl rfl rfl) rfl rfl ?_
                            refine run_off (.no rfl rfl rfl rfl) rfl rfl ?_
                            refine run_q (.none rfl) rfl rfl (q_pickT rfl rfl rfl rfl) ?_
                            refine run_q (.none rfl) rfl rfl (q_move rfl rfl) ?_
                            refine run_off (.no rfl rfl rfl rfl) rfl rfl ?_
                            refine run_off (.no rfl rfl rfl rfl) rfl rfl ?_
                            refine run_off (.no rfl rfl rfl rfl) rfl rfl ?_
                            refine run_q (.none rfl) rfl rfl (q_pickT rfl rfl rfl rfl) ?_
                            refine run_q (.none rfl) rfl rfl (q_assign rfl rfl) ?_
                            refine run_nil ?_
                            refine run_sub (subMk (.cons (s := 4) rfl (.cons (s := 24) rfl .nil)) .refl) ?_
                            refine run_condT rfl rfl ?_
                            refine run_seq ?_
                            refine run_region ?_
                            refine run_q (.none rfl) rfl rfl (q_assign rfl rfl) ?_
                            refine run_nil ?_
                            refine run_ret ?_
                            exact end1 rfl rfl (by first | rw [reqE, if_pos (by omega)] | rw [reqE, if_neg (by omega), if_pos (by omega)] | rw [reqE, if_neg (by omega), if_neg (by omega), if_pos (by omega)] | rw [reqE, if_neg (by omega), if_neg (by omega), if_neg (by omega)])
                          · have g76' := g76
                            try simp only [decide_eq_true_eq, decide_eq_false_iff_not, beq_iff_eq, beq_eq_false_iff_ne, bne_iff_ne, bne_eq_false_iff_eq, Bool.not_eq_true', Bool.not_eq_false', ne_eq, Int.not_lt, Int.not_le, Decidable.not_not] at g76'
                            refine run_q (.on rfl rfl rfl g76) rfl rfl (q_fieldB (d := 10) rfl Try.underlying25 rfl rfl sz3 rfl) ?_
                            refine run_q (.on rfl rfl rfl g76) rfl rfl (q_loadB rfl one3 rfl Sel.here rfl) ?_
                            refine run_q (.on rfl rfl rfl g76) rfl rfl (q_gtr rfl rfl rfl) ?_
                            refine run_q (.none rfl) rfl rfl (q_pickF rfl rfl g76 rfl) ?_
                            refine run_q (.none rfl) rfl rfl (q_move rfl rfl) ?_
                            refine run_split 81 rfl (fun g81 => ?_) (fun g81 => ?_)
                            · have g81' := g81
                              try simp only [decide_eq_true_eq, decide_eq_false_iff_not, beq_iff_eq, beq_eq_false_iff_ne, bne_iff_ne, bne_eq_false_iff_eq, Bool.not_eq_true', Bool.not_eq_false', ne_eq, Int.not_lt, Int.not_le, Decidable.not_not] at g81'
                              refine run_off (.no rfl rfl rfl g81) rfl rfl ?_
                              refine run_off (.no rfl rfl rfl g81) rfl rfl ?_
                              refine run_off (.no rfl rfl rfl g81) rfl rfl ?_
                              refine run_q (.none rfl) rfl rfl (q_pickT rfl rfl g81 rfl) ?_
                              refine run_q (.none rfl) rfl rfl (q_move rfl rfl) ?_
                              refine run_off (.no rfl rfl rfl rfl) rfl rfl ?_
                              refine run_off (.no rfl rfl rfl rfl) rfl rfl ?_
                              refine run_off (.no rfl rfl rfl rfl) rfl rfl ?_
                              refine run_q (.none rfl) rfl rfl (q_pickT rfl rfl rfl rfl) ?_
                              refine run_q (.none rfl) rfl rfl (q_move rfl rfl) ?_
                              refine run_off (.no rfl rfl rfl rfl) rfl rfl ?_
                              refine run_off (.no rfl rfl rfl rfl) rfl rfl ?_
                              refine run_off (.no rfl rfl rfl rfl) rfl rfl ?_
                              refine run_q (.none rfl) rfl rfl (q_pickT rfl rfl rfl rfl) ?_
                              refine run_q (.none rfl) rfl rfl (q_move rfl rfl) ?_
                              refine run_off (.no rfl rfl rfl rfl) rfl rfl ?_
                              refine run_off (.no rfl rfl rfl rfl) rfl rfl ?_
                              refine run_off (.no rfl rfl rfl rfl) rfl rfl ?_
                              refine run_q (.none rfl) rfl rfl (q_pickT rfl rfl rfl rfl) ?_
                              refine run_q (.none rfl) rfl rfl (q_assign rfl rfl) ?_
                              refine run_nil ?_
                              refine run_sub (subMk (.cons (s := 4) rfl (.cons (s := 24) rfl .nil)) .refl) ?_
                              refine run_condT rfl rfl ?_
                              refine run_seq ?_
                              refine run_region ?_
                              refine run_q (.none rfl) rfl rfl (q_assign rfl rfl) ?_
                              refine run_nil ?_
                              refine run_ret ?_
                              exact end1 rfl rfl (by first | rw [reqE, if_pos (by omega)] | rw [reqE, if_neg (by omega), if_pos (by omega)] | rw [reqE, if_neg (by omega), if_neg (by omega), if_pos (by omega)] | rw [reqE, if_neg (by omega), if_neg (by omega), if_neg (by omega)])
                            · have g81' := g81
                              try simp only [decide_eq_true_eq, decide_eq_false_iff_not, beq_iff_eq, beq_eq_false_iff_ne, bne_iff_ne, bne_eq_false_iff_eq, Bool.not_eq_true', Bool.not_eq_false', ne_eq, Int.not_lt, Int.not_le, Decidable.not_not] at g81'
                              refine run_q (.on rfl rfl rfl g81) rfl rfl (q_fieldB (d := 11) rfl Try.underlying25 rfl rfl sz3 rfl) ?_
                              refine run_q (.on rfl rfl rfl g81) rfl rfl (q_loadB rfl one3 rfl Sel.here rfl) ?_
                              refine run_q (.on rfl rfl rfl g81) rfl rfl (q_lss rfl rfl rfl) ?_
                              refine run_q (.none rfl) rfl rfl (q_pickF rfl rfl g81 rfl) ?_
                              refine run_q (.none rfl) rfl rfl (q_move rfl rfl) ?_
                              refine run_split 86 rfl (fun g86 => ?_) (fun g86 => ?_)
                              · have g86' := g86
                                try simp only [decide_eq_true_eq, decide_eq_false_iff_not, beq_iff_eq, beq_eq_false_iff_ne, bne_iff_ne, bne_eq_false_iff_eq, Bool.not_eq_true', Bool.not_eq_false', ne_eq, Int.not_lt, Int.not_le, Decidable.not_not] at g86'
                                refine run_off (.no rfl rfl rfl g86) rfl rfl ?_
                                refine run_off (.no rfl rfl rfl g86) rfl rfl ?_
                                refine run_off (.no rfl rfl rfl g86) rfl rfl ?_
                                refine run_q (.none rfl) rfl rfl (q_pickT rfl rfl g86 rfl) ?_
                                refine run_q (.none rfl) rfl rfl (q_move rfl rfl) ?_
                                refine run_off (.no rfl rfl rfl rfl) rfl rfl ?_
                                refine run_off (.no rfl rfl rfl rfl) rfl rfl ?_
                                refine run_off (.no rfl rfl rfl rfl) rfl rfl ?_
                                refine run_q (.none rfl) rfl rfl (q_pickT rfl rfl rfl rfl) ?_
                                refine run_q (.none rfl) rfl rfl (q_move rfl rfl) ?_
                                refine run_off (.no rfl rfl rfl rfl) rfl rfl ?_
                                refine run_off (.no rfl rfl rfl rfl) rfl rfl ?_
                                refine run_off (.no rfl rfl rfl rfl) rfl rfl ?_
                                refine run_q (.none rfl) rfl rfl (q_pickT rfl rfl rfl rfl) ?_
                                refine run_q (.none rfl) rfl rfl (q_assign rfl rfl) ?_
                                refine run_nil ?_
                                refine run_sub (subMk (.cons (s := 4) rfl (.cons (s := 24) rfl .nil)) .refl) ?_
                                refine run_condT rfl rfl ?_
                                refine run_seq ?_
                                refine run_region ?_
                                refine run_q (.none rfl) rfl rfl (q_assign rfl rfl) ?_
                                refine run_nil ?_
                                refine run_ret ?_
                                exact end1 rfl rfl (by first | rw [reqE, if_pos (by omega)] | rw [reqE, if_neg (by omega), if_pos (by omega)] | rw [reqE, if_neg (by omega), if_neg (by omega), if_pos (by omega)] | rw [reqE, if_neg (by omega), if_neg (by omega), if_neg (by omega)])
                              · have g86' := g86
                                try simp only [decide_eq_true_eq, decide_eq_false_iff_not, beq_iff_eq, beq_eq_false_iff_ne, bne_iff_ne, bne_eq_false_iff_eq, Bool.not_eq_true', Bool.not_eq_false', ne_eq, Int.not_lt, Int.not_le, Decidable.not_not] at g86'
                                refine run_q (.on rfl rfl rfl g86) rfl rfl (q_fieldB (d := 11) rfl Try.underlying25 rfl rfl sz3 rfl) ?_
                                refine run_q (.on rfl rfl rfl g86) rfl rfl (q_loadB rfl one3 rfl Sel.here rfl) ?_
                                refine run_q (.on rfl rfl rfl g86) rfl rfl (q_gtr rfl rfl rfl) ?_
                                refine run_q (.none rfl) rfl rfl (q_pickF rfl rfl g86 rfl) ?_
                                refine run_q (.none rfl) rfl rfl (q_move rfl rfl) ?_
                                refine run_split 91 rfl (fun g91 => ?_) (fun g91 => ?_)
                                · have g91' := g91
                                  try simp only [decide_eq_true_eq, decide_eq_false_iff_not, beq_iff_eq, beq_eq_false_iff_ne, bne_iff_ne, bne_eq_false_iff_eq, Bool.not_eq_true', Bool.not_eq_false', ne_eq, Int.not_lt, Int.not_le, Decidable.not_not] at g91'
                                  refine run_off (.no rfl rfl rfl g91) rfl rfl ?_
                                  refine run_off (.no rfl rfl rfl g91) rfl rfl ?_
                                  refine run_off (.no rfl rfl rfl g91) rfl rfl ?_
                                  refine run_q (.none rfl) rfl rfl (q_pickT rfl rfl g91 rfl) ?_
                                  refine run_q (.none rfl) rfl rfl (q_move rfl rfl) ?_
                                  refine run_off (.no rfl rfl rfl rfl) rfl rfl ?_
                                  refine run_off (.no rfl rfl rfl rfl) rfl rfl ?_
                                  refine run_off (.no rfl rfl rfl rfl) rfl rfl ?_
                                  refine run_q (.none rfl) rfl rfl (q_pickT rfl rfl rfl rfl) ?_
                                  refine run_q (.none rfl) rfl rfl (q_assign rfl rfl) ?_
                                  refine run_nil ?_
                                  refine run_sub (subMk (.cons (s := 4) rfl (.cons (s := 24) rfl .nil)) .refl) ?_
                                  refine run_condT rfl rfl ?_
                                  refine run_seq ?_
                                  refine run_region ?_
                                  refine run_q (.none rfl) rfl rfl (q_assign rfl rfl) ?_
                                  refine run_nil ?_
                                  refine run_ret ?_
                                  exact end1 rfl rfl (by first | rw [reqE, if_pos (by omega)] | rw [reqE, if_neg (by omega), if_pos (by omega)] | rw [reqE, if_neg (by omega), if_neg (by omega), if_pos (by omega)] | rw [reqE, if_neg (by omega), if_neg (by omega), if_neg (by omega)])
                                · have g91' := g91
                                  try simp only [decide_eq_true_eq, decide_eq_false_iff_not, beq_iff_eq, beq_eq_false_iff_ne, bne_iff_ne, bne_eq_false_iff_eq, Bool.not_eq_true', Bool.not_eq_false', ne_eq, Int.not_lt, Int.not_le, Decidable.not_not] at g91'
                                  refine run_q (.on rfl rfl rfl g91) rfl rfl (q_fieldB (d := 12) rfl Try.underlying25 rfl rfl sz3 rfl) ?_
                                  refine run_q (.on rfl rfl rfl g91) rfl rfl (q_loadB rfl one3 rfl Sel.here rfl) ?_
                                  refine run_q (.on rfl rfl rfl g91) rfl rfl (q_lss rfl rfl rfl) ?_
                                  refine run_q (.none rfl) rfl rfl (q_pickF rfl rfl g91 rfl) ?_
                                  refine run_q (.none rfl) rfl rfl (q_move rfl rfl) ?_
                                  refine run_split 96 rfl (fun g96 => ?_) (fun g96 => ?_)
                                  · have g96' := g96
                                    try simp only [decide_eq_true_eq, decide_eq_false_iff_not, beq_iff_eq, beq_eq_false_iff_ne, bne_iff_ne, bne_eq_false_iff_eq, Bool.not_eq_true', Bool.not_eq_false', ne_eq, Int.not_lt, Int.not_le, Decidable.not_not] at g96'
                                    refine run_off (.no rfl rfl rfl g96) rfl rfl ?_
                                    refine run_off (.no rfl rfl rfl g96) rfl rfl ?_
                                    refine run_off (.no rfl rfl rfl g96) rfl rfl ?_
                                    refine run_q (.none rfl) rfl rfl (q_pickT rfl rfl g96 rfl) ?_
                                    refine run_q (.none rfl) rfl rfl (q_assign rfl rfl) ?_
                                    refine run_nil ?_
                                    refine run_sub (subMk (.cons (s := 4) rfl (.cons (s := 24) rfl .nil)) .refl) ?_
                                    refine run_condT rfl rfl ?_
                                    refine run_seq ?_
                                    refine run_region ?_
                                    refine run_q (.none rfl) rfl rfl (q_assign rfl rfl) ?_
                                    refine run_nil ?_
                                    refine run_ret ?_
                                    exact end1 rfl rfl (by first | rw [reqE, if_pos (by omega)] | rw [reqE, if_neg (by omega), if_pos (by omega)] | rw [reqE, if_neg (by omega), if_neg (by omega), if_pos (by omega)] | rw [reqE, if_neg (by omega), if_neg (by omega), if_neg (by omega)])
                                  · have g96' := g96
                                    try simp only [decide_eq_true_eq, decide_eq_false_iff_not, beq_iff_eq, beq_eq_false_iff_ne, bne_iff_ne, bne_eq_false_iff_eq, Bool.not_eq_true', Bool.not_eq_false', ne_eq, Int.not_lt, Int.not_le, Decidable.not_not] at g96'
                                    refine run_q (.on rfl rfl rfl g96) rfl rfl (q_fieldB (d := 12) rfl Try.underlying25 rfl rfl sz3 rfl) ?_
                                    refine run_q (.on rfl rfl rfl g96) rfl rfl (q_loadB rfl one3 rfl Sel.here rfl) ?_
                                    refine run_q (.on rfl rfl rfl g96) rfl rfl (q_gtr rfl rfl rfl) ?_
                                    refine run_q (.none rfl) rfl rfl (q_pickF rfl rfl g96 rfl) ?_
                                    refine run_q (.none rfl) rfl rfl (q_assign rfl rfl) ?_
                                    refine run_nil ?_
                                    refine run_sub (subMk (.cons (s := 4) rfl (.cons (s := 24) rfl .nil)) .refl) ?_
                                    refine run_cond rfl (fun g24 => ?_) (fun g24 => ?_)
                                    · have g24' := g24
                                      try simp only [decide_eq_true_eq, decide_eq_false_iff_not, beq_iff_eq, beq_eq_false_iff_ne, bne_iff_ne, bne_eq_false_iff_eq, Bool.not_eq_true', Bool.not_eq_false', ne_eq, Int.not_lt, Int.not_le, Decidable.not_not] at g24'
                                      refine run_seq ?_
                                      refine run_region ?_
                                      refine run_q (.none rfl) rfl rfl (q_assign rfl rfl) ?_
                                      refine run_nil ?_
                                      refine run_ret ?_
                                      exact end1 rfl rfl (by first | rw [reqE, if_pos (by omega)] | rw [reqE, if_neg (by omega), if_pos (by omega)] | rw [reqE, if_neg (by omega), if_neg (by omega), if_pos (by omega)] | rw [reqE, if_neg (by omega), if_neg (by omega), if_neg (by omega)])
                                    · have g24' := g24
                                      try simp only [decide_eq_true_eq, decide_eq_false_iff_not, beq_iff_eq, beq_eq_false_iff_ne, bne_iff_ne, bne_eq_false_iff_eq, Bool.not_eq_true', Bool.not_eq_false', ne_eq, Int.not_lt, Int.not_le, Decidable.not_not] at g24'
                                      refine run_skip ?_
                                      refine run_blk ?_
                                      refine run_seq ?_
                                      refine run_region ?_
                                      refine run_q (.none rfl) rfl rfl (q_assign rfl rfl) ?_
                                      refine run_nil ?_
                                      refine run_ret ?_
                                      exact end1 rfl rfl (by first | rw [reqE, if_pos (by omega)] | rw [reqE, if_neg (by omega), if_pos (by omega)] | rw [reqE, if_neg (by omega), if_neg (by omega), if_pos (by omega)] | rw [reqE, if_neg (by omega), if_neg (by omega), if_neg (by omega)])

end Go.Proofs.YtgphmbipakdggaaR
