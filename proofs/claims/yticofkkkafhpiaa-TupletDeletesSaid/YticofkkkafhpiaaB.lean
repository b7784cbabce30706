/- The check of the reference. -/
import Derived.Test.YticofkkkafhpiaaA
import Derived.Test.YticofkkkafhpiaaLaws
set_option linter.unusedSimpArgs false
set_option linter.unusedVariables false
namespace Go.Proofs.Yticofkkkafhpiaa
open Go Go.RowKit Hr

theorem sz45 : Hr.Sz Try.prog 45 4 := Hr.Sz.of (by kernel_rfl)
theorem agg45 : Hr.Agg Try.prog 45 4 := ⟨fun w => by simp [isAgg, run_underlying Try.underlying45], Hr.Sz.of (by kernel_rfl)⟩
theorem info45 : Hr.Info Try.prog 45 [.int .i64 0, .int .i64 0, .int .i64 0, .int .i64 0] 4 32 := Hr.Info.of (by kernel_rfl)
theorem call39 : Hr.Callable Try.prog 39 := fun args w => by kernel_rfl
theorem call22 : Hr.Callable Try.prog 22 := fun args w => by kernel_rfl
theorem call24 : Hr.Callable Try.prog 24 := fun args w => by kernel_rfl

theorem in_just (t : Tup) (e : Int) (W : World) (ht : TupOk t) : Calls Try.prog 22 #[t.val, .int .i64 e] W (Hr.Just W (.bool (inB t e))) := by
  unfold TupOk at ht
  refine Just.of_ret ?_
  refine enterA (X := nX) (vs := [t.val, .int .i64 e]) Try.func22 Try.ntmps22 rfl rfl Mem.nil ?_
  refine run_seq ?_
  refine run_region ?_
  refine run_h (.none rfl) (h_box rfl rfl rfl rfl rfl) ?_
  rintro b2 -
  refine run_q (.none rfl) rfl rfl (q_assign rfl rfl) ?_
  refine run_nil ?_
  refine run_seq ?_
  refine run_region ?_
  refine run_q (.none rfl) rfl rfl (q_fieldB (d := 0) rfl Try.underlying45 rfl rfl sz3 rfl) ?_
  refine run_q (.none rfl) rfl rfl (q_loadB rfl one3 rfl Sel.here rfl) ?_
  refine run_q (.none rfl) rfl rfl (q_move rfl rfl) ?_
  refine run_q (.none rfl) rfl rfl (q_leq rfl rfl rfl) ?_
  refine run_q (.none rfl) rfl rfl (q_move rfl rfl) ?_
  refine run_split 9 rfl (fun g9 => ?_) (fun g9 => ?_)
  · have g9' := g9
    try simp only [decide_eq_true_eq, decide_eq_false_iff_not, beq_iff_eq, beq_eq_false_iff_ne, bne_iff_ne, bne_eq_false_iff_eq, Bool.not_eq_true', Bool.not_eq_false', ne_eq, Int.not_lt, Int.not_le, Decidable.not_not] at g9'
    refine run_q (.on rfl rfl rfl g9) rfl rfl (q_move rfl rfl) ?_
    refine run_q (.on rfl rfl rfl g9) rfl rfl (q_fieldB (d := 0) rfl Try.underlying45 rfl rfl sz3 rfl) ?_
    refine run_q (.on rfl rfl rfl g9) rfl rfl (q_loadB rfl one3 rfl Sel.here rfl) ?_
    refine run_q (.on rfl rfl rfl g9) rfl rfl (q_fieldB (d := 1) rfl Try.underlying45 rfl rfl sz3 rfl) ?_
    refine run_q (.on rfl rfl rfl g9) rfl rfl (q_loadB rfl one3 rfl Sel.here rfl) ?_
    refine run_q (.on rfl rfl rfl g9) rfl rfl (q_add rfl rfl rfl (by omega)) ?_
    refine run_q (.on rfl rfl rfl g9) rfl rfl (q_lss rfl rfl rfl) ?_
    refine run_q (.none rfl) rfl rfl (q_pickT rfl rfl g9 rfl) ?_
    refine run_q (.none rfl) rfl rfl (q_assign rfl rfl) ?_
    refine run_nil ?_
    refine run_sub (subMk (.cons (s := 4) rfl .nil) .refl) ?_
    refine run_ret ?_
    exact end1 rfl rfl (by simp [inB, tend, *]; all_goals first | rfl | omega)
  · have g9' := g9
    try simp only [decide_eq_true_eq, decide_eq_false_iff_not, beq_iff_eq, beq_eq_false_iff_ne, bne_iff_ne, bne_eq_false_iff_eq, Bool.not_eq_true', Bool.not_eq_false', ne_eq, Int.not_lt, Int.not_le, Decidable.not_not] at g9'
    refine run_off (.no rfl rfl rfl g9) rfl rfl ?_
    refine run_off (.no rfl rfl rfl g9) rfl rfl ?_
    refine run_off (.no rfl rfl rfl g9) rfl rfl ?_
    refine run_off (.no rfl rfl rfl g9) rfl rfl ?_
    refine run_off (.no rfl rfl rfl g9) rfl rfl ?_
    refine run_off (.no rfl rfl rfl g9) rfl rfl ?_
    refine run_off (.no rfl rfl rfl g9) rfl rfl ?_
    refine run_q (.none rfl) rfl rfl (q_pickF rfl rfl g9 rfl) ?_
    refine run_q (.none rfl) rfl rfl (q_assign rfl rfl) ?_
    refine run_nil ?_
    refine run_sub (subMk (.cons (s := 4) rfl .nil) .refl) ?_
    refine run_ret ?_
    exact end1 rfl rfl (by simp [inB, tend, *]; all_goals first | rfl | omega)

theorem within_just (t u : Tup) (W : World) (ht : TupOk t) (hu : TupOk u) : Calls Try.prog 24 #[t.val, u.val] W (Hr.Just W (.bool (withinB t u))) := by
  unfold TupOk at ht hu
  refine Just.of_ret ?_
  refine enterA (X := nX) (vs := [t.val, u.val]) Try.func24 Try.ntmps24 rfl rfl Mem.nil ?_
  refine run_seq ?_
  refine run_region ?_
  refine run_h (.none rfl) (h_box rfl rfl rfl rfl rfl) ?_
  rintro b2 -
  refine run_h (.none rfl) (h_box rfl rfl rfl rfl rfl) ?_
  rintro b3 -
  refine run_q (.none rfl) rfl rfl (q_assign rfl rfl) ?_
  refine run_nil ?_
  refine run_seq ?_
  refine run_region ?_
  refine run_q (.none rfl) rfl rfl (q_fieldB (d := 0) rfl Try.underlying45 rfl rfl sz3 rfl) ?_
  refine run_q (.none rfl) rfl rfl (q_loadB rfl one3 rfl Sel.here rfl) ?_
  refine run_q (.none rfl) rfl rfl (q_fieldB (d := 0) rfl Try.underlying45 rfl rfl sz3 rfl) ?_
  refine run_q (.none rfl) rfl rfl (q_loadB rfl one3 rfl (.there Sel.here) rfl) ?_
  refine run_q (.none rfl) rfl rfl (q_leq rfl rfl rfl) ?_
  refine run_q (.none rfl) rfl rfl (q_move rfl rfl) ?_
  refine run_split 10 rfl (fun g10 => ?_) (fun g10 => ?_)
  · have g10' := g10
    try simp only [decide_eq_true_eq, decide_eq_false_iff_not, beq_iff_eq, beq_eq_false_iff_ne, bne_iff_ne, bne_eq_false_iff_eq, Bool.not_eq_true', Bool.not_eq_false', ne_eq, Int.not_lt, Int.not_le, Decidable.not_not] at g10'
    refine run_q (.on rfl rfl rfl g10) rfl rfl (q_fieldB (d := 0) rfl Try.underlying45 rfl rfl sz3 rfl) ?_
    refine run_q (.on rfl rfl rfl g10) rfl rfl (q_loadB rfl one3 rfl (.there Sel.here) rfl) ?_
    refine run_q (.on rfl rfl rfl g10) rfl rfl (q_fieldB (d := 1) rfl Try.underlying45 rfl rfl sz3 rfl) ?_
    refine run_q (.on rfl rfl rfl g10) rfl rfl (q_loadB rfl one3 rfl (.there Sel.here) rfl) ?_
    refine run_q (.on rfl rfl rfl g10) rfl rfl (q_add rfl rfl rfl (by omega)) ?_
    refine run_q (.on rfl rfl rfl g10) rfl rfl (q_fieldB (d := 0) rfl Try.underlying45 rfl rfl sz3 rfl) ?_
    refine run_q (.on rfl rfl rfl g10) rfl rfl (q_loadB rfl one3 rfl Sel.here rfl) ?_
    refine run_q (.on rfl rfl rfl g10) rfl rfl (q_fieldB (d := 1) rfl Try.underlying45 rfl rfl sz3 rfl) ?_
    refine run_q (.on rfl rfl rfl g10) rfl rfl (q_loadB rfl one3 rfl Sel.here rfl) ?_
    refine run_q (.on rfl rfl rfl g10) rfl rfl (q_add rfl rfl rfl (by omega)) ?_
    refine run_q (.on rfl rfl rfl g10) rfl rfl (q_leq rfl rfl rfl) ?_
    refine run_q (.none rfl) rfl rfl (q_pickT rfl rfl g10 rfl) ?_
    refine run_q (.none rfl) rfl rfl (q_assign rfl rfl) ?_
    refine run_nil ?_
    refine run_sub (subMk (.cons (s := 4) rfl .nil) .refl) ?_
    refine run_ret ?_
    exact end1 rfl rfl (by simp [withinB, tend, *]; all_goals first | rfl | omega)
  · have g10' := g10
    try simp only [decide_eq_true_eq, decide_eq_false_iff_not, beq_iff_eq, beq_eq_false_iff_ne, bne_iff_ne, bne_eq_false_iff_eq, Bool.not_eq_true', Bool.not_eq_false', ne_eq, Int.not_lt, Int.not_le, Decidable.not_not] at g10'
    refine run_off (.no rfl rfl rfl g10) rfl rfl ?_
    refine run_off (.no rfl rfl rfl g10) rfl rfl ?_
    refine run_off (.no rfl rfl rfl g10) rfl rfl ?_
    refine run_off (.no rfl rfl rfl g10) rfl rfl ?_
    refine run_off (.no rfl rfl rfl g10) rfl rfl ?_
    refine run_off (.no rfl rfl rfl g10) rfl rfl ?_
    refine run_off (.no rfl rfl rfl g10) rfl rfl ?_
    refine run_off (.no rfl rfl rfl g10) rfl rfl ?_
    refine run_off (.no rfl rfl rfl g10) rfl rfl ?_
    refine run_off (.no rfl rfl rfl g10) rfl rfl ?_
    refine run_off (.no rfl rfl rfl g10) rfl rfl ?_
    refine run_q (.none rfl) rfl rfl (q_pickF rfl rfl g10 rfl) ?_
    refine run_q (.none rfl) rfl rfl (q_assign rfl rfl) ?_
    refine run_nil ?_
    refine run_sub (subMk (.cons (s := 4) rfl .nil) .refl) ?_
    refine run_ret ?_
    exact end1 rfl rfl (by simp [withinB, tend, *]; all_goals first | rfl | omega)

theorem after_just (t p : Tup) (W : World)  : Calls Try.prog 39 #[t.val, p.val] W (Hr.Just W (.bool (decide (aftT t p)))) := by
  refine Just.of_ret ?_
  refine enterA (X := nX) (vs := [t.val, p.val]) Try.func39 Try.ntmps39 rfl rfl Mem.nil ?_
  refine run_seq ?_
  refine run_region ?_
  refine run_h (.none rfl) (h_box rfl rfl rfl rfl rfl) ?_
  rintro b2 -
  refine run_h (.none rfl) (h_box rfl rfl rfl rfl rfl) ?_
  rintro b3 -
  refine run_q (.none rfl) rfl rfl (q_assign rfl rfl) ?_
  refine run_nil ?_
  refine run_seq ?_
  refine run_region ?_
  refine run_q (.none rfl) rfl rfl (q_fieldB (d := 0) rfl Try.underlying45 rfl rfl sz3 rfl) ?_
  refine run_q (.none rfl) rfl rfl (q_loadB rfl one3 rfl (.there Sel.here) rfl) ?_
  refine run_q (.none rfl) rfl rfl (q_fieldB (d := 0) rfl Try.underlying45 rfl rfl sz3 rfl) ?_
  refine run_q (.none rfl) rfl rfl (q_loadB rfl one3 rfl Sel.here rfl) ?_
  refine run_q (.none rfl) rfl rfl (q_lss rfl rfl rfl) ?_
  refine run_q (.none rfl) rfl rfl (q_move rfl rfl) ?_
  refine run_split 10 rfl (fun g10 => ?_) (fun g10 => ?_)
  · have g10' := g10
    try simp only [decide_eq_true_eq, decide_eq_false_iff_not, beq_iff_eq, beq_eq_false_iff_ne, bne_iff_ne, bne_eq_false_iff_eq, Bool.not_eq_true', Bool.not_eq_false', ne_eq, Int.not_lt, Int.not_le, Decidable.not_not] at g10'
    refine run_off (.no rfl rfl rfl g10) rfl rfl ?_
    refine run_off (.no rfl rfl rfl g10) rfl rfl ?_
    refine run_off (.no rfl rfl rfl g10) rfl rfl ?_
    refine run_off (.no rfl rfl rfl g10) rfl rfl ?_
    refine run_off (.no rfl rfl rfl g10) rfl rfl ?_
    refine run_off (.no rfl rfl rfl g10) rfl rfl ?_
    refine run_off (.off rfl rfl rfl) rfl rfl ?_
    refine run_off (.off rfl rfl rfl) rfl rfl ?_
    refine run_off (.off rfl rfl rfl) rfl rfl ?_
    refine run_off (.off rfl rfl rfl) rfl rfl ?_
    refine run_off (.off rfl rfl rfl) rfl rfl ?_
    refine run_off (.no rfl rfl rfl g10) rfl rfl ?_
    refine run_q (.none rfl) rfl rfl (q_pickT rfl rfl g10 rfl) ?_
    refine run_q (.none rfl) rfl rfl (q_assign rfl rfl) ?_
    refine run_nil ?_
    refine run_sub (subMk (.cons (s := 4) rfl .nil) .refl) ?_
    refine run_ret ?_
    exact end1 rfl rfl (congrArg Value.bool (by rw [Bool.eq_iff_iff]; simp only [decide_eq_true_eq]; unfold aftT; (try simp only [true_iff, iff_true, Bool.false_eq_true, false_iff]); omega))
  · have g10' := g10
    try simp only [decide_eq_true_eq, decide_eq_false_iff_not, beq_iff_eq, beq_eq_false_iff_ne, bne_iff_ne, bne_eq_false_iff_eq, Bool.not_eq_true', Bool.not_eq_false', ne_eq, Int.not_lt, Int.not_le, Decidable.not_not] at g10'
    refine run_q (.on rfl rfl rfl g10) rfl rfl (q_fieldB (d := 0) rfl Try.underlying45 rfl rfl sz3 rfl) ?_
    refine run_q (.on rfl rfl rfl g10) rfl rfl (q_loadB rfl one3 rfl (.there Sel.here) rfl) ?_
    refine run_q (.on rfl rfl rfl g10) rfl rfl (q_fieldB (d := 0) rfl Try.underlying45 rfl rfl sz3 rfl) ?_
    refine run_q (.on rfl rfl rfl g10) rfl rfl (q_loadB rfl one3 rfl Sel.here rfl) ?_
    refine run_q (.on rfl rfl rfl g10) rfl rfl (q_eql rfl rfl rfl) ?_
    refine run_q (.on rfl rfl rfl g10) rfl rfl (q_move rfl rfl) ?_
    refine run_split 16 rfl (fun g16 => ?_) (fun g16 => ?_)
    · have g16' := g16
      try simp only [decide_eq_true_eq, decide_eq_false_iff_not, beq_iff_eq, beq_eq_false_iff_ne, bne_iff_ne, bne_eq_false_iff_eq, Bool.not_eq_true', Bool.not_eq_false', ne_eq, Int.not_lt, Int.not_le, Decidable.not_not] at g16'
      refine run_q (.on rfl rfl rfl g16) rfl rfl (q_fieldB (d := 1) rfl Try.underlying45 rfl rfl sz3 rfl) ?_
      refine run_q (.on rfl rfl rfl g16) rfl rfl (q_loadB rfl one3 rfl (.there Sel.here) rfl) ?_
      refine run_q (.on rfl rfl rfl g16) rfl rfl (q_fieldB (d := 1) rfl Try.underlying45 rfl rfl sz3 rfl) ?_
      refine run_q (.on rfl rfl rfl g16) rfl rfl (q_loadB rfl one3 rfl Sel.here rfl) ?_
      refine run_q (.on rfl rfl rfl g16) rfl rfl (q_gtr rfl rfl rfl) ?_
      refine run_q (.on rfl rfl rfl g10) rfl rfl (q_pickT rfl rfl g16 rfl) ?_
      refine run_q (.none rfl) rfl rfl (q_pickF rfl rfl g10 rfl) ?_
      refine run_q (.none rfl) rfl rfl (q_assign rfl rfl) ?_
      refine run_nil ?_
      refine run_sub (subMk (.cons (s := 4) rfl .nil) .refl) ?_
      refine run_ret ?_
      exact end1 rfl rfl (congrArg Value.bool (by rw [Bool.eq_iff_iff]; simp only [decide_eq_true_eq]; unfold aftT; (try simp only [true_iff, iff_true, Bool.false_eq_true, false_iff]); omega))
    · have g16' := g16
      try simp only [decide_eq_true_eq, decide_eq_false_iff_not, beq_iff_eq, beq_eq_false_iff_ne, bne_iff_ne, bne_eq_false_iff_eq, Bool.not_eq_true', Bool.not_eq_false', ne_eq, Int.not_lt, Int.not_le, Decidable.not_not] at g16'
      refine run_off (.no rfl rfl rfl g16) rfl rfl ?_
      refine run_off (.no rfl rfl rfl g16) rfl rfl ?_
      refine run_off (.no rfl rfl rfl g16) rfl rfl ?_
      refine run_off (.no rfl rfl rfl g16) rfl rfl ?_
      refine run_off (.no rfl rfl rfl g16) rfl rfl ?_
      refine run_q (.on rfl rfl rfl g10) rfl rfl (q_pickF rfl rfl g16 rfl) ?_
      refine run_q (.none rfl) rfl rfl (q_pickF rfl rfl g10 rfl) ?_
      refine run_q (.none rfl) rfl rfl (q_assign rfl rfl) ?_
      refine run_nil ?_
      refine run_sub (subMk (.cons (s := 4) rfl .nil) .refl) ?_
      refine run_ret ?_
      exact end1 rfl rfl (congrArg Value.bool (by rw [Bool.eq_iff_iff]; simp only [decide_eq_true_eq]; unfold aftT; (try simp only [true_iff, iff_true, Bool.false_eq_true, false_iff]); omega))

set_option maxHeartbeats 4000000 in
set_option maxRecDepth 100000 in
theorem refcheck_just (ts : List Tup) (A : Option Addr) (ca : Nat) (n : Int) (W : World) (hr : Rd W A 4 (ts.map Tup.enc)) (hl : ts.length ≤ 1000000000000) : Calls Try.prog 14 #[.slice A ts.length ca, .int .i64 n] W (Hr.Just W (.int .i64 (checkV ts n))) := by
  refine Just.of_ret ?_
  refine enterA (X := nX) (vs := [.slice A ts.length ca, .int .i64 n]) Try.func14 Try.ntmps14 rfl rfl Mem.nil ?_
  refine run_seq ?_
  refine run_region ?_
  refine run_q (.none rfl) rfl rfl (q_assign rfl rfl) ?_
  refine run_nil ?_
  refine run_seq ?_
  refine run_seq ?_
  refine run_region ?_
  refine run_q (.none rfl) rfl rfl (q_move rfl rfl) ?_
  refine run_q (.none rfl) rfl rfl (q_lss rfl rfl rfl) ?_
  refine run_q (.none rfl) rfl rfl (q_move rfl rfl) ?_
  refine run_split 12 rfl (fun g12 => ?_) (fun g12 => ?_)
  · have g12' := g12
    try simp only [decide_eq_true_eq, decide_eq_false_iff_not, beq_iff_eq, beq_eq_false_iff_ne, bne_iff_ne, bne_eq_false_iff_eq, Bool.not_eq_true', Bool.not_eq_false', ne_eq, Int.not_lt, Int.not_le, Decidable.not_not] at g12'
    refine run_off (.no rfl rfl rfl g12) rfl rfl ?_
    refine run_off (.no rfl rfl rfl g12) rfl rfl ?_
    refine run_q (.none rfl) rfl rfl (q_pickT rfl rfl g12 rfl) ?_
    refine run_nil ?_
    refine run_sub (subMk (.cons (s := 0) rfl (.cons (s := 1) rfl (.cons (s := 4) rfl (.cons (s := 15) rfl .nil)))) .refl) ?_
    refine run_condT rfl rfl ?_
    refine run_seq ?_
    refine run_region ?_
    refine run_q (.none rfl) rfl rfl (q_assign rfl rfl) ?_
    refine run_nil ?_
    refine run_ret ?_
    exact end1 rfl rfl (by rw [checkV, if_pos (by omega)])
  · have g12' := g12
    try simp only [decide_eq_true_eq, decide_eq_false_iff_not, beq_iff_eq, beq_eq_false_iff_ne, bne_iff_ne, bne_eq_false_iff_eq, Bool.not_eq_true', Bool.not_eq_false', ne_eq, Int.not_lt, Int.not_le, Decidable.not_not] at g12'
    refine run_q (.on rfl rfl rfl g12) rfl rfl (q_move rfl rfl) ?_
    refine run_q (.on rfl rfl rfl g12) rfl rfl (q_gtr rfl rfl rfl) ?_
    refine run_q (.none rfl) rfl rfl (q_pickF rfl rfl g12 rfl) ?_
    refine run_nil ?_
    refine run_sub (subMk (.cons (s := 0) rfl (.cons (s := 1) rfl (.cons (s := 4) rfl (.cons (s := 15) rfl .nil)))) .refl) ?_
    refine run_cond rfl (fun g15 => ?_) (fun g15 => ?_)
    · have g15' := g15
      try simp only [decide_eq_true_eq, decide_eq_false_iff_not, beq_iff_eq, beq_eq_false_iff_ne, bne_iff_ne, bne_eq_false_iff_eq, Bool.not_eq_true', Bool.not_eq_false', ne_eq, Int.not_lt, Int.not_le, Decidable.not_not] at g15'
      refine run_seq ?_
      refine run_region ?_
      refine run_q (.none rfl) rfl rfl (q_assign rfl rfl) ?_
      refine run_nil ?_
      refine run_ret ?_
      exact end1 rfl rfl (by rw [checkV, if_pos (by omega)])
    · have g15' := g15
      try simp only [decide_eq_true_eq, decide_eq_false_iff_not, beq_iff_eq, beq_eq_false_iff_ne, bne_iff_ne, bne_eq_false_iff_eq, Bool.not_eq_true', Bool.not_eq_false', ne_eq, Int.not_lt, Int.not_le, Decidable.not_not] at g15'
      refine run_skip ?_
      refine run_seq ?_
      refine run_seq ?_
      refine run_region ?_
      refine run_q (.none rfl) rfl rfl (q_move rfl rfl) ?_
      refine run_q (.none rfl) rfl rfl (q_len rfl Try.underlying27 rfl) ?_
      refine run_q (.none rfl) rfl rfl (q_gtr rfl rfl rfl) ?_
      refine run_nil ?_
      refine run_sub (subMk (.cons (s := 0) rfl (.cons (s := 1) rfl (.cons (s := 4) rfl (.cons (s := 18) rfl .nil)))) .refl) ?_
      refine run_cond rfl (fun g18 => ?_) (fun g18 => ?_)
      · have g18' := g18
        try simp only [decide_eq_true_eq, decide_eq_false_iff_not, beq_iff_eq, beq_eq_false_iff_ne, bne_iff_ne, bne_eq_false_iff_eq, Bool.not_eq_true', Bool.not_eq_false', ne_eq, Int.not_lt, Int.not_le, Decidable.not_not] at g18'
        refine run_seq ?_
        refine run_region ?_
        refine run_q (.none rfl) rfl rfl (q_assign rfl rfl) ?_
        refine run_nil ?_
        refine run_ret ?_
        exact end1 rfl rfl (by rw [checkV, if_neg (by omega), if_pos (by omega)])
      · have g18' := g18
        try simp only [decide_eq_true_eq, decide_eq_false_iff_not, beq_iff_eq, beq_eq_false_iff_ne, bne_iff_ne, bne_eq_false_iff_eq, Bool.not_eq_true', Bool.not_eq_false', ne_eq, Int.not_lt, Int.not_le, Decidable.not_not] at g18'
        refine run_skip ?_
        refine run_seq ?_
        refine run_seq ?_
        refine run_region ?_
        refine run_q (.none rfl) rfl rfl (q_assign rfl rfl) ?_
        refine run_nil ?_
        refine run_block ?_
        refine run_sub (subMk (.cons (s := 5) rfl (.cons (s := 0) rfl (.cons (s := 1) rfl (.cons (s := 4) rfl .nil)))) .nil) ?_
        refine run_loopC1M0 (ι := Nat) (fun i => i ≤ ts.length ∧ Good n ts i) (fun i => .int .i64 (i : Int))  (fun i => ts.length - i) 0 (by (try dsimp only); exact ⟨by omega, Good.zero⟩) rfl  ?_
        rintro i hq
        (try dsimp only at hq)
        obtain ⟨hi, hg⟩ := hq
        show Run _ _ _ _ _ _ _ ⟨(5, .int .i64 (i : Int)) :: _, _⟩
        refine run_seq ?_
        refine run_seq ?_
        refine run_region ?_
        refine run_q (.none rfl) rfl rfl (q_move rfl rfl) ?_
        refine run_q (.none rfl) rfl rfl (q_move rfl rfl) ?_
        refine run_q (.none rfl) rfl rfl (q_len rfl Try.underlying27 rfl) ?_
        refine run_q (.none rfl) rfl rfl (q_lss rfl rfl rfl) ?_
        refine run_nil ?_
        refine run_sub (subMk (.cons (s := 0) rfl (.cons (s := 1) rfl (.cons (s := 4) rfl (.cons (s := 5) rfl (.cons (s := 22) rfl .nil))))) .refl) ?_
        refine run_cond rfl (fun g22 => ?_) (fun g22 => ?_)
        · have g22' := g22
          try simp only [decide_eq_true_eq, decide_eq_false_iff_not, beq_iff_eq, beq_eq_false_iff_ne, bne_iff_ne, bne_eq_false_iff_eq, Bool.not_eq_true', Bool.not_eq_false', ne_eq, Int.not_lt, Int.not_le, Decidable.not_not] at g22'
          refine run_skip ?_
          refine run_seq ?_
          refine run_block ?_
          refine run_seq ?_
          refine run_region ?_
          refine run_q (.none rfl) rfl rfl (q_move rfl rfl) ?_
          refine run_q (.none rfl) rfl rfl (q_move rfl rfl) ?_
          refine run_q (.none rfl) rfl rfl (q_indexS (q := i) rfl Try.underlying27 sz45 rfl rfl (.inp hr .no) (by simp <;> omega) rfl (by omega)) ?_
          refine run_q (.none rfl) rfl rfl (q_loadE rfl agg45 rfl (.inp hr .no) (getmap (by omega)) rfl) ?_
          refine run_h (.none rfl) (h_alloc rfl rfl rfl info45) ?_
          rintro b6 -
          refine run_h (.none rfl) (h_storeB rfl rfl sz45 rfl rfl rfl rfl rfl Sel.here rfl) ?_
          rintro - -
          refine run_nil ?_
          refine run_sub (subMk (.cons (s := 0) rfl (.cons (s := 1) rfl (.cons (s := 4) rfl (.cons (s := 5) rfl (.cons (s := 6) rfl .nil))))) .refl) ?_
          refine run_seq ?_
          refine run_seq ?_
          refine run_region ?_
          refine run_q (.none rfl) rfl rfl (q_fieldB (d := 1) rfl Try.underlying45 rfl rfl sz3 rfl) ?_
          refine run_q (.none rfl) rfl rfl (q_loadB rfl one3 rfl Sel.here rfl) ?_
          refine run_q (.none rfl) rfl rfl (q_lss rfl rfl rfl) ?_
          refine run_q (.none rfl) rfl rfl (q_move rfl rfl) ?_
          refine run_split 32 rfl (fun g32 => ?_) (fun g32 => ?_)
          · have g32' := g32
            try simp only [decide_eq_true_eq, decide_eq_false_iff_not, beq_iff_eq, beq_eq_false_iff_ne, bne_iff_ne, bne_eq_false_iff_eq, Bool.not_eq_true', Bool.not_eq_false', ne_eq, Int.not_lt, Int.not_le, Decidable.not_not] at g32'
            refine run_off (.no rfl rfl rfl g32) rfl rfl ?_
            refine run_off (.no rfl rfl rfl g32) rfl rfl ?_
            refine run_off (.no rfl rfl rfl g32) rfl rfl ?_
            refine run_off (.no rfl rfl rfl g32) rfl rfl ?_
            refine run_q (.none rfl) rfl rfl (q_pickT rfl rfl g32 rfl) ?_
            refine run_q (.none rfl) rfl rfl (q_move rfl rfl) ?_
            refine run_off (.no rfl rfl rfl rfl) rfl rfl ?_
            refine run_off (.no rfl rfl rfl rfl) rfl rfl ?_
            refine run_off (.no rfl rfl rfl rfl) rfl rfl ?_
            refine run_q (.none rfl) rfl rfl (q_pickT rfl rfl rfl rfl) ?_
            refine run_q (.none rfl) rfl rfl (q_move rfl rfl) ?_
            refine run_off (.no rfl rfl rfl rfl) rfl rfl ?_
            refine run_off (.no rfl rfl rfl rfl) rfl rfl ?_
            refine run_off (.no rfl rfl rfl rfl) rfl rfl ?_
            refine run_off (.no rfl rfl rfl rfl) rfl rfl ?_
            refine run_off (.no rfl rfl rfl rfl) rfl rfl ?_
            refine run_off (.no rfl rfl rfl rfl) rfl rfl ?_
            refine run_off (.no rfl rfl rfl rfl) rfl rfl ?_
            refine run_q (.none rfl) rfl rfl (q_pickT rfl rfl rfl rfl) ?_
            refine run_q (.none rfl) rfl rfl (q_move rfl rfl) ?_
            refine run_off (.no rfl rfl rfl rfl) rfl rfl ?_
            refine run_off (.no rfl rfl rfl rfl) rfl rfl ?_
            refine run_off (.no rfl rfl rfl rfl) rfl rfl ?_
            refine run_q (.none rfl) rfl rfl (q_pickT rfl rfl rfl rfl) ?_
            refine run_q (.none rfl) rfl rfl (q_move rfl rfl) ?_
            refine run_off (.no rfl rfl rfl rfl) rfl rfl ?_
            refine run_off (.no rfl rfl rfl rfl) rfl rfl ?_
            refine run_off (.no rfl rfl rfl rfl) rfl rfl ?_
            refine run_q (.none rfl) rfl rfl (q_pickT rfl rfl rfl rfl) ?_
            refine run_q (.none rfl) rfl rfl (q_move rfl rfl) ?_
            refine run_off (.no rfl rfl rfl rfl) rfl rfl ?_
            refine run_off (.no rfl rfl rfl rfl) rfl rfl ?_
            refine run_off (.no rfl rfl rfl rfl) rfl rfl ?_
            refine run_q (.none rfl) rfl rfl (q_pickT rfl rfl rfl rfl) ?_
            refine run_q (.none rfl) rfl rfl (q_move rfl rfl) ?_
            refine run_off (.no rfl rfl rfl rfl) rfl rfl ?_
            refine run_off (.no rfl rfl rfl rfl) rfl rfl ?_
            refine run_off (.no rfl rfl rfl rfl) rfl rfl ?_
            refine run_q (.none rfl) rfl rfl (q_pickT rfl rfl rfl rfl) ?_
            refine run_q (.none rfl) rfl rfl (q_move rfl rfl) ?_
            refine run_off (.no rfl rfl rfl rfl) rfl rfl ?_
            refine run_off (.no rfl rfl rfl rfl) rfl rfl ?_
            refine run_off (.no rfl rfl rfl rfl) rfl rfl ?_
            refine run_off (.no rfl rfl rfl rfl) rfl rfl ?_
            refine run_off (.no rfl rfl rfl rfl) rfl rfl ?_
            refine run_q (.none rfl) rfl rfl (q_pickT rfl rfl rfl rfl) ?_
            refine run_nil ?_
            refine run_sub (subMk (.cons (s := 0) rfl (.cons (s := 1) rfl (.cons (s := 4) rfl (.cons (s := 5) rfl (.cons (s := 6) rfl (.cons (s := 78) rfl .nil)))))) .refl) ?_
            refine run_condT rfl rfl ?_
            refine run_seq ?_
            refine run_region ?_
            refine run_q (.none rfl) rfl rfl (q_assign rfl rfl) ?_
            refine run_nil ?_
            refine run_ret ?_
            exact end1 rfl rfl (by rw [checkV_hit (by omega) (by omega) (by omega) hg (by omega) (errT_2 (by unfold propT; omega)) (by omega)])
          · have g32' := g32
            try simp only [decide_eq_true_eq, decide_eq_false_iff_not, beq_iff_eq, beq_eq_false_iff_ne, bne_iff_ne, bne_eq_false_iff_eq, Bool.not_eq_true', Bool.not_eq_false', ne_eq, Int.not_lt, Int.not_le, Decidable.not_not] at g32'
            refine run_q (.on rfl rfl rfl g32) rfl rfl (q_fieldB (d := 1) rfl Try.underlying45 rfl rfl sz3 rfl) ?_
            refine run_q (.on rfl rfl rfl g32) rfl rfl (q_loadB rfl one3 rfl Sel.here rfl) ?_
            refine run_q (.on rfl rfl rfl g32) rfl rfl (q_move rfl rfl) ?_
            refine run_q (.on rfl rfl rfl g32) rfl rfl (q_gtr rfl rfl rfl) ?_
            refine run_q (.none rfl) rfl rfl (q_pickF rfl rfl g32 rfl) ?_
            refine run_q (.none rfl) rfl rfl (q_move rfl rfl) ?_
            refine run_split 38 rfl (fun g38 => ?_) (fun g38 => ?_)
            · have g38' := g38
              try simp only [decide_eq_true_eq, decide_eq_false_iff_not, beq_iff_eq, beq_eq_false_iff_ne, bne_iff_ne, bne_eq_false_iff_eq, Bool.not_eq_true', Bool.not_eq_false', ne_eq, Int.not_lt, Int.not_le, Decidable.not_not] at g38'
              refine run_off (.no rfl rfl rfl g38) rfl rfl ?_
              refine run_off (.no rfl rfl rfl g38) rfl rfl ?_
              refine run_off (.no rfl rfl rfl g38) rfl rfl ?_
              refine run_q (.none rfl) rfl rfl (q_pickT rfl rfl g38 rfl) ?_
              refine run_q (.none rfl) rfl rfl (q_move rfl rfl) ?_
              refine run_off (.no rfl rfl rfl rfl) rfl rfl ?_
              refine run_off (.no rfl rfl rfl rfl) rfl rfl ?_
              refine run_off (.no rfl rfl rfl rfl) rfl rfl ?_
              refine run_off (.no rfl rfl rfl rfl) rfl rfl ?_
              refine run_off (.no rfl rfl rfl rfl) rfl rfl ?_
              refine run_off (.no rfl rfl rfl rfl) rfl rfl ?_
              refine run_off (.no rfl rfl rfl rfl) rfl rfl ?_
              refine run_q (.none rfl) rfl rfl (q_pickT rfl rfl rfl rfl) ?_
              refine run_q (.none rfl) rfl rfl (q_move rfl rfl) ?_
              refine run_off (.no rfl rfl rfl rfl) rfl rfl ?_
              refine run_off (.no rfl rfl rfl rfl) rfl rfl ?_
              refine run_off (.no rfl rfl rfl rfl) rfl rfl ?_
              refine run_q (.none rfl) rfl rfl (q_pickT rfl rfl rfl rfl) ?_
              refine run_q (.none rfl) rfl rfl (q_move rfl rfl) ?_
              refine run_off (.no rfl rfl rfl rfl) rfl rfl ?_
              refine run_off (.no rfl rfl rfl rfl) rfl rfl ?_
              refine run_off (.no rfl rfl rfl rfl) rfl rfl ?_
              refine run_q (.none rfl) rfl rfl (q_pickT rfl rfl rfl rfl) ?_
              refine run_q (.none rfl) rfl rfl (q_move rfl rfl) ?_
              refine run_off (.no rfl rfl rfl rfl) rfl rfl ?_
              refine run_off (.no rfl rfl rfl rfl) rfl rfl ?_
              refine run_off (.no rfl rfl rfl rfl) rfl rfl ?_
              refine run_q (.none rfl) rfl rfl (q_pickT rfl rfl rfl rfl) ?_
              refine run_q (.none rfl) rfl rfl (q_move rfl rfl) ?_
              refine run_off (.no rfl rfl rfl rfl) rfl rfl ?_
              refine run_off (.no rfl rfl rfl rfl) rfl rfl ?_
              refine run_off (.no rfl rfl rfl rfl) rfl rfl ?_
              refine run_q (.none rfl) rfl rfl (q_pickT rfl rfl rfl rfl) ?_
              refine run_q (.none rfl) rfl rfl (q_move rfl rfl) ?_
              refine run_off (.no rfl rfl rfl rfl) rfl rfl ?_
              refine run_off (.no rfl rfl rfl rfl) rfl rfl ?_
              refine run_off (.no rfl rfl rfl rfl) rfl rfl ?_
              refine run_off (.no rfl rfl rfl rfl) rfl rfl ?_
              refine run_off (.no rfl rfl rfl rfl) rfl rfl ?_
              refine run_q (.none rfl) rfl rfl (q_pickT rfl rfl rfl rfl) ?_
              refine run_nil ?_
              refine run_sub (subMk (.cons (s := 0) rfl (.cons (s := 1) rfl (.cons (s := 4) rfl (.cons (s := 5) rfl (.cons (s := 6) rfl (.cons (s := 78) rfl .nil)))))) .refl) ?_
              refine run_condT rfl rfl ?_
              refine run_seq ?_
              refine run_region ?_
              refine run_q (.none rfl) rfl rfl (q_assign rfl rfl) ?_
              refine run_nil ?_
              refine run_ret ?_
              exact end1 rfl rfl (by rw [checkV_hit (by omega) (by omega) (by omega) hg (by omega) (errT_2 (by unfold propT; omega)) (by omega)])
            · have g38' := g38
              try simp only [decide_eq_true_eq, decide_eq_false_iff_not, beq_iff_eq, beq_eq_false_iff_ne, bne_iff_ne, bne_eq_false_iff_eq, Bool.not_eq_true', Bool.not_eq_false', ne_eq, Int.not_lt, Int.not_le, Decidable.not_not] at g38'
              refine run_q (.on rfl rfl rfl g38) rfl rfl (q_fieldB (d := 0) rfl Try.underlying45 rfl rfl sz3 rfl) ?_
              refine run_q (.on rfl rfl rfl g38) rfl rfl (q_loadB rfl one3 rfl Sel.here rfl) ?_
              refine run_q (.on rfl rfl rfl g38) rfl rfl (q_lss rfl rfl rfl) ?_
              refine run_q (.none rfl) rfl rfl (q_pickF rfl rfl g38 rfl) ?_
              refine run_q (.none rfl) rfl rfl (q_move rfl rfl) ?_
              refine run_split 43 rfl (fun g43 => ?_) (fun g43 => ?_)
              · have g43' := g43
                try simp only [decide_eq_true_eq, decide_eq_false_iff_not, beq_iff_eq, beq_eq_false_iff_ne, bne_iff_ne, bne_eq_false_iff_eq, Bool.not_eq_true', Bool.not_eq_false', ne_eq, Int.not_lt, Int.not_le, Decidable.not_not] at g43'
                refine run_off (.no rfl rfl rfl g43) rfl rfl ?_
                refine run_off (.no rfl rfl rfl g43) rfl rfl ?_
                refine run_off (.no rfl rfl rfl g43) rfl rfl ?_
                refine run_off (.no rfl rfl rfl g43) rfl rfl ?_
                refine run_off (.no rfl rfl rfl g43) rfl rfl ?_
                refine run_off (.no rfl rfl rfl g43) rfl rfl ?_
                refine run_off (.no rfl rfl rfl g43) rfl rfl ?_
                refine run_q (.none rfl) rfl rfl (q_pickT rfl rfl g43 rfl) ?_
                refine run_q (.none rfl) rfl rfl (q_move rfl rfl) ?_
                refine run_off (.no rfl rfl rfl rfl) rfl rfl ?_
                refine run_off (.no rfl rfl rfl rfl) rfl rfl ?_
                refine run_off (.no rfl rfl rfl rfl) rfl rfl ?_
                refine run_q (.none rfl) rfl rfl (q_pickT rfl rfl rfl rfl) ?_
                refine run_q (.none rfl) rfl rfl (q_move rfl rfl) ?_
                refine run_off (.no rfl rfl rfl rfl) rfl rfl ?_
                refine run_off (.no rfl rfl rfl rfl) rfl rfl ?_
                refine run_off (.no rfl rfl rfl rfl) rfl rfl ?_
                refine run_q (.none rfl) rfl rfl (q_pickT rfl rfl rfl rfl) ?_
                refine run_q (.none rfl) rfl rfl (q_move rfl rfl) ?_
                refine run_off (.no rfl rfl rfl rfl) rfl rfl ?_
                refine run_off (.no rfl rfl rfl rfl) rfl rfl ?_
                refine run_off (.no rfl rfl rfl rfl) rfl rfl ?_
                refine run_q (.none rfl) rfl rfl (q_pickT rfl rfl rfl rfl) ?_
                refine run_q (.none rfl) rfl rfl (q_move rfl rfl) ?_
                refine run_off (.no rfl rfl rfl rfl) rfl rfl ?_
                refine run_off (.no rfl rfl rfl rfl) rfl rfl ?_
                refine run_off (.no rfl rfl rfl rfl) rfl rfl ?_
                refine run_q (.none rfl) rfl rfl (q_pickT rfl rfl rfl rfl) ?_
                refine run_q (.none rfl) rfl rfl (q_move rfl rfl) ?_
                refine run_off (.no rfl rfl rfl rfl) rfl rfl ?_
                refine run_off (.no rfl rfl rfl rfl) rfl rfl ?_
                refine run_off (.no rfl rfl rfl rfl) rfl rfl ?_
                refine run_off (.no rfl rfl rfl rfl) rfl rfl ?_
                refine run_off (.no rfl rfl rfl rfl) rfl rfl ?_
                refine run_q (.none rfl) rfl rfl (q_pickT rfl rfl rfl rfl) ?_
                refine run_nil ?_
                refine run_sub (subMk (.cons (s := 0) rfl (.cons (s := 1) rfl (.cons (s := 4) rfl (.cons (s := 5) rfl (.cons (s := 6) rfl (.cons (s := 78) rfl .nil)))))) .refl) ?_
                refine run_condT rfl rfl ?_
                refine run_seq ?_
                refine run_region ?_
                refine run_q (.none rfl) rfl rfl (q_assign rfl rfl) ?_
                refine run_nil ?_
                refine run_ret ?_
                exact end1 rfl rfl (by rw [checkV_hit (by omega) (by omega) (by omega) hg (by omega) (errT_2 (by unfold propT; omega)) (by omega)])
              · have g43' := g43
                try simp only [decide_eq_true_eq, decide_eq_false_iff_not, beq_iff_eq, beq_eq_false_iff_ne, bne_iff_ne, bne_eq_false_iff_eq, Bool.not_eq_true', Bool.not_eq_false', ne_eq, Int.not_lt, Int.not_le, Decidable.not_not] at g43'
                refine run_q (.on rfl rfl rfl g43) rfl rfl (q_fieldB (d := 0) rfl Try.underlying45 rfl rfl sz3 rfl) ?_
                refine run_q (.on rfl rfl rfl g43) rfl rfl (q_loadB rfl one3 rfl Sel.here rfl) ?_
                refine run_q (.on rfl rfl rfl g43) rfl rfl (q_move rfl rfl) ?_
                refine run_q (.on rfl rfl rfl g43) rfl rfl (q_fieldB (d := 1) rfl Try.underlying45 rfl rfl sz3 rfl) ?_
                refine run_q (.on rfl rfl rfl g43) rfl rfl (q_loadB rfl one3 rfl Sel.here rfl) ?_
                refine run_q (.on rfl rfl rfl g43) rfl rfl (q_sub rfl rfl rfl (by omega)) ?_
                refine run_q (.on rfl rfl rfl g43) rfl rfl (q_gtr rfl rfl rfl) ?_
                refine run_q (.none rfl) rfl rfl (q_pickF rfl rfl g43 rfl) ?_
                refine run_q (.none rfl) rfl rfl (q_move rfl rfl) ?_
                refine run_split 52 rfl (fun g52 => ?_) (fun g52 => ?_)
                · have g52' := g52
                  try simp only [decide_eq_true_eq, decide_eq_false_iff_not, beq_iff_eq, beq_eq_false_iff_ne, bne_iff_ne, bne_eq_false_iff_eq, Bool.not_eq_true', Bool.not_eq_false', ne_eq, Int.not_lt, Int.not_le, Decidable.not_not] at g52'
                  refine run_off (.no rfl rfl rfl g52) rfl rfl ?_
                  refine run_off (.no rfl rfl rfl g52) rfl rfl ?_
                  refine run_off (.no rfl rfl rfl g52) rfl rfl ?_
                  refine run_q (.none rfl) rfl rfl (q_pickT rfl rfl g52 rfl) ?_
                  refine run_q (.none rfl) rfl rfl (q_move rfl rfl) ?_
                  refine run_off (.no rfl rfl rfl rfl) rfl rfl ?_
                  refine run_off (.no rfl rfl rfl rfl) rfl rfl ?_
                  refine run_off (.no rfl rfl rfl rfl) rfl rfl ?_
                  refine run_q (.none rfl) rfl rfl (q_pickT rfl rfl rfl rfl) ?_
                  refine run_q (.none rfl) rfl rfl (q_move rfl rfl) ?_
                  refine run_off (.no rfl rfl rfl rfl) rfl rfl ?_
                  refine run_off (.no rfl rfl rfl rfl) rfl rfl ?_
                  refine run_off (.no rfl rfl rfl rfl) rfl rfl ?_
                  refine run_q (.none rfl) rfl rfl (q_pickT rfl rfl rfl rfl) ?_
                  refine run_q (.none rfl) rfl rfl (q_move rfl rfl) ?_
                  refine run_off (.no rfl rfl rfl rfl) rfl rfl ?_
                  refine run_off (.no rfl rfl rfl rfl) rfl rfl ?_
                  refine run_off (.no rfl rfl rfl rfl) rfl rfl ?_
                  refine run_q (.none rfl) rfl rfl (q_pickT rfl rfl rfl rfl) ?_
                  refine run_q (.none rfl) rfl rfl (q_move rfl rfl) ?_
                  refine run_off (.no rfl rfl rfl rfl) rfl rfl ?_
                  refine run_off (.no rfl rfl rfl rfl) rfl rfl ?_
                  refine run_off (.no rfl rfl rfl rfl) rfl rfl ?_
                  refine run_off (.no rfl rfl rfl rfl) rfl rfl ?_
                  refine run_off (.no rfl rfl rfl rfl) rfl rfl ?_
                  refine run_q (.none rfl) rfl rfl (q_pickT rfl rfl rfl rfl) ?_
                  refine run_nil ?_
                  refine run_sub (subMk (.cons (s := 0) rfl (.cons (s := 1) rfl (.cons (s := 4) rfl (.cons (s := 5) rfl (.cons (s := 6) rfl (.cons (s := 78) rfl .nil)))))) .refl) ?_
                  refine run_condT rfl rfl ?_
                  refine run_seq ?_
                  refine run_region ?_
                  refine run_q (.none rfl) rfl rfl (q_assign rfl rfl) ?_
                  refine run_nil ?_
                  refine run_ret ?_
                  exact end1 rfl rfl (by rw [checkV_hit (by omega) (by omega) (by omega) hg (by omega) (errT_2 (by unfold propT; omega)) (by omega)])
                · have g52' := g52
                  try simp only [decide_eq_true_eq, decide_eq_false_iff_not, beq_iff_eq, beq_eq_false_iff_ne, bne_iff_ne, bne_eq_false_iff_eq, Bool.not_eq_true', Bool.not_eq_false', ne_eq, Int.not_lt, Int.not_le, Decidable.not_not] at g52'
                  refine run_q (.on rfl rfl rfl g52) rfl rfl (q_fieldB (d := 2) rfl Try.underlying45 rfl rfl sz3 rfl) ?_
                  refine run_q (.on rfl rfl rfl g52) rfl rfl (q_loadB rfl one3 rfl Sel.here rfl) ?_
                  refine run_q (.on rfl rfl rfl g52) rfl rfl (q_lss rfl rfl rfl) ?_
                  refine run_q (.none rfl) rfl rfl (q_pickF rfl rfl g52 rfl) ?_
                  refine run_q (.none rfl) rfl rfl (q_move rfl rfl) ?_
                  refine run_split 57 rfl (fun g57 => ?_) (fun g57 => ?_)
                  · have g57' := g57
                    try simp only [decide_eq_true_eq, decide_eq_false_iff_not, beq_iff_eq, beq_eq_false_iff_ne, bne_iff_ne, bne_eq_false_iff_eq, Bool.not_eq_true', Bool.not_eq_false', ne_eq, Int.not_lt, Int.not_le, Decidable.not_not] at g57'
                    refine run_off (.no rfl rfl rfl g57) rfl rfl ?_
                    refine run_off (.no rfl rfl rfl g57) rfl rfl ?_
                    refine run_off (.no rfl rfl rfl g57) rfl rfl ?_
                    refine run_q (.none rfl) rfl rfl (q_pickT rfl rfl g57 rfl) ?_
                    refine run_q (.none rfl) rfl rfl (q_move rfl rfl) ?_
                    refine run_off (.no rfl rfl rfl rfl) rfl rfl ?_
                    refine run_off (.no rfl rfl rfl rfl) rfl rfl ?_
                    refine run_off (.no rfl rfl rfl rfl) rfl rfl ?_
                    refine run_q (.none rfl) rfl rfl (q_pickT rfl rfl rfl rfl) ?_
                    refine run_q (.none rfl) rfl rfl (q_move rfl rfl) ?_
                    refine run_off (.no rfl rfl rfl rfl) rfl rfl ?_
                    refine run_off (.no rfl rfl rfl rfl) rfl rfl ?_
                    refine run_off (.no rfl rfl rfl rfl) rfl rfl ?_
                    refine run_q (.none rfl) rfl rfl (q_pickT rfl rfl rfl rfl) ?_
                    refine run_q (.none rfl) rfl rfl (q_move rfl rfl) ?_
                    refine run_off (.no rfl rfl rfl rfl) rfl rfl ?_
                    refine run_off (.no rfl rfl rfl rfl) rfl rfl ?_
                    refine run_off (.no rfl rfl rfl rfl) rfl rfl ?_
                    refine run_off (.no rfl rfl rfl rfl) rfl rfl ?_
                    refine run_off (.no rfl rfl rfl rfl) rfl rfl ?_
                    refine run_q (.none rfl) rfl rfl (q_pickT rfl rfl rfl rfl) ?_
                    refine run_nil ?_
                    refine run_sub (subMk (.cons (s := 0) rfl (.cons (s := 1) rfl (.cons (s := 4) rfl (.cons (s := 5) rfl (.cons (s := 6) rfl (.cons (s := 78) rfl .nil)))))) .refl) ?_
                    refine run_condT rfl rfl ?_
                    refine run_seq ?_
                    refine run_region ?_
                    refine run_q (.none rfl) rfl rfl (q_assign rfl rfl) ?_
                    refine run_nil ?_
                    refine run_ret ?_
                    exact end1 rfl rfl (by rw [checkV_hit (by omega) (by omega) (by omega) hg (by omega) (errT_2 (by unfold propT; omega)) (by omega)])
                  · have g57' := g57
                    try simp only [decide_eq_true_eq, decide_eq_false_iff_not, beq_iff_eq, beq_eq_false_iff_ne, bne_iff_ne, bne_eq_false_iff_eq, Bool.not_eq_true', Bool.not_eq_false', ne_eq, Int.not_lt, Int.not_le, Decidable.not_not] at g57'
                    refine run_q (.on rfl rfl rfl g57) rfl rfl (q_fieldB (d := 2) rfl Try.underlying45 rfl rfl sz3 rfl) ?_
                    refine run_q (.on rfl rfl rfl g57) rfl rfl (q_loadB rfl one3 rfl Sel.here rfl) ?_
                    refine run_q (.on rfl rfl rfl g57) rfl rfl (q_gtr rfl rfl rfl) ?_
                    refine run_q (.none rfl) rfl rfl (q_pickF rfl rfl g57 rfl) ?_
                    refine run_q (.none rfl) rfl rfl (q_move rfl rfl) ?_
                    refine run_split 62 rfl (fun g62 => ?_) (fun g62 => ?_)
                    · have g62' := g62
                      try simp only [decide_eq_true_eq, decide_eq_false_iff_not, beq_iff_eq, beq_eq_false_iff_ne, bne_iff_ne, bne_eq_false_iff_eq, Bool.not_eq_true', Bool.not_eq_false', ne_eq, Int.not_lt, Int.not_le, Decidable.not_not] at g62'
                      refine run_off (.no rfl rfl rfl g62) rfl rfl ?_
                      refine run_off (.no rfl rfl rfl g62) rfl rfl ?_
                      refine run_off (.no rfl rfl rfl g62) rfl rfl ?_
                      refine run_q (.none rfl) rfl rfl (q_pickT rfl rfl g62 rfl) ?_
                      refine run_q (.none rfl) rfl rfl (q_move rfl rfl) ?_
                      refine run_off (.no rfl rfl rfl rfl) rfl rfl ?_
                      refine run_off (.no rfl rfl rfl rfl) rfl rfl ?_
                      refine run_off (.no rfl rfl rfl rfl) rfl rfl ?_
                      refine run_q (.none rfl) rfl rfl (q_pickT rfl rfl rfl rfl) ?_
                      refine run_q (.none rfl) rfl rfl (q_move rfl rfl) ?_
                      refine run_off (.no rfl rfl rfl rfl) rfl rfl ?_
                      refine run_off (.no rfl rfl rfl rfl) rfl rfl ?_
                      refine run_off (.no rfl rfl rfl rfl) rfl rfl ?_
                      refine run_off (.no rfl rfl rfl rfl) rfl rfl ?_
                      refine run_off (.no rfl rfl rfl rfl) rfl rfl ?_
                      refine run_q (.none rfl) rfl rfl (q_pickT rfl rfl rfl rfl) ?_
                      refine run_nil ?_
                      refine run_sub (subMk (.cons (s := 0) rfl (.cons (s := 1) rfl (.cons (s := 4) rfl (.cons (s := 5) rfl (.cons (s := 6) rfl (.cons (s := 78) rfl .nil)))))) .refl) ?_
                      refine run_condT rfl rfl ?_
                      refine run_seq ?_
                      refine run_region ?_
                      refine run_q (.none rfl) rfl rfl (q_assign rfl rfl) ?_
                      refine run_nil ?_
                      refine run_ret ?_
                      exact end1 rfl rfl (by rw [checkV_hit (by omega) (by omega) (by omega) hg (by omega) (errT_2 (by unfold propT; omega)) (by omega)])
                    · have g62' := g62
                      try simp only [decide_eq_true_eq, decide_eq_false_iff_not, beq_iff_eq, beq_eq_false_iff_ne, bne_iff_ne, bne_eq_false_iff_eq, Bool.not_eq_true', Bool.not_eq_false', ne_eq, Int.not_lt, Int.not_le, Decidable.not_not] at g62'
                      refine run_q (.on rfl rfl rfl g62) rfl rfl (q_fieldB (d := 3) rfl Try.underlying45 rfl rfl sz3 rfl) ?_
                      refine run_q (.on rfl rfl rfl g62) rfl rfl (q_loadB rfl one3 rfl Sel.here rfl) ?_
                      refine run_q (.on rfl rfl rfl g62) rfl rfl (q_lss rfl rfl rfl) ?_
                      refine run_q (.none rfl) rfl rfl (q_pickF rfl rfl g62 rfl) ?_
                      refine run_q (.none rfl) rfl rfl (q_move rfl rfl) ?_
                      refine run_split 67 rfl (fun g67 => ?_) (fun g67 => ?_)
                      · have g67' := g67
                        try simp only [decide_eq_true_eq, decide_eq_false_iff_not, beq_iff_eq, beq_eq_false_iff_ne, bne_iff_ne, bne_eq_false_iff_eq, Bool.not_eq_true', Bool.not_eq_false', ne_eq, Int.not_lt, Int.not_le, Decidable.not_not] at g67'
                        refine run_off (.no rfl rfl rfl g67) rfl rfl ?_
                        refine run_off (.no rfl rfl rfl g67) rfl rfl ?_
                        refine run_off (.no rfl rfl rfl g67) rfl rfl ?_
                        refine run_q (.none rfl) rfl rfl (q_pickT rfl rfl g67 rfl) ?_
                        refine run_q (.none rfl) rfl rfl (q_move rfl rfl) ?_
                        refine run_off (.no rfl rfl rfl rfl) rfl rfl ?_
                        refine run_off (.no rfl rfl rfl rfl) rfl rfl ?_
                        refine run_off (.no rfl rfl rfl rfl) rfl rfl ?_
                        refine run_off (.no rfl rfl rfl rfl) rfl rfl ?_
                        refine run_off (.no rfl rfl rfl rfl) rfl rfl ?_
                        refine run_q (.none rfl) rfl rfl (q_pickT rfl rfl rfl rfl) ?_
                        refine run_nil ?_
                        refine run_sub (subMk (.cons (s := 0) rfl (.cons (s := 1) rfl (.cons (s := 4) rfl (.cons (s := 5) rfl (.cons (s := 6) rfl (.cons (s := 78) rfl .nil)))))) .refl) ?_
                        refine run_condT rfl rfl ?_
                        refine run_seq ?_
                        refine run_region ?_
                        refine run_q (.none rfl) rfl rfl (q_assign rfl rfl) ?_
                        refine run_nil ?_
                        refine run_ret ?_
                        exact end1 rfl rfl (by rw [checkV_hit (by omega) (by omega) (by omega) hg (by omega) (errT_2 (by unfold propT; omega)) (by omega)])
                      · have g67' := g67
                        try simp only [decide_eq_true_eq, decide_eq_false_iff_not, beq_iff_eq, beq_eq_false_iff_ne, bne_iff_ne, bne_eq_false_iff_eq, Bool.not_eq_true', Bool.not_eq_false', ne_eq, Int.not_lt, Int.not_le, Decidable.not_not] at g67'
                        refine run_q (.on rfl rfl rfl g67) rfl rfl (q_fieldB (d := 3) rfl Try.underlying45 rfl rfl sz3 rfl) ?_
                        refine run_q (.on rfl rfl rfl g67) rfl rfl (q_loadB rfl one3 rfl Sel.here rfl) ?_
                        refine run_q (.on rfl rfl rfl g67) rfl rfl (q_gtr rfl rfl rfl) ?_
                        refine run_q (.none rfl) rfl rfl (q_pickF rfl rfl g67 rfl) ?_
                        refine run_q (.none rfl) rfl rfl (q_move rfl rfl) ?_
                        refine run_split 72 rfl (fun g72 => ?_) (fun g72 => ?_)
                        · have g72' := g72
                          try simp only [decide_eq_true_eq, decide_eq_false_iff_not, beq_iff_eq, beq_eq_false_iff_ne, bne_iff_ne, bne_eq_false_iff_eq, Bool.not_eq_true', Bool.not_eq_false', ne_eq, Int.not_lt, Int.not_le, Decidable.not_not] at g72'
                          refine run_off (.no rfl rfl rfl g72) rfl rfl ?_
                          refine run_off (.no rfl rfl rfl g72) rfl rfl ?_
                          refine run_off (.no rfl rfl rfl g72) rfl rfl ?_
                          refine run_off (.no rfl rfl rfl g72) rfl rfl ?_
                          refine run_off (.no rfl rfl rfl g72) rfl rfl ?_
                          refine run_q (.none rfl) rfl rfl (q_pickT rfl rfl g72 rfl) ?_
                          refine run_nil ?_
                          refine run_sub (subMk (.cons (s := 0) rfl (.cons (s := 1) rfl (.cons (s := 4) rfl (.cons (s := 5) rfl (.cons (s := 6) rfl (.cons (s := 78) rfl .nil)))))) .refl) ?_
                          refine run_condT rfl rfl ?_
                          refine run_seq ?_
                          refine run_region ?_
                          refine run_q (.none rfl) rfl rfl (q_assign rfl rfl) ?_
                          refine run_nil ?_
                          refine run_ret ?_
                          exact end1 rfl rfl (by rw [checkV_hit (by omega) (by omega) (by omega) hg (by omega) (errT_2 (by unfold propT; omega)) (by omega)])
                        · have g72' := g72
                          try simp only [decide_eq_true_eq, decide_eq_false_iff_not, beq_iff_eq, beq_eq_false_iff_ne, bne_iff_ne, bne_eq_false_iff_eq, Bool.not_eq_true', Bool.not_eq_false', ne_eq, Int.not_lt, Int.not_le, Decidable.not_not] at g72'
                          refine run_q (.on rfl rfl rfl g72) rfl rfl (q_fieldB (d := 2) rfl Try.underlying45 rfl rfl sz3 rfl) ?_
                          refine run_q (.on rfl rfl rfl g72) rfl rfl (q_loadB rfl one3 rfl Sel.here rfl) ?_
                          refine run_q (.on rfl rfl rfl g72) rfl rfl (q_fieldB (d := 3) rfl Try.underlying45 rfl rfl sz3 rfl) ?_
                          refine run_q (.on rfl rfl rfl g72) rfl rfl (q_loadB rfl one3 rfl Sel.here rfl) ?_
                          refine run_q (.on rfl rfl rfl g72) rfl rfl (q_eql rfl rfl rfl) ?_
                          refine run_q (.none rfl) rfl rfl (q_pickF rfl rfl g72 rfl) ?_
                          refine run_nil ?_
                          refine run_sub (subMk (.cons (s := 0) rfl (.cons (s := 1) rfl (.cons (s := 4) rfl (.cons (s := 5) rfl (.cons (s := 6) rfl (.cons (s := 78) rfl .nil)))))) .refl) ?_
                          refine run_cond rfl (fun g78 => ?_) (fun g78 => ?_)
                          · have g78' := g78
                            try simp only [decide_eq_true_eq, decide_eq_false_iff_not, beq_iff_eq, beq_eq_false_iff_ne, bne_iff_ne, bne_eq_false_iff_eq, Bool.not_eq_true', Bool.not_eq_false', ne_eq, Int.not_lt, Int.not_le, Decidable.not_not] at g78'
                            refine run_seq ?_
                            refine run_region ?_
                            refine run_q (.none rfl) rfl rfl (q_assign rfl rfl) ?_
                            refine run_nil ?_
                            refine run_ret ?_
                            exact end1 rfl rfl (by rw [checkV_hit (by omega) (by omega) (by omega) hg (by omega) (errT_2 (by unfold propT; omega)) (by omega)])
                          · have g78' := g78
                            try simp only [decide_eq_true_eq, decide_eq_false_iff_not, beq_iff_eq, beq_eq_false_iff_ne, bne_iff_ne, bne_eq_false_iff_eq, Bool.not_eq_true', Bool.not_eq_false', ne_eq, Int.not_lt, Int.not_le, Decidable.not_not] at g78'
                            have hp : propT n (nth ts i) := by unfold propT; omega
                            refine run_skip ?_
                            refine run_seq ?_
                            refine run_seq ?_
                            refine run_draw [(0, 0), (1, 0), (2, 0), (3, 0), (4, 0), (5, 0), (6, 0), (7, 0), (8, 0), (9, 0), (10, 0)] mixed (by kernel_rfl) .refl ?_
                            refine d_q rfl rfl (.none rfl) rfl rfl (q_move rfl rfl) ?_
                            refine d_q rfl rfl (.none rfl) rfl rfl (q_gtr rfl rfl rfl) ?_
                            refine d_q rfl rfl (.none rfl) rfl rfl (q_move rfl rfl) ?_
                            refine d_split 81 rfl (fun g81 => ?_) (fun g81 => ?_)
                            · have g81' := g81
                              try simp only [decide_eq_true_eq, decide_eq_false_iff_not, beq_iff_eq, beq_eq_false_iff_ne, bne_iff_ne, bne_eq_false_iff_eq, Bool.not_eq_true', Bool.not_eq_false', ne_eq, Int.not_lt, Int.not_le, Decidable.not_not] at g81'
                              refine d_q rfl rfl (.on rfl rfl rfl g81) rfl rfl (q_loadBN rfl agg45 rfl Sel.here (.cons rfl (.cons rfl (.cons rfl (.cons rfl CellsAt.nil)))) rfl) ?_
                              refine d_q rfl rfl (.on rfl rfl rfl g81) rfl rfl (q_move rfl rfl) ?_
                              refine d_q rfl rfl (.on rfl rfl rfl g81) rfl rfl (q_move rfl rfl) ?_
                              refine d_q rfl rfl (.on rfl rfl rfl g81) rfl rfl (q_sub rfl rfl rfl (by omega)) ?_
                              refine d_q rfl rfl (.on rfl rfl rfl g81) rfl rfl (q_indexS (q := (i - 1)) rfl Try.underlying27 sz45 rfl rfl (.inp hr .no) (by simp <;> omega) (by omega) (by omega)) ?_
                              refine d_q rfl rfl (.on rfl rfl rfl g81) rfl rfl (q_loadE rfl agg45 rfl (.inp hr .no) (getmap (by omega)) rfl) ?_
                              refine d_q rfl rfl (.on rfl rfl rfl g81) rfl rfl (q_call rfl call39 (.cons rfl (.cons rfl Evs.nil)) (fun w hk hm => after_just _ _ _)) ?_
                              refine d_q rfl rfl (.none rfl) rfl rfl (q_pickT rfl rfl g81 rfl) ?_
                              refine d_nil ?_
                              refine run_sub (subMk (.cons (s := 0) rfl (.cons (s := 1) rfl (.cons (s := 4) rfl (.cons (s := 5) rfl (.cons (s := 6) rfl (.cons (s := 89) rfl .nil)))))) .refl) ?_
                              refine run_cond rfl (fun g89 => ?_) (fun g89 => ?_)
                              · have g89' := g89
                                try simp only [decide_eq_true_eq, decide_eq_false_iff_not, beq_iff_eq, beq_eq_false_iff_ne, bne_iff_ne, bne_eq_false_iff_eq, Bool.not_eq_true', Bool.not_eq_false', ne_eq, Int.not_lt, Int.not_le, Decidable.not_not] at g89'
                                refine run_seq ?_
                                refine run_region ?_
                                refine run_q (.none rfl) rfl rfl (q_assign rfl rfl) ?_
                                refine run_nil ?_
                                refine run_ret ?_
                                exact end1 rfl rfl (by rw [checkV_hit (by omega) (by omega) (by omega) hg (by omega) (errT_25 hp (by omega) g89') (by omega)])
                              · have g89' := g89
                                try simp only [decide_eq_true_eq, decide_eq_false_iff_not, beq_iff_eq, beq_eq_false_iff_ne, bne_iff_ne, bne_eq_false_iff_eq, Bool.not_eq_true', Bool.not_eq_false', ne_eq, Int.not_lt, Int.not_le, Decidable.not_not] at g89'
                                refine run_skip ?_
                                refine run_seq ?_
                                have ha : 0 < i → ¬ aftT (nth ts i) (nth ts (i - 1)) := by first | (intro h0; exact absurd h0 (by omega)) | (intro _; exact g89')
                                refine run_region ?_
                                refine run_q (.none rfl) rfl rfl (q_assign rfl rfl) ?_
                                refine run_nil ?_
                                refine run_block ?_
                                refine run_sub (subMk (.cons (s := 7) rfl (.cons (s := 0) rfl (.cons (s := 1) rfl (.cons (s := 4) rfl (.cons (s := 5) rfl (.cons (s := 6) rfl .nil)))))) (.cons Sel.here .refl .nil)) ?_
                                refine run_loopC1M0 (ι := Nat) (fun e => (e : Int) ≤ n ∧ ∀ x : Nat, x < e → OkE ts i x i ∧ cntE ts (nth ts i) x i < 3) (fun e => .int .i64 (e : Int))  (fun e => n.toNat - e) 0 (by (try dsimp only); exact ⟨by omega, fun x hx => absurd hx (by omega)⟩) rfl  ?_
                                rintro e hq
                                (try dsimp only at hq)
                                obtain ⟨he, hall⟩ := hq
                                show Run _ _ _ _ _ _ _ ⟨(7, .int .i64 (e : Int)) :: _, _⟩
                                refine run_seq ?_
                                refine run_seq ?_
                                refine run_region ?_
                                refine run_q (.none rfl) rfl rfl (q_move rfl rfl) ?_
                                refine run_q (.none rfl) rfl rfl (q_move rfl rfl) ?_
                                refine run_q (.none rfl) rfl rfl (q_lss rfl rfl rfl) ?_
                                refine run_nil ?_
                                refine run_cond rfl (fun g92 => ?_) (fun g92 => ?_)
                                · have g92' := g92
                                  try simp only [decide_eq_true_eq, decide_eq_false_iff_not, beq_iff_eq, beq_eq_false_iff_ne, bne_iff_ne, bne_eq_false_iff_eq, Bool.not_eq_true', Bool.not_eq_false', ne_eq, Int.not_lt, Int.not_le, Decidable.not_not] at g92'
                                  refine run_skip ?_
                                  refine run_seq ?_
                                  refine run_block ?_
                                  refine run_seq ?_
                                  refine run_region ?_
                                  refine run_q (.none rfl) rfl rfl (q_assign rfl rfl) ?_
                                  refine run_nil ?_
                                  refine run_sub (subMk (.cons (s := 0) rfl (.cons (s := 1) rfl (.cons (s := 4) rfl (.cons (s := 5) rfl (.cons (s := 6) rfl (.cons (s := 7) rfl (.cons (s := 8) rfl .nil))))))) .refl) ?_
                                  refine run_seq ?_
                                  refine run_seq ?_
                                  refine run_region ?_
                                  refine run_q (.none rfl) rfl rfl (q_assign rfl rfl) ?_
                                  refine run_nil ?_
                                  refine run_block ?_
                                  refine run_sub (subMk (.cons (s := 9) rfl (.cons (s := 8) rfl (.cons (s := 0) rfl (.cons (s := 1) rfl (.cons (s := 4) rfl (.cons (s := 5) rfl (.cons (s := 6) rfl (.cons (s := 7) rfl .nil)))))))) (.cons Sel.here .refl .nil)) ?_
                                  refine run_loopC2M0 (ι := Nat) (fun j => j ≤ i ∧ OkE ts i e j) (fun j => .int .i64 (j : Int)) (fun j => .int .i64 (cntE ts (nth ts i) e j : Int))  (fun j => i - j) 0 (by (try dsimp only); exact ⟨by omega, OkE.zero⟩) rfl (vint (by rw [cntE_zero]; rfl))  ?_
                                  rintro j hq
                                  (try dsimp only at hq)
                                  obtain ⟨hj, hok⟩ := hq
                                  show Run _ _ _ _ _ _ _ ⟨(9, .int .i64 (j : Int)) :: (8, .int .i64 (cntE ts (nth ts i) e j : Int)) :: _, _⟩
                                  refine run_seq ?_
                                  refine run_seq ?_
                                  refine run_region ?_
                                  refine run_q (.none rfl) rfl rfl (q_move rfl rfl) ?_
                                  refine run_q (.none rfl) rfl rfl (q_move rfl rfl) ?_
                                  refine run_q (.none rfl) rfl rfl (q_lss rfl rfl rfl) ?_
                                  refine run_nil ?_
                                  refine run_cond rfl (fun g97 => ?_) (fun g97 => ?_)
                                  · have g97' := g97
                                    try simp only [decide_eq_true_eq, decide_eq_false_iff_not, beq_iff_eq, beq_eq_false_iff_ne, bne_iff_ne, bne_eq_false_iff_eq, Bool.not_eq_true', Bool.not_eq_false', ne_eq, Int.not_lt, Int.not_le, Decidable.not_not] at g97'
                                    refine run_skip ?_
                                    refine run_seq ?_
                                    refine run_block ?_
                                    refine run_seq ?_
                                    refine run_seq ?_
                                    refine run_region ?_
                                    refine run_q (.none rfl) rfl rfl (q_loadBN rfl agg45 rfl Sel.here (.cons rfl (.cons rfl (.cons rfl (.cons rfl CellsAt.nil)))) rfl) ?_
                                    refine run_q (.none rfl) rfl rfl (q_move rfl rfl) ?_
                                    refine run_q (.none rfl) rfl rfl (q_call rfl call22 (.cons rfl (.cons rfl Evs.nil)) (fun w hk hm => in_just (nth ts i) e w (propT_ok hp (by omega)))) ?_
                                    refine run_q (.none rfl) rfl rfl (q_not rfl rfl) ?_
                                    refine run_q (.none rfl) rfl rfl (q_move rfl rfl) ?_
                                    refine run_split 104 rfl (fun g104 => ?_) (fun g104 => ?_)
                                    · have g104' := g104
                                      try simp only [decide_eq_true_eq, decide_eq_false_iff_not, beq_iff_eq, beq_eq_false_iff_ne, bne_iff_ne, bne_eq_false_iff_eq, Bool.not_eq_true', Bool.not_eq_false', ne_eq, Int.not_lt, Int.not_le, Decidable.not_not] at g104'
                                      refine run_off (.no rfl rfl rfl g104) rfl rfl ?_
                                      refine run_off (.no rfl rfl rfl g104) rfl rfl ?_
                                      refine run_off (.no rfl rfl rfl g104) rfl rfl ?_
                                      refine run_off (.no rfl rfl rfl g104) rfl rfl ?_
                                      refine run_off (.no rfl rfl rfl g104) rfl rfl ?_
                                      refine run_off (.no rfl rfl rfl g104) rfl rfl ?_
                                      refine run_off (.no rfl rfl rfl g104) rfl rfl ?_
                                      refine run_q (.none rfl) rfl rfl (q_pickT rfl rfl g104 rfl) ?_
                                      refine run_nil ?_
                                      refine run_sub (subMk (.cons (s := 0) rfl (.cons (s := 1) rfl (.cons (s := 4) rfl (.cons (s := 5) rfl (.cons (s := 6) rfl (.cons (s := 7) rfl (.cons (s := 8) rfl (.cons (s := 9) rfl (.cons (s := 112) rfl .nil))))))))) .refl) ?_
                                      refine run_condT rfl rfl ?_
                                      refine run_exit rfl ?_
                                      refine run_region ?_
                                      refine run_q (.none rfl) rfl rfl (q_move rfl rfl) ?_
                                      refine run_q (.none rfl) rfl rfl (q_add rfl rfl rfl (by omega)) ?_
                                      refine run_q (.none rfl) rfl rfl (q_assign rfl rfl) ?_
                                      refine run_nil ?_
                                      refine run_sub (subMk (.cons (s := 0) rfl (.cons (s := 1) rfl (.cons (s := 4) rfl (.cons (s := 5) rfl (.cons (s := 6) rfl (.cons (s := 7) rfl (.cons (s := 8) rfl (.cons (s := 9) rfl .nil)))))))) .refl) ?_
                                      exact run_again (j + 1) (by (try dsimp only); exact ⟨by omega, hok.succ (fun h _ => by simp [h] at g104)⟩) (by (try dsimp only); omega) (subMk (.cons' (s := 9) rfl rfl (.cons' (s := 8) rfl (vint (by rw [(cntE_out (by omega) (.inl (by simpa using g104)))])) (.cons (s := 0) rfl (.cons (s := 1) rfl (.cons (s := 4) rfl (.cons (s := 5) rfl (.cons (s := 6) rfl (.cons (s := 7) rfl .nil)))))))) (.cons Sel.here .refl .nil))
                                    · have g104' := g104
                                      try simp only [decide_eq_true_eq, decide_eq_false_iff_not, beq_iff_eq, beq_eq_false_iff_ne, bne_iff_ne, bne_eq_false_iff_eq, Bool.not_eq_true', Bool.not_eq_false', ne_eq, Int.not_lt, Int.not_le, Decidable.not_not] at g104'
                                      refine run_q (.on rfl rfl rfl g104) rfl rfl (q_move rfl rfl) ?_
                                      refine run_q (.on rfl rfl rfl g104) rfl rfl (q_move rfl rfl) ?_
                                      refine run_q (.on rfl rfl rfl g104) rfl rfl (q_indexS (q := j) rfl Try.underlying27 sz45 rfl rfl (.inp hr .no) (by simp <;> omega) rfl (by omega)) ?_
                                      refine run_q (.on rfl rfl rfl g104) rfl rfl (q_loadE rfl agg45 rfl (.inp hr .no) (getmap (by omega)) rfl) ?_
                                      refine run_q (.on rfl rfl rfl g104) rfl rfl (q_move rfl rfl) ?_
                                      refine run_q (.on rfl rfl rfl g104) rfl rfl (q_call rfl call22 (.cons rfl (.cons rfl Evs.nil)) (fun w hk hm => in_just (nth ts j) e w (propT_ok (errT_zero (hg j (by omega))).1 (by omega)))) ?_
                                      refine run_q (.on rfl rfl rfl g104) rfl rfl (q_not rfl rfl) ?_
                                      refine run_q (.none rfl) rfl rfl (q_pickF rfl rfl g104 rfl) ?_
                                      refine run_nil ?_
                                      refine run_sub (subMk (.cons (s := 0) rfl (.cons (s := 1) rfl (.cons (s := 4) rfl (.cons (s := 5) rfl (.cons (s := 6) rfl (.cons (s := 7) rfl (.cons (s := 8) rfl (.cons (s := 9) rfl (.cons (s := 112) rfl .nil))))))))) .refl) ?_
                                      refine run_cond rfl (fun g112 => ?_) (fun g112 => ?_)
                                      · have g112' := g112
                                        try simp only [decide_eq_true_eq, decide_eq_false_iff_not, beq_iff_eq, beq_eq_false_iff_ne, bne_iff_ne, bne_eq_false_iff_eq, Bool.not_eq_true', Bool.not_eq_false', ne_eq, Int.not_lt, Int.not_le, Decidable.not_not] at g112'
                                        refine run_exit rfl ?_
                                        refine run_region ?_
                                        refine run_q (.none rfl) rfl rfl (q_move rfl rfl) ?_
                                        refine run_q (.none rfl) rfl rfl (q_add rfl rfl rfl (by omega)) ?_
                                        refine run_q (.none rfl) rfl rfl (q_assign rfl rfl) ?_
                                        refine run_nil ?_
                                        refine run_sub (subMk (.cons (s := 0) rfl (.cons (s := 1) rfl (.cons (s := 4) rfl (.cons (s := 5) rfl (.cons (s := 6) rfl (.cons (s := 7) rfl (.cons (s := 8) rfl (.cons (s := 9) rfl .nil)))))))) .refl) ?_
                                        exact run_again (j + 1) (by (try dsimp only); exact ⟨by omega, hok.succ (fun _ h => by simp [h] at g112)⟩) (by (try dsimp only); omega) (subMk (.cons' (s := 9) rfl rfl (.cons' (s := 8) rfl (vint (by rw [(cntE_out (by omega) (.inr (by simpa using g112)))])) (.cons (s := 0) rfl (.cons (s := 1) rfl (.cons (s := 4) rfl (.cons (s := 5) rfl (.cons (s := 6) rfl (.cons (s := 7) rfl .nil)))))))) (.cons Sel.here .refl .nil))
                                      · have g112' := g112
                                        try simp only [decide_eq_true_eq, decide_eq_false_iff_not, beq_iff_eq, beq_eq_false_iff_ne, bne_iff_ne, bne_eq_false_iff_eq, Bool.not_eq_true', Bool.not_eq_false', ne_eq, Int.not_lt, Int.not_le, Decidable.not_not] at g112'
                                        refine run_skip ?_
                                        refine run_seq ?_
                                        refine run_region ?_
                                        refine run_q (.none rfl) rfl rfl (q_move rfl rfl) ?_
                                        refine run_q (.none rfl) rfl rfl (q_add rfl rfl rfl (by have := cntE_le ts (nth ts i) e j; omega)) ?_
                                        refine run_q (.none rfl) rfl rfl (q_assign rfl rfl) ?_
                                        refine run_nil ?_
                                        refine run_sub (subMk (.cons (s := 0) rfl (.cons (s := 1) rfl (.cons (s := 4) rfl (.cons (s := 5) rfl (.cons (s := 6) rfl (.cons (s := 7) rfl (.cons (s := 8) rfl (.cons (s := 9) rfl .nil)))))))) .refl) ?_
                                        refine run_seq ?_
                                        refine run_draw [(0, 0), (1, 0), (2, 0), (3, 0), (4, 0), (5, 0), (6, 0)] mixed (by kernel_rfl) .refl ?_
                                        refine d_q rfl rfl (.none rfl) rfl rfl (q_loadBN rfl agg45 rfl Sel.here (.cons rfl (.cons rfl (.cons rfl (.cons rfl CellsAt.nil)))) rfl) ?_
                                        refine d_q rfl rfl (.none rfl) rfl rfl (q_move rfl rfl) ?_
                                        refine d_q rfl rfl (.none rfl) rfl rfl (q_move rfl rfl) ?_
                                        refine d_q rfl rfl (.none rfl) rfl rfl (q_indexS (q := j) rfl Try.underlying27 sz45 rfl rfl (.inp hr .no) (by simp <;> omega) rfl (by omega)) ?_
                                        refine d_q rfl rfl (.none rfl) rfl rfl (q_loadE rfl agg45 rfl (.inp hr .no) (getmap (by omega)) rfl) ?_
                                        refine d_q rfl rfl (.none rfl) rfl rfl (q_call rfl call24 (.cons rfl (.cons rfl Evs.nil)) (fun w hk hm => within_just (nth ts i) (nth ts j) w (propT_ok hp (by omega)) (propT_ok (errT_zero (hg j (by omega))).1 (by omega)))) ?_
                                        refine d_q rfl rfl (.none rfl) rfl rfl (q_not rfl rfl) ?_
                                        refine d_nil ?_
                                        refine run_sub (subMk (.cons (s := 0) rfl (.cons (s := 1) rfl (.cons (s := 4) rfl (.cons (s := 5) rfl (.cons (s := 6) rfl (.cons (s := 7) rfl (.cons (s := 8) rfl (.cons (s := 9) rfl (.cons (s := 121) rfl .nil))))))))) .refl) ?_
                                        refine run_cond rfl (fun g121 => ?_) (fun g121 => ?_)
                                        · have g121' := g121
                                          try simp only [decide_eq_true_eq, decide_eq_false_iff_not, beq_iff_eq, beq_eq_false_iff_ne, bne_iff_ne, bne_eq_false_iff_eq, Bool.not_eq_true', Bool.not_eq_false', ne_eq, Int.not_lt, Int.not_le, Decidable.not_not] at g121'
                                          refine run_seq ?_
                                          refine run_region ?_
                                          refine run_q (.none rfl) rfl rfl (q_assign rfl rfl) ?_
                                          refine run_nil ?_
                                          refine run_ret ?_
                                          exact end1 rfl rfl (by rw [checkV_hit (by omega) (by omega) (by omega) hg (by omega) (errT_21 hp ha (bad_out (j := j) (e := e) hg ha (by omega) (by omega) (by simpa using g104) (by simpa using g112) (by simpa using g121))) (by omega)])
                                        · have g121' := g121
                                          try simp only [decide_eq_true_eq, decide_eq_false_iff_not, beq_iff_eq, beq_eq_false_iff_ne, bne_iff_ne, bne_eq_false_iff_eq, Bool.not_eq_true', Bool.not_eq_false', ne_eq, Int.not_lt, Int.not_le, Decidable.not_not] at g121'
                                          refine run_skip ?_
                                          refine run_blk ?_
                                          refine run_region ?_
                                          refine run_q (.none rfl) rfl rfl (q_move rfl rfl) ?_
                                          refine run_q (.none rfl) rfl rfl (q_add rfl rfl rfl (by omega)) ?_
                                          refine run_q (.none rfl) rfl rfl (q_assign rfl rfl) ?_
                                          refine run_nil ?_
                                          refine run_sub (subMk (.cons (s := 0) rfl (.cons (s := 1) rfl (.cons (s := 4) rfl (.cons (s := 5) rfl (.cons (s := 6) rfl (.cons (s := 7) rfl (.cons (s := 8) rfl (.cons (s := 9) rfl .nil)))))))) .refl) ?_
                                          exact run_again (j + 1) (by (try dsimp only); exact ⟨by omega, hok.succ (fun _ _ => by simpa using g121)⟩) (by (try dsimp only); omega) (subMk (.cons' (s := 9) rfl rfl (.cons' (s := 8) rfl (vint (by rw [(cntE_in (by omega) (by simpa using g104) (by simpa using g112))]; rfl)) (.cons (s := 0) rfl (.cons (s := 1) rfl (.cons (s := 4) rfl (.cons (s := 5) rfl (.cons (s := 6) rfl (.cons (s := 7) rfl .nil)))))))) (.cons Sel.here .refl .nil))
                                  · have g97' := g97
                                    try simp only [decide_eq_true_eq, decide_eq_false_iff_not, beq_iff_eq, beq_eq_false_iff_ne, bne_iff_ne, bne_eq_false_iff_eq, Bool.not_eq_true', Bool.not_eq_false', ne_eq, Int.not_lt, Int.not_le, Decidable.not_not] at g97'
                                    refine run_exit rfl ?_
                                    refine run_sub (subMk (.cons (s := 0) rfl (.cons (s := 1) rfl (.cons (s := 4) rfl (.cons (s := 5) rfl (.cons (s := 6) rfl (.cons (s := 7) rfl (.cons (s := 8) rfl .nil))))))) .refl) ?_
                                    refine run_seq ?_
                                    refine run_region ?_
                                    refine run_q (.none rfl) rfl rfl (q_move rfl rfl) ?_
                                    refine run_q (.none rfl) rfl rfl (q_geq rfl rfl rfl) ?_
                                    refine run_nil ?_
                                    refine run_cond rfl (fun g123 => ?_) (fun g123 => ?_)
                                    · have g123' := g123
                                      try simp only [decide_eq_true_eq, decide_eq_false_iff_not, beq_iff_eq, beq_eq_false_iff_ne, bne_iff_ne, bne_eq_false_iff_eq, Bool.not_eq_true', Bool.not_eq_false', ne_eq, Int.not_lt, Int.not_le, Decidable.not_not] at g123'
                                      refine run_seq ?_
                                      refine run_region ?_
                                      refine run_q (.none rfl) rfl rfl (q_assign rfl rfl) ?_
                                      refine run_nil ?_
                                      refine run_sub (subMk (.cons (s := 0) rfl (.cons (s := 1) rfl (.cons (s := 4) rfl (.cons (s := 5) rfl (.cons (s := 6) rfl (.cons (s := 7) rfl .nil)))))) .refl) ?_
                                      refine run_ret ?_
                                      exact end1 rfl rfl (by rw [checkV_hit (by omega) (by omega) (by omega) hg (by omega) (errT_21 hp ha (bad_deep (e := e) (by have hji : j = i := (by omega); have hz := g123'; rw [hji] at hz; omega))) (by omega)])
                                    · have g123' := g123
                                      try simp only [decide_eq_true_eq, decide_eq_false_iff_not, beq_iff_eq, beq_eq_false_iff_ne, bne_iff_ne, bne_eq_false_iff_eq, Bool.not_eq_true', Bool.not_eq_false', ne_eq, Int.not_lt, Int.not_le, Decidable.not_not] at g123'
                                      refine run_skip ?_
                                      refine run_blk ?_
                                      refine run_region ?_
                                      refine run_q (.none rfl) rfl rfl (q_move rfl rfl) ?_
                                      refine run_q (.none rfl) rfl rfl (q_add rfl rfl rfl (by omega)) ?_
                                      refine run_q (.none rfl) rfl rfl (q_assign rfl rfl) ?_
                                      refine run_nil ?_
                                      refine run_sub (subMk (.cons (s := 0) rfl (.cons (s := 1) rfl (.cons (s := 4) rfl (.cons (s := 5) rfl (.cons (s := 6) rfl (.cons (s := 7) rfl .nil)))))) .refl) ?_
                                      exact run_again (e + 1) (by (try dsimp only); exact ⟨by omega, okE_end hok (by omega) (by omega) hall⟩) (by (try dsimp only); omega) (subMk (.cons' (s := 7) rfl rfl (.cons (s := 0) rfl (.cons (s := 1) rfl (.cons (s := 4) rfl (.cons (s := 5) rfl (.cons (s := 6) rfl .nil)))))) (.cons Sel.here .refl .nil))
                                · have g92' := g92
                                  try simp only [decide_eq_true_eq, decide_eq_false_iff_not, beq_iff_eq, beq_eq_false_iff_ne, bne_iff_ne, bne_eq_false_iff_eq, Bool.not_eq_true', Bool.not_eq_false', ne_eq, Int.not_lt, Int.not_le, Decidable.not_not] at g92'
                                  refine run_exit rfl ?_
                                  refine run_sub (subMk (.cons (s := 0) rfl (.cons (s := 1) rfl (.cons (s := 4) rfl (.cons (s := 5) rfl .nil)))) .refl) ?_
                                  refine run_blk ?_
                                  refine run_region ?_
                                  refine run_q (.none rfl) rfl rfl (q_move rfl rfl) ?_
                                  refine run_q (.none rfl) rfl rfl (q_add rfl rfl rfl (by omega)) ?_
                                  refine run_q (.none rfl) rfl rfl (q_assign rfl rfl) ?_
                                  refine run_nil ?_
                                  exact run_again (i + 1) (by (try dsimp only); exact ⟨by omega, hg.succ (errT_of hp ha (not_bad hg hp ha (fun x hx => hall x (by omega))))⟩) (by (try dsimp only); omega) (subMk (.cons' (s := 5) rfl rfl (.cons (s := 0) rfl (.cons (s := 1) rfl (.cons (s := 4) rfl .nil)))) .nil)
                            · have g81' := g81
                              try simp only [decide_eq_true_eq, decide_eq_false_iff_not, beq_iff_eq, beq_eq_false_iff_ne, bne_iff_ne, bne_eq_false_iff_eq, Bool.not_eq_true', Bool.not_eq_false', ne_eq, Int.not_lt, Int.not_le, Decidable.not_not] at g81'
                              refine d_off rfl rfl (.no rfl rfl rfl g81) rfl rfl ?_
                              refine d_off rfl rfl (.no rfl rfl rfl g81) rfl rfl ?_
                              refine d_off rfl rfl (.no rfl rfl rfl g81) rfl rfl ?_
                              refine d_off rfl rfl (.no rfl rfl rfl g81) rfl rfl ?_
                              refine d_off rfl rfl (.no rfl rfl rfl g81) rfl rfl ?_
                              refine d_off rfl rfl (.no rfl rfl rfl g81) rfl rfl ?_
                              refine d_off rfl rfl (.no rfl rfl rfl g81) rfl rfl ?_
                              refine d_q rfl rfl (.none rfl) rfl rfl (q_pickF rfl rfl g81 rfl) ?_
                              refine d_nil ?_
                              refine run_sub (subMk (.cons (s := 0) rfl (.cons (s := 1) rfl (.cons (s := 4) rfl (.cons (s := 5) rfl (.cons (s := 6) rfl (.cons (s := 89) rfl .nil)))))) .refl) ?_
                              refine run_condF rfl rfl ?_
                              refine run_skip ?_
                              refine run_seq ?_
                              have ha : 0 < i → ¬ aftT (nth ts i) (nth ts (i - 1)) := by first | (intro h0; exact absurd h0 (by omega)) | (intro _; exact g89')
                              refine run_region ?_
                              refine run_q (.none rfl) rfl rfl (q_assign rfl rfl) ?_
                              refine run_nil ?_
                              refine run_block ?_
                              refine run_sub (subMk (.cons (s := 7) rfl (.cons (s := 0) rfl (.cons (s := 1) rfl (.cons (s := 4) rfl (.cons (s := 5) rfl (.cons (s := 6) rfl .nil)))))) (.cons Sel.here .refl .nil)) ?_
                              refine run_loopC1M0 (ι := Nat) (fun e => (e : Int) ≤ n ∧ ∀ x : Nat, x < e → OkE ts i x i ∧ cntE ts (nth ts i) x i < 3) (fun e => .int .i64 (e : Int))  (fun e => n.toNat - e) 0 (by (try dsimp only); exact ⟨by omega, fun x hx => absurd hx (by omega)⟩) rfl  ?_
                              rintro e hq
                              (try dsimp only at hq)
                              obtain ⟨he, hall⟩ := hq
                              show Run _ _ _ _ _ _ _ ⟨(7, .int .i64 (e : Int)) :: _, _⟩
                              refine run_seq ?_
                              refine run_seq ?_
                              refine run_region ?_
                              refine run_q (.none rfl) rfl rfl (q_move rfl rfl) ?_
                              refine run_q (.none rfl) rfl rfl (q_move rfl rfl) ?_
                              refine run_q (.none rfl) rfl rfl (q_lss rfl rfl rfl) ?_
                              refine run_nil ?_
                              refine run_cond rfl (fun g92 => ?_) (fun g92 => ?_)
                              · have g92' := g92
                                try simp only [decide_eq_true_eq, decide_eq_false_iff_not, beq_iff_eq, beq_eq_false_iff_ne, bne_iff_ne, bne_eq_false_iff_eq, Bool.not_eq_true', Bool.not_eq_false', ne_eq, Int.not_lt, Int.not_le, Decidable.not_not] at g92'
                                refine run_skip ?_
                                refine run_seq ?_
                                refine run_block ?_
                                refine run_seq ?_
                                refine run_region ?_
                                refine run_q (.none rfl) rfl rfl (q_assign rfl rfl) ?_
                                refine run_nil ?_
                                refine run_sub (subMk (.cons (s := 0) rfl (.cons (s := 1) rfl (.cons (s := 4) rfl (.cons (s := 5) rfl (.cons (s := 6) rfl (.cons (s := 7) rfl (.cons (s := 8) rfl .nil))))))) .refl) ?_
                                refine run_seq ?_
                                refine run_seq ?_
                                refine run_region ?_
                                refine run_q (.none rfl) rfl rfl (q_assign rfl rfl) ?_
                                refine run_nil ?_
                                refine run_block ?_
                                refine run_sub (subMk (.cons (s := 9) rfl (.cons (s := 8) rfl (.cons (s := 0) rfl (.cons (s := 1) rfl (.cons (s := 4) rfl (.cons (s := 5) rfl (.cons (s := 6) rfl (.cons (s := 7) rfl .nil)))))))) (.cons Sel.here .refl .nil)) ?_
                                refine run_loopC2M0 (ι := Nat) (fun j => j ≤ i ∧ OkE ts i e j) (fun j => .int .i64 (j : Int)) (fun j => .int .i64 (cntE ts (nth ts i) e j : Int))  (fun j => i - j) 0 (by (try dsimp only); exact ⟨by omega, OkE.zero⟩) rfl (vint (by rw [cntE_zero]; rfl))  ?_
                                rintro j hq
                                (try dsimp only at hq)
                                obtain ⟨hj, hok⟩ := hq
                                show Run _ _ _ _ _ _ _ ⟨(9, .int .i64 (j : Int)) :: (8, .int .i64 (cntE ts (nth ts i) e j : Int)) :: _, _⟩
                                refine run_seq ?_
                                refine run_seq ?_
                                refine run_region ?_
                                refine run_q (.none rfl) rfl rfl (q_move rfl rfl) ?_
                                refine run_q (.none rfl) rfl rfl (q_move rfl rfl) ?_
                                refine run_q (.none rfl) rfl rfl (q_lss rfl rfl rfl) ?_
                                refine run_nil ?_
                                refine run_cond rfl (fun g97 => ?_) (fun g97 => ?_)
                                · have g97' := g97
                                  try simp only [decide_eq_true_eq, decide_eq_false_iff_not, beq_iff_eq, beq_eq_false_iff_ne, bne_iff_ne, bne_eq_false_iff_eq, Bool.not_eq_true', Bool.not_eq_false', ne_eq, Int.not_lt, Int.not_le, Decidable.not_not] at g97'
                                  refine run_skip ?_
                                  refine run_seq ?_
                                  refine run_block ?_
                                  refine run_seq ?_
                                  refine run_seq ?_
                                  refine run_region ?_
                                  refine run_q (.none rfl) rfl rfl (q_loadBN rfl agg45 rfl Sel.here (.cons rfl (.cons rfl (.cons rfl (.cons rfl CellsAt.nil)))) rfl) ?_
                                  refine run_q (.none rfl) rfl rfl (q_move rfl rfl) ?_
                                  refine run_q (.none rfl) rfl rfl (q_call rfl call22 (.cons rfl (.cons rfl Evs.nil)) (fun w hk hm => in_just (nth ts i) e w (propT_ok hp (by omega)))) ?_
                                  refine run_q (.none rfl) rfl rfl (q_not rfl rfl) ?_
                                  refine run_q (.none rfl) rfl rfl (q_move rfl rfl) ?_
                                  refine run_split 104 rfl (fun g104 => ?_) (fun g104 => ?_)
                                  · have g104' := g104
                                    try simp only [decide_eq_true_eq, decide_eq_false_iff_not, beq_iff_eq, beq_eq_false_iff_ne, bne_iff_ne, bne_eq_false_iff_eq, Bool.not_eq_true', Bool.not_eq_false', ne_eq, Int.not_lt, Int.not_le, Decidable.not_not] at g104'
                                    refine run_off (.no rfl rfl rfl g104) rfl rfl ?_
                                    refine run_off (.no rfl rfl rfl g104) rfl rfl ?_
                                    refine run_off (.no rfl rfl rfl g104) rfl rfl ?_
                                    refine run_off (.no rfl rfl rfl g104) rfl rfl ?_
                                    refine run_off (.no rfl rfl rfl g104) rfl rfl ?_
                                    refine run_off (.no rfl rfl rfl g104) rfl rfl ?_
                                    refine run_off (.no rfl rfl rfl g104) rfl rfl ?_
                                    refine run_q (.none rfl) rfl rfl (q_pickT rfl rfl g104 rfl) ?_
                                    refine run_nil ?_
                                    refine run_sub (subMk (.cons (s := 0) rfl (.cons (s := 1) rfl (.cons (s := 4) rfl (.cons (s := 5) rfl (.cons (s := 6) rfl (.cons (s := 7) rfl (.cons (s := 8) rfl (.cons (s := 9) rfl (.cons (s := 112) rfl .nil))))))))) .refl) ?_
                                    refine run_condT rfl rfl ?_
                                    refine run_exit rfl ?_
                                    refine run_region ?_
                                    refine run_q (.none rfl) rfl rfl (q_move rfl rfl) ?_
                                    refine run_q (.none rfl) rfl rfl (q_add rfl rfl rfl (by omega)) ?_
                                    refine run_q (.none rfl) rfl rfl (q_assign rfl rfl) ?_
                                    refine run_nil ?_
                                    refine run_sub (subMk (.cons (s := 0) rfl (.cons (s := 1) rfl (.cons (s := 4) rfl (.cons (s := 5) rfl (.cons (s := 6) rfl (.cons (s := 7) rfl (.cons (s := 8) rfl (.cons (s := 9) rfl .nil)))))))) .refl) ?_
                                    exact run_again (j + 1) (by (try dsimp only); exact ⟨by omega, hok.succ (fun h _ => by simp [h] at g104)⟩) (by (try dsimp only); omega) (subMk (.cons' (s := 9) rfl rfl (.cons' (s := 8) rfl (vint (by rw [(cntE_out (by omega) (.inl (by simpa using g104)))])) (.cons (s := 0) rfl (.cons (s := 1) rfl (.cons (s := 4) rfl (.cons (s := 5) rfl (.cons (s := 6) rfl (.cons (s := 7) rfl .nil)))))))) (.cons Sel.here .refl .nil))
                                  · have g104' := g104
                                    try simp only [decide_eq_true_eq, decide_eq_false_iff_not, beq_iff_eq, beq_eq_false_iff_ne, bne_iff_ne, bne_eq_false_iff_eq, Bool.not_eq_true', Bool.not_eq_false', ne_eq, Int.not_lt, Int.not_le, Decidable.not_not] at g104'
                                    refine run_q (.on rfl rfl rfl g104) rfl rfl (q_move rfl rfl) ?_
                                    refine run_q (.on rfl rfl rfl g104) rfl rfl (q_move rfl rfl) ?_
                                    refine run_q (.on rfl rfl rfl g104) rfl rfl (q_indexS (q := j) rfl Try.underlying27 sz45 rfl rfl (.inp hr .no) (by simp <;> omega) rfl (by omega)) ?_
                                    refine run_q (.on rfl rfl rfl g104) rfl rfl (q_loadE rfl agg45 rfl (.inp hr .no) (getmap (by omega)) rfl) ?_
                                    refine run_q (.on rfl rfl rfl g104) rfl rfl (q_move rfl rfl) ?_
                                    refine run_q (.on rfl rfl rfl g104) rfl rfl (q_call rfl call22 (.cons rfl (.cons rfl Evs.nil)) (fun w hk hm => in_just (nth ts j) e w (propT_ok (errT_zero (hg j (by omega))).1 (by omega)))) ?_
                                    refine run_q (.on rfl rfl rfl g104) rfl rfl (q_not rfl rfl) ?_
                                    refine run_q (.none rfl) rfl rfl (q_pickF rfl rfl g104 rfl) ?_
                                    refine run_nil ?_
                                    refine run_sub (subMk (.cons (s := 0) rfl (.cons (s := 1) rfl (.cons (s := 4) rfl (.cons (s := 5) rfl (.cons (s := 6) rfl (.cons (s := 7) rfl (.cons (s := 8) rfl (.cons (s := 9) rfl (.cons (s := 112) rfl .nil))))))))) .refl) ?_
                                    refine run_cond rfl (fun g112 => ?_) (fun g112 => ?_)
                                    · have g112' := g112
                                      try simp only [decide_eq_true_eq, decide_eq_false_iff_not, beq_iff_eq, beq_eq_false_iff_ne, bne_iff_ne, bne_eq_false_iff_eq, Bool.not_eq_true', Bool.not_eq_false', ne_eq, Int.not_lt, Int.not_le, Decidable.not_not] at g112'
                                      refine run_exit rfl ?_
                                      refine run_region ?_
                                      refine run_q (.none rfl) rfl rfl (q_move rfl rfl) ?_
                                      refine run_q (.none rfl) rfl rfl (q_add rfl rfl rfl (by omega)) ?_
                                      refine run_q (.none rfl) rfl rfl (q_assign rfl rfl) ?_
                                      refine run_nil ?_
                                      refine run_sub (subMk (.cons (s := 0) rfl (.cons (s := 1) rfl (.cons (s := 4) rfl (.cons (s := 5) rfl (.cons (s := 6) rfl (.cons (s := 7) rfl (.cons (s := 8) rfl (.cons (s := 9) rfl .nil)))))))) .refl) ?_
                                      exact run_again (j + 1) (by (try dsimp only); exact ⟨by omega, hok.succ (fun _ h => by simp [h] at g112)⟩) (by (try dsimp only); omega) (subMk (.cons' (s := 9) rfl rfl (.cons' (s := 8) rfl (vint (by rw [(cntE_out (by omega) (.inr (by simpa using g112)))])) (.cons (s := 0) rfl (.cons (s := 1) rfl (.cons (s := 4) rfl (.cons (s := 5) rfl (.cons (s := 6) rfl (.cons (s := 7) rfl .nil)))))))) (.cons Sel.here .refl .nil))
                                    · have g112' := g112
                                      try simp only [decide_eq_true_eq, decide_eq_false_iff_not, beq_iff_eq, beq_eq_false_iff_ne, bne_iff_ne, bne_eq_false_iff_eq, Bool.not_eq_true', Bool.not_eq_false', ne_eq, Int.not_lt, Int.not_le, Decidable.not_not] at g112'
                                      refine run_skip ?_
                                      refine run_seq ?_
                                      refine run_region ?_
                                      refine run_q (.none rfl) rfl rfl (q_move rfl rfl) ?_
                                      refine run_q (.none rfl) rfl rfl (q_add rfl rfl rfl (by have := cntE_le ts (nth ts i) e j; omega)) ?_
                                      refine run_q (.none rfl) rfl rfl (q_assign rfl rfl) ?_
                                      refine run_nil ?_
                                      refine run_sub (subMk (.cons (s := 0) rfl (.cons (s := 1) rfl (.cons (s := 4) rfl (.cons (s := 5) rfl (.cons (s := 6) rfl (.cons (s := 7) rfl (.cons (s := 8) rfl (.cons (s := 9) rfl .nil)))))))) .refl) ?_
                                      refine run_seq ?_
                                      refine run_draw [(0, 0), (1, 0), (2, 0), (3, 0), (4, 0), (5, 0), (6, 0)] mixed (by kernel_rfl) .refl ?_
                                      refine d_q rfl rfl (.none rfl) rfl rfl (q_loadBN rfl agg45 rfl Sel.here (.cons rfl (.cons rfl (.cons rfl (.cons rfl CellsAt.nil)))) rfl) ?_
                                      refine d_q rfl rfl (.none rfl) rfl rfl (q_move rfl rfl) ?_
                                      refine d_q rfl rfl (.none rfl) rfl rfl (q_move rfl rfl) ?_
                                      refine d_q rfl rfl (.none rfl) rfl rfl (q_indexS (q := j) rfl Try.underlying27 sz45 rfl rfl (.inp hr .no) (by simp <;> omega) rfl (by omega)) ?_
                                      refine d_q rfl rfl (.none rfl) rfl rfl (q_loadE rfl agg45 rfl (.inp hr .no) (getmap (by omega)) rfl) ?_
                                      refine d_q rfl rfl (.none rfl) rfl rfl (q_call rfl call24 (.cons rfl (.cons rfl Evs.nil)) (fun w hk hm => within_just (nth ts i) (nth ts j) w (propT_ok hp (by omega)) (propT_ok (errT_zero (hg j (by omega))).1 (by omega)))) ?_
                                      refine d_q rfl rfl (.none rfl) rfl rfl (q_not rfl rfl) ?_
                                      refine d_nil ?_
                                      refine run_sub (subMk (.cons (s := 0) rfl (.cons (s := 1) rfl (.cons (s := 4) rfl (.cons (s := 5) rfl (.cons (s := 6) rfl (.cons (s := 7) rfl (.cons (s := 8) rfl (.cons (s := 9) rfl (.cons (s := 121) rfl .nil))))))))) .refl) ?_
                                      refine run_cond rfl (fun g121 => ?_) (fun g121 => ?_)
                                      · have g121' := g121
                                        try simp only [decide_eq_true_eq, decide_eq_false_iff_not, beq_iff_eq, beq_eq_false_iff_ne, bne_iff_ne, bne_eq_false_iff_eq, Bool.not_eq_true', Bool.not_eq_false', ne_eq, Int.not_lt, Int.not_le, Decidable.not_not] at g121'
                                        refine run_seq ?_
                                        refine run_region ?_
                                        refine run_q (.none rfl) rfl rfl (q_assign rfl rfl) ?_
                                        refine run_nil ?_
                                        refine run_ret ?_
                                        exact end1 rfl rfl (by rw [checkV_hit (by omega) (by omega) (by omega) hg (by omega) (errT_21 hp ha (bad_out (j := j) (e := e) hg ha (by omega) (by omega) (by simpa using g104) (by simpa using g112) (by simpa using g121))) (by omega)])
                                      · have g121' := g121
                                        try simp only [decide_eq_true_eq, decide_eq_false_iff_not, beq_iff_eq, beq_eq_false_iff_ne, bne_iff_ne, bne_eq_false_iff_eq, Bool.not_eq_true', Bool.not_eq_false', ne_eq, Int.not_lt, Int.not_le, Decidable.not_not] at g121'
                                        refine run_skip ?_
                                        refine run_blk ?_
                                        refine run_region ?_
                                        refine run_q (.none rfl) rfl rfl (q_move rfl rfl) ?_
                                        refine run_q (.none rfl) rfl rfl (q_add rfl rfl rfl (by omega)) ?_
                                        refine run_q (.none rfl) rfl rfl (q_assign rfl rfl) ?_
                                        refine run_nil ?_
                                        refine run_sub (subMk (.cons (s := 0) rfl (.cons (s := 1) rfl (.cons (s := 4) rfl (.cons (s := 5) rfl (.cons (s := 6) rfl (.cons (s := 7) rfl (.cons (s := 8) rfl (.cons (s := 9) rfl .nil)))))))) .refl) ?_
                                        exact run_again (j + 1) (by (try dsimp only); exact ⟨by omega, hok.succ (fun _ _ => by simpa using g121)⟩) (by (try dsimp only); omega) (subMk (.cons' (s := 9) rfl rfl (.cons' (s := 8) rfl (vint (by rw [(cntE_in (by omega) (by simpa using g104) (by simpa using g112))]; rfl)) (.cons (s := 0) rfl (.cons (s := 1) rfl (.cons (s := 4) rfl (.cons (s := 5) rfl (.cons (s := 6) rfl (.cons (s := 7) rfl .nil)))))))) (.cons Sel.here .refl .nil))
                                · have g97' := g97
                                  try simp only [decide_eq_true_eq, decide_eq_false_iff_not, beq_iff_eq, beq_eq_false_iff_ne, bne_iff_ne, bne_eq_false_iff_eq, Bool.not_eq_true', Bool.not_eq_false', ne_eq, Int.not_lt, Int.not_le, Decidable.not_not] at g97'
                                  refine run_exit rfl ?_
                                  refine run_sub (subMk (.cons (s := 0) rfl (.cons (s := 1) rfl (.cons (s := 4) rfl (.cons (s := 5) rfl (.cons (s := 6) rfl (.cons (s := 7) rfl (.cons (s := 8) rfl .nil))))))) .refl) ?_
                                  refine run_seq ?_
                                  refine run_region ?_
                                  refine run_q (.none rfl) rfl rfl (q_move rfl rfl) ?_
                                  refine run_q (.none rfl) rfl rfl (q_geq rfl rfl rfl) ?_
                                  refine run_nil ?_
                                  refine run_cond rfl (fun g123 => ?_) (fun g123 => ?_)
                                  · have g123' := g123
                                    try simp only [decide_eq_true_eq, decide_eq_false_iff_not, beq_iff_eq, beq_eq_false_iff_ne, bne_iff_ne, bne_eq_false_iff_eq, Bool.not_eq_true', Bool.not_eq_false', ne_eq, Int.not_lt, Int.not_le, Decidable.not_not] at g123'
                                    refine run_seq ?_
                                    refine run_region ?_
                                    refine run_q (.none rfl) rfl rfl (q_assign rfl rfl) ?_
                                    refine run_nil ?_
                                    refine run_sub (subMk (.cons (s := 0) rfl (.cons (s := 1) rfl (.cons (s := 4) rfl (.cons (s := 5) rfl (.cons (s := 6) rfl (.cons (s := 7) rfl .nil)))))) .refl) ?_
                                    refine run_ret ?_
                                    exact end1 rfl rfl (by rw [checkV_hit (by omega) (by omega) (by omega) hg (by omega) (errT_21 hp ha (bad_deep (e := e) (by have hji : j = i := (by omega); have hz := g123'; rw [hji] at hz; omega))) (by omega)])
                                  · have g123' := g123
                                    try simp only [decide_eq_true_eq, decide_eq_false_iff_not, beq_iff_eq, beq_eq_false_iff_ne, bne_iff_ne, bne_eq_false_iff_eq, Bool.not_eq_true', Bool.not_eq_false', ne_eq, Int.not_lt, Int.not_le, Decidable.not_not] at g123'
                                    refine run_skip ?_
                                    refine run_blk ?_
                                    refine run_region ?_
                                    refine run_q (.none rfl) rfl rfl (q_move rfl rfl) ?_
                                    refine run_q (.none rfl) rfl rfl (q_add rfl rfl rfl (by omega)) ?_
                                    refine run_q (.none rfl) rfl rfl (q_assign rfl rfl) ?_
                                    refine run_nil ?_
                                    refine run_sub (subMk (.cons (s := 0) rfl (.cons (s := 1) rfl (.cons (s := 4) rfl (.cons (s := 5) rfl (.cons (s := 6) rfl (.cons (s := 7) rfl .nil)))))) .refl) ?_
                                    exact run_again (e + 1) (by (try dsimp only); exact ⟨by omega, okE_end hok (by omega) (by omega) hall⟩) (by (try dsimp only); omega) (subMk (.cons' (s := 7) rfl rfl (.cons (s := 0) rfl (.cons (s := 1) rfl (.cons (s := 4) rfl (.cons (s := 5) rfl (.cons (s := 6) rfl .nil)))))) (.cons Sel.here .refl .nil))
                              · have g92' := g92
                                try simp only [decide_eq_true_eq, decide_eq_false_iff_not, beq_iff_eq, beq_eq_false_iff_ne, bne_iff_ne, bne_eq_false_iff_eq, Bool.not_eq_true', Bool.not_eq_false', ne_eq, Int.not_lt, Int.not_le, Decidable.not_not] at g92'
                                refine run_exit rfl ?_
                                refine run_sub (subMk (.cons (s := 0) rfl (.cons (s := 1) rfl (.cons (s := 4) rfl (.cons (s := 5) rfl .nil)))) .refl) ?_
                                refine run_blk ?_
                                refine run_region ?_
                                refine run_q (.none rfl) rfl rfl (q_move rfl rfl) ?_
                                refine run_q (.none rfl) rfl rfl (q_add rfl rfl rfl (by omega)) ?_
                                refine run_q (.none rfl) rfl rfl (q_assign rfl rfl) ?_
                                refine run_nil ?_
                                exact run_again (i + 1) (by (try dsimp only); exact ⟨by omega, hg.succ (errT_of hp ha (not_bad hg hp ha (fun x hx => hall x (by omega))))⟩) (by (try dsimp only); omega) (subMk (.cons' (s := 5) rfl rfl (.cons (s := 0) rfl (.cons (s := 1) rfl (.cons (s := 4) rfl .nil)))) .nil)
        · have g22' := g22
          try simp only [decide_eq_true_eq, decide_eq_false_iff_not, beq_iff_eq, beq_eq_false_iff_ne, bne_iff_ne, bne_eq_false_iff_eq, Bool.not_eq_true', Bool.not_eq_false', ne_eq, Int.not_lt, Int.not_le, Decidable.not_not] at g22'
          refine run_exit rfl ?_
          refine run_sub (subMk (.cons (s := 4) rfl .nil) .refl) ?_
          refine run_seq ?_
          refine run_region ?_
          refine run_q (.none rfl) rfl rfl (q_assign rfl rfl) ?_
          refine run_nil ?_
          refine run_ret ?_
          exact end1 rfl rfl (by rw [checkV_of (by omega) (by omega) (by omega) (fun j hj => hg j (by omega))])

end Go.Proofs.Yticofkkkafhpiaa
