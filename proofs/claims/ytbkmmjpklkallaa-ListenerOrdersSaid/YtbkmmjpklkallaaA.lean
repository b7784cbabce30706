/- The small functions. -/
import Derived.Test.YtbkmmjpklkallaaProg
import Derived.Test.YtbkmmjpklkallaaPlain
set_option linter.unusedSimpArgs false
set_option linter.unusedVariables false
namespace Go.Proofs.Ytbkmmjpklkallaa
open Go Go.RowKit Hr

theorem sz3 : Hr.Sz Try.prog 3 1 := Hr.Sz.of (by kernel_rfl)
theorem one3 : Hr.One Try.prog 3 := ⟨fun w => by simp [isAgg, run_underlying Try.underlying3], Hr.Sz.of (by kernel_rfl)⟩
theorem call42 : Hr.Callable Try.prog 42 := fun args w => by kernel_rfl
theorem sz29 : Hr.Sz Try.prog 29 1 := Hr.Sz.of (by kernel_rfl)
theorem one29 : Hr.One Try.prog 29 := ⟨fun w => by simp [isAgg, run_underlying Try.underlying29], Hr.Sz.of (by kernel_rfl)⟩
theorem sz47 : Hr.Sz Try.prog 47 7 := Hr.Sz.of (by kernel_rfl)
theorem agg47 : Hr.Agg Try.prog 47 7 := ⟨fun w => by simp [isAgg, run_underlying Try.underlying47], Hr.Sz.of (by kernel_rfl)⟩
theorem info47 : Hr.Info Try.prog 47 [.int .i64 0, .int .i64 0, .int .i64 0, .int .i64 0, .int .i64 0, .int .i64 0, .int .i64 0] 7 56 := Hr.Info.of (by kernel_rfl)
theorem call47 : Hr.Callable Try.prog 47 := fun args w => by kernel_rfl
theorem mixed : Try.prog.follows .mixedOrders = true := by kernel_rfl
theorem built90p0p1p2p3p4 (x0y : Int) (x1y : Int) (x2y : Int) (x3y : Int) (x4y : Int) : Try.prog.built 90 [(0, .int .i64 x0y), (1, .int .i64 x1y), (2, .int .i64 x2y), (3, .int .i64 x3y), (4, .int .i64 x4y)] = some #[.int .i64 x0y, .int .i64 x1y, .int .i64 x2y, .int .i64 x3y, .int .i64 x4y] := by kernel_rfl

theorem in_just (n lo hi : Int) (W : World)  : Calls Try.prog 42 #[.int .i64 n, .int .i64 lo, .int .i64 hi] W (Hr.Just W (.bool (inB n lo hi))) := by
  refine Just.of_ret ?_
  refine enterA (X := nX) (vs := [.int .i64 n, .int .i64 lo, .int .i64 hi]) Try.func42 Try.ntmps42 rfl rfl Mem.nil ?_
  refine run_seq ?_
  refine run_region ?_
  refine run_q (.none rfl) rfl rfl (q_assign rfl rfl) ?_
  refine run_nil ?_
  refine run_seq ?_
  refine run_region ?_
  refine run_q (.none rfl) rfl rfl (q_move rfl rfl) ?_
  refine run_q (.none rfl) rfl rfl (q_move rfl rfl) ?_
  refine run_q (.none rfl) rfl rfl (q_geq rfl rfl rfl) ?_
  refine run_q (.none rfl) rfl rfl (q_move rfl rfl) ?_
  refine run_split 10 rfl (fun g10 => ?_) (fun g10 => ?_)
  · have g10' := g10
    try simp only [decide_eq_true_eq, decide_eq_false_iff_not, beq_iff_eq, beq_eq_false_iff_ne, bne_iff_ne, bne_eq_false_iff_eq, Bool.not_eq_true', Bool.not_eq_false', ne_eq, Int.not_lt, Int.not_le, Decidable.not_not] at g10'
    refine run_q (.on rfl rfl rfl g10) rfl rfl (q_move rfl rfl) ?_
    refine run_q (.on rfl rfl rfl g10) rfl rfl (q_move rfl rfl) ?_
    refine run_q (.on rfl rfl rfl g10) rfl rfl (q_leq rfl rfl rfl) ?_
    refine run_q (.none rfl) rfl rfl (q_pickT rfl rfl g10 rfl) ?_
    refine run_q (.none rfl) rfl rfl (q_assign rfl rfl) ?_
    refine run_nil ?_
    refine run_sub (subMk (.cons (s := 6) rfl .nil) .refl) ?_
    refine run_ret ?_
    exact end1 rfl rfl (by simp [inB]; omega)
  · have g10' := g10
    try simp only [decide_eq_true_eq, decide_eq_false_iff_not, beq_iff_eq, beq_eq_false_iff_ne, bne_iff_ne, bne_eq_false_iff_eq, Bool.not_eq_true', Bool.not_eq_false', ne_eq, Int.not_lt, Int.not_le, Decidable.not_not] at g10'
    refine run_off (.no rfl rfl rfl g10) rfl rfl ?_
    refine run_off (.no rfl rfl rfl g10) rfl rfl ?_
    refine run_off (.no rfl rfl rfl g10) rfl rfl ?_
    refine run_q (.none rfl) rfl rfl (q_pickF rfl rfl g10 rfl) ?_
    refine run_q (.none rfl) rfl rfl (q_assign rfl rfl) ?_
    refine run_nil ?_
    refine run_sub (subMk (.cons (s := 6) rfl .nil) .refl) ?_
    refine run_ret ?_
    exact end1 rfl rfl (by simp [inB]; omega)

theorem kind_just (a b : Note) (W : World)  : Calls Try.prog 43 #[a.val, b.val] W (Hr.Just W (.int .i64 (if a.num = b.num then 1 else 2))) := by
  refine Just.of_ret ?_
  refine enterA (X := nX) (vs := [a.val, b.val]) Try.func43 Try.ntmps43 rfl rfl Mem.nil ?_
  refine run_seq ?_
  refine run_region ?_
  refine run_h (.none rfl) (h_box rfl rfl rfl rfl rfl) ?_
  rintro b2 -
  refine run_h (.none rfl) (h_box rfl rfl rfl rfl rfl) ?_
  rintro b3 -
  refine run_q (.none rfl) rfl rfl (q_assign rfl rfl) ?_
  refine run_nil ?_
  refine run_seq ?_
  refine run_seq ?_
  refine run_region ?_
  refine run_q (.none rfl) rfl rfl (q_fieldB (d := 2) rfl Try.underlying47 rfl rfl sz3 rfl) ?_
  refine run_q (.none rfl) rfl rfl (q_loadB rfl one3 rfl (.there Sel.here) rfl) ?_
  refine run_q (.none rfl) rfl rfl (q_fieldB (d := 2) rfl Try.underlying47 rfl rfl sz3 rfl) ?_
  refine run_q (.none rfl) rfl rfl (q_loadB rfl one3 rfl Sel.here rfl) ?_
  refine run_q (.none rfl) rfl rfl (q_eql rfl rfl rfl) ?_
  refine run_nil ?_
  refine run_sub (subMk (.cons (s := 4) rfl (.cons (s := 9) rfl .nil)) .refl) ?_
  refine run_cond rfl (fun g9 => ?_) (fun g9 => ?_)
  · have g9' := g9
    try simp only [decide_eq_true_eq, decide_eq_false_iff_not, beq_iff_eq, beq_eq_false_iff_ne, bne_iff_ne, bne_eq_false_iff_eq, Bool.not_eq_true', Bool.not_eq_false', ne_eq, Int.not_lt, Int.not_le, Decidable.not_not] at g9'
    refine run_seq ?_
    refine run_region ?_
    refine run_q (.none rfl) rfl rfl (q_assign rfl rfl) ?_
    refine run_nil ?_
    refine run_ret ?_
    exact end1 rfl rfl (by simp [*])
  · have g9' := g9
    try simp only [decide_eq_true_eq, decide_eq_false_iff_not, beq_iff_eq, beq_eq_false_iff_ne, bne_iff_ne, bne_eq_false_iff_eq, Bool.not_eq_true', Bool.not_eq_false', ne_eq, Int.not_lt, Int.not_le, Decidable.not_not] at g9'
    refine run_skip ?_
    refine run_seq ?_
    refine run_region ?_
    refine run_q (.none rfl) rfl rfl (q_assign rfl rfl) ?_
    refine run_nil ?_
    refine run_ret ?_
    exact end1 rfl rfl (by simp [*])

theorem proper_just (p : Note) (W : World)  : Calls Try.prog 47 #[p.val] W (Hr.Just W (.bool (properB p))) := by
  refine Just.of_ret ?_
  refine enterA (X := nX) (vs := [p.val]) Try.func47 Try.ntmps47 rfl rfl Mem.nil ?_
  refine run_seq ?_
  refine run_region ?_
  refine run_h (.none rfl) (h_box rfl rfl rfl rfl rfl) ?_
  rintro b1 -
  refine run_q (.none rfl) rfl rfl (q_assign rfl rfl) ?_
  refine run_nil ?_
  refine run_seq ?_
  refine run_region ?_
  refine run_q (.none rfl) rfl rfl (q_fieldB (d := 0) rfl Try.underlying47 rfl rfl sz3 rfl) ?_
  refine run_q (.none rfl) rfl rfl (q_loadB rfl one3 rfl Sel.here rfl) ?_
  refine run_q (.none rfl) rfl rfl (q_call rfl call42 (.cons rfl (.cons rfl (.cons rfl Evs.nil))) (fun w hk hm => in_just _ _ _ _)) ?_
  refine run_q (.none rfl) rfl rfl (q_move rfl rfl) ?_
  refine run_split 6 rfl (fun g6 => ?_) (fun g6 => ?_)
  · have g6' := g6
    try simp only [decide_eq_true_eq, decide_eq_false_iff_not, beq_iff_eq, beq_eq_false_iff_ne, bne_iff_ne, bne_eq_false_iff_eq, Bool.not_eq_true', Bool.not_eq_false', ne_eq, Int.not_lt, Int.not_le, Decidable.not_not] at g6'
    refine run_q (.on rfl rfl rfl g6) rfl rfl (q_fieldB (d := 1) rfl Try.underlying47 rfl rfl sz3 rfl) ?_
    refine run_q (.on rfl rfl rfl g6) rfl rfl (q_loadB rfl one3 rfl Sel.here rfl) ?_
    refine run_q (.on rfl rfl rfl g6) rfl rfl (q_fieldB (d := 0) rfl Try.underlying47 rfl rfl sz3 rfl) ?_
    refine run_q (.on rfl rfl rfl g6) rfl rfl (q_loadB rfl one3 rfl Sel.here rfl) ?_
    refine run_q (.on rfl rfl rfl g6) rfl rfl (q_call rfl call42 (.cons rfl (.cons rfl (.cons rfl Evs.nil))) (fun w hk hm => in_just _ _ _ _)) ?_
    refine run_q (.none rfl) rfl rfl (q_pickT rfl rfl g6 rfl) ?_
    refine run_q (.none rfl) rfl rfl (q_move rfl rfl) ?_
    refine run_split 13 rfl (fun g13 => ?_) (fun g13 => ?_)
    · have g13' := g13
      try simp only [decide_eq_true_eq, decide_eq_false_iff_not, beq_iff_eq, beq_eq_false_iff_ne, bne_iff_ne, bne_eq_false_iff_eq, Bool.not_eq_true', Bool.not_eq_false', ne_eq, Int.not_lt, Int.not_le, Decidable.not_not] at g13'
      refine run_q (.on rfl rfl rfl g13) rfl rfl (q_fieldB (d := 2) rfl Try.underlying47 rfl rfl sz3 rfl) ?_
      refine run_q (.on rfl rfl rfl g13) rfl rfl (q_loadB rfl one3 rfl Sel.here rfl) ?_
      refine run_q (.on rfl rfl rfl g13) rfl rfl (q_call rfl call42 (.cons rfl (.cons rfl (.cons rfl Evs.nil))) (fun w hk hm => in_just _ _ _ _)) ?_
      refine run_q (.none rfl) rfl rfl (q_pickT rfl rfl g13 rfl) ?_
      refine run_q (.none rfl) rfl rfl (q_move rfl rfl) ?_
      refine run_split 18 rfl (fun g18 => ?_) (fun g18 => ?_)
      · have g18' := g18
        try simp only [decide_eq_true_eq, decide_eq_false_iff_not, beq_iff_eq, beq_eq_false_iff_ne, bne_iff_ne, bne_eq_false_iff_eq, Bool.not_eq_true', Bool.not_eq_false', ne_eq, Int.not_lt, Int.not_le, Decidable.not_not] at g18'
        refine run_q (.on rfl rfl rfl g18) rfl rfl (q_fieldB (d := 3) rfl Try.underlying47 rfl rfl sz3 rfl) ?_
        refine run_q (.on rfl rfl rfl g18) rfl rfl (q_loadB rfl one3 rfl Sel.here rfl) ?_
        refine run_q (.on rfl rfl rfl g18) rfl rfl (q_call rfl call42 (.cons rfl (.cons rfl (.cons rfl Evs.nil))) (fun w hk hm => in_just _ _ _ _)) ?_
        refine run_q (.none rfl) rfl rfl (q_pickT rfl rfl g18 rfl) ?_
        refine run_q (.none rfl) rfl rfl (q_move rfl rfl) ?_
        refine run_split 23 rfl (fun g23 => ?_) (fun g23 => ?_)
        · have g23' := g23
          try simp only [decide_eq_true_eq, decide_eq_false_iff_not, beq_iff_eq, beq_eq_false_iff_ne, bne_iff_ne, bne_eq_false_iff_eq, Bool.not_eq_true', Bool.not_eq_false', ne_eq, Int.not_lt, Int.not_le, Decidable.not_not] at g23'
          refine run_q (.on rfl rfl rfl g23) rfl rfl (q_fieldB (d := 4) rfl Try.underlying47 rfl rfl sz3 rfl) ?_
          refine run_q (.on rfl rfl rfl g23) rfl rfl (q_loadB rfl one3 rfl Sel.here rfl) ?_
          refine run_q (.on rfl rfl rfl g23) rfl rfl (q_geq rfl rfl rfl) ?_
          refine run_q (.none rfl) rfl rfl (q_pickT rfl rfl g23 rfl) ?_
          refine run_q (.none rfl) rfl rfl (q_assign rfl rfl) ?_
          refine run_nil ?_
          refine run_sub (subMk (.cons (s := 2) rfl .nil) .refl) ?_
          refine run_ret ?_
          exact end1 rfl rfl (by simp [properB, *])
        · have g23' := g23
          try simp only [decide_eq_true_eq, decide_eq_false_iff_not, beq_iff_eq, beq_eq_false_iff_ne, bne_iff_ne, bne_eq_false_iff_eq, Bool.not_eq_true', Bool.not_eq_false', ne_eq, Int.not_lt, Int.not_le, Decidable.not_not] at g23'
          refine run_off (.no rfl rfl rfl g23) rfl rfl ?_
          refine run_off (.no rfl rfl rfl g23) rfl rfl ?_
          refine run_off (.no rfl rfl rfl g23) rfl rfl ?_
          refine run_q (.none rfl) rfl rfl (q_pickF rfl rfl g23 rfl) ?_
          refine run_q (.none rfl) rfl rfl (q_assign rfl rfl) ?_
          refine run_nil ?_
          refine run_sub (subMk (.cons (s := 2) rfl .nil) .refl) ?_
          refine run_ret ?_
          exact end1 rfl rfl (by simp [properB, *])
      · have g18' := g18
        try simp only [decide_eq_true_eq, decide_eq_false_iff_not, beq_iff_eq, beq_eq_false_iff_ne, bne_iff_ne, bne_eq_false_iff_eq, Bool.not_eq_true', Bool.not_eq_false', ne_eq, Int.not_lt, Int.not_le, Decidable.not_not] at g18'
        refine run_off (.no rfl rfl rfl g18) rfl rfl ?_
        refine run_off (.no rfl rfl rfl g18) rfl rfl ?_
        refine run_off (.no rfl rfl rfl g18) rfl rfl ?_
        refine run_q (.none rfl) rfl rfl (q_pickF rfl rfl g18 rfl) ?_
        refine run_q (.none rfl) rfl rfl (q_move rfl rfl) ?_
        refine run_off (.no rfl rfl rfl rfl) rfl rfl ?_
        refine run_off (.no rfl rfl rfl rfl) rfl rfl ?_
        refine run_off (.no rfl rfl rfl rfl) rfl rfl ?_
        refine run_q (.none rfl) rfl rfl (q_pickF rfl rfl rfl rfl) ?_
        refine run_q (.none rfl) rfl rfl (q_assign rfl rfl) ?_
        refine run_nil ?_
        refine run_sub (subMk (.cons (s := 2) rfl .nil) .refl) ?_
        refine run_ret ?_
        exact end1 rfl rfl (by simp [properB, *])
    · have g13' := g13
      try simp only [decide_eq_true_eq, decide_eq_false_iff_not, beq_iff_eq, beq_eq_false_iff_ne, bne_iff_ne, bne_eq_false_iff_eq, Bool.not_eq_true', Bool.not_eq_false', ne_eq, Int.not_lt, Int.not_le, Decidable.not_not] at g13'
      refine run_off (.no rfl rfl rfl g13) rfl rfl ?_
      refine run_off (.no rfl rfl rfl g13) rfl rfl ?_
      refine run_off (.no rfl rfl rfl g13) rfl rfl ?_
      refine run_q (.none rfl) rfl rfl (q_pickF rfl rfl g13 rfl) ?_
      refine run_q (.none rfl) rfl rfl (q_move rfl rfl) ?_
      refine run_off (.no rfl rfl rfl rfl) rfl rfl ?_
      refine run_off (.no rfl rfl rfl rfl) rfl rfl ?_
      refine run_off (.no rfl rfl rfl rfl) rfl rfl ?_
      refine run_q (.none rfl) rfl rfl (q_pickF rfl rfl rfl rfl) ?_
      refine run_q (.none rfl) rfl rfl (q_move rfl rfl) ?_
      refine run_off (.no rfl rfl rfl rfl) rfl rfl ?_
      refine run_off (.no rfl rfl rfl rfl) rfl rfl ?_
      refine run_off (.no rfl rfl rfl rfl) rfl rfl ?_
      refine run_q (.none rfl) rfl rfl (q_pickF rfl rfl rfl rfl) ?_
      refine run_q (.none rfl) rfl rfl (q_assign rfl rfl) ?_
      refine run_nil ?_
      refine run_sub (subMk (.cons (s := 2) rfl .nil) .refl) ?_
      refine run_ret ?_
      exact end1 rfl rfl (by simp [properB, *])
  · have g6' := g6
    try simp only [decide_eq_true_eq, decide_eq_false_iff_not, beq_iff_eq, beq_eq_false_iff_ne, bne_iff_ne, bne_eq_false_iff_eq, Bool.not_eq_true', Bool.not_eq_false', ne_eq, Int.not_lt, Int.not_le, Decidable.not_not] at g6'
    refine run_off (.no rfl rfl rfl g6) rfl rfl ?_
    refine run_off (.no rfl rfl rfl g6) rfl rfl ?_
    refine run_off (.no rfl rfl rfl g6) rfl rfl ?_
    refine run_off (.no rfl rfl rfl g6) rfl rfl ?_
    refine run_off (.no rfl rfl rfl g6) rfl rfl ?_
    refine run_q (.none rfl) rfl rfl (q_pickF rfl rfl g6 rfl) ?_
    refine run_q (.none rfl) rfl rfl (q_move rfl rfl) ?_
    refine run_off (.no rfl rfl rfl rfl) rfl rfl ?_
    refine run_off (.no rfl rfl rfl rfl) rfl rfl ?_
    refine run_off (.no rfl rfl rfl rfl) rfl rfl ?_
    refine run_q (.none rfl) rfl rfl (q_pickF rfl rfl rfl rfl) ?_
    refine run_q (.none rfl) rfl rfl (q_move rfl rfl) ?_
    refine run_off (.no rfl rfl rfl rfl) rfl rfl ?_
    refine run_off (.no rfl rfl rfl rfl) rfl rfl ?_
    refine run_off (.no rfl rfl rfl rfl) rfl rfl ?_
    refine run_q (.none rfl) rfl rfl (q_pickF rfl rfl rfl rfl) ?_
    refine run_q (.none rfl) rfl rfl (q_move rfl rfl) ?_
    refine run_off (.no rfl rfl rfl rfl) rfl rfl ?_
    refine run_off (.no rfl rfl rfl rfl) rfl rfl ?_
    refine run_off (.no rfl rfl rfl rfl) rfl rfl ?_
    refine run_q (.none rfl) rfl rfl (q_pickF rfl rfl rfl rfl) ?_
    refine run_q (.none rfl) rfl rfl (q_assign rfl rfl) ?_
    refine run_nil ?_
    refine run_sub (subMk (.cons (s := 2) rfl .nil) .refl) ?_
    refine run_ret ?_
    exact end1 rfl rfl (by simp [properB, *])

theorem first_just (l : List Int) (A : Option Addr) (n c : Nat) (W : World) (hr : Rd W A 1 (l.map encI)) (hn : l.length = n) (hb : n ≤ 1000000000000) : Calls Try.prog 35 #[.slice A n c] W (Hr.Just W (.int .i64 (firstNZ l))) := by
  refine Just.of_ret ?_
  refine enterA (X := nX) (vs := [.slice A n c]) Try.func35 Try.ntmps35 rfl rfl Mem.nil ?_
  refine run_seq ?_
  refine run_region ?_
  refine run_q (.none rfl) rfl rfl (q_assign rfl rfl) ?_
  refine run_nil ?_
  refine run_seq ?_
  refine run_seq ?_
  refine run_region ?_
  refine run_q (.none rfl) rfl rfl (q_move rfl rfl) ?_
  refine run_q (.none rfl) rfl rfl (q_len rfl Try.underlying89 rfl) ?_
  refine run_q (.none rfl) rfl rfl (q_move rfl rfl) ?_
  refine run_nil ?_
  refine run_block ?_
  refine run_sub (subMk (.cons (s := 7) rfl (.cons (s := 2) rfl (.cons (s := 5) rfl (.cons (s := 6) rfl .nil)))) .nil) ?_
  refine run_loopC1M0 (ι := Nat) (fun k => k ≤ n ∧ firstNZ l = firstNZ (l.drop k)) (fun k => .int .i64 (k : Int))  (fun k => n - k) 0 (by (try dsimp only); exact ⟨by omega, rfl⟩) rfl  ?_
  rintro k hq
  (try dsimp only at hq)
  obtain ⟨hk, hinv⟩ := hq
  show Run _ _ _ _ _ _ _ ⟨(7, .int .i64 (k : Int)) :: _, _⟩
  refine run_seq ?_
  refine run_region ?_
  refine run_q (.none rfl) rfl rfl (q_lss rfl rfl rfl) ?_
  refine run_nil ?_
  refine run_seq ?_
  refine run_cond rfl (fun g8 => ?_) (fun g8 => ?_)
  · have g8' := g8
    try simp only [decide_eq_true_eq, decide_eq_false_iff_not, beq_iff_eq, beq_eq_false_iff_ne, bne_iff_ne, bne_eq_false_iff_eq, Bool.not_eq_true', Bool.not_eq_false', ne_eq, Int.not_lt, Int.not_le, Decidable.not_not] at g8'
    refine run_skip ?_
    refine run_seq ?_
    refine run_block ?_
    refine run_seq ?_
    refine run_region ?_
    refine run_q (.none rfl) rfl rfl (q_indexS rfl Try.underlying89 sz29 rfl rfl (.inp hr .no) (by simp <;> omega) rfl (by omega)) ?_
    refine run_q (.none rfl) rfl rfl (q_loadC rfl one29 rfl (.inp hr .no) (getmap (by omega))) ?_
    refine run_q (.none rfl) rfl rfl (q_assign rfl rfl) ?_
    refine run_nil ?_
    refine run_sub (subMk (.cons (s := 2) rfl (.cons (s := 4) rfl (.cons (s := 5) rfl (.cons (s := 6) rfl (.cons (s := 7) rfl .nil))))) .refl) ?_
    refine run_seq ?_
    refine run_region ?_
    refine run_q (.none rfl) rfl rfl (q_move rfl rfl) ?_
    refine run_q (.none rfl) rfl rfl (q_neq rfl rfl rfl) ?_
    refine run_nil ?_
    refine run_cond rfl (fun g12 => ?_) (fun g12 => ?_)
    · have g12' := g12
      try simp only [decide_eq_true_eq, decide_eq_false_iff_not, beq_iff_eq, beq_eq_false_iff_ne, bne_iff_ne, bne_eq_false_iff_eq, Bool.not_eq_true', Bool.not_eq_false', ne_eq, Int.not_lt, Int.not_le, Decidable.not_not] at g12'
      refine run_seq ?_
      refine run_region ?_
      refine run_q (.none rfl) rfl rfl (q_move rfl rfl) ?_
      refine run_q (.none rfl) rfl rfl (q_assign rfl rfl) ?_
      refine run_nil ?_
      refine run_sub (subMk (.cons (s := 2) rfl (.cons (s := 5) rfl (.cons (s := 6) rfl (.cons (s := 7) rfl .nil)))) .refl) ?_
      refine run_ret ?_
      exact end1 rfl rfl (by rw [hinv, drop_nth (show k < l.length from by omega), firstNZ, if_pos (by simpa using g12')])
    · have g12' := g12
      try simp only [decide_eq_true_eq, decide_eq_false_iff_not, beq_iff_eq, beq_eq_false_iff_ne, bne_iff_ne, bne_eq_false_iff_eq, Bool.not_eq_true', Bool.not_eq_false', ne_eq, Int.not_lt, Int.not_le, Decidable.not_not] at g12'
      refine run_skip ?_
      refine run_blk ?_
      refine run_region ?_
      refine run_q (.none rfl) rfl rfl (q_add rfl rfl rfl (by omega)) ?_
      refine run_q (.none rfl) rfl rfl (q_move rfl rfl) ?_
      refine run_nil ?_
      refine run_sub (subMk (.cons (s := 2) rfl (.cons (s := 5) rfl (.cons (s := 6) rfl (.cons (s := 7) rfl .nil)))) .refl) ?_
      exact run_again (k + 1) (by (try dsimp only); exact ⟨by omega, by rw [hinv, drop_nth (show k < l.length from by omega), firstNZ, if_neg (by simpa using g12')]⟩) (by (try dsimp only); omega) (subMk (.cons' (s := 7) rfl rfl (.cons (s := 2) rfl (.cons (s := 5) rfl (.cons (s := 6) rfl .nil)))) .nil)
  · have g8' := g8
    try simp only [decide_eq_true_eq, decide_eq_false_iff_not, beq_iff_eq, beq_eq_false_iff_ne, bne_iff_ne, bne_eq_false_iff_eq, Bool.not_eq_true', Bool.not_eq_false', ne_eq, Int.not_lt, Int.not_le, Decidable.not_not] at g8'
    refine run_exit rfl ?_
    refine run_sub (subMk (.cons (s := 2) rfl .nil) .refl) ?_
    refine run_seq ?_
    refine run_region ?_
    refine run_q (.none rfl) rfl rfl (q_assign rfl rfl) ?_
    refine run_nil ?_
    refine run_ret ?_
    exact end1 rfl rfl (by rw [hinv, List.drop_eq_nil_of_le (by omega)]; rfl)

theorem wrong_just (l : List Note) (A : Option Addr) (n c : Nat) (W : World) (hr : Rd W A 7 (l.map Note.enc)) (hn : l.length = n) (hb : n ≤ 1000000000000) : Calls Try.prog 36 #[.slice A n c] W (Hr.Just W (.int .i64 (wrongL l))) := by
  refine Just.of_ret ?_
  refine enterA (X := nX) (vs := [.slice A n c]) Try.func36 Try.ntmps36 rfl rfl Mem.nil ?_
  refine run_seq ?_
  refine run_region ?_
  refine run_q (.none rfl) rfl rfl (q_assign rfl rfl) ?_
  refine run_nil ?_
  refine run_seq ?_
  refine run_seq ?_
  refine run_region ?_
  refine run_q (.none rfl) rfl rfl (q_move rfl rfl) ?_
  refine run_q (.none rfl) rfl rfl (q_len rfl Try.underlying22 rfl) ?_
  refine run_q (.none rfl) rfl rfl (q_gtr rfl rfl rfl) ?_
  refine run_nil ?_
  refine run_cond rfl (fun g7 => ?_) (fun g7 => ?_)
  · have g7' := g7
    try simp only [decide_eq_true_eq, decide_eq_false_iff_not, beq_iff_eq, beq_eq_false_iff_ne, bne_iff_ne, bne_eq_false_iff_eq, Bool.not_eq_true', Bool.not_eq_false', ne_eq, Int.not_lt, Int.not_le, Decidable.not_not] at g7'
    refine run_seq ?_
    refine run_region ?_
    refine run_q (.none rfl) rfl rfl (q_assign rfl rfl) ?_
    refine run_nil ?_
    refine run_sub (subMk (.cons (s := 0) rfl (.cons (s := 2) rfl .nil)) .refl) ?_
    refine run_ret ?_
    exact end1 rfl rfl (by simp [wrongL]; omega)
  · have g7' := g7
    try simp only [decide_eq_true_eq, decide_eq_false_iff_not, beq_iff_eq, beq_eq_false_iff_ne, bne_iff_ne, bne_eq_false_iff_eq, Bool.not_eq_true', Bool.not_eq_false', ne_eq, Int.not_lt, Int.not_le, Decidable.not_not] at g7'
    refine run_skip ?_
    refine run_seq ?_
    refine run_seq ?_
    refine run_region ?_
    refine run_q (.none rfl) rfl rfl (q_move rfl rfl) ?_
    refine run_q (.none rfl) rfl rfl (q_len rfl Try.underlying22 rfl) ?_
    refine run_q (.none rfl) rfl rfl (q_move rfl rfl) ?_
    refine run_nil ?_
    refine run_sub (subMk (.cons (s := 0) rfl (.cons (s := 2) rfl (.cons (s := 8) rfl (.cons (s := 9) rfl (.cons (s := 10) rfl .nil))))) .refl) ?_
    refine run_block ?_
    refine run_sub (subMk (.cons (s := 10) rfl (.cons (s := 0) rfl (.cons (s := 2) rfl (.cons (s := 8) rfl (.cons (s := 9) rfl .nil))))) .nil) ?_
    refine run_loopC1M0 (ι := Nat) (fun k => k ≤ n ∧ firstErr (wrongAt l) n 0 = firstErr (wrongAt l) (n - k) k) (fun k => .int .i64 (k : Int))  (fun k => n - k) 0 (by (try dsimp only); exact ⟨by omega, rfl⟩) rfl  ?_
    rintro k hq
    (try dsimp only at hq)
    obtain ⟨hk, hinv⟩ := hq
    show Run _ _ _ _ _ _ _ ⟨(10, .int .i64 (k : Int)) :: _, _⟩
    refine run_seq ?_
    refine run_region ?_
    refine run_q (.none rfl) rfl rfl (q_lss rfl rfl rfl) ?_
    refine run_nil ?_
    refine run_seq ?_
    refine run_cond rfl (fun g11 => ?_) (fun g11 => ?_)
    · have g11' := g11
      try simp only [decide_eq_true_eq, decide_eq_false_iff_not, beq_iff_eq, beq_eq_false_iff_ne, bne_iff_ne, bne_eq_false_iff_eq, Bool.not_eq_true', Bool.not_eq_false', ne_eq, Int.not_lt, Int.not_le, Decidable.not_not] at g11'
      refine run_skip ?_
      refine run_seq ?_
      refine run_block ?_
      refine run_seq ?_
      refine run_region ?_
      refine run_q (.none rfl) rfl rfl (q_move rfl rfl) ?_
      refine run_q (.none rfl) rfl rfl (q_indexS rfl Try.underlying22 sz47 rfl rfl (.inp hr .no) (by simp <;> omega) rfl (by omega)) ?_
      refine run_q (.none rfl) rfl rfl (q_loadE rfl agg47 rfl (.inp hr .no) (getmap (by omega)) rfl) ?_
      refine run_h (.none rfl) (h_alloc rfl rfl rfl info47) ?_
      rintro b4 -
      refine run_q (.none rfl) rfl rfl (q_assign rfl rfl) ?_
      refine run_h (.none rfl) (h_storeB rfl rfl sz47 rfl rfl rfl rfl rfl Sel.here rfl) ?_
      rintro - -
      refine run_nil ?_
      refine run_sub (subMk (.cons (s := 0) rfl (.cons (s := 2) rfl (.cons (s := 3) rfl (.cons (s := 4) rfl (.cons (s := 8) rfl (.cons (s := 9) rfl (.cons (s := 10) rfl .nil))))))) .refl) ?_
      refine run_seq ?_
      refine run_seq ?_
      refine run_region ?_
      refine run_q (.none rfl) rfl rfl (q_loadBN rfl agg47 rfl Sel.here (.cons rfl (.cons rfl (.cons rfl (.cons rfl (.cons rfl (.cons rfl (.cons rfl CellsAt.nil))))))) rfl) ?_
      refine run_q (.none rfl) rfl rfl (q_call rfl call47 (.cons rfl Evs.nil) (fun w hk hm => proper_just _ _)) ?_
      refine run_q (.none rfl) rfl rfl (q_not rfl rfl) ?_
      refine run_nil ?_
      refine run_cond rfl (fun g17 => ?_) (fun g17 => ?_)
      · have g17' := g17
        try simp only [decide_eq_true_eq, decide_eq_false_iff_not, beq_iff_eq, beq_eq_false_iff_ne, bne_iff_ne, bne_eq_false_iff_eq, Bool.not_eq_true', Bool.not_eq_false', ne_eq, Int.not_lt, Int.not_le, Decidable.not_not] at g17'
        refine run_seq ?_
        refine run_region ?_
        refine run_q (.none rfl) rfl rfl (q_assign rfl rfl) ?_
        refine run_nil ?_
        refine run_sub (subMk (.cons (s := 0) rfl (.cons (s := 2) rfl (.cons (s := 3) rfl (.cons (s := 4) rfl (.cons (s := 8) rfl (.cons (s := 9) rfl (.cons (s := 10) rfl .nil))))))) .refl) ?_
        refine run_ret ?_
        exact end1 rfl rfl (by rw [wrongL, if_neg (by omega), hn, hinv, firstErr_hit (by omega) (by simp_all [wrongAt])]; simp_all [wrongAt])
      · have g17' := g17
        try simp only [decide_eq_true_eq, decide_eq_false_iff_not, beq_iff_eq, beq_eq_false_iff_ne, bne_iff_ne, bne_eq_false_iff_eq, Bool.not_eq_true', Bool.not_eq_false', ne_eq, Int.not_lt, Int.not_le, Decidable.not_not] at g17'
        refine run_skip ?_
        refine run_seq ?_
        refine run_draw [(0, 0), (1, 0), (2, 0), (3, 0), (4, 0), (5, 0), (6, 0), (7, 0), (8, 0), (9, 0), (10, 0), (11, 0), (12, 0)] mixed (by kernel_rfl) .refl ?_
        refine d_q rfl rfl (.none rfl) rfl rfl (q_move rfl rfl) ?_
        refine d_q rfl rfl (.none rfl) rfl rfl (q_gtr rfl rfl rfl) ?_
        refine d_q rfl rfl (.none rfl) rfl rfl (q_move rfl rfl) ?_
        refine d_split 20 rfl (fun g20 => ?_) (fun g20 => ?_)
        · have g20' := g20
          try simp only [decide_eq_true_eq, decide_eq_false_iff_not, beq_iff_eq, beq_eq_false_iff_ne, bne_iff_ne, bne_eq_false_iff_eq, Bool.not_eq_true', Bool.not_eq_false', ne_eq, Int.not_lt, Int.not_le, Decidable.not_not] at g20'
          refine d_q rfl rfl (.on rfl rfl rfl g20) rfl rfl (q_fieldB (d := 0) rfl Try.underlying47 rfl rfl sz3 rfl) ?_
          refine d_q rfl rfl (.on rfl rfl rfl g20) rfl rfl (q_loadB rfl one3 rfl Sel.here rfl) ?_
          refine d_q rfl rfl (.on rfl rfl rfl g20) rfl rfl (q_move rfl rfl) ?_
          refine d_q rfl rfl (.on rfl rfl rfl g20) rfl rfl (q_move rfl rfl) ?_
          refine d_q rfl rfl (.on rfl rfl rfl g20) rfl rfl (q_sub rfl rfl rfl (by omega)) ?_
          refine d_q rfl rfl (.on rfl rfl rfl g20) rfl rfl (q_indexS (q := (k - 1)) rfl Try.underlying22 sz47 rfl rfl (.inp hr .no) (by simp <;> omega) (by omega) (by omega)) ?_
          refine d_q rfl rfl (.on rfl rfl rfl g20) rfl rfl (q_fieldAddr (d := 0) rfl Try.underlying47 rfl rfl sz3 rfl) ?_
          refine d_q rfl rfl (.on rfl rfl rfl g20) rfl rfl (q_loadF rfl one3 rfl (.inp hr .no) (getmap (by omega)) rfl) ?_
          refine d_q rfl rfl (.on rfl rfl rfl g20) rfl rfl (q_lss rfl rfl rfl) ?_
          refine d_q rfl rfl (.none rfl) rfl rfl (q_pickT rfl rfl g20 rfl) ?_
          refine d_nil ?_
          refine run_sub (subMk (.cons (s := 0) rfl (.cons (s := 2) rfl (.cons (s := 8) rfl (.cons (s := 9) rfl (.cons (s := 10) rfl (.cons (s := 30) rfl .nil)))))) .refl) ?_
          refine run_cond rfl (fun g30 => ?_) (fun g30 => ?_)
          · have g30' := g30
            try simp only [decide_eq_true_eq, decide_eq_false_iff_not, beq_iff_eq, beq_eq_false_iff_ne, bne_iff_ne, bne_eq_false_iff_eq, Bool.not_eq_true', Bool.not_eq_false', ne_eq, Int.not_lt, Int.not_le, Decidable.not_not] at g30'
            refine run_seq ?_
            refine run_region ?_
            refine run_q (.none rfl) rfl rfl (q_assign rfl rfl) ?_
            refine run_nil ?_
            refine run_ret ?_
            exact end1 rfl rfl (by rw [wrongL, if_neg (by omega), hn, hinv, firstErr_hit (by omega) (by simp_all [wrongAt])]; simp_all [wrongAt])
          · have g30' := g30
            try simp only [decide_eq_true_eq, decide_eq_false_iff_not, beq_iff_eq, beq_eq_false_iff_ne, bne_iff_ne, bne_eq_false_iff_eq, Bool.not_eq_true', Bool.not_eq_false', ne_eq, Int.not_lt, Int.not_le, Decidable.not_not] at g30'
            refine run_skip ?_
            refine run_blk ?_
            refine run_region ?_
            refine run_q (.none rfl) rfl rfl (q_add rfl rfl rfl (by omega)) ?_
            refine run_q (.none rfl) rfl rfl (q_move rfl rfl) ?_
            refine run_nil ?_
            exact run_again (k + 1) (by (try dsimp only); exact ⟨by omega, by rw [hinv]; exact firstErr_step (by omega) (by simp_all [wrongAt]; try omega)⟩) (by (try dsimp only); omega) (subMk (.cons' (s := 10) rfl rfl (.cons (s := 0) rfl (.cons (s := 2) rfl (.cons (s := 8) rfl (.cons (s := 9) rfl .nil))))) .nil)
        · have g20' := g20
          try simp only [decide_eq_true_eq, decide_eq_false_iff_not, beq_iff_eq, beq_eq_false_iff_ne, bne_iff_ne, bne_eq_false_iff_eq, Bool.not_eq_true', Bool.not_eq_false', ne_eq, Int.not_lt, Int.not_le, Decidable.not_not] at g20'
          refine d_off rfl rfl (.no rfl rfl rfl g20) rfl rfl ?_
          refine d_off rfl rfl (.no rfl rfl rfl g20) rfl rfl ?_
          refine d_off rfl rfl (.no rfl rfl rfl g20) rfl rfl ?_
          refine d_off rfl rfl (.no rfl rfl rfl g20) rfl rfl ?_
          refine d_off rfl rfl (.no rfl rfl rfl g20) rfl rfl ?_
          refine d_off rfl rfl (.no rfl rfl rfl g20) rfl rfl ?_
          refine d_off rfl rfl (.no rfl rfl rfl g20) rfl rfl ?_
          refine d_off rfl rfl (.no rfl rfl rfl g20) rfl rfl ?_
          refine d_off rfl rfl (.no rfl rfl rfl g20) rfl rfl ?_
          refine d_q rfl rfl (.none rfl) rfl rfl (q_pickF rfl rfl g20 rfl) ?_
          refine d_nil ?_
          refine run_sub (subMk (.cons (s := 0) rfl (.cons (s := 2) rfl (.cons (s := 8) rfl (.cons (s := 9) rfl (.cons (s := 10) rfl (.cons (s := 30) rfl .nil)))))) .refl) ?_
          refine run_condF rfl rfl ?_
          refine run_skip ?_
          refine run_blk ?_
          refine run_region ?_
          refine run_q (.none rfl) rfl rfl (q_add rfl rfl rfl (by omega)) ?_
          refine run_q (.none rfl) rfl rfl (q_move rfl rfl) ?_
          refine run_nil ?_
          exact run_again (k + 1) (by (try dsimp only); exact ⟨by omega, by rw [hinv]; exact firstErr_step (by omega) (by simp_all [wrongAt]; try omega)⟩) (by (try dsimp only); omega) (subMk (.cons' (s := 10) rfl rfl (.cons (s := 0) rfl (.cons (s := 2) rfl (.cons (s := 8) rfl (.cons (s := 9) rfl .nil))))) .nil)
    · have g11' := g11
      try simp only [decide_eq_true_eq, decide_eq_false_iff_not, beq_iff_eq, beq_eq_false_iff_ne, bne_iff_ne, bne_eq_false_iff_eq, Bool.not_eq_true', Bool.not_eq_false', ne_eq, Int.not_lt, Int.not_le, Decidable.not_not] at g11'
      refine run_exit rfl ?_
      refine run_sub (subMk (.cons (s := 2) rfl .nil) .refl) ?_
      refine run_seq ?_
      refine run_region ?_
      refine run_q (.none rfl) rfl rfl (q_assign rfl rfl) ?_
      refine run_nil ?_
      refine run_ret ?_
      exact end1 rfl rfl (by rw [wrongL, if_neg (by omega), hn, hinv, show n - k = 0 from by omega]; rfl)

theorem check_just (c : Cost) (W : World)  : Calls Try.prog 37 #[c.val] W (Hr.Just W (.int .i64 (costB c))) := by
  refine Just.of_ret ?_
  refine enterA (X := nX) (vs := [c.val]) Try.func37 Try.ntmps37 rfl rfl Mem.nil ?_
  refine run_seq ?_
  refine run_region ?_
  refine run_h (.none rfl) (h_box rfl rfl rfl rfl rfl) ?_
  rintro b1 -
  refine run_q (.none rfl) rfl rfl (q_assign rfl rfl) ?_
  refine run_nil ?_
  refine run_seq ?_
  refine run_seq ?_
  refine run_region ?_
  refine run_q (.none rfl) rfl rfl (q_fieldB (d := 0) rfl Try.underlying26 rfl rfl sz3 rfl) ?_
  refine run_q (.none rfl) rfl rfl (q_loadB rfl one3 rfl Sel.here rfl) ?_
  refine run_q (.none rfl) rfl rfl (q_fieldB (d := 1) rfl Try.underlying26 rfl rfl sz3 rfl) ?_
  refine run_q (.none rfl) rfl rfl (q_loadB rfl one3 rfl Sel.here rfl) ?_
  refine run_q (.none rfl) rfl rfl (q_fieldB (d := 2) rfl Try.underlying26 rfl rfl sz3 rfl) ?_
  refine run_q (.none rfl) rfl rfl (q_loadB rfl one3 rfl Sel.here rfl) ?_
  refine run_q (.none rfl) rfl rfl (q_fieldB (d := 3) rfl Try.underlying26 rfl rfl sz3 rfl) ?_
  refine run_q (.none rfl) rfl rfl (q_loadB rfl one3 rfl Sel.here rfl) ?_
  refine run_q (.none rfl) rfl rfl (q_fieldB (d := 4) rfl Try.underlying26 rfl rfl sz3 rfl) ?_
  refine run_q (.none rfl) rfl rfl (q_loadB rfl one3 rfl Sel.here rfl) ?_
  refine run_q (.none rfl) rfl rfl (q_build rfl (.cons rfl (.cons rfl (.cons rfl (.cons rfl (.cons rfl PV.nil))))) (built90p0p1p2p3p4 _ _ _ _ _)) ?_
  refine run_q (.none rfl) rfl rfl (q_move rfl rfl) ?_
  refine run_nil ?_
  refine run_sub (subMk (.cons (s := 2) rfl (.cons (s := 15) rfl (.cons (s := 16) rfl .nil))) .refl) ?_
  refine run_block ?_
  refine run_sub (subMk (.cons (s := 16) rfl (.cons (s := 2) rfl (.cons (s := 15) rfl .nil))) (.cons Sel.here .refl .nil)) ?_
  refine run_loopC1M0 (ι := Nat) (fun k => k ≤ 5 ∧ costB c = firstErr (fun i => if inB (nth c.all i) 0 1000000 then 0 else 2) (5 - k) k) (fun k => .int .i64 (k : Int))  (fun k => 5 - k) 0 (by (try dsimp only); exact ⟨by omega, rfl⟩) rfl  ?_
  rintro k hq
  (try dsimp only at hq)
  obtain ⟨hk, hinv⟩ := hq
  show Run _ _ _ _ _ _ _ ⟨(16, .int .i64 (k : Int)) :: _, _⟩
  refine run_seq ?_
  refine run_region ?_
  refine run_q (.none rfl) rfl rfl (q_lss rfl rfl rfl) ?_
  refine run_nil ?_
  refine run_seq ?_
  refine run_cond rfl (fun g17 => ?_) (fun g17 => ?_)
  · have g17' := g17
    try simp only [decide_eq_true_eq, decide_eq_false_iff_not, beq_iff_eq, beq_eq_false_iff_ne, bne_iff_ne, bne_eq_false_iff_eq, Bool.not_eq_true', Bool.not_eq_false', ne_eq, Int.not_lt, Int.not_le, Decidable.not_not] at g17'
    refine run_skip ?_
    refine run_seq ?_
    refine run_block ?_
    refine run_seq ?_
    refine run_region ?_
    have hk5 : k < c.all.length := by simp [Cost.all]; omega
    refine run_q (.none rfl) rfl rfl (q_indexA rfl Try.underlying90 one3 rfl rfl rfl (by omega) (nth_map (f := fun x => Value.int .i64 x) (l := c.all) hk5)) ?_
    refine run_q (.none rfl) rfl rfl (q_assign rfl rfl) ?_
    refine run_nil ?_
    refine run_seq ?_
    refine run_region ?_
    refine run_q (.none rfl) rfl rfl (q_move rfl rfl) ?_
    refine run_q (.none rfl) rfl rfl (q_call rfl call42 (.cons rfl (.cons rfl (.cons rfl Evs.nil))) (fun w hk hm => in_just _ _ _ _)) ?_
    refine run_q (.none rfl) rfl rfl (q_not rfl rfl) ?_
    refine run_nil ?_
    refine run_sub (subMk (.cons (s := 2) rfl (.cons (s := 15) rfl (.cons (s := 16) rfl (.cons (s := 21) rfl .nil)))) .refl) ?_
    refine run_cond rfl (fun g21 => ?_) (fun g21 => ?_)
    · have g21' := g21
      try simp only [decide_eq_true_eq, decide_eq_false_iff_not, beq_iff_eq, beq_eq_false_iff_ne, bne_iff_ne, bne_eq_false_iff_eq, Bool.not_eq_true', Bool.not_eq_false', ne_eq, Int.not_lt, Int.not_le, Decidable.not_not] at g21'
      refine run_seq ?_
      refine run_region ?_
      refine run_q (.none rfl) rfl rfl (q_assign rfl rfl) ?_
      refine run_nil ?_
      refine run_ret ?_
      exact end1 rfl rfl (by rw [hinv, firstErr_hit (by omega) (by simp_all)]; simp_all)
    · have g21' := g21
      try simp only [decide_eq_true_eq, decide_eq_false_iff_not, beq_iff_eq, beq_eq_false_iff_ne, bne_iff_ne, bne_eq_false_iff_eq, Bool.not_eq_true', Bool.not_eq_false', ne_eq, Int.not_lt, Int.not_le, Decidable.not_not] at g21'
      refine run_skip ?_
      refine run_blk ?_
      refine run_region ?_
      refine run_q (.none rfl) rfl rfl (q_add rfl rfl rfl (by omega)) ?_
      refine run_q (.none rfl) rfl rfl (q_move rfl rfl) ?_
      refine run_nil ?_
      exact run_again (k + 1) (by (try dsimp only); exact ⟨by omega, by rw [hinv]; exact firstErr_step (by omega) (by simp_all)⟩) (by (try dsimp only); omega) (subMk (.cons' (s := 16) rfl rfl (.cons (s := 2) rfl (.cons (s := 15) rfl .nil))) (.cons Sel.here .refl .nil))
  · have g17' := g17
    try simp only [decide_eq_true_eq, decide_eq_false_iff_not, beq_iff_eq, beq_eq_false_iff_ne, bne_iff_ne, bne_eq_false_iff_eq, Bool.not_eq_true', Bool.not_eq_false', ne_eq, Int.not_lt, Int.not_le, Decidable.not_not] at g17'
    refine run_exit rfl ?_
    refine run_sub (subMk (.cons (s := 2) rfl .nil) .refl) ?_
    refine run_seq ?_
    refine run_region ?_
    refine run_q (.none rfl) rfl rfl (q_assign rfl rfl) ?_
    refine run_nil ?_
    refine run_ret ?_
    exact end1 rfl rfl (by rw [hinv, show 5 - k = 0 from by omega]; rfl)

end Go.Proofs.Ytbkmmjpklkallaa
