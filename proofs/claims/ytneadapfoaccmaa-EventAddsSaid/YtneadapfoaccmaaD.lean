/- Events compared. -/
import Derived.Test.YtneadapfoaccmaaB
set_option linter.unusedSimpArgs false
set_option linter.unusedVariables false
namespace Go.Proofs.Ytneadapfoaccmaa
open Go Go.RowKit Hr

theorem eqg53 : Try.prog.eqGuardType Try.prog.depth 53 = false := by kernel_rfl
theorem stood53 : Try.prog.stoodInHeld 53 = false := by kernel_rfl
theorem one4 : Hr.One Try.prog 4 := ⟨fun w => by simp [isAgg, run_underlying Try.underlying4], Hr.Sz.of (by kernel_rfl)⟩
theorem stood51 : Try.prog.stoodInHeld 51 = false := by kernel_rfl
set_option maxRecDepth 100000 in
theorem eqs51d9999 (a0 : Int) (a1 : Int) (a2 : Int) (b0 : Int) (b1 : Int) (b2 : Int) (w : World) : (Op.equalIn 9999 51 (.agg #[.int .i64 a0, .int .i64 a1, .int .i64 a2]) (.agg #[.int .i64 b0, .int .i64 b1, .int .i64 b2])).run Try.prog w = .ok (a0 == b0 && (a1 == b1 && (a2 == b2))) w := by
  rw [run_equalIn_struct w 9998 51 _ _ (by simp only [Program.fieldsOf, Try.underlying51]) stood51]
  simp only [Program.fieldsOf, Try.underlying51]
  exact Eq.trans (eqF_cons (by decide) (part_one one3 rfl) (part_one one3 rfl) (run_equalIn_int w 9997 3 .i64 .i64 a0 b0 Try.underlying3) (eqF_cons (by decide) (part_one one3 rfl) (part_one one3 rfl) (run_equalIn_int w 9997 3 .i64 .i64 a1 b1 Try.underlying3) (eqF_cons (by decide) (part_one one3 rfl) (part_one one3 rfl) (run_equalIn_int w 9997 3 .i64 .i64 a2 b2 Try.underlying3) eqF_nil))) (by simp only [Bool.and_true, Bool.and_assoc, strEq])
set_option maxRecDepth 100000 in
theorem eqs53 (a0 : Int) (a1 : Int) (a2 : Int) (a3 : Bool) (a4 : Int) (b0 : Int) (b1 : Int) (b2 : Int) (b3 : Bool) (b4 : Int) (w : World) : (Op.equalIn 10000 53 (.agg #[.int .i64 a0, .int .i64 a1, .int .i64 a2, .bool a3, .int .i64 a4]) (.agg #[.int .i64 b0, .int .i64 b1, .int .i64 b2, .bool b3, .int .i64 b4])).run Try.prog w = .ok (a0 == b0 && (a1 == b1 && (a2 == b2 && (a3 == b3 && (a4 == b4))))) w := by
  rw [run_equalIn_struct w 9999 53 _ _ (by simp only [Program.fieldsOf, Try.underlying53]) stood53]
  simp only [Program.fieldsOf, Try.underlying53]
  exact Eq.trans (eqF_cons (by decide) (part_agg agg51 rfl) (part_agg agg51 rfl) (eqs51d9999 a0 a1 a2 b0 b1 b2 w) (eqF_cons (by decide) (part_one one4 rfl) (part_one one4 rfl) (run_equalIn_bool' w 9998 4 a3 b3 Try.underlying4) (eqF_cons (by decide) (part_one one3 rfl) (part_one one3 rfl) (run_equalIn_int w 9998 3 .i64 .i64 a4 b4 Try.underlying3) eqF_nil))) (by simp only [Bool.and_true, Bool.and_assoc, strEq])
theorem eqg55 : Try.prog.eqGuardType Try.prog.depth 55 = false := by kernel_rfl
theorem stood55 : Try.prog.stoodInHeld 55 = false := by kernel_rfl
set_option maxRecDepth 100000 in
theorem eqs55 (a0 : Int) (a1 : Int) (a2 : Int) (a3 : Int) (a4 : Bool) (b0 : Int) (b1 : Int) (b2 : Int) (b3 : Int) (b4 : Bool) (w : World) : (Op.equalIn 10000 55 (.agg #[.int .i64 a0, .int .i64 a1, .int .i64 a2, .int .i64 a3, .bool a4]) (.agg #[.int .i64 b0, .int .i64 b1, .int .i64 b2, .int .i64 b3, .bool b4])).run Try.prog w = .ok (a0 == b0 && (a1 == b1 && (a2 == b2 && (a3 == b3 && (a4 == b4))))) w := by
  rw [run_equalIn_struct w 9999 55 _ _ (by simp only [Program.fieldsOf, Try.underlying55]) stood55]
  simp only [Program.fieldsOf, Try.underlying55]
  exact Eq.trans (eqF_cons (by decide) (part_agg agg51 rfl) (part_agg agg51 rfl) (eqs51d9999 a0 a1 a2 b0 b1 b2 w) (eqF_cons (by decide) (part_one one3 rfl) (part_one one3 rfl) (run_equalIn_int w 9998 3 .i64 .i64 a3 b3 Try.underlying3) (eqF_cons (by decide) (part_one one4 rfl) (part_one one4 rfl) (run_equalIn_bool' w 9998 4 a4 b4 Try.underlying4) eqF_nil))) (by simp only [Bool.and_true, Bool.and_assoc, strEq])
theorem sz25 : Hr.Sz Try.prog 25 2 := Hr.Sz.of (by kernel_rfl)
theorem agg25 : Hr.Agg Try.prog 25 2 := ⟨fun w => by simp [isAgg, run_underlying Try.underlying25], Hr.Sz.of (by kernel_rfl)⟩
theorem eqg25 : Try.prog.eqGuardType Try.prog.depth 25 = false := by kernel_rfl
theorem stood25 : Try.prog.stoodInHeld 25 = false := by kernel_rfl
theorem eqs25 (a0 a1 b0 b1 : Int) (w : World) : (Op.equalIn 10000 25 (.agg #[.int .i64 a0, .int .i64 a1]) (.agg #[.int .i64 b0, .int .i64 b1])).run Try.prog w = .ok (a0 == b0 && (a1 == b1)) w := by
  rw [run_equalIn_struct w 9999 25 _ _ (by simp only [Program.fieldsOf, Try.underlying25]) stood25]
  have hz : ∀ (x y : Int) (w : World), (Op.equalIn 9999 3 (.int .i64 x) (.int .i64 y)).run Try.prog w = .ok (x == y) w := fun x y w => run_equalIn_int w 9998 3 .i64 .i64 x y Try.underlying3
  cases h0 : (a0 == b0) <;> cases h1 : (a1 == b1) <;> simp [Program.fieldsOf, Try.underlying25, Op.eqFields, part, one3.1, hz, h0, h1]
theorem sz26 : Hr.Sz Try.prog 26 1 := Hr.Sz.of (by kernel_rfl)
theorem one26 : Hr.One Try.prog 26 := ⟨fun w => by simp [isAgg, run_underlying Try.underlying26], Hr.Sz.of (by kernel_rfl)⟩
theorem call67 : Hr.Callable Try.prog 67 := fun args w => by kernel_rfl
theorem sz27 : Hr.Sz Try.prog 27 1 := Hr.Sz.of (by kernel_rfl)
theorem one27 : Hr.One Try.prog 27 := ⟨fun w => by simp [isAgg, run_underlying Try.underlying27], Hr.Sz.of (by kernel_rfl)⟩
theorem call68 : Hr.Callable Try.prog 68 := fun args w => by kernel_rfl
theorem sz28 : Hr.Sz Try.prog 28 1 := Hr.Sz.of (by kernel_rfl)
theorem one28 : Hr.One Try.prog 28 := ⟨fun w => by simp [isAgg, run_underlying Try.underlying28], Hr.Sz.of (by kernel_rfl)⟩
theorem call69 : Hr.Callable Try.prog 69 := fun args w => by kernel_rfl

set_option maxRecDepth 100000 in
theorem eqH_just (l k : List Hd) (A B : Option Addr) (ca cb : Nat) (W : World) (hr : Rd W A 5 (l.map Hd.enc)) (hq : Rd W B 5 (k.map Hd.enc)) (hl : l.length ≤ 100000) (hk1 : k.length ≤ 100000) : Calls Try.prog 67 #[.slice A l.length ca, .slice B k.length cb] W (Hr.Just W (.bool (eqL hdEq l k))) := by
  refine Just.of_ret ?_
  refine enterA (X := nX) (vs := [.slice A l.length ca, .slice B k.length cb]) Try.func67 Try.ntmps67 rfl rfl Mem.nil ?_
  refine run_seq ?_
  refine run_region ?_
  refine run_q (.none rfl) rfl rfl (q_assign rfl rfl) ?_
  refine run_nil ?_
  refine run_seq ?_
  refine run_seq ?_
  refine run_region ?_
  refine run_q (.none rfl) rfl rfl (q_move rfl rfl) ?_
  refine run_q (.none rfl) rfl rfl (q_len rfl Try.underlying26 rfl) ?_
  refine run_q (.none rfl) rfl rfl (q_move rfl rfl) ?_
  refine run_q (.none rfl) rfl rfl (q_len rfl Try.underlying26 rfl) ?_
  refine run_q (.none rfl) rfl rfl (q_neq rfl rfl rfl) ?_
  refine run_nil ?_
  refine run_sub (subMk (.cons (s := 0) rfl (.cons (s := 1) rfl (.cons (s := 4) rfl (.cons (s := 10) rfl .nil)))) .refl) ?_
  refine run_cond rfl (fun g10 => ?_) (fun g10 => ?_)
  · have g10' := g10
    try simp only [decide_eq_true_eq, decide_eq_false_iff_not, beq_iff_eq, beq_eq_false_iff_ne, bne_iff_ne, bne_eq_false_iff_eq, Bool.not_eq_true', Bool.not_eq_false', ne_eq, Int.not_lt, Int.not_le, Decidable.not_not] at g10'
    refine run_seq ?_
    refine run_region ?_
    refine run_q (.none rfl) rfl rfl (q_assign rfl rfl) ?_
    refine run_nil ?_
    refine run_ret ?_
    exact end1 rfl rfl (by rw [eqL_ne (by omega)])
  · have g10' := g10
    try simp only [decide_eq_true_eq, decide_eq_false_iff_not, beq_iff_eq, beq_eq_false_iff_ne, bne_iff_ne, bne_eq_false_iff_eq, Bool.not_eq_true', Bool.not_eq_false', ne_eq, Int.not_lt, Int.not_le, Decidable.not_not] at g10'
    have hlk : l.length = k.length := by omega
    refine run_skip ?_
    refine run_seq ?_
    refine run_seq ?_
    refine run_region ?_
    refine run_q (.none rfl) rfl rfl (q_move rfl rfl) ?_
    refine run_q (.none rfl) rfl rfl (q_len rfl Try.underlying26 rfl) ?_
    refine run_q (.none rfl) rfl rfl (q_move rfl rfl) ?_
    refine run_nil ?_
    refine run_block ?_
    refine run_sub (subMk (.cons (s := 13) rfl (.cons (s := 0) rfl (.cons (s := 1) rfl (.cons (s := 4) rfl (.cons (s := 12) rfl .nil))))) .nil) ?_
    refine run_loopC1M0 (ι := Nat) (fun i => i ≤ l.length ∧ eqL hdEq l k = eqL hdEq (l.drop i) (k.drop i)) (fun i => .int .i64 (i : Int))  (fun i => l.length - i) 0 (by (try dsimp only); exact ⟨by omega, rfl⟩) rfl  ?_
    rintro i hq
    (try dsimp only at hq)
    obtain ⟨hi, hE⟩ := hq
    show Run _ _ _ _ _ _ _ ⟨(13, .int .i64 (i : Int)) :: _, _⟩
    refine run_seq ?_
    refine run_region ?_
    refine run_q (.none rfl) rfl rfl (q_lss rfl rfl rfl) ?_
    refine run_nil ?_
    refine run_seq ?_
    refine run_cond rfl (fun g14 => ?_) (fun g14 => ?_)
    · have g14' := g14
      try simp only [decide_eq_true_eq, decide_eq_false_iff_not, beq_iff_eq, beq_eq_false_iff_ne, bne_iff_ne, bne_eq_false_iff_eq, Bool.not_eq_true', Bool.not_eq_false', ne_eq, Int.not_lt, Int.not_le, Decidable.not_not] at g14'
      have hkl : i < l.length := by omega
      refine run_skip ?_
      refine run_seq ?_
      refine run_block ?_
      refine run_seq ?_
      refine run_region ?_
      refine run_q (.none rfl) rfl rfl (q_move rfl rfl) ?_
      refine run_q (.none rfl) rfl rfl (q_assign rfl rfl) ?_
      refine run_nil ?_
      refine run_seq ?_
      refine run_draw [(0, 0), (1, 0), (2, 0), (3, 0), (4, 0), (5, 0), (6, 0), (7, 0), (8, 0)] mixed (by kernel_rfl) .refl ?_
      refine d_q rfl rfl (.none rfl) rfl rfl (q_move rfl rfl) ?_
      refine d_q rfl rfl (.none rfl) rfl rfl (q_move rfl rfl) ?_
      refine d_q rfl rfl (.none rfl) rfl rfl (q_indexS (q := i) rfl Try.underlying26 sz53 rfl rfl (.inp hr .no) (by simp <;> omega) rfl (by omega)) ?_
      refine d_q rfl rfl (.none rfl) rfl rfl (q_loadE rfl agg53 rfl (.inp hr .no) (getmap (by omega)) rfl) ?_
      refine d_q rfl rfl (.none rfl) rfl rfl (q_move rfl rfl) ?_
      refine d_q rfl rfl (.none rfl) rfl rfl (q_move rfl rfl) ?_
      refine d_q rfl rfl (.none rfl) rfl rfl (q_indexS (q := i) rfl Try.underlying26 sz53 rfl rfl (.inp hq .no) (by simp <;> omega) rfl (by omega)) ?_
      refine d_q rfl rfl (.none rfl) rfl rfl (q_loadE rfl agg53 rfl (.inp hq .no) (getmap (by omega)) rfl) ?_
      refine d_q rfl rfl (.none rfl) rfl rfl (q_neqS rfl rfl rfl eqg53 (fun w => eqs53 _ _ _ _ _ _ _ _ _ _ w)) ?_
      refine d_nil ?_
      refine run_sub (subMk (.cons (s := 0) rfl (.cons (s := 1) rfl (.cons (s := 4) rfl (.cons (s := 12) rfl (.cons (s := 13) rfl (.cons (s := 24) rfl .nil)))))) .refl) ?_
      refine run_cond rfl (fun g24 => ?_) (fun g24 => ?_)
      · have g24' := g24
        try simp only [decide_eq_true_eq, decide_eq_false_iff_not, beq_iff_eq, beq_eq_false_iff_ne, bne_iff_ne, bne_eq_false_iff_eq, Bool.not_eq_true', Bool.not_eq_false', ne_eq, Int.not_lt, Int.not_le, Decidable.not_not] at g24'
        refine run_seq ?_
        refine run_region ?_
        refine run_q (.none rfl) rfl rfl (q_assign rfl rfl) ?_
        refine run_nil ?_
        refine run_ret ?_
        exact end1 rfl rfl (by rw [hE, eqL_stop hkl hlk (show hdEq (nth l i) (nth k i) = false from not_t g24)])
      · have g24' := g24
        try simp only [decide_eq_true_eq, decide_eq_false_iff_not, beq_iff_eq, beq_eq_false_iff_ne, bne_iff_ne, bne_eq_false_iff_eq, Bool.not_eq_true', Bool.not_eq_false', ne_eq, Int.not_lt, Int.not_le, Decidable.not_not] at g24'
        refine run_skip ?_
        refine run_blk ?_
        refine run_region ?_
        refine run_q (.none rfl) rfl rfl (q_add rfl rfl rfl (by omega)) ?_
        refine run_q (.none rfl) rfl rfl (q_move rfl rfl) ?_
        refine run_nil ?_
        exact run_again (i + 1) (by (try dsimp only); exact ⟨by omega, by rw [hE, eqL_step hkl hlk (show hdEq (nth l i) (nth k i) = true from not_f g24)]⟩) (by (try dsimp only); omega) (subMk (.cons' (s := 13) rfl (vint (by omega)) (.cons (s := 0) rfl (.cons (s := 1) rfl (.cons (s := 4) rfl (.cons (s := 12) rfl .nil))))) .nil)
    · have g14' := g14
      try simp only [decide_eq_true_eq, decide_eq_false_iff_not, beq_iff_eq, beq_eq_false_iff_ne, bne_iff_ne, bne_eq_false_iff_eq, Bool.not_eq_true', Bool.not_eq_false', ne_eq, Int.not_lt, Int.not_le, Decidable.not_not] at g14'
      refine run_exit rfl ?_
      refine run_sub (subMk (.cons (s := 4) rfl .nil) .refl) ?_
      refine run_seq ?_
      refine run_region ?_
      refine run_q (.none rfl) rfl rfl (q_assign rfl rfl) ?_
      refine run_nil ?_
      refine run_ret ?_
      exact end1 rfl rfl (by rw [hE, eqL_end (by omega) hlk])

set_option maxRecDepth 100000 in
theorem eqG_just (l k : List Gr) (A B : Option Addr) (ca cb : Nat) (W : World) (hr : Rd W A 5 (l.map Gr.enc)) (hq : Rd W B 5 (k.map Gr.enc)) (hl : l.length ≤ 100000) (hk1 : k.length ≤ 100000) : Calls Try.prog 68 #[.slice A l.length ca, .slice B k.length cb] W (Hr.Just W (.bool (eqL grEq l k))) := by
  refine Just.of_ret ?_
  refine enterA (X := nX) (vs := [.slice A l.length ca, .slice B k.length cb]) Try.func68 Try.ntmps68 rfl rfl Mem.nil ?_
  refine run_seq ?_
  refine run_region ?_
  refine run_q (.none rfl) rfl rfl (q_assign rfl rfl) ?_
  refine run_nil ?_
  refine run_seq ?_
  refine run_seq ?_
  refine run_region ?_
  refine run_q (.none rfl) rfl rfl (q_move rfl rfl) ?_
  refine run_q (.none rfl) rfl rfl (q_len rfl Try.underlying27 rfl) ?_
  refine run_q (.none rfl) rfl rfl (q_move rfl rfl) ?_
  refine run_q (.none rfl) rfl rfl (q_len rfl Try.underlying27 rfl) ?_
  refine run_q (.none rfl) rfl rfl (q_neq rfl rfl rfl) ?_
  refine run_nil ?_
  refine run_sub (subMk (.cons (s := 0) rfl (.cons (s := 1) rfl (.cons (s := 4) rfl (.cons (s := 10) rfl .nil)))) .refl) ?_
  refine run_cond rfl (fun g10 => ?_) (fun g10 => ?_)
  · have g10' := g10
    try simp only [decide_eq_true_eq, decide_eq_false_iff_not, beq_iff_eq, beq_eq_false_iff_ne, bne_iff_ne, bne_eq_false_iff_eq, Bool.not_eq_true', Bool.not_eq_false', ne_eq, Int.not_lt, Int.not_le, Decidable.not_not] at g10'
    refine run_seq ?_
    refine run_region ?_
    refine run_q (.none rfl) rfl rfl (q_assign rfl rfl) ?_
    refine run_nil ?_
    refine run_ret ?_
    exact end1 rfl rfl (by rw [eqL_ne (by omega)])
  · have g10' := g10
    try simp only [decide_eq_true_eq, decide_eq_false_iff_not, beq_iff_eq, beq_eq_false_iff_ne, bne_iff_ne, bne_eq_false_iff_eq, Bool.not_eq_true', Bool.not_eq_false', ne_eq, Int.not_lt, Int.not_le, Decidable.not_not] at g10'
    have hlk : l.length = k.length := by omega
    refine run_skip ?_
    refine run_seq ?_
    refine run_seq ?_
    refine run_region ?_
    refine run_q (.none rfl) rfl rfl (q_move rfl rfl) ?_
    refine run_q (.none rfl) rfl rfl (q_len rfl Try.underlying27 rfl) ?_
    refine run_q (.none rfl) rfl rfl (q_move rfl rfl) ?_
    refine run_nil ?_
    refine run_block ?_
    refine run_sub (subMk (.cons (s := 13) rfl (.cons (s := 0) rfl (.cons (s := 1) rfl (.cons (s := 4) rfl (.cons (s := 12) rfl .nil))))) .nil) ?_
    refine run_loopC1M0 (ι := Nat) (fun i => i ≤ l.length ∧ eqL grEq l k = eqL grEq (l.drop i) (k.drop i)) (fun i => .int .i64 (i : Int))  (fun i => l.length - i) 0 (by (try dsimp only); exact ⟨by omega, rfl⟩) rfl  ?_
    rintro i hq
    (try dsimp only at hq)
    obtain ⟨hi, hE⟩ := hq
    show Run _ _ _ _ _ _ _ ⟨(13, .int .i64 (i : Int)) :: _, _⟩
    refine run_seq ?_
    refine run_region ?_
    refine run_q (.none rfl) rfl rfl (q_lss rfl rfl rfl) ?_
    refine run_nil ?_
    refine run_seq ?_
    refine run_cond rfl (fun g14 => ?_) (fun g14 => ?_)
    · have g14' := g14
      try simp only [decide_eq_true_eq, decide_eq_false_iff_not, beq_iff_eq, beq_eq_false_iff_ne, bne_iff_ne, bne_eq_false_iff_eq, Bool.not_eq_true', Bool.not_eq_false', ne_eq, Int.not_lt, Int.not_le, Decidable.not_not] at g14'
      have hkl : i < l.length := by omega
      refine run_skip ?_
      refine run_seq ?_
      refine run_block ?_
      refine run_seq ?_
      refine run_region ?_
      refine run_q (.none rfl) rfl rfl (q_move rfl rfl) ?_
      refine run_q (.none rfl) rfl rfl (q_assign rfl rfl) ?_
      refine run_nil ?_
      refine run_seq ?_
      refine run_draw [(0, 0), (1, 0), (2, 0), (3, 0), (4, 0), (5, 0), (6, 0), (7, 0), (8, 0)] mixed (by kernel_rfl) .refl ?_
      refine d_q rfl rfl (.none rfl) rfl rfl (q_move rfl rfl) ?_
      refine d_q rfl rfl (.none rfl) rfl rfl (q_move rfl rfl) ?_
      refine d_q rfl rfl (.none rfl) rfl rfl (q_indexS (q := i) rfl Try.underlying27 sz55 rfl rfl (.inp hr .no) (by simp <;> omega) rfl (by omega)) ?_
      refine d_q rfl rfl (.none rfl) rfl rfl (q_loadE rfl agg55 rfl (.inp hr .no) (getmap (by omega)) rfl) ?_
      refine d_q rfl rfl (.none rfl) rfl rfl (q_move rfl rfl) ?_
      refine d_q rfl rfl (.none rfl) rfl rfl (q_move rfl rfl) ?_
      refine d_q rfl rfl (.none rfl) rfl rfl (q_indexS (q := i) rfl Try.underlying27 sz55 rfl rfl (.inp hq .no) (by simp <;> omega) rfl (by omega)) ?_
      refine d_q rfl rfl (.none rfl) rfl rfl (q_loadE rfl agg55 rfl (.inp hq .no) (getmap (by omega)) rfl) ?_
      refine d_q rfl rfl (.none rfl) rfl rfl (q_neqS rfl rfl rfl eqg55 (fun w => eqs55 _ _ _ _ _ _ _ _ _ _ w)) ?_
      refine d_nil ?_
      refine run_sub (subMk (.cons (s := 0) rfl (.cons (s := 1) rfl (.cons (s := 4) rfl (.cons (s := 12) rfl (.cons (s := 13) rfl (.cons (s := 24) rfl .nil)))))) .refl) ?_
      refine run_cond rfl (fun g24 => ?_) (fun g24 => ?_)
      · have g24' := g24
        try simp only [decide_eq_true_eq, decide_eq_false_iff_not, beq_iff_eq, beq_eq_false_iff_ne, bne_iff_ne, bne_eq_false_iff_eq, Bool.not_eq_true', Bool.not_eq_false', ne_eq, Int.not_lt, Int.not_le, Decidable.not_not] at g24'
        refine run_seq ?_
        refine run_region ?_
        refine run_q (.none rfl) rfl rfl (q_assign rfl rfl) ?_
        refine run_nil ?_
        refine run_ret ?_
        exact end1 rfl rfl (by rw [hE, eqL_stop hkl hlk (show grEq (nth l i) (nth k i) = false from not_t g24)])
      · have g24' := g24
        try simp only [decide_eq_true_eq, decide_eq_false_iff_not, beq_iff_eq, beq_eq_false_iff_ne, bne_iff_ne, bne_eq_false_iff_eq, Bool.not_eq_true', Bool.not_eq_false', ne_eq, Int.not_lt, Int.not_le, Decidable.not_not] at g24'
        refine run_skip ?_
        refine run_blk ?_
        refine run_region ?_
        refine run_q (.none rfl) rfl rfl (q_add rfl rfl rfl (by omega)) ?_
        refine run_q (.none rfl) rfl rfl (q_move rfl rfl) ?_
        refine run_nil ?_
        exact run_again (i + 1) (by (try dsimp only); exact ⟨by omega, by rw [hE, eqL_step hkl hlk (show grEq (nth l i) (nth k i) = true from not_f g24)]⟩) (by (try dsimp only); omega) (subMk (.cons' (s := 13) rfl (vint (by omega)) (.cons (s := 0) rfl (.cons (s := 1) rfl (.cons (s := 4) rfl (.cons (s := 12) rfl .nil))))) .nil)
    · have g14' := g14
      try simp only [decide_eq_true_eq, decide_eq_false_iff_not, beq_iff_eq, beq_eq_false_iff_ne, bne_iff_ne, bne_eq_false_iff_eq, Bool.not_eq_true', Bool.not_eq_false', ne_eq, Int.not_lt, Int.not_le, Decidable.not_not] at g14'
      refine run_exit rfl ?_
      refine run_sub (subMk (.cons (s := 4) rfl .nil) .refl) ?_
      refine run_seq ?_
      refine run_region ?_
      refine run_q (.none rfl) rfl rfl (q_assign rfl rfl) ?_
      refine run_nil ?_
      refine run_ret ?_
      exact end1 rfl rfl (by rw [hE, eqL_end (by omega) hlk])

set_option maxRecDepth 100000 in
theorem eqY_just (l k : List Syl) (A B : Option Addr) (ca cb : Nat) (W : World) (hr : Rd W A 2 (l.map Syl.enc)) (hq : Rd W B 2 (k.map Syl.enc)) (hl : l.length ≤ 100000) (hk1 : k.length ≤ 100000) : Calls Try.prog 69 #[.slice A l.length ca, .slice B k.length cb] W (Hr.Just W (.bool (eqL syEq l k))) := by
  refine Just.of_ret ?_
  refine enterA (X := nX) (vs := [.slice A l.length ca, .slice B k.length cb]) Try.func69 Try.ntmps69 rfl rfl Mem.nil ?_
  refine run_seq ?_
  refine run_region ?_
  refine run_q (.none rfl) rfl rfl (q_assign rfl rfl) ?_
  refine run_nil ?_
  refine run_seq ?_
  refine run_seq ?_
  refine run_region ?_
  refine run_q (.none rfl) rfl rfl (q_move rfl rfl) ?_
  refine run_q (.none rfl) rfl rfl (q_len rfl Try.underlying28 rfl) ?_
  refine run_q (.none rfl) rfl rfl (q_move rfl rfl) ?_
  refine run_q (.none rfl) rfl rfl (q_len rfl Try.underlying28 rfl) ?_
  refine run_q (.none rfl) rfl rfl (q_neq rfl rfl rfl) ?_
  refine run_nil ?_
  refine run_sub (subMk (.cons (s := 0) rfl (.cons (s := 1) rfl (.cons (s := 4) rfl (.cons (s := 10) rfl .nil)))) .refl) ?_
  refine run_cond rfl (fun g10 => ?_) (fun g10 => ?_)
  · have g10' := g10
    try simp only [decide_eq_true_eq, decide_eq_false_iff_not, beq_iff_eq, beq_eq_false_iff_ne, bne_iff_ne, bne_eq_false_iff_eq, Bool.not_eq_true', Bool.not_eq_false', ne_eq, Int.not_lt, Int.not_le, Decidable.not_not] at g10'
    refine run_seq ?_
    refine run_region ?_
    refine run_q (.none rfl) rfl rfl (q_assign rfl rfl) ?_
    refine run_nil ?_
    refine run_ret ?_
    exact end1 rfl rfl (by rw [eqL_ne (by omega)])
  · have g10' := g10
    try simp only [decide_eq_true_eq, decide_eq_false_iff_not, beq_iff_eq, beq_eq_false_iff_ne, bne_iff_ne, bne_eq_false_iff_eq, Bool.not_eq_true', Bool.not_eq_false', ne_eq, Int.not_lt, Int.not_le, Decidable.not_not] at g10'
    have hlk : l.length = k.length := by omega
    refine run_skip ?_
    refine run_seq ?_
    refine run_seq ?_
    refine run_region ?_
    refine run_q (.none rfl) rfl rfl (q_move rfl rfl) ?_
    refine run_q (.none rfl) rfl rfl (q_len rfl Try.underlying28 rfl) ?_
    refine run_q (.none rfl) rfl rfl (q_move rfl rfl) ?_
    refine run_nil ?_
    refine run_block ?_
    refine run_sub (subMk (.cons (s := 13) rfl (.cons (s := 0) rfl (.cons (s := 1) rfl (.cons (s := 4) rfl (.cons (s := 12) rfl .nil))))) .nil) ?_
    refine run_loopC1M0 (ι := Nat) (fun i => i ≤ l.length ∧ eqL syEq l k = eqL syEq (l.drop i) (k.drop i)) (fun i => .int .i64 (i : Int))  (fun i => l.length - i) 0 (by (try dsimp only); exact ⟨by omega, rfl⟩) rfl  ?_
    rintro i hq
    (try dsimp only at hq)
    obtain ⟨hi, hE⟩ := hq
    show Run _ _ _ _ _ _ _ ⟨(13, .int .i64 (i : Int)) :: _, _⟩
    refine run_seq ?_
    refine run_region ?_
    refine run_q (.none rfl) rfl rfl (q_lss rfl rfl rfl) ?_
    refine run_nil ?_
    refine run_seq ?_
    refine run_cond rfl (fun g14 => ?_) (fun g14 => ?_)
    · have g14' := g14
      try simp only [decide_eq_true_eq, decide_eq_false_iff_not, beq_iff_eq, beq_eq_false_iff_ne, bne_iff_ne, bne_eq_false_iff_eq, Bool.not_eq_true', Bool.not_eq_false', ne_eq, Int.not_lt, Int.not_le, Decidable.not_not] at g14'
      have hkl : i < l.length := by omega
      refine run_skip ?_
      refine run_seq ?_
      refine run_block ?_
      refine run_seq ?_
      refine run_region ?_
      refine run_q (.none rfl) rfl rfl (q_move rfl rfl) ?_
      refine run_q (.none rfl) rfl rfl (q_assign rfl rfl) ?_
      refine run_nil ?_
      refine run_seq ?_
      refine run_draw [(0, 0), (1, 0), (2, 0), (3, 0), (4, 0), (5, 0), (6, 0), (7, 0), (8, 0)] mixed (by kernel_rfl) .refl ?_
      refine d_q rfl rfl (.none rfl) rfl rfl (q_move rfl rfl) ?_
      refine d_q rfl rfl (.none rfl) rfl rfl (q_move rfl rfl) ?_
      refine d_q rfl rfl (.none rfl) rfl rfl (q_indexS (q := i) rfl Try.underlying28 sz57 rfl rfl (.inp hr .no) (by simp <;> omega) rfl (by omega)) ?_
      refine d_q rfl rfl (.none rfl) rfl rfl (q_loadE rfl agg57 rfl (.inp hr .no) (getmap (by omega)) rfl) ?_
      refine d_q rfl rfl (.none rfl) rfl rfl (q_move rfl rfl) ?_
      refine d_q rfl rfl (.none rfl) rfl rfl (q_move rfl rfl) ?_
      refine d_q rfl rfl (.none rfl) rfl rfl (q_indexS (q := i) rfl Try.underlying28 sz57 rfl rfl (.inp hq .no) (by simp <;> omega) rfl (by omega)) ?_
      refine d_q rfl rfl (.none rfl) rfl rfl (q_loadE rfl agg57 rfl (.inp hq .no) (getmap (by omega)) rfl) ?_
      refine d_q rfl rfl (.none rfl) rfl rfl (q_neqS rfl rfl rfl eqg57 (fun w => eqs57 _ _ _ _ w)) ?_
      refine d_nil ?_
      refine run_sub (subMk (.cons (s := 0) rfl (.cons (s := 1) rfl (.cons (s := 4) rfl (.cons (s := 12) rfl (.cons (s := 13) rfl (.cons (s := 24) rfl .nil)))))) .refl) ?_
      refine run_cond rfl (fun g24 => ?_) (fun g24 => ?_)
      · have g24' := g24
        try simp only [decide_eq_true_eq, decide_eq_false_iff_not, beq_iff_eq, beq_eq_false_iff_ne, bne_iff_ne, bne_eq_false_iff_eq, Bool.not_eq_true', Bool.not_eq_false', ne_eq, Int.not_lt, Int.not_le, Decidable.not_not] at g24'
        refine run_seq ?_
        refine run_region ?_
        refine run_q (.none rfl) rfl rfl (q_assign rfl rfl) ?_
        refine run_nil ?_
        refine run_ret ?_
        exact end1 rfl rfl (by rw [hE, eqL_stop hkl hlk (show syEq (nth l i) (nth k i) = false from not_t g24)])
      · have g24' := g24
        try simp only [decide_eq_true_eq, decide_eq_false_iff_not, beq_iff_eq, beq_eq_false_iff_ne, bne_iff_ne, bne_eq_false_iff_eq, Bool.not_eq_true', Bool.not_eq_false', ne_eq, Int.not_lt, Int.not_le, Decidable.not_not] at g24'
        refine run_skip ?_
        refine run_blk ?_
        refine run_region ?_
        refine run_q (.none rfl) rfl rfl (q_add rfl rfl rfl (by omega)) ?_
        refine run_q (.none rfl) rfl rfl (q_move rfl rfl) ?_
        refine run_nil ?_
        exact run_again (i + 1) (by (try dsimp only); exact ⟨by omega, by rw [hE, eqL_step hkl hlk (show syEq (nth l i) (nth k i) = true from not_f g24)]⟩) (by (try dsimp only); omega) (subMk (.cons' (s := 13) rfl (vint (by omega)) (.cons (s := 0) rfl (.cons (s := 1) rfl (.cons (s := 4) rfl (.cons (s := 12) rfl .nil))))) .nil)
    · have g14' := g14
      try simp only [decide_eq_true_eq, decide_eq_false_iff_not, beq_iff_eq, beq_eq_false_iff_ne, bne_iff_ne, bne_eq_false_iff_eq, Bool.not_eq_true', Bool.not_eq_false', ne_eq, Int.not_lt, Int.not_le, Decidable.not_not] at g14'
      refine run_exit rfl ?_
      refine run_sub (subMk (.cons (s := 4) rfl .nil) .refl) ?_
      refine run_seq ?_
      refine run_region ?_
      refine run_q (.none rfl) rfl rfl (q_assign rfl rfl) ?_
      refine run_nil ?_
      refine run_ret ?_
      exact end1 rfl rfl (by rw [hE, eqL_end (by omega) hlk])

set_option maxHeartbeats 2000000 in
set_option maxRecDepth 100000 in
theorem same_just (x y : Evt) (p q : Lie) (W : World) (hx : RdE W x p) (hy : RdE W y q) (fx : x.few) (fy : y.few) : Calls Try.prog 31 #[evV x p, evV y q] W (Hr.Just W (.bool (decide (sameP x y)))) := by
  refine Just.of_ret ?_
  refine enterA (X := nX) (vs := [evV x p, evV y q]) Try.func31 Try.ntmps31 rfl rfl Mem.nil ?_
  refine run_seq ?_
  refine run_region ?_
  refine run_h (.none rfl) (h_box rfl rfl rfl rfl rfl) ?_
  rintro b2 -
  refine run_h (.none rfl) (h_box rfl rfl rfl rfl rfl) ?_
  rintro b3 -
  refine run_q (.none rfl) rfl rfl (q_assign rfl rfl) ?_
  refine run_nil ?_
  refine run_seq ?_
  refine run_region ?_
  refine run_q (.none rfl) rfl rfl (q_fieldB (d := 2) rfl Try.underlying30 rfl rfl sz3 rfl) ?_
  refine run_q (.none rfl) rfl rfl (q_loadB rfl one3 rfl (.there Sel.here) rfl) ?_
  refine run_q (.none rfl) rfl rfl (q_fieldB (d := 2) rfl Try.underlying30 rfl rfl sz3 rfl) ?_
  refine run_q (.none rfl) rfl rfl (q_loadB rfl one3 rfl Sel.here rfl) ?_
  refine run_q (.none rfl) rfl rfl (q_eql rfl rfl rfl) ?_
  refine run_q (.none rfl) rfl rfl (q_move rfl rfl) ?_
  refine run_split 10 rfl (fun g10 => ?_) (fun g10 => ?_)
  · have g10' := g10
    try simp only [decide_eq_true_eq, decide_eq_false_iff_not, beq_iff_eq, beq_eq_false_iff_ne, bne_iff_ne, bne_eq_false_iff_eq, Bool.not_eq_true', Bool.not_eq_false', ne_eq, Int.not_lt, Int.not_le, Decidable.not_not] at g10'
    refine run_q (.on rfl rfl rfl g10) rfl rfl (q_fieldB (d := 3) rfl Try.underlying30 rfl rfl sz25 rfl) ?_
    refine run_q (.on rfl rfl rfl g10) rfl rfl (q_loadBN rfl agg25 rfl (.there Sel.here) (.cons rfl (.cons rfl CellsAt.nil)) rfl) ?_
    refine run_q (.on rfl rfl rfl g10) rfl rfl (q_fieldB (d := 3) rfl Try.underlying30 rfl rfl sz25 rfl) ?_
    refine run_q (.on rfl rfl rfl g10) rfl rfl (q_loadBN rfl agg25 rfl Sel.here (.cons rfl (.cons rfl CellsAt.nil)) rfl) ?_
    refine run_q (.on rfl rfl rfl g10) rfl rfl (q_eqlS rfl rfl rfl eqg25 (fun w => eqs25 _ _ _ _ w)) ?_
    refine run_q (.none rfl) rfl rfl (q_pickT rfl rfl g10 rfl) ?_
    refine run_q (.none rfl) rfl rfl (q_move rfl rfl) ?_
    refine run_split 17 rfl (fun g17 => ?_) (fun g17 => ?_)
    · have g17' := g17
      try simp only [decide_eq_true_eq, decide_eq_false_iff_not, beq_iff_eq, beq_eq_false_iff_ne, bne_iff_ne, bne_eq_false_iff_eq, Bool.not_eq_true', Bool.not_eq_false', ne_eq, Int.not_lt, Int.not_le, Decidable.not_not] at g17'
      refine run_q (.on rfl rfl rfl g17) rfl rfl (q_fieldB (d := 7) rfl Try.underlying30 rfl rfl sz3 rfl) ?_
      refine run_q (.on rfl rfl rfl g17) rfl rfl (q_loadB rfl one3 rfl (.there Sel.here) rfl) ?_
      refine run_q (.on rfl rfl rfl g17) rfl rfl (q_fieldB (d := 7) rfl Try.underlying30 rfl rfl sz3 rfl) ?_
      refine run_q (.on rfl rfl rfl g17) rfl rfl (q_loadB rfl one3 rfl Sel.here rfl) ?_
      refine run_q (.on rfl rfl rfl g17) rfl rfl (q_eql rfl rfl rfl) ?_
      refine run_q (.none rfl) rfl rfl (q_pickT rfl rfl g17 rfl) ?_
      refine run_q (.none rfl) rfl rfl (q_move rfl rfl) ?_
      refine run_split 24 rfl (fun g24 => ?_) (fun g24 => ?_)
      · have g24' := g24
        try simp only [decide_eq_true_eq, decide_eq_false_iff_not, beq_iff_eq, beq_eq_false_iff_ne, bne_iff_ne, bne_eq_false_iff_eq, Bool.not_eq_true', Bool.not_eq_false', ne_eq, Int.not_lt, Int.not_le, Decidable.not_not] at g24'
        refine run_q (.on rfl rfl rfl g24) rfl rfl (q_fieldB (d := 8) rfl Try.underlying30 rfl rfl sz3 rfl) ?_
        refine run_q (.on rfl rfl rfl g24) rfl rfl (q_loadB rfl one3 rfl (.there Sel.here) rfl) ?_
        refine run_q (.on rfl rfl rfl g24) rfl rfl (q_fieldB (d := 8) rfl Try.underlying30 rfl rfl sz3 rfl) ?_
        refine run_q (.on rfl rfl rfl g24) rfl rfl (q_loadB rfl one3 rfl Sel.here rfl) ?_
        refine run_q (.on rfl rfl rfl g24) rfl rfl (q_eql rfl rfl rfl) ?_
        refine run_q (.none rfl) rfl rfl (q_pickT rfl rfl g24 rfl) ?_
        refine run_q (.none rfl) rfl rfl (q_move rfl rfl) ?_
        refine run_split 31 rfl (fun g31 => ?_) (fun g31 => ?_)
        · have g31' := g31
          try simp only [decide_eq_true_eq, decide_eq_false_iff_not, beq_iff_eq, beq_eq_false_iff_ne, bne_iff_ne, bne_eq_false_iff_eq, Bool.not_eq_true', Bool.not_eq_false', ne_eq, Int.not_lt, Int.not_le, Decidable.not_not] at g31'
          refine run_q (.on rfl rfl rfl g31) rfl rfl (q_fieldB (d := 9) rfl Try.underlying30 rfl rfl sz3 rfl) ?_
          refine run_q (.on rfl rfl rfl g31) rfl rfl (q_loadB rfl one3 rfl (.there Sel.here) rfl) ?_
          refine run_q (.on rfl rfl rfl g31) rfl rfl (q_fieldB (d := 9) rfl Try.underlying30 rfl rfl sz3 rfl) ?_
          refine run_q (.on rfl rfl rfl g31) rfl rfl (q_loadB rfl one3 rfl Sel.here rfl) ?_
          refine run_q (.on rfl rfl rfl g31) rfl rfl (q_eql rfl rfl rfl) ?_
          refine run_q (.none rfl) rfl rfl (q_pickT rfl rfl g31 rfl) ?_
          refine run_q (.none rfl) rfl rfl (q_move rfl rfl) ?_
          refine run_split 38 rfl (fun g38 => ?_) (fun g38 => ?_)
          · have g38' := g38
            try simp only [decide_eq_true_eq, decide_eq_false_iff_not, beq_iff_eq, beq_eq_false_iff_ne, bne_iff_ne, bne_eq_false_iff_eq, Bool.not_eq_true', Bool.not_eq_false', ne_eq, Int.not_lt, Int.not_le, Decidable.not_not] at g38'
            refine run_q (.on rfl rfl rfl g38) rfl rfl (q_fieldB (d := 11) rfl Try.underlying30 rfl rfl sz3 rfl) ?_
            refine run_q (.on rfl rfl rfl g38) rfl rfl (q_loadB rfl one3 rfl (.there Sel.here) rfl) ?_
            refine run_q (.on rfl rfl rfl g38) rfl rfl (q_fieldB (d := 11) rfl Try.underlying30 rfl rfl sz3 rfl) ?_
            refine run_q (.on rfl rfl rfl g38) rfl rfl (q_loadB rfl one3 rfl Sel.here rfl) ?_
            refine run_q (.on rfl rfl rfl g38) rfl rfl (q_eql rfl rfl rfl) ?_
            refine run_q (.none rfl) rfl rfl (q_pickT rfl rfl g38 rfl) ?_
            refine run_q (.none rfl) rfl rfl (q_move rfl rfl) ?_
            refine run_split 45 rfl (fun g45 => ?_) (fun g45 => ?_)
            · have g45' := g45
              try simp only [decide_eq_true_eq, decide_eq_false_iff_not, beq_iff_eq, beq_eq_false_iff_ne, bne_iff_ne, bne_eq_false_iff_eq, Bool.not_eq_true', Bool.not_eq_false', ne_eq, Int.not_lt, Int.not_le, Decidable.not_not] at g45'
              refine run_q (.on rfl rfl rfl g45) rfl rfl (q_fieldB (d := 12) rfl Try.underlying30 rfl rfl sz3 rfl) ?_
              refine run_q (.on rfl rfl rfl g45) rfl rfl (q_loadB rfl one3 rfl (.there Sel.here) rfl) ?_
              refine run_q (.on rfl rfl rfl g45) rfl rfl (q_fieldB (d := 12) rfl Try.underlying30 rfl rfl sz3 rfl) ?_
              refine run_q (.on rfl rfl rfl g45) rfl rfl (q_loadB rfl one3 rfl Sel.here rfl) ?_
              refine run_q (.on rfl rfl rfl g45) rfl rfl (q_eql rfl rfl rfl) ?_
              refine run_q (.none rfl) rfl rfl (q_pickT rfl rfl g45 rfl) ?_
              refine run_q (.none rfl) rfl rfl (q_move rfl rfl) ?_
              refine run_split 52 rfl (fun g52 => ?_) (fun g52 => ?_)
              · have g52' := g52
                try simp only [decide_eq_true_eq, decide_eq_false_iff_not, beq_iff_eq, beq_eq_false_iff_ne, bne_iff_ne, bne_eq_false_iff_eq, Bool.not_eq_true', Bool.not_eq_false', ne_eq, Int.not_lt, Int.not_le, Decidable.not_not] at g52'
                refine run_q (.on rfl rfl rfl g52) rfl rfl (q_fieldB (d := 5) rfl Try.underlying30 rfl rfl sz26 rfl) ?_
                refine run_q (.on rfl rfl rfl g52) rfl rfl (q_loadB rfl one26 rfl (.there Sel.here) rfl) ?_
                refine run_q (.on rfl rfl rfl g52) rfl rfl (q_fieldB (d := 5) rfl Try.underlying30 rfl rfl sz26 rfl) ?_
                refine run_q (.on rfl rfl rfl g52) rfl rfl (q_loadB rfl one26 rfl Sel.here rfl) ?_
                refine run_q (.on rfl rfl rfl g52) rfl rfl (q_call rfl call67 (.cons rfl (.cons rfl Evs.nil)) (fun w hk hm => eqH_just x.hs y.hs p.HA q.HA p.hc q.hc w (hx.h.kept0 hk) (hy.h.kept0 hk) fx.1 fy.1)) ?_
                refine run_q (.none rfl) rfl rfl (q_pickT rfl rfl g52 rfl) ?_
                refine run_q (.none rfl) rfl rfl (q_move rfl rfl) ?_
                refine run_split 59 rfl (fun g59 => ?_) (fun g59 => ?_)
                · have g59' := g59
                  try simp only [decide_eq_true_eq, decide_eq_false_iff_not, beq_iff_eq, beq_eq_false_iff_ne, bne_iff_ne, bne_eq_false_iff_eq, Bool.not_eq_true', Bool.not_eq_false', ne_eq, Int.not_lt, Int.not_le, Decidable.not_not] at g59'
                  refine run_q (.on rfl rfl rfl g59) rfl rfl (q_fieldB (d := 6) rfl Try.underlying30 rfl rfl sz27 rfl) ?_
                  refine run_q (.on rfl rfl rfl g59) rfl rfl (q_loadB rfl one27 rfl (.there Sel.here) rfl) ?_
                  refine run_q (.on rfl rfl rfl g59) rfl rfl (q_fieldB (d := 6) rfl Try.underlying30 rfl rfl sz27 rfl) ?_
                  refine run_q (.on rfl rfl rfl g59) rfl rfl (q_loadB rfl one27 rfl Sel.here rfl) ?_
                  refine run_q (.on rfl rfl rfl g59) rfl rfl (q_call rfl call68 (.cons rfl (.cons rfl Evs.nil)) (fun w hk hm => eqG_just x.gs y.gs p.GA q.GA p.gc q.gc w (hx.g.kept0 hk) (hy.g.kept0 hk) fx.2.1 fy.2.1)) ?_
                  refine run_q (.none rfl) rfl rfl (q_pickT rfl rfl g59 rfl) ?_
                  refine run_q (.none rfl) rfl rfl (q_move rfl rfl) ?_
                  refine run_split 66 rfl (fun g66 => ?_) (fun g66 => ?_)
                  · have g66' := g66
                    try simp only [decide_eq_true_eq, decide_eq_false_iff_not, beq_iff_eq, beq_eq_false_iff_ne, bne_iff_ne, bne_eq_false_iff_eq, Bool.not_eq_true', Bool.not_eq_false', ne_eq, Int.not_lt, Int.not_le, Decidable.not_not] at g66'
                    refine run_q (.on rfl rfl rfl g66) rfl rfl (q_fieldB (d := 10) rfl Try.underlying30 rfl rfl sz28 rfl) ?_
                    refine run_q (.on rfl rfl rfl g66) rfl rfl (q_loadB rfl one28 rfl (.there Sel.here) rfl) ?_
                    refine run_q (.on rfl rfl rfl g66) rfl rfl (q_fieldB (d := 10) rfl Try.underlying30 rfl rfl sz28 rfl) ?_
                    refine run_q (.on rfl rfl rfl g66) rfl rfl (q_loadB rfl one28 rfl Sel.here rfl) ?_
                    refine run_q (.on rfl rfl rfl g66) rfl rfl (q_call rfl call69 (.cons rfl (.cons rfl Evs.nil)) (fun w hk hm => eqY_just x.ls y.ls p.LA q.LA p.lc q.lc w (hx.l.kept0 hk) (hy.l.kept0 hk) fx.2.2.1 fy.2.2.1)) ?_
                    refine run_q (.none rfl) rfl rfl (q_pickT rfl rfl g66 rfl) ?_
                    refine run_q (.none rfl) rfl rfl (q_assign rfl rfl) ?_
                    refine run_nil ?_
                    refine run_sub (subMk (.cons (s := 4) rfl .nil) .refl) ?_
                    refine run_ret ?_
                    exact end1 rfl rfl (congrArg Value.bool (sameP_yes g10 g17 g24 g31 g38 g45 g52 g59 g66).symm)
                  · have g66' := g66
                    try simp only [decide_eq_true_eq, decide_eq_false_iff_not, beq_iff_eq, beq_eq_false_iff_ne, bne_iff_ne, bne_eq_false_iff_eq, Bool.not_eq_true', Bool.not_eq_false', ne_eq, Int.not_lt, Int.not_le, Decidable.not_not] at g66'
                    refine run_off (.no rfl rfl rfl g66) rfl rfl ?_
                    refine run_off (.no rfl rfl rfl g66) rfl rfl ?_
                    refine run_off (.no rfl rfl rfl g66) rfl rfl ?_
                    refine run_off (.no rfl rfl rfl g66) rfl rfl ?_
                    refine run_off (.no rfl rfl rfl g66) rfl rfl ?_
                    refine run_q (.none rfl) rfl rfl (q_pickF rfl rfl g66 rfl) ?_
                    refine run_q (.none rfl) rfl rfl (q_assign rfl rfl) ?_
                    refine run_nil ?_
                    refine run_sub (subMk (.cons (s := 4) rfl .nil) .refl) ?_
                    refine run_ret ?_
                    exact end1 rfl rfl (congrArg Value.bool (decide_eq_false (sameP_no8 g66)).symm)
                · have g59' := g59
                  try simp only [decide_eq_true_eq, decide_eq_false_iff_not, beq_iff_eq, beq_eq_false_iff_ne, bne_iff_ne, bne_eq_false_iff_eq, Bool.not_eq_true', Bool.not_eq_false', ne_eq, Int.not_lt, Int.not_le, Decidable.not_not] at g59'
                  refine run_off (.no rfl rfl rfl g59) rfl rfl ?_
                  refine run_off (.no rfl rfl rfl g59) rfl rfl ?_
                  refine run_off (.no rfl rfl rfl g59) rfl rfl ?_
                  refine run_off (.no rfl rfl rfl g59) rfl rfl ?_
                  refine run_off (.no rfl rfl rfl g59) rfl rfl ?_
                  refine run_q (.none rfl) rfl rfl (q_pickF rfl rfl g59 rfl) ?_
                  refine run_q (.none rfl) rfl rfl (q_move rfl rfl) ?_
                  refine run_off (.no rfl rfl rfl rfl) rfl rfl ?_
                  refine run_off (.no rfl rfl rfl rfl) rfl rfl ?_
                  refine run_off (.no rfl rfl rfl rfl) rfl rfl ?_
                  refine run_off (.no rfl rfl rfl rfl) rfl rfl ?_
                  refine run_off (.no rfl rfl rfl rfl) rfl rfl ?_
                  refine run_q (.none rfl) rfl rfl (q_pickF rfl rfl rfl rfl) ?_
                  refine run_q (.none rfl) rfl rfl (q_assign rfl rfl) ?_
                  refine run_nil ?_
                  refine run_sub (subMk (.cons (s := 4) rfl .nil) .refl) ?_
                  refine run_ret ?_
                  exact end1 rfl rfl (congrArg Value.bool (decide_eq_false (sameP_no7 g59)).symm)
              · have g52' := g52
                try simp only [decide_eq_true_eq, decide_eq_false_iff_not, beq_iff_eq, beq_eq_false_iff_ne, bne_iff_ne, bne_eq_false_iff_eq, Bool.not_eq_true', Bool.not_eq_false', ne_eq, Int.not_lt, Int.not_le, Decidable.not_not] at g52'
                refine run_off (.no rfl rfl rfl g52) rfl rfl ?_
                refine run_off (.no rfl rfl rfl g52) rfl rfl ?_
                refine run_off (.no rfl rfl rfl g52) rfl rfl ?_
                refine run_off (.no rfl rfl rfl g52) rfl rfl ?_
                refine run_off (.no rfl rfl rfl g52) rfl rfl ?_
                refine run_q (.none rfl) rfl rfl (q_pickF rfl rfl g52 rfl) ?_
                refine run_q (.none rfl) rfl rfl (q_move rfl rfl) ?_
                refine run_off (.no rfl rfl rfl rfl) rfl rfl ?_
                refine run_off (.no rfl rfl rfl rfl) rfl rfl ?_
                refine run_off (.no rfl rfl rfl rfl) rfl rfl ?_
                refine run_off (.no rfl rfl rfl rfl) rfl rfl ?_
                refine run_off (.no rfl rfl rfl rfl) rfl rfl ?_
                refine run_q (.none rfl) rfl rfl (q_pickF rfl rfl rfl rfl) ?_
                refine run_q (.none rfl) rfl rfl (q_move rfl rfl) ?_
                refine run_off (.no rfl rfl rfl rfl) rfl rfl ?_
                refine run_off (.no rfl rfl rfl rfl) rfl rfl ?_
                refine run_off (.no rfl rfl rfl rfl) rfl rfl ?_
                refine run_off (.no rfl rfl rfl rfl) rfl rfl ?_
                refine run_off (.no rfl rfl rfl rfl) rfl rfl ?_
                refine run_q (.none rfl) rfl rfl (q_pickF rfl rfl rfl rfl) ?_
                refine run_q (.none rfl) rfl rfl (q_assign rfl rfl) ?_
                refine run_nil ?_
                refine run_sub (subMk (.cons (s := 4) rfl .nil) .refl) ?_
                refine run_ret ?_
                exact end1 rfl rfl (congrArg Value.bool (decide_eq_false (sameP_no6 g52)).symm)
            · have g45' := g45
              try simp only [decide_eq_true_eq, decide_eq_false_iff_not, beq_iff_eq, beq_eq_false_iff_ne, bne_iff_ne, bne_eq_false_iff_eq, Bool.not_eq_true', Bool.not_eq_false', ne_eq, Int.not_lt, Int.not_le, Decidable.not_not] at g45'
              refine run_off (.no rfl rfl rfl g45) rfl rfl ?_
              refine run_off (.no rfl rfl rfl g45) rfl rfl ?_
              refine run_off (.no rfl rfl rfl g45) rfl rfl ?_
              refine run_off (.no rfl rfl rfl g45) rfl rfl ?_
              refine run_off (.no rfl rfl rfl g45) rfl rfl ?_
              refine run_q (.none rfl) rfl rfl (q_pickF rfl rfl g45 rfl) ?_
              refine run_q (.none rfl) rfl rfl (q_move rfl rfl) ?_
              refine run_off (.no rfl rfl rfl rfl) rfl rfl ?_
              refine run_off (.no rfl rfl rfl rfl) rfl rfl ?_
              refine run_off (.no rfl rfl rfl rfl) rfl rfl ?_
              refine run_off (.no rfl rfl rfl rfl) rfl rfl ?_
              refine run_off (.no rfl rfl rfl rfl) rfl rfl ?_
              refine run_q (.none rfl) rfl rfl (q_pickF rfl rfl rfl rfl) ?_
              refine run_q (.none rfl) rfl rfl (q_move rfl rfl) ?_
              refine run_off (.no rfl rfl rfl rfl) rfl rfl ?_
              refine run_off (.no rfl rfl rfl rfl) rfl rfl ?_
              refine run_off (.no rfl rfl rfl rfl) rfl rfl ?_
              refine run_off (.no rfl rfl rfl rfl) rfl rfl ?_
              refine run_off (.no rfl rfl rfl rfl) rfl rfl ?_
              refine run_q (.none rfl) rfl rfl (q_pickF rfl rfl rfl rfl) ?_
              refine run_q (.none rfl) rfl rfl (q_move rfl rfl) ?_
              refine run_off (.no rfl rfl rfl rfl) rfl rfl ?_
              refine run_off (.no rfl rfl rfl rfl) rfl rfl ?_
              refine run_off (.no rfl rfl rfl rfl) rfl rfl ?_
              refine run_off (.no rfl rfl rfl rfl) rfl rfl ?_
              refine run_off (.no rfl rfl rfl rfl) rfl rfl ?_
              refine run_q (.none rfl) rfl rfl (q_pickF rfl rfl rfl rfl) ?_
              refine run_q (.none rfl) rfl rfl (q_assign rfl rfl) ?_
              refine run_nil ?_
              refine run_sub (subMk (.cons (s := 4) rfl .nil) .refl) ?_
              refine run_ret ?_
              exact end1 rfl rfl (congrArg Value.bool (decide_eq_false (sameP_no5 g45)).symm)
          · have g38' := g38
            try simp only [decide_eq_true_eq, decide_eq_false_iff_not, beq_iff_eq, beq_eq_false_iff_ne, bne_iff_ne, bne_eq_false_iff_eq, Bool.not_eq_true', Bool.not_eq_false', ne_eq, Int.not_lt, Int.not_le, Decidable.not_not] at g38'
            refine run_off (.no rfl rfl rfl g38) rfl rfl ?_
            refine run_off (.no rfl rfl rfl g38) rfl rfl ?_
            refine run_off (.no rfl rfl rfl g38) rfl rfl ?_
            refine run_off (.no rfl rfl rfl g38) rfl rfl ?_
            refine run_off (.no rfl rfl rfl g38) rfl rfl ?_
            refine run_q (.none rfl) rfl rfl (q_pickF rfl rfl g38 rfl) ?_
            refine run_q (.none rfl) rfl rfl (q_move rfl rfl) ?_
            refine run_off (.no rfl rfl rfl rfl) rfl rfl ?_
            refine run_off (.no rfl rfl rfl rfl) rfl rfl ?_
            refine run_off (.no rfl rfl rfl rfl) rfl rfl ?_
            refine run_off (.no rfl rfl rfl rfl) rfl rfl ?_
            refine run_off (.no rfl rfl rfl rfl) rfl rfl ?_
            refine run_q (.none rfl) rfl rfl (q_pickF rfl rfl rfl rfl) ?_
            refine run_q (.none rfl) rfl rfl (q_move rfl rfl) ?_
            refine run_off (.no rfl rfl rfl rfl) rfl rfl ?_
            refine run_off (.no rfl rfl rfl rfl) rfl rfl ?_
            refine run_off (.no rfl rfl rfl rfl) rfl rfl ?_
            refine run_off (.no rfl rfl rfl rfl) rfl rfl ?_
            refine run_off (.no rfl rfl rfl rfl) rfl rfl ?_
            refine run_q (.none rfl) rfl rfl (q_pickF rfl rfl rfl rfl) ?_
            refine run_q (.none rfl) rfl rfl (q_move rfl rfl) ?_
            refine run_off (.no rfl rfl rfl rfl) rfl rfl ?_
            refine run_off (.no rfl rfl rfl rfl) rfl rfl ?_
            refine run_off (.no rfl rfl rfl rfl) rfl rfl ?_
            refine run_off (.no rfl rfl rfl rfl) rfl rfl ?_
            refine run_off (.no rfl rfl rfl rfl) rfl rfl ?_
            refine run_q (.none rfl) rfl rfl (q_pickF rfl rfl rfl rfl) ?_
            refine run_q (.none rfl) rfl rfl (q_move rfl rfl) ?_
            refine run_off (.no rfl rfl rfl rfl) rfl rfl ?_
            refine run_off (.no rfl rfl rfl rfl) rfl rfl ?_
            refine run_off (.no rfl rfl rfl rfl) rfl rfl ?_
            refine run_off (.no rfl rfl rfl rfl) rfl rfl ?_
            refine run_off (.no rfl rfl rfl rfl) rfl rfl ?_
            refine run_q (.none rfl) rfl rfl (q_pickF rfl rfl rfl rfl) ?_
            refine run_q (.none rfl) rfl rfl (q_assign rfl rfl) ?_
            refine run_nil ?_
            refine run_sub (subMk (.cons (s := 4) rfl .nil) .refl) ?_
            refine run_ret ?_
            exact end1 rfl rfl (congrArg Value.bool (decide_eq_false (sameP_no4 g38)).symm)
        · have g31' := g31
          try simp only [decide_eq_true_eq, decide_eq_false_iff_not, beq_iff_eq, beq_eq_false_iff_ne, bne_iff_ne, bne_eq_false_iff_eq, Bool.not_eq_true', Bool.not_eq_false', ne_eq, Int.not_lt, Int.not_le, Decidable.not_not] at g31'
          refine run_off (.no rfl rfl rfl g31) rfl rfl ?_
          refine run_off (.no rfl rfl rfl g31) rfl rfl ?_
          refine run_off (.no rfl rfl rfl g31) rfl rfl ?_
          refine run_off (.no rfl rfl rfl g31) rfl rfl ?_
          refine run_off (.no rfl rfl rfl g31) rfl rfl ?_
          refine run_q (.none rfl) rfl rfl (q_pickF rfl rfl g31 rfl) ?_
          refine run_q (.none rfl) rfl rfl (q_move rfl rfl) ?_
          refine run_off (.no rfl rfl rfl rfl) rfl rfl ?_
          refine run_off (.no rfl rfl rfl rfl) rfl rfl ?_
          refine run_off (.no rfl rfl rfl rfl) rfl rfl ?_
          refine run_off (.no rfl rfl rfl rfl) rfl rfl ?_
          refine run_off (.no rfl rfl rfl rfl) rfl rfl ?_
          refine run_q (.none rfl) rfl rfl (q_pickF rfl rfl rfl rfl) ?_
          refine run_q (.none rfl) rfl rfl (q_move rfl rfl) ?_
          refine run_off (.no rfl rfl rfl rfl) rfl rfl ?_
          refine run_off (.no rfl rfl rfl rfl) rfl rfl ?_
          refine run_off (.no rfl rfl rfl rfl) rfl rfl ?_
          refine run_off (.no rfl rfl rfl rfl) rfl rfl ?_
          refine run_off (.no rfl rfl rfl rfl) rfl rfl ?_
          refine run_q (.none rfl) rfl rfl (q_pickF rfl rfl rfl rfl) ?_
          refine run_q (.none rfl) rfl rfl (q_move rfl rfl) ?_
          refine run_off (.no rfl rfl rfl rfl) rfl rfl ?_
          refine run_off (.no rfl rfl rfl rfl) rfl rfl ?_
          refine run_off (.no rfl rfl rfl rfl) rfl rfl ?_
          refine run_off (.no rfl rfl rfl rfl) rfl rfl ?_
          refine run_off (.no rfl rfl rfl rfl) rfl rfl ?_
          refine run_q (.none rfl) rfl rfl (q_pickF rfl rfl rfl rfl) ?_
          refine run_q (.none rfl) rfl rfl (q_move rfl rfl) ?_
          refine run_off (.no rfl rfl rfl rfl) rfl rfl ?_
          refine run_off (.no rfl rfl rfl rfl) rfl rfl ?_
          refine run_off (.no rfl rfl rfl rfl) rfl rfl ?_
          refine run_off (.no rfl rfl rfl rfl) rfl rfl ?_
          refine run_off (.no rfl rfl rfl rfl) rfl rfl ?_
          refine run_q (.none rfl) rfl rfl (q_pickF rfl rfl rfl rfl) ?_
          refine run_q (.none rfl) rfl rfl (q_move rfl rfl) ?_
          refine run_off (.no rfl rfl rfl rfl) rfl rfl ?_
          refine run_off (.no rfl rfl rfl rfl) rfl rfl ?_
          refine run_off (.no rfl rfl rfl rfl) rfl rfl ?_
          refine run_off (.no rfl rfl rfl rfl) rfl rfl ?_
          refine run_off (.no rfl rfl rfl rfl) rfl rfl ?_
          refine run_q (.none rfl) rfl rfl (q_pickF rfl rfl rfl rfl) ?_
          refine run_q (.none rfl) rfl rfl (q_assign rfl rfl) ?_
          refine run_nil ?_
          refine run_sub (subMk (.cons (s := 4) rfl .nil) .refl) ?_
          refine run_ret ?_
          exact end1 rfl rfl (congrArg Value.bool (decide_eq_false (sameP_no3 g31)).symm)
      · have g24' := g24
        try simp only [decide_eq_true_eq, decide_eq_false_iff_not, beq_iff_eq, beq_eq_false_iff_ne, bne_iff_ne, bne_eq_false_iff_eq, Bool.not_eq_true', Bool.not_eq_false', ne_eq, Int.not_lt, Int.not_le, Decidable.not_not] at g24'
        refine run_off (.no rfl rfl rfl g24) rfl rfl ?_
        refine run_off (.no rfl rfl rfl g24) rfl rfl ?_
        refine run_off (.no rfl rfl rfl g24) rfl rfl ?_
        refine run_off (.no rfl rfl rfl g24) rfl rfl ?_
        refine run_off (.no rfl rfl rfl g24) rfl rfl ?_
        refine run_q (.none rfl) rfl rfl (q_pickF rfl rfl g24 rfl) ?_
        refine run_q (.none rfl) rfl rfl (q_move rfl rfl) ?_
        refine run_off (.no rfl rfl rfl rfl) rfl rfl ?_
        refine run_off (.no rfl rfl rfl rfl) rfl rfl ?_
        refine run_off (.no rfl rfl rfl rfl) rfl rfl ?_
        refine run_off (.no rfl rfl rfl rfl) rfl rfl ?_
        refine run_off (.no rfl rfl rfl rfl) rfl rfl ?_
        refine run_q (.none rfl) rfl rfl (q_pickF rfl rfl rfl rfl) ?_
        refine run_q (.none rfl) rfl rfl (q_move rfl rfl) ?_
        refine run_off (.no rfl rfl rfl rfl) rfl rfl ?_
        refine run_off (.no rfl rfl rfl rfl) rfl rfl ?_
        refine run_off (.no rfl rfl rfl rfl) rfl rfl ?_
        refine run_off (.no rfl rfl rfl rfl) rfl rfl ?_
        refine run_off (.no rfl rfl rfl rfl) rfl rfl ?_
        refine run_q (.none rfl) rfl rfl (q_pickF rfl rfl rfl rfl) ?_
        refine run_q (.none rfl) rfl rfl (q_move rfl rfl) ?_
        refine run_off (.no rfl rfl rfl rfl) rfl rfl ?_
        refine run_off (.no rfl rfl rfl rfl) rfl rfl ?_
        refine run_off (.no rfl rfl rfl rfl) rfl rfl ?_
        refine run_off (.no rfl rfl rfl rfl) rfl rfl ?_
        refine run_off (.no rfl rfl rfl rfl) rfl rfl ?_
        refine run_q (.none rfl) rfl rfl (q_pickF rfl rfl rfl rfl) ?_
        refine run_q (.none rfl) rfl rfl (q_move rfl rfl) ?_
        refine run_off (.no rfl rfl rfl rfl) rfl rfl ?_
        refine run_off (.no rfl rfl rfl rfl) rfl rfl ?_
        refine run_off (.no rfl rfl rfl rfl) rfl rfl ?_
        refine run_off (.no rfl rfl rfl rfl) rfl rfl ?_
        refine run_off (.no rfl rfl rfl rfl) rfl rfl ?_
        refine run_q (.none rfl) rfl rfl (q_pickF rfl rfl rfl rfl) ?_
        refine run_q (.none rfl) rfl rfl (q_move rfl rfl) ?_
        refine run_off (.no rfl rfl rfl rfl) rfl rfl ?_
        refine run_off (.no rfl rfl rfl rfl) rfl rfl ?_
        refine run_off (.no rfl rfl rfl rfl) rfl rfl ?_
        refine run_off (.no rfl rfl rfl rfl) rfl rfl ?_
        refine run_off (.no rfl rfl rfl rfl) rfl rfl ?_
        refine run_q (.none rfl) rfl rfl (q_pickF rfl rfl rfl rfl) ?_
        refine run_q (.none rfl) rfl rfl (q_move rfl rfl) ?_
        refine run_off (.no rfl rfl rfl rfl) rfl rfl ?_
        refine run_off (.no rfl rfl rfl rfl) rfl rfl ?_
        refine run_off (.no rfl rfl rfl rfl) rfl rfl ?_
        refine run_off (.no rfl rfl rfl rfl) rfl rfl ?_
        refine run_off (.no rfl rfl rfl rfl) rfl rfl ?_
        refine run_q (.none rfl) rfl rfl (q_pickF rfl rfl rfl rfl) ?_
        refine run_q (.none rfl) rfl rfl (q_assign rfl rfl) ?_
        refine run_nil ?_
        refine run_sub (subMk (.cons (s := 4) rfl .nil) .refl) ?_
        refine run_ret ?_
        exact end1 rfl rfl (congrArg Value.bool (decide_eq_false (sameP_no2 g24)).symm)
    · have g17' := g17
      try simp only [decide_eq_true_eq, decide_eq_false_iff_not, beq_iff_eq, beq_eq_false_iff_ne, bne_iff_ne, bne_eq_false_iff_eq, Bool.not_eq_true', Bool.not_eq_false', ne_eq, Int.not_lt, Int.not_le, Decidable.not_not] at g17'
      refine run_off (.no rfl rfl rfl g17) rfl rfl ?_
      refine run_off (.no rfl rfl rfl g17) rfl rfl ?_
      refine run_off (.no rfl rfl rfl g17) rfl rfl ?_
      refine run_off (.no rfl rfl rfl g17) rfl rfl ?_
      refine run_off (.no rfl rfl rfl g17) rfl rfl ?_
      refine run_q (.none rfl) rfl rfl (q_pickF rfl rfl g17 rfl) ?_
      refine run_q (.none rfl) rfl rfl (q_move rfl rfl) ?_
      refine run_off (.no rfl rfl rfl rfl) rfl rfl ?_
      refine run_off (.no rfl rfl rfl rfl) rfl rfl ?_
      refine run_off (.no rfl rfl rfl rfl) rfl rfl ?_
      refine run_off (.no rfl rfl rfl rfl) rfl rfl ?_
      refine run_off (.no rfl rfl rfl rfl) rfl rfl ?_
      refine run_q (.none rfl) rfl rfl (q_pickF rfl rfl rfl rfl) ?_
      refine run_q (.none rfl) rfl rfl (q_move rfl rfl) ?_
      refine run_off (.no rfl rfl rfl rfl) rfl rfl ?_
      refine run_off (.no rfl rfl rfl rfl) rfl rfl ?_
      refine run_off (.no rfl rfl rfl rfl) rfl rfl ?_
      refine run_off (.no rfl rfl rfl rfl) rfl rfl ?_
      refine run_off (.no rfl rfl rfl rfl) rfl rfl ?_
      refine run_q (.none rfl) rfl rfl (q_pickF rfl rfl rfl rfl) ?_
      refine run_q (.none rfl) rfl rfl (q_move rfl rfl) ?_
      refine run_off (.no rfl rfl rfl rfl) rfl rfl ?_
      refine run_off (.no rfl rfl rfl rfl) rfl rfl ?_
      refine run_off (.no rfl rfl rfl rfl) rfl rfl ?_
      refine run_off (.no rfl rfl rfl rfl) rfl rfl ?_
      refine run_off (.no rfl rfl rfl rfl) rfl rfl ?_
      refine run_q (.none rfl) rfl rfl (q_pickF rfl rfl rfl rfl) ?_
      refine run_q (.none rfl) rfl rfl (q_move rfl rfl) ?_
      refine run_off (.no rfl rfl rfl rfl) rfl rfl ?_
      refine run_off (.no rfl rfl rfl rfl) rfl rfl ?_
      refine run_off (.no rfl rfl rfl rfl) rfl rfl ?_
      refine run_off (.no rfl rfl rfl rfl) rfl rfl ?_
      refine run_off (.no rfl rfl rfl rfl) rfl rfl ?_
      refine run_q (.none rfl) rfl rfl (q_pickF rfl rfl rfl rfl) ?_
      refine run_q (.none rfl) rfl rfl (q_move rfl rfl) ?_
      refine run_off (.no rfl rfl rfl rfl) rfl rfl ?_
      refine run_off (.no rfl rfl rfl rfl) rfl rfl ?_
      refine run_off (.no rfl rfl rfl rfl) rfl rfl ?_
      refine run_off (.no rfl rfl rfl rfl) rfl rfl ?_
      refine run_off (.no rfl rfl rfl rfl) rfl rfl ?_
      refine run_q (.none rfl) rfl rfl (q_pickF rfl rfl rfl rfl) ?_
      refine run_q (.none rfl) rfl rfl (q_move rfl rfl) ?_
      refine run_off (.no rfl rfl rfl rfl) rfl rfl ?_
      refine run_off (.no rfl rfl rfl rfl) rfl rfl ?_
      refine run_off (.no rfl rfl rfl rfl) rfl rfl ?_
      refine run_off (.no rfl rfl rfl rfl) rfl rfl ?_
      refine run_off (.no rfl rfl rfl rfl) rfl rfl ?_
      refine run_q (.none rfl) rfl rfl (q_pickF rfl rfl rfl rfl) ?_
      refine run_q (.none rfl) rfl rfl (q_move rfl rfl) ?_
      refine run_off (.no rfl rfl rfl rfl) rfl rfl ?_
      refine run_off (.no rfl rfl rfl rfl) rfl rfl ?_
      refine run_off (.no rfl rfl rfl rfl) rfl rfl ?_
      refine run_off (.no rfl rfl rfl rfl) rfl rfl ?_
      refine run_off (.no rfl rfl rfl rfl) rfl rfl ?_
      refine run_q (.none rfl) rfl rfl (q_pickF rfl rfl rfl rfl) ?_
      refine run_q (.none rfl) rfl rfl (q_assign rfl rfl) ?_
      refine run_nil ?_
      refine run_sub (subMk (.cons (s := 4) rfl .nil) .refl) ?_
      refine run_ret ?_
      exact end1 rfl rfl (congrArg Value.bool (decide_eq_false (sameP_no1 g17)).symm)
  · have g10' := g10
    try simp only [decide_eq_true_eq, decide_eq_false_iff_not, beq_iff_eq, beq_eq_false_iff_ne, bne_iff_ne, bne_eq_false_iff_eq, Bool.not_eq_true', Bool.not_eq_false', ne_eq, Int.not_lt, Int.not_le, Decidable.not_not] at g10'
    refine run_off (.no rfl rfl rfl g10) rfl rfl ?_
    refine run_off (.no rfl rfl rfl g10) rfl rfl ?_
    refine run_off (.no rfl rfl rfl g10) rfl rfl ?_
    refine run_off (.no rfl rfl rfl g10) rfl rfl ?_
    refine run_off (.no rfl rfl rfl g10) rfl rfl ?_
    refine run_q (.none rfl) rfl rfl (q_pickF rfl rfl g10 rfl) ?_
    refine run_q (.none rfl) rfl rfl (q_move rfl rfl) ?_
    refine run_off (.no rfl rfl rfl rfl) rfl rfl ?_
    refine run_off (.no rfl rfl rfl rfl) rfl rfl ?_
    refine run_off (.no rfl rfl rfl rfl) rfl rfl ?_
    refine run_off (.no rfl rfl rfl rfl) rfl rfl ?_
    refine run_off (.no rfl rfl rfl rfl) rfl rfl ?_
    refine run_q (.none rfl) rfl rfl (q_pickF rfl rfl rfl rfl) ?_
    refine run_q (.none rfl) rfl rfl (q_move rfl rfl) ?_
    refine run_off (.no rfl rfl rfl rfl) rfl rfl ?_
    refine run_off (.no rfl rfl rfl rfl) rfl rfl ?_
    refine run_off (.no rfl rfl rfl rfl) rfl rfl ?_
    refine run_off (.no rfl rfl rfl rfl) rfl rfl ?_
    refine run_off (.no rfl rfl rfl rfl) rfl rfl ?_
    refine run_q (.none rfl) rfl rfl (q_pickF rfl rfl rfl rfl) ?_
    refine run_q (.none rfl) rfl rfl (q_move rfl rfl) ?_
    refine run_off (.no rfl rfl rfl rfl) rfl rfl ?_
    refine run_off (.no rfl rfl rfl rfl) rfl rfl ?_
    refine run_off (.no rfl rfl rfl rfl) rfl rfl ?_
    refine run_off (.no rfl rfl rfl rfl) rfl rfl ?_
    refine run_off (.no rfl rfl rfl rfl) rfl rfl ?_
    refine run_q (.none rfl) rfl rfl (q_pickF rfl rfl rfl rfl) ?_
    refine run_q (.none rfl) rfl rfl (q_move rfl rfl) ?_
    refine run_off (.no rfl rfl rfl rfl) rfl rfl ?_
    refine run_off (.no rfl rfl rfl rfl) rfl rfl ?_
    refine run_off (.no rfl rfl rfl rfl) rfl rfl ?_
    refine run_off (.no rfl rfl rfl rfl) rfl rfl ?_
    refine run_off (.no rfl rfl rfl rfl) rfl rfl ?_
    refine run_q (.none rfl) rfl rfl (q_pickF rfl rfl rfl rfl) ?_
    refine run_q (.none rfl) rfl rfl (q_move rfl rfl) ?_
    refine run_off (.no rfl rfl rfl rfl) rfl rfl ?_
    refine run_off (.no rfl rfl rfl rfl) rfl rfl ?_
    refine run_off (.no rfl rfl rfl rfl) rfl rfl ?_
    refine run_off (.no rfl rfl rfl rfl) rfl rfl ?_
    refine run_off (.no rfl rfl rfl rfl) rfl rfl ?_
    refine run_q (.none rfl) rfl rfl (q_pickF rfl rfl rfl rfl) ?_
    refine run_q (.none rfl) rfl rfl (q_move rfl rfl) ?_
    refine run_off (.no rfl rfl rfl rfl) rfl rfl ?_
    refine run_off (.no rfl rfl rfl rfl) rfl rfl ?_
    refine run_off (.no rfl rfl rfl rfl) rfl rfl ?_
    refine run_off (.no rfl rfl rfl rfl) rfl rfl ?_
    refine run_off (.no rfl rfl rfl rfl) rfl rfl ?_
    refine run_q (.none rfl) rfl rfl (q_pickF rfl rfl rfl rfl) ?_
    refine run_q (.none rfl) rfl rfl (q_move rfl rfl) ?_
    refine run_off (.no rfl rfl rfl rfl) rfl rfl ?_
    refine run_off (.no rfl rfl rfl rfl) rfl rfl ?_
    refine run_off (.no rfl rfl rfl rfl) rfl rfl ?_
    refine run_off (.no rfl rfl rfl rfl) rfl rfl ?_
    refine run_off (.no rfl rfl rfl rfl) rfl rfl ?_
    refine run_q (.none rfl) rfl rfl (q_pickF rfl rfl rfl rfl) ?_
    refine run_q (.none rfl) rfl rfl (q_move rfl rfl) ?_
    refine run_off (.no rfl rfl rfl rfl) rfl rfl ?_
    refine run_off (.no rfl rfl rfl rfl) rfl rfl ?_
    refine run_off (.no rfl rfl rfl rfl) rfl rfl ?_
    refine run_off (.no rfl rfl rfl rfl) rfl rfl ?_
    refine run_off (.no rfl rfl rfl rfl) rfl rfl ?_
    refine run_q (.none rfl) rfl rfl (q_pickF rfl rfl rfl rfl) ?_
    refine run_q (.none rfl) rfl rfl (q_assign rfl rfl) ?_
    refine run_nil ?_
    refine run_sub (subMk (.cons (s := 4) rfl .nil) .refl) ?_
    refine run_ret ?_
    exact end1 rfl rfl (congrArg Value.bool (decide_eq_false (sameP_no0 g10)).symm)

set_option maxHeartbeats 4000000 in
set_option maxRecDepth 100000 in
theorem refSame_just (x y : Evt) (p q : Lie) (W : World) (hx : RdE W x p) (hy : RdE W y q) (fx : x.few) (fy : y.few) : Calls Try.prog 32 #[evV x p, evV y q] W (Hr.Just W (.bool (decide (sameP x y)))) := by
  obtain ⟨fx1, fx2, fx3, fx4⟩ := fx
  obtain ⟨fy1, fy2, fy3, fy4⟩ := fy
  refine Just.of_ret ?_
  refine enterA (X := nX) (vs := [evV x p, evV y q]) Try.func32 Try.ntmps32 rfl rfl Mem.nil ?_
  refine run_seq ?_
  refine run_region ?_
  refine run_h (.none rfl) (h_box rfl rfl rfl rfl rfl) ?_
  rintro b2 -
  refine run_h (.none rfl) (h_box rfl rfl rfl rfl rfl) ?_
  rintro b3 -
  refine run_q (.none rfl) rfl rfl (q_assign rfl rfl) ?_
  refine run_nil ?_
  refine run_seq ?_
  refine run_seq ?_
  refine run_region ?_
  refine run_q (.none rfl) rfl rfl (q_fieldB (d := 2) rfl Try.underlying30 rfl rfl sz3 rfl) ?_
  refine run_q (.none rfl) rfl rfl (q_loadB rfl one3 rfl (.there Sel.here) rfl) ?_
  refine run_q (.none rfl) rfl rfl (q_fieldB (d := 2) rfl Try.underlying30 rfl rfl sz3 rfl) ?_
  refine run_q (.none rfl) rfl rfl (q_loadB rfl one3 rfl Sel.here rfl) ?_
  refine run_q (.none rfl) rfl rfl (q_neq rfl rfl rfl) ?_
  refine run_q (.none rfl) rfl rfl (q_move rfl rfl) ?_
  refine run_split 13 rfl (fun g13 => ?_) (fun g13 => ?_)
  · have g13' := g13
    try simp only [decide_eq_true_eq, decide_eq_false_iff_not, beq_iff_eq, beq_eq_false_iff_ne, bne_iff_ne, bne_eq_false_iff_eq, Bool.not_eq_true', Bool.not_eq_false', ne_eq, Int.not_lt, Int.not_le, Decidable.not_not] at g13'
    refine run_off (.no rfl rfl rfl g13) rfl rfl ?_
    refine run_off (.no rfl rfl rfl g13) rfl rfl ?_
    refine run_off (.no rfl rfl rfl g13) rfl rfl ?_
    refine run_off (.no rfl rfl rfl g13) rfl rfl ?_
    refine run_off (.no rfl rfl rfl g13) rfl rfl ?_
    refine run_q (.none rfl) rfl rfl (q_pickT rfl rfl g13 rfl) ?_
    refine run_q (.none rfl) rfl rfl (q_move rfl rfl) ?_
    refine run_off (.no rfl rfl rfl rfl) rfl rfl ?_
    refine run_off (.no rfl rfl rfl rfl) rfl rfl ?_
    refine run_off (.no rfl rfl rfl rfl) rfl rfl ?_
    refine run_off (.no rfl rfl rfl rfl) rfl rfl ?_
    refine run_off (.no rfl rfl rfl rfl) rfl rfl ?_
    refine run_q (.none rfl) rfl rfl (q_pickT rfl rfl rfl rfl) ?_
    refine run_q (.none rfl) rfl rfl (q_move rfl rfl) ?_
    refine run_off (.no rfl rfl rfl rfl) rfl rfl ?_
    refine run_off (.no rfl rfl rfl rfl) rfl rfl ?_
    refine run_off (.no rfl rfl rfl rfl) rfl rfl ?_
    refine run_off (.no rfl rfl rfl rfl) rfl rfl ?_
    refine run_off (.no rfl rfl rfl rfl) rfl rfl ?_
    refine run_q (.none rfl) rfl rfl (q_pickT rfl rfl rfl rfl) ?_
    refine run_q (.none rfl) rfl rfl (q_move rfl rfl) ?_
    refine run_off (.no rfl rfl rfl rfl) rfl rfl ?_
    refine run_off (.no rfl rfl rfl rfl) rfl rfl ?_
    refine run_off (.no rfl rfl rfl rfl) rfl rfl ?_
    refine run_off (.no rfl rfl rfl rfl) rfl rfl ?_
    refine run_off (.no rfl rfl rfl rfl) rfl rfl ?_
    refine run_q (.none rfl) rfl rfl (q_pickT rfl rfl rfl rfl) ?_
    refine run_q (.none rfl) rfl rfl (q_move rfl rfl) ?_
    refine run_off (.no rfl rfl rfl rfl) rfl rfl ?_
    refine run_off (.no rfl rfl rfl rfl) rfl rfl ?_
    refine run_off (.no rfl rfl rfl rfl) rfl rfl ?_
    refine run_off (.no rfl rfl rfl rfl) rfl rfl ?_
    refine run_off (.no rfl rfl rfl rfl) rfl rfl ?_
    refine run_q (.none rfl) rfl rfl (q_pickT rfl rfl rfl rfl) ?_
    refine run_q (.none rfl) rfl rfl (q_move rfl rfl) ?_
    refine run_off (.no rfl rfl rfl rfl) rfl rfl ?_
    refine run_off (.no rfl rfl rfl rfl) rfl rfl ?_
    refine run_off (.no rfl rfl rfl rfl) rfl rfl ?_
    refine run_off (.no rfl rfl rfl rfl) rfl rfl ?_
    refine run_off (.no rfl rfl rfl rfl) rfl rfl ?_
    refine run_q (.none rfl) rfl rfl (q_pickT rfl rfl rfl rfl) ?_
    refine run_q (.none rfl) rfl rfl (q_move rfl rfl) ?_
    refine run_off (.no rfl rfl rfl rfl) rfl rfl ?_
    refine run_off (.no rfl rfl rfl rfl) rfl rfl ?_
    refine run_off (.no rfl rfl rfl rfl) rfl rfl ?_
    refine run_off (.no rfl rfl rfl rfl) rfl rfl ?_
    refine run_off (.no rfl rfl rfl rfl) rfl rfl ?_
    refine run_off (.no rfl rfl rfl rfl) rfl rfl ?_
    refine run_off (.no rfl rfl rfl rfl) rfl rfl ?_
    refine run_q (.none rfl) rfl rfl (q_pickT rfl rfl rfl rfl) ?_
    refine run_q (.none rfl) rfl rfl (q_move rfl rfl) ?_
    refine run_off (.no rfl rfl rfl rfl) rfl rfl ?_
    refine run_off (.no rfl rfl rfl rfl) rfl rfl ?_
    refine run_off (.no rfl rfl rfl rfl) rfl rfl ?_
    refine run_off (.no rfl rfl rfl rfl) rfl rfl ?_
    refine run_off (.no rfl rfl rfl rfl) rfl rfl ?_
    refine run_off (.no rfl rfl rfl rfl) rfl rfl ?_
    refine run_off (.no rfl rfl rfl rfl) rfl rfl ?_
    refine run_q (.none rfl) rfl rfl (q_pickT rfl rfl rfl rfl) ?_
    refine run_q (.none rfl) rfl rfl (q_move rfl rfl) ?_
    refine run_off (.no rfl rfl rfl rfl) rfl rfl ?_
    refine run_off (.no rfl rfl rfl rfl) rfl rfl ?_
    refine run_off (.no rfl rfl rfl rfl) rfl rfl ?_
    refine run_off (.no rfl rfl rfl rfl) rfl rfl ?_
    refine run_off (.no rfl rfl rfl rfl) rfl rfl ?_
    refine run_off (.no rfl rfl rfl rfl) rfl rfl ?_
    refine run_off (.no rfl rfl rfl rfl) rfl rfl ?_
    refine run_q (.none rfl) rfl rfl (q_pickT rfl rfl rfl rfl) ?_
    refine run_nil ?_
    refine run_sub (subMk (.cons (s := 2) rfl (.cons (s := 3) rfl (.cons (s := 4) rfl (.cons (s := 81) rfl .nil)))) .refl) ?_
    refine run_condT rfl rfl ?_
    refine run_seq ?_
    refine run_region ?_
    refine run_q (.none rfl) rfl rfl (q_assign rfl rfl) ?_
    refine run_nil ?_
    refine run_ret ?_
    exact end1 rfl rfl (congrArg Value.bool (decide_eq_false (sameQ_no0 g13)).symm)
  · have g13' := g13
    try simp only [decide_eq_true_eq, decide_eq_false_iff_not, beq_iff_eq, beq_eq_false_iff_ne, bne_iff_ne, bne_eq_false_iff_eq, Bool.not_eq_true', Bool.not_eq_false', ne_eq, Int.not_lt, Int.not_le, Decidable.not_not] at g13'
    refine run_q (.on rfl rfl rfl g13) rfl rfl (q_fieldB (d := 3) rfl Try.underlying30 rfl rfl sz25 rfl) ?_
    refine run_q (.on rfl rfl rfl g13) rfl rfl (q_loadBN rfl agg25 rfl (.there Sel.here) (.cons rfl (.cons rfl CellsAt.nil)) rfl) ?_
    refine run_q (.on rfl rfl rfl g13) rfl rfl (q_fieldB (d := 3) rfl Try.underlying30 rfl rfl sz25 rfl) ?_
    refine run_q (.on rfl rfl rfl g13) rfl rfl (q_loadBN rfl agg25 rfl Sel.here (.cons rfl (.cons rfl CellsAt.nil)) rfl) ?_
    refine run_q (.on rfl rfl rfl g13) rfl rfl (q_neqS rfl rfl rfl eqg25 (fun w => eqs25 _ _ _ _ w)) ?_
    refine run_q (.none rfl) rfl rfl (q_pickF rfl rfl g13 rfl) ?_
    refine run_q (.none rfl) rfl rfl (q_move rfl rfl) ?_
    refine run_split 20 rfl (fun g20 => ?_) (fun g20 => ?_)
    · have g20' := g20
      try simp only [decide_eq_true_eq, decide_eq_false_iff_not, beq_iff_eq, beq_eq_false_iff_ne, bne_iff_ne, bne_eq_false_iff_eq, Bool.not_eq_true', Bool.not_eq_false', ne_eq, Int.not_lt, Int.not_le, Decidable.not_not] at g20'
      refine run_off (.no rfl rfl rfl g20) rfl rfl ?_
      refine run_off (.no rfl rfl rfl g20) rfl rfl ?_
      refine run_off (.no rfl rfl rfl g20) rfl rfl ?_
      refine run_off (.no rfl rfl rfl g20) rfl rfl ?_
      refine run_off (.no rfl rfl rfl g20) rfl rfl ?_
      refine run_q (.none rfl) rfl rfl (q_pickT rfl rfl g20 rfl) ?_
      refine run_q (.none rfl) rfl rfl (q_move rfl rfl) ?_
      refine run_off (.no rfl rfl rfl rfl) rfl rfl ?_
      refine run_off (.no rfl rfl rfl rfl) rfl rfl ?_
      refine run_off (.no rfl rfl rfl rfl) rfl rfl ?_
      refine run_off (.no rfl rfl rfl rfl) rfl rfl ?_
      refine run_off (.no rfl rfl rfl rfl) rfl rfl ?_
      refine run_q (.none rfl) rfl rfl (q_pickT rfl rfl rfl rfl) ?_
      refine run_q (.none rfl) rfl rfl (q_move rfl rfl) ?_
      refine run_off (.no rfl rfl rfl rfl) rfl rfl ?_
      refine run_off (.no rfl rfl rfl rfl) rfl rfl ?_
      refine run_off (.no rfl rfl rfl rfl) rfl rfl ?_
      refine run_off (.no rfl rfl rfl rfl) rfl rfl ?_
      refine run_off (.no rfl rfl rfl rfl) rfl rfl ?_
      refine run_q (.none rfl) rfl rfl (q_pickT rfl rfl rfl rfl) ?_
      refine run_q (.none rfl) rfl rfl (q_move rfl rfl) ?_
      refine run_off (.no rfl rfl rfl rfl) rfl rfl ?_
      refine run_off (.no rfl rfl rfl rfl) rfl rfl ?_
      refine run_off (.no rfl rfl rfl rfl) rfl rfl ?_
      refine run_off (.no rfl rfl rfl rfl) rfl rfl ?_
      refine run_off (.no rfl rfl rfl rfl) rfl rfl ?_
      refine run_q (.none rfl) rfl rfl (q_pickT rfl rfl rfl rfl) ?_
      refine run_q (.none rfl) rfl rfl (q_move rfl rfl) ?_
      refine run_off (.no rfl rfl rfl rfl) rfl rfl ?_
      refine run_off (.no rfl rfl rfl rfl) rfl rfl ?_
      refine run_off (.no rfl rfl rfl rfl) rfl rfl ?_
      refine run_off (.no rfl rfl rfl rfl) rfl rfl ?_
      refine run_off (.no rfl rfl rfl rfl) rfl rfl ?_
      refine run_q (.none rfl) rfl rfl (q_pickT rfl rfl rfl rfl) ?_
      refine run_q (.none rfl) rfl rfl (q_move rfl rfl) ?_
      refine run_off (.no rfl rfl rfl rfl) rfl rfl ?_
      refine run_off (.no rfl rfl rfl rfl) rfl rfl ?_
      refine run_off (.no rfl rfl rfl rfl) rfl rfl ?_
      refine run_off (.no rfl rfl rfl rfl) rfl rfl ?_
      refine run_off (.no rfl rfl rfl rfl) rfl rfl ?_
      refine run_off (.no rfl rfl rfl rfl) rfl rfl ?_
      refine run_off (.no rfl rfl rfl rfl) rfl rfl ?_
      refine run_q (.none rfl) rfl rfl (q_pickT rfl rfl rfl rfl) ?_
      refine run_q (.none rfl) rfl rfl (q_move rfl rfl) ?_
      refine run_off (.no rfl rfl rfl rfl) rfl rfl ?_
      refine run_off (.no rfl rfl rfl rfl) rfl rfl ?_
      refine run_off (.no rfl rfl rfl rfl) rfl rfl ?_
      refine run_off (.no rfl rfl rfl rfl) rfl rfl ?_
      refine run_off (.no rfl rfl rfl rfl) rfl rfl ?_
      refine run_off (.no rfl rfl rfl rfl) rfl rfl ?_
      refine run_off (.no rfl rfl rfl rfl) rfl rfl ?_
      refine run_q (.none rfl) rfl rfl (q_pickT rfl rfl rfl rfl) ?_
      refine run_q (.none rfl) rfl rfl (q_move rfl rfl) ?_
      refine run_off (.no rfl rfl rfl rfl) rfl rfl ?_
      refine run_off (.no rfl rfl rfl rfl) rfl rfl ?_
      refine run_off (.no rfl rfl rfl rfl) rfl rfl ?_
      refine run_off (.no rfl rfl rfl rfl) rfl rfl ?_
      refine run_off (.no rfl rfl rfl rfl) rfl rfl ?_
      refine run_off (.no rfl rfl rfl rfl) rfl rfl ?_
      refine run_off (.no rfl rfl rfl rfl) rfl rfl ?_
      refine run_q (.none rfl) rfl rfl (q_pickT rfl rfl rfl rfl) ?_
      refine run_nil ?_
      refine run_sub (subMk (.cons (s := 2) rfl (.cons (s := 3) rfl (.cons (s := 4) rfl (.cons (s := 81) rfl .nil)))) .refl) ?_
      refine run_condT rfl rfl ?_
      refine run_seq ?_
      refine run_region ?_
      refine run_q (.none rfl) rfl rfl (q_assign rfl rfl) ?_
      refine run_nil ?_
      refine run_ret ?_
      exact end1 rfl rfl (congrArg Value.bool (decide_eq_false (sameQ_no1 g20)).symm)
    · have g20' := g20
      try simp only [decide_eq_true_eq, decide_eq_false_iff_not, beq_iff_eq, beq_eq_false_iff_ne, bne_iff_ne, bne_eq_false_iff_eq, Bool.not_eq_true', Bool.not_eq_false', ne_eq, Int.not_lt, Int.not_le, Decidable.not_not] at g20'
      refine run_q (.on rfl rfl rfl g20) rfl rfl (q_fieldB (d := 7) rfl Try.underlying30 rfl rfl sz3 rfl) ?_
      refine run_q (.on rfl rfl rfl g20) rfl rfl (q_loadB rfl one3 rfl (.there Sel.here) rfl) ?_
      refine run_q (.on rfl rfl rfl g20) rfl rfl (q_fieldB (d := 7) rfl Try.underlying30 rfl rfl sz3 rfl) ?_
      refine run_q (.on rfl rfl rfl g20) rfl rfl (q_loadB rfl one3 rfl Sel.here rfl) ?_
      refine run_q (.on rfl rfl rfl g20) rfl rfl (q_neq rfl rfl rfl) ?_
      refine run_q (.none rfl) rfl rfl (q_pickF rfl rfl g20 rfl) ?_
      refine run_q (.none rfl) rfl rfl (q_move rfl rfl) ?_
      refine run_split 27 rfl (fun g27 => ?_) (fun g27 => ?_)
      · have g27' := g27
        try simp only [decide_eq_true_eq, decide_eq_false_iff_not, beq_iff_eq, beq_eq_false_iff_ne, bne_iff_ne, bne_eq_false_iff_eq, Bool.not_eq_true', Bool.not_eq_false', ne_eq, Int.not_lt, Int.not_le, Decidable.not_not] at g27'
        refine run_off (.no rfl rfl rfl g27) rfl rfl ?_
        refine run_off (.no rfl rfl rfl g27) rfl rfl ?_
        refine run_off (.no rfl rfl rfl g27) rfl rfl ?_
        refine run_off (.no rfl rfl rfl g27) rfl rfl ?_
        refine run_off (.no rfl rfl rfl g27) rfl rfl ?_
        refine run_q (.none rfl) rfl rfl (q_pickT rfl rfl g27 rfl) ?_
        refine run_q (.none rfl) rfl rfl (q_move rfl rfl) ?_
        refine run_off (.no rfl rfl rfl rfl) rfl rfl ?_
        refine run_off (.no rfl rfl rfl rfl) rfl rfl ?_
        refine run_off (.no rfl rfl rfl rfl) rfl rfl ?_
        refine run_off (.no rfl rfl rfl rfl) rfl rfl ?_
        refine run_off (.no rfl rfl rfl rfl) rfl rfl ?_
        refine run_q (.none rfl) rfl rfl (q_pickT rfl rfl rfl rfl) ?_
        refine run_q (.none rfl) rfl rfl (q_move rfl rfl) ?_
        refine run_off (.no rfl rfl rfl rfl) rfl rfl ?_
        refine run_off (.no rfl rfl rfl rfl) rfl rfl ?_
        refine run_off (.no rfl rfl rfl rfl) rfl rfl ?_
        refine run_off (.no rfl rfl rfl rfl) rfl rfl ?_
        refine run_off (.no rfl rfl rfl rfl) rfl rfl ?_
        refine run_q (.none rfl) rfl rfl (q_pickT rfl rfl rfl rfl) ?_
        refine run_q (.none rfl) rfl rfl (q_move rfl rfl) ?_
        refine run_off (.no rfl rfl rfl rfl) rfl rfl ?_
        refine run_off (.no rfl rfl rfl rfl) rfl rfl ?_
        refine run_off (.no rfl rfl rfl rfl) rfl rfl ?_
        refine run_off (.no rfl rfl rfl rfl) rfl rfl ?_
        refine run_off (.no rfl rfl rfl rfl) rfl rfl ?_
        refine run_q (.none rfl) rfl rfl (q_pickT rfl rfl rfl rfl) ?_
        refine run_q (.none rfl) rfl rfl (q_move rfl rfl) ?_
        refine run_off (.no rfl rfl rfl rfl) rfl rfl ?_
        refine run_off (.no rfl rfl rfl rfl) rfl rfl ?_
        refine run_off (.no rfl rfl rfl rfl) rfl rfl ?_
        refine run_off (.no rfl rfl rfl rfl) rfl rfl ?_
        refine run_off (.no rfl rfl rfl rfl) rfl rfl ?_
        refine run_off (.no rfl rfl rfl rfl) rfl rfl ?_
        refine run_off (.no rfl rfl rfl rfl) rfl rfl ?_
        refine run_q (.none rfl) rfl rfl (q_pickT rfl rfl rfl rfl) ?_
        refine run_q (.none rfl) rfl rfl (q_move rfl rfl) ?_
        refine run_off (.no rfl rfl rfl rfl) rfl rfl ?_
        refine run_off (.no rfl rfl rfl rfl) rfl rfl ?_
        refine run_off (.no rfl rfl rfl rfl) rfl rfl ?_
        refine run_off (.no rfl rfl rfl rfl) rfl rfl ?_
        refine run_off (.no rfl rfl rfl rfl) rfl rfl ?_
        refine run_off (.no rfl rfl rfl rfl) rfl rfl ?_
        refine run_off (.no rfl rfl rfl rfl) rfl rfl ?_
        refine run_q (.none rfl) rfl rfl (q_pickT rfl rfl rfl rfl) ?_
        refine run_q (.none rfl) rfl rfl (q_move rfl rfl) ?_
        refine run_off (.no rfl rfl rfl rfl) rfl rfl ?_
        refine run_off (.no rfl rfl rfl rfl) rfl rfl ?_
        refine run_off (.no rfl rfl rfl rfl) rfl rfl ?_
        refine run_off (.no rfl rfl rfl rfl) rfl rfl ?_
        refine run_off (.no rfl rfl rfl rfl) rfl rfl ?_
        refine run_off (.no rfl rfl rfl rfl) rfl rfl ?_
        refine run_off (.no rfl rfl rfl rfl) rfl rfl ?_
        refine run_q (.none rfl) rfl rfl (q_pickT rfl rfl rfl rfl) ?_
        refine run_nil ?_
        refine run_sub (subMk (.cons (s := 2) rfl (.cons (s := 3) rfl (.cons (s := 4) rfl (.cons (s := 81) rfl .nil)))) .refl) ?_
        refine run_condT rfl rfl ?_
        refine run_seq ?_
        refine run_region ?_
        refine run_q (.none rfl) rfl rfl (q_assign rfl rfl) ?_
        refine run_nil ?_
        refine run_ret ?_
        exact end1 rfl rfl (congrArg Value.bool (decide_eq_false (sameQ_no2 g27)).symm)
      · have g27' := g27
        try simp only [decide_eq_true_eq, decide_eq_false_iff_not, beq_iff_eq, beq_eq_false_iff_ne, bne_iff_ne, bne_eq_false_iff_eq, Bool.not_eq_true', Bool.not_eq_false', ne_eq, Int.not_lt, Int.not_le, Decidable.not_not] at g27'
        refine run_q (.on rfl rfl rfl g27) rfl rfl (q_fieldB (d := 8) rfl Try.underlying30 rfl rfl sz3 rfl) ?_
        refine run_q (.on rfl rfl rfl g27) rfl rfl (q_loadB rfl one3 rfl (.there Sel.here) rfl) ?_
        refine run_q (.on rfl rfl rfl g27) rfl rfl (q_fieldB (d := 8) rfl Try.underlying30 rfl rfl sz3 rfl) ?_
        refine run_q (.on rfl rfl rfl g27) rfl rfl (q_loadB rfl one3 rfl Sel.here rfl) ?_
        refine run_q (.on rfl rfl rfl g27) rfl rfl (q_neq rfl rfl rfl) ?_
        refine run_q (.none rfl) rfl rfl (q_pickF rfl rfl g27 rfl) ?_
        refine run_q (.none rfl) rfl rfl (q_move rfl rfl) ?_
        refine run_split 34 rfl (fun g34 => ?_) (fun g34 => ?_)
        · have g34' := g34
          try simp only [decide_eq_true_eq, decide_eq_false_iff_not, beq_iff_eq, beq_eq_false_iff_ne, bne_iff_ne, bne_eq_false_iff_eq, Bool.not_eq_true', Bool.not_eq_false', ne_eq, Int.not_lt, Int.not_le, Decidable.not_not] at g34'
          refine run_off (.no rfl rfl rfl g34) rfl rfl ?_
          refine run_off (.no rfl rfl rfl g34) rfl rfl ?_
          refine run_off (.no rfl rfl rfl g34) rfl rfl ?_
          refine run_off (.no rfl rfl rfl g34) rfl rfl ?_
          refine run_off (.no rfl rfl rfl g34) rfl rfl ?_
          refine run_q (.none rfl) rfl rfl (q_pickT rfl rfl g34 rfl) ?_
          refine run_q (.none rfl) rfl rfl (q_move rfl rfl) ?_
          refine run_off (.no rfl rfl rfl rfl) rfl rfl ?_
          refine run_off (.no rfl rfl rfl rfl) rfl rfl ?_
          refine run_off (.no rfl rfl rfl rfl) rfl rfl ?_
          refine run_off (.no rfl rfl rfl rfl) rfl rfl ?_
          refine run_off (.no rfl rfl rfl rfl) rfl rfl ?_
          refine run_q (.none rfl) rfl rfl (q_pickT rfl rfl rfl rfl) ?_
          refine run_q (.none rfl) rfl rfl (q_move rfl rfl) ?_
          refine run_off (.no rfl rfl rfl rfl) rfl rfl ?_
          refine run_off (.no rfl rfl rfl rfl) rfl rfl ?_
          refine run_off (.no rfl rfl rfl rfl) rfl rfl ?_
          refine run_off (.no rfl rfl rfl rfl) rfl rfl ?_
          refine run_off (.no rfl rfl rfl rfl) rfl rfl ?_
          refine run_q (.none rfl) rfl rfl (q_pickT rfl rfl rfl rfl) ?_
          refine run_q (.none rfl) rfl rfl (q_move rfl rfl) ?_
          refine run_off (.no rfl rfl rfl rfl) rfl rfl ?_
          refine run_off (.no rfl rfl rfl rfl) rfl rfl ?_
          refine run_off (.no rfl rfl rfl rfl) rfl rfl ?_
          refine run_off (.no rfl rfl rfl rfl) rfl rfl ?_
          refine run_off (.no rfl rfl rfl rfl) rfl rfl ?_
          refine run_off (.no rfl rfl rfl rfl) rfl rfl ?_
          refine run_off (.no rfl rfl rfl rfl) rfl rfl ?_
          refine run_q (.none rfl) rfl rfl (q_pickT rfl rfl rfl rfl) ?_
          refine run_q (.none rfl) rfl rfl (q_move rfl rfl) ?_
          refine run_off (.no rfl rfl rfl rfl) rfl rfl ?_
          refine run_off (.no rfl rfl rfl rfl) rfl rfl ?_
          refine run_off (.no rfl rfl rfl rfl) rfl rfl ?_
          refine run_off (.no rfl rfl rfl rfl) rfl rfl ?_
          refine run_off (.no rfl rfl rfl rfl) rfl rfl ?_
          refine run_off (.no rfl rfl rfl rfl) rfl rfl ?_
          refine run_off (.no rfl rfl rfl rfl) rfl rfl ?_
          refine run_q (.none rfl) rfl rfl (q_pickT rfl rfl rfl rfl) ?_
          refine run_q (.none rfl) rfl rfl (q_move rfl rfl) ?_
          refine run_off (.no rfl rfl rfl rfl) rfl rfl ?_
          refine run_off (.no rfl rfl rfl rfl) rfl rfl ?_
          refine run_off (.no rfl rfl rfl rfl) rfl rfl ?_
          refine run_off (.no rfl rfl rfl rfl) rfl rfl ?_
          refine run_off (.no rfl rfl rfl rfl) rfl rfl ?_
          refine run_off (.no rfl rfl rfl rfl) rfl rfl ?_
          refine run_off (.no rfl rfl rfl rfl) rfl rfl ?_
          refine run_q (.none rfl) rfl rfl (q_pickT rfl rfl rfl rfl) ?_
          refine run_nil ?_
          refine run_sub (subMk (.cons (s := 2) rfl (.cons (s := 3) rfl (.cons (s := 4) rfl (.cons (s := 81) rfl .nil)))) .refl) ?_
          refine run_condT rfl rfl ?_
          refine run_seq ?_
          refine run_region ?_
          refine run_q (.none rfl) rfl rfl (q_assign rfl rfl) ?_
          refine run_nil ?_
          refine run_ret ?_
          exact end1 rfl rfl (congrArg Value.bool (decide_eq_false (sameQ_no3 g34)).symm)
        · have g34' := g34
          try simp only [decide_eq_true_eq, decide_eq_false_iff_not, beq_iff_eq, beq_eq_false_iff_ne, bne_iff_ne, bne_eq_false_iff_eq, Bool.not_eq_true', Bool.not_eq_false', ne_eq, Int.not_lt, Int.not_le, Decidable.not_not] at g34'
          refine run_q (.on rfl rfl rfl g34) rfl rfl (q_fieldB (d := 9) rfl Try.underlying30 rfl rfl sz3 rfl) ?_
          refine run_q (.on rfl rfl rfl g34) rfl rfl (q_loadB rfl one3 rfl (.there Sel.here) rfl) ?_
          refine run_q (.on rfl rfl rfl g34) rfl rfl (q_fieldB (d := 9) rfl Try.underlying30 rfl rfl sz3 rfl) ?_
          refine run_q (.on rfl rfl rfl g34) rfl rfl (q_loadB rfl one3 rfl Sel.here rfl) ?_
          refine run_q (.on rfl rfl rfl g34) rfl rfl (q_neq rfl rfl rfl) ?_
          refine run_q (.none rfl) rfl rfl (q_pickF rfl rfl g34 rfl) ?_
          refine run_q (.none rfl) rfl rfl (q_move rfl rfl) ?_
          refine run_split 41 rfl (fun g41 => ?_) (fun g41 => ?_)
          · have g41' := g41
            try simp only [decide_eq_true_eq, decide_eq_false_iff_not, beq_iff_eq, beq_eq_false_iff_ne, bne_iff_ne, bne_eq_false_iff_eq, Bool.not_eq_true', Bool.not_eq_false', ne_eq, Int.not_lt, Int.not_le, Decidable.not_not] at g41'
            refine run_off (.no rfl rfl rfl g41) rfl rfl ?_
            refine run_off (.no rfl rfl rfl g41) rfl rfl ?_
            refine run_off (.no rfl rfl rfl g41) rfl rfl ?_
            refine run_off (.no rfl rfl rfl g41) rfl rfl ?_
            refine run_off (.no rfl rfl rfl g41) rfl rfl ?_
            refine run_q (.none rfl) rfl rfl (q_pickT rfl rfl g41 rfl) ?_
            refine run_q (.none rfl) rfl rfl (q_move rfl rfl) ?_
            refine run_off (.no rfl rfl rfl rfl) rfl rfl ?_
            refine run_off (.no rfl rfl rfl rfl) rfl rfl ?_
            refine run_off (.no rfl rfl rfl rfl) rfl rfl ?_
            refine run_off (.no rfl rfl rfl rfl) rfl rfl ?_
            refine run_off (.no rfl rfl rfl rfl) rfl rfl ?_
            refine run_q (.none rfl) rfl rfl (q_pickT rfl rfl rfl rfl) ?_
            refine run_q (.none rfl) rfl rfl (q_move rfl rfl) ?_
            refine run_off (.no rfl rfl rfl rfl) rfl rfl ?_
            refine run_off (.no rfl rfl rfl rfl) rfl rfl ?_
            refine run_off (.no rfl rfl rfl rfl) rfl rfl ?_
            refine run_off (.no rfl rfl rfl rfl) rfl rfl ?_
            refine run_off (.no rfl rfl rfl rfl) rfl rfl ?_
            refine run_off (.no rfl rfl rfl rfl) rfl rfl ?_
            refine run_off (.no rfl rfl rfl rfl) rfl rfl ?_
            refine run_q (.none rfl) rfl rfl (q_pickT rfl rfl rfl rfl) ?_
            refine run_q (.none rfl) rfl rfl (q_move rfl rfl) ?_
            refine run_off (.no rfl rfl rfl rfl) rfl rfl ?_
            refine run_off (.no rfl rfl rfl rfl) rfl rfl ?_
            refine run_off (.no rfl rfl rfl rfl) rfl rfl ?_
            refine run_off (.no rfl rfl rfl rfl) rfl rfl ?_
            refine run_off (.no rfl rfl rfl rfl) rfl rfl ?_
            refine run_off (.no rfl rfl rfl rfl) rfl rfl ?_
            refine run_off (.no rfl rfl rfl rfl) rfl rfl ?_
            refine run_q (.none rfl) rfl rfl (q_pickT rfl rfl rfl rfl) ?_
            refine run_q (.none rfl) rfl rfl (q_move rfl rfl) ?_
            refine run_off (.no rfl rfl rfl rfl) rfl rfl ?_
            refine run_off (.no rfl rfl rfl rfl) rfl rfl ?_
            refine run_off (.no rfl rfl rfl rfl) rfl rfl ?_
            refine run_off (.no rfl rfl rfl rfl) rfl rfl ?_
            refine run_off (.no rfl rfl rfl rfl) rfl rfl ?_
            refine run_off (.no rfl rfl rfl rfl) rfl rfl ?_
            refine run_off (.no rfl rfl rfl rfl) rfl rfl ?_
            refine run_q (.none rfl) rfl rfl (q_pickT rfl rfl rfl rfl) ?_
            refine run_nil ?_
            refine run_sub (subMk (.cons (s := 2) rfl (.cons (s := 3) rfl (.cons (s := 4) rfl (.cons (s := 81) rfl .nil)))) .refl) ?_
            refine run_condT rfl rfl ?_
            refine run_seq ?_
            refine run_region ?_
            refine run_q (.none rfl) rfl rfl (q_assign rfl rfl) ?_
            refine run_nil ?_
            refine run_ret ?_
            exact end1 rfl rfl (congrArg Value.bool (decide_eq_false (sameQ_no4 g41)).symm)
          · have g41' := g41
            try simp only [decide_eq_true_eq, decide_eq_false_iff_not, beq_iff_eq, beq_eq_false_iff_ne, bne_iff_ne, bne_eq_false_iff_eq, Bool.not_eq_true', Bool.not_eq_false', ne_eq, Int.not_lt, Int.not_le, Decidable.not_not] at g41'
            refine run_q (.on rfl rfl rfl g41) rfl rfl (q_fieldB (d := 11) rfl Try.underlying30 rfl rfl sz3 rfl) ?_
            refine run_q (.on rfl rfl rfl g41) rfl rfl (q_loadB rfl one3 rfl (.there Sel.here) rfl) ?_
            refine run_q (.on rfl rfl rfl g41) rfl rfl (q_fieldB (d := 11) rfl Try.underlying30 rfl rfl sz3 rfl) ?_
            refine run_q (.on rfl rfl rfl g41) rfl rfl (q_loadB rfl one3 rfl Sel.here rfl) ?_
            refine run_q (.on rfl rfl rfl g41) rfl rfl (q_neq rfl rfl rfl) ?_
            refine run_q (.none rfl) rfl rfl (q_pickF rfl rfl g41 rfl) ?_
            refine run_q (.none rfl) rfl rfl (q_move rfl rfl) ?_
            refine run_split 48 rfl (fun g48 => ?_) (fun g48 => ?_)
            · have g48' := g48
              try simp only [decide_eq_true_eq, decide_eq_false_iff_not, beq_iff_eq, beq_eq_false_iff_ne, bne_iff_ne, bne_eq_false_iff_eq, Bool.not_eq_true', Bool.not_eq_false', ne_eq, Int.not_lt, Int.not_le, Decidable.not_not] at g48'
              refine run_off (.no rfl rfl rfl g48) rfl rfl ?_
              refine run_off (.no rfl rfl rfl g48) rfl rfl ?_
              refine run_off (.no rfl rfl rfl g48) rfl rfl ?_
              refine run_off (.no rfl rfl rfl g48) rfl rfl ?_
              refine run_off (.no rfl rfl rfl g48) rfl rfl ?_
              refine run_q (.none rfl) rfl rfl (q_pickT rfl rfl g48 rfl) ?_
              refine run_q (.none rfl) rfl rfl (q_move rfl rfl) ?_
              refine run_off (.no rfl rfl rfl rfl) rfl rfl ?_
              refine run_off (.no rfl rfl rfl rfl) rfl rfl ?_
              refine run_off (.no rfl rfl rfl rfl) rfl rfl ?_
              refine run_off (.no rfl rfl rfl rfl) rfl rfl ?_
              refine run_off (.no rfl rfl rfl rfl) rfl rfl ?_
              refine run_off (.no rfl rfl rfl rfl) rfl rfl ?_
              refine run_off (.no rfl rfl rfl rfl) rfl rfl ?_
              refine run_q (.none rfl) rfl rfl (q_pickT rfl rfl rfl rfl) ?_
              refine run_q (.none rfl) rfl rfl (q_move rfl rfl) ?_
              refine run_off (.no rfl rfl rfl rfl) rfl rfl ?_
              refine run_off (.no rfl rfl rfl rfl) rfl rfl ?_
              refine run_off (.no rfl rfl rfl rfl) rfl rfl ?_
              refine run_off (.no rfl rfl rfl rfl) rfl rfl ?_
              refine run_off (.no rfl rfl rfl rfl) rfl rfl ?_
              refine run_off (.no rfl rfl rfl rfl) rfl rfl ?_
              refine run_off (.no rfl rfl rfl rfl) rfl rfl ?_
              refine run_q (.none rfl) rfl rfl (q_pickT rfl rfl rfl rfl) ?_
              refine run_q (.none rfl) rfl rfl (q_move rfl rfl) ?_
              refine run_off (.no rfl rfl rfl rfl) rfl rfl ?_
              refine run_off (.no rfl rfl rfl rfl) rfl rfl ?_
              refine run_off (.no rfl rfl rfl rfl) rfl rfl ?_
              refine run_off (.no rfl rfl rfl rfl) rfl rfl ?_
              refine run_off (.no rfl rfl rfl rfl) rfl rfl ?_
              refine run_off (.no rfl rfl rfl rfl) rfl rfl ?_
              refine run_off (.no rfl rfl rfl rfl) rfl rfl ?_
              refine run_q (.none rfl) rfl rfl (q_pickT rfl rfl rfl rfl) ?_
              refine run_nil ?_
              refine run_sub (subMk (.cons (s := 2) rfl (.cons (s := 3) rfl (.cons (s := 4) rfl (.cons (s := 81) rfl .nil)))) .refl) ?_
              refine run_condT rfl rfl ?_
              refine run_seq ?_
              refine run_region ?_
              refine run_q (.none rfl) rfl rfl (q_assign rfl rfl) ?_
              refine run_nil ?_
              refine run_ret ?_
              exact end1 rfl rfl (congrArg Value.bool (decide_eq_false (sameQ_no5 g48)).symm)
            · have g48' := g48
              try simp only [decide_eq_true_eq, decide_eq_false_iff_not, beq_iff_eq, beq_eq_false_iff_ne, bne_iff_ne, bne_eq_false_iff_eq, Bool.not_eq_true', Bool.not_eq_false', ne_eq, Int.not_lt, Int.not_le, Decidable.not_not] at g48'
              refine run_q (.on rfl rfl rfl g48) rfl rfl (q_fieldB (d := 12) rfl Try.underlying30 rfl rfl sz3 rfl) ?_
              refine run_q (.on rfl rfl rfl g48) rfl rfl (q_loadB rfl one3 rfl (.there Sel.here) rfl) ?_
              refine run_q (.on rfl rfl rfl g48) rfl rfl (q_fieldB (d := 12) rfl Try.underlying30 rfl rfl sz3 rfl) ?_
              refine run_q (.on rfl rfl rfl g48) rfl rfl (q_loadB rfl one3 rfl Sel.here rfl) ?_
              refine run_q (.on rfl rfl rfl g48) rfl rfl (q_neq rfl rfl rfl) ?_
              refine run_q (.none rfl) rfl rfl (q_pickF rfl rfl g48 rfl) ?_
              refine run_q (.none rfl) rfl rfl (q_move rfl rfl) ?_
              refine run_split 55 rfl (fun g55 => ?_) (fun g55 => ?_)
              · have g55' := g55
                try simp only [decide_eq_true_eq, decide_eq_false_iff_not, beq_iff_eq, beq_eq_false_iff_ne, bne_iff_ne, bne_eq_false_iff_eq, Bool.not_eq_true', Bool.not_eq_false', ne_eq, Int.not_lt, Int.not_le, Decidable.not_not] at g55'
                refine run_off (.no rfl rfl rfl g55) rfl rfl ?_
                refine run_off (.no rfl rfl rfl g55) rfl rfl ?_
                refine run_off (.no rfl rfl rfl g55) rfl rfl ?_
                refine run_off (.no rfl rfl rfl g55) rfl rfl ?_
                refine run_off (.no rfl rfl rfl g55) rfl rfl ?_
                refine run_off (.no rfl rfl rfl g55) rfl rfl ?_
                refine run_off (.no rfl rfl rfl g55) rfl rfl ?_
                refine run_q (.none rfl) rfl rfl (q_pickT rfl rfl g55 rfl) ?_
                refine run_q (.none rfl) rfl rfl (q_move rfl rfl) ?_
                refine run_off (.no rfl rfl rfl rfl) rfl rfl ?_
                refine run_off (.no rfl rfl rfl rfl) rfl rfl ?_
                refine run_off (.no rfl rfl rfl rfl) rfl rfl ?_
                refine run_off (.no rfl rfl rfl rfl) rfl rfl ?_
                refine run_off (.no rfl rfl rfl rfl) rfl rfl ?_
                refine run_off (.no rfl rfl rfl rfl) rfl rfl ?_
                refine run_off (.no rfl rfl rfl rfl) rfl rfl ?_
                refine run_q (.none rfl) rfl rfl (q_pickT rfl rfl rfl rfl) ?_
                refine run_q (.none rfl) rfl rfl (q_move rfl rfl) ?_
                refine run_off (.no rfl rfl rfl rfl) rfl rfl ?_
                refine run_off (.no rfl rfl rfl rfl) rfl rfl ?_
                refine run_off (.no rfl rfl rfl rfl) rfl rfl ?_
                refine run_off (.no rfl rfl rfl rfl) rfl rfl ?_
                refine run_off (.no rfl rfl rfl rfl) rfl rfl ?_
                refine run_off (.no rfl rfl rfl rfl) rfl rfl ?_
                refine run_off (.no rfl rfl rfl rfl) rfl rfl ?_
                refine run_q (.none rfl) rfl rfl (q_pickT rfl rfl rfl rfl) ?_
                refine run_nil ?_
                refine run_sub (subMk (.cons (s := 2) rfl (.cons (s := 3) rfl (.cons (s := 4) rfl (.cons (s := 81) rfl .nil)))) .refl) ?_
                refine run_condT rfl rfl ?_
                refine run_seq ?_
                refine run_region ?_
                refine run_q (.none rfl) rfl rfl (q_assign rfl rfl) ?_
                refine run_nil ?_
                refine run_ret ?_
                exact end1 rfl rfl (congrArg Value.bool (decide_eq_false (sameQ_no6 g55)).symm)
              · have g55' := g55
                try simp only [decide_eq_true_eq, decide_eq_false_iff_not, beq_iff_eq, beq_eq_false_iff_ne, bne_iff_ne, bne_eq_false_iff_eq, Bool.not_eq_true', Bool.not_eq_false', ne_eq, Int.not_lt, Int.not_le, Decidable.not_not] at g55'
                refine run_q (.on rfl rfl rfl g55) rfl rfl (q_fieldB (d := 5) rfl Try.underlying30 rfl rfl sz26 rfl) ?_
                refine run_q (.on rfl rfl rfl g55) rfl rfl (q_loadB rfl one26 rfl (.there Sel.here) rfl) ?_
                refine run_q (.on rfl rfl rfl g55) rfl rfl (q_len rfl Try.underlying26 rfl) ?_
                refine run_q (.on rfl rfl rfl g55) rfl rfl (q_fieldB (d := 5) rfl Try.underlying30 rfl rfl sz26 rfl) ?_
                refine run_q (.on rfl rfl rfl g55) rfl rfl (q_loadB rfl one26 rfl Sel.here rfl) ?_
                refine run_q (.on rfl rfl rfl g55) rfl rfl (q_len rfl Try.underlying26 rfl) ?_
                refine run_q (.on rfl rfl rfl g55) rfl rfl (q_neq rfl rfl rfl) ?_
                refine run_q (.none rfl) rfl rfl (q_pickF rfl rfl g55 rfl) ?_
                refine run_q (.none rfl) rfl rfl (q_move rfl rfl) ?_
                refine run_split 64 rfl (fun g64 => ?_) (fun g64 => ?_)
                · have g64' := g64
                  try simp only [decide_eq_true_eq, decide_eq_false_iff_not, beq_iff_eq, beq_eq_false_iff_ne, bne_iff_ne, bne_eq_false_iff_eq, Bool.not_eq_true', Bool.not_eq_false', ne_eq, Int.not_lt, Int.not_le, Decidable.not_not] at g64'
                  refine run_off (.no rfl rfl rfl g64) rfl rfl ?_
                  refine run_off (.no rfl rfl rfl g64) rfl rfl ?_
                  refine run_off (.no rfl rfl rfl g64) rfl rfl ?_
                  refine run_off (.no rfl rfl rfl g64) rfl rfl ?_
                  refine run_off (.no rfl rfl rfl g64) rfl rfl ?_
                  refine run_off (.no rfl rfl rfl g64) rfl rfl ?_
                  refine run_off (.no rfl rfl rfl g64) rfl rfl ?_
                  refine run_q (.none rfl) rfl rfl (q_pickT rfl rfl g64 rfl) ?_
                  refine run_q (.none rfl) rfl rfl (q_move rfl rfl) ?_
                  refine run_off (.no rfl rfl rfl rfl) rfl rfl ?_
                  refine run_off (.no rfl rfl rfl rfl) rfl rfl ?_
                  refine run_off (.no rfl rfl rfl rfl) rfl rfl ?_
                  refine run_off (.no rfl rfl rfl rfl) rfl rfl ?_
                  refine run_off (.no rfl rfl rfl rfl) rfl rfl ?_
                  refine run_off (.no rfl rfl rfl rfl) rfl rfl ?_
                  refine run_off (.no rfl rfl rfl rfl) rfl rfl ?_
                  refine run_q (.none rfl) rfl rfl (q_pickT rfl rfl rfl rfl) ?_
                  refine run_nil ?_
                  refine run_sub (subMk (.cons (s := 2) rfl (.cons (s := 3) rfl (.cons (s := 4) rfl (.cons (s := 81) rfl .nil)))) .refl) ?_
                  refine run_condT rfl rfl ?_
                  refine run_seq ?_
                  refine run_region ?_
                  refine run_q (.none rfl) rfl rfl (q_assign rfl rfl) ?_
                  refine run_nil ?_
                  refine run_ret ?_
                  exact end1 rfl rfl (congrArg Value.bool (decide_eq_false (sameQ_no7 g64)).symm)
                · have g64' := g64
                  try simp only [decide_eq_true_eq, decide_eq_false_iff_not, beq_iff_eq, beq_eq_false_iff_ne, bne_iff_ne, bne_eq_false_iff_eq, Bool.not_eq_true', Bool.not_eq_false', ne_eq, Int.not_lt, Int.not_le, Decidable.not_not] at g64'
                  have hlh : x.hs.length = y.hs.length := by omega
                  refine run_q (.on rfl rfl rfl g64) rfl rfl (q_fieldB (d := 6) rfl Try.underlying30 rfl rfl sz27 rfl) ?_
                  refine run_q (.on rfl rfl rfl g64) rfl rfl (q_loadB rfl one27 rfl (.there Sel.here) rfl) ?_
                  refine run_q (.on rfl rfl rfl g64) rfl rfl (q_len rfl Try.underlying27 rfl) ?_
                  refine run_q (.on rfl rfl rfl g64) rfl rfl (q_fieldB (d := 6) rfl Try.underlying30 rfl rfl sz27 rfl) ?_
                  refine run_q (.on rfl rfl rfl g64) rfl rfl (q_loadB rfl one27 rfl Sel.here rfl) ?_
                  refine run_q (.on rfl rfl rfl g64) rfl rfl (q_len rfl Try.underlying27 rfl) ?_
                  refine run_q (.on rfl rfl rfl g64) rfl rfl (q_neq rfl rfl rfl) ?_
                  refine run_q (.none rfl) rfl rfl (q_pickF rfl rfl g64 rfl) ?_
                  refine run_q (.none rfl) rfl rfl (q_move rfl rfl) ?_
                  refine run_split 73 rfl (fun g73 => ?_) (fun g73 => ?_)
                  · have g73' := g73
                    try simp only [decide_eq_true_eq, decide_eq_false_iff_not, beq_iff_eq, beq_eq_false_iff_ne, bne_iff_ne, bne_eq_false_iff_eq, Bool.not_eq_true', Bool.not_eq_false', ne_eq, Int.not_lt, Int.not_le, Decidable.not_not] at g73'
                    refine run_off (.no rfl rfl rfl g73) rfl rfl ?_
                    refine run_off (.no rfl rfl rfl g73) rfl rfl ?_
                    refine run_off (.no rfl rfl rfl g73) rfl rfl ?_
                    refine run_off (.no rfl rfl rfl g73) rfl rfl ?_
                    refine run_off (.no rfl rfl rfl g73) rfl rfl ?_
                    refine run_off (.no rfl rfl rfl g73) rfl rfl ?_
                    refine run_off (.no rfl rfl rfl g73) rfl rfl ?_
                    refine run_q (.none rfl) rfl rfl (q_pickT rfl rfl g73 rfl) ?_
                    refine run_nil ?_
                    refine run_sub (subMk (.cons (s := 2) rfl (.cons (s := 3) rfl (.cons (s := 4) rfl (.cons (s := 81) rfl .nil)))) .refl) ?_
                    refine run_condT rfl rfl ?_
                    refine run_seq ?_
                    refine run_region ?_
                    refine run_q (.none rfl) rfl rfl (q_assign rfl rfl) ?_
                    refine run_nil ?_
                    refine run_ret ?_
                    exact end1 rfl rfl (congrArg Value.bool (decide_eq_false (sameQ_no8 g73)).symm)
                  · have g73' := g73
                    try simp only [decide_eq_true_eq, decide_eq_false_iff_not, beq_iff_eq, beq_eq_false_iff_ne, bne_iff_ne, bne_eq_false_iff_eq, Bool.not_eq_true', Bool.not_eq_false', ne_eq, Int.not_lt, Int.not_le, Decidable.not_not] at g73'
                    have hlg : x.gs.length = y.gs.length := by omega
                    refine run_q (.on rfl rfl rfl g73) rfl rfl (q_fieldB (d := 10) rfl Try.underlying30 rfl rfl sz28 rfl) ?_
                    refine run_q (.on rfl rfl rfl g73) rfl rfl (q_loadB rfl one28 rfl (.there Sel.here) rfl) ?_
                    refine run_q (.on rfl rfl rfl g73) rfl rfl (q_len rfl Try.underlying28 rfl) ?_
                    refine run_q (.on rfl rfl rfl g73) rfl rfl (q_fieldB (d := 10) rfl Try.underlying30 rfl rfl sz28 rfl) ?_
                    refine run_q (.on rfl rfl rfl g73) rfl rfl (q_loadB rfl one28 rfl Sel.here rfl) ?_
                    refine run_q (.on rfl rfl rfl g73) rfl rfl (q_len rfl Try.underlying28 rfl) ?_
                    refine run_q (.on rfl rfl rfl g73) rfl rfl (q_neq rfl rfl rfl) ?_
                    refine run_q (.none rfl) rfl rfl (q_pickF rfl rfl g73 rfl) ?_
                    refine run_nil ?_
                    refine run_sub (subMk (.cons (s := 2) rfl (.cons (s := 3) rfl (.cons (s := 4) rfl (.cons (s := 81) rfl .nil)))) .refl) ?_
                    refine run_cond rfl (fun g81 => ?_) (fun g81 => ?_)
                    · have g81' := g81
                      try simp only [decide_eq_true_eq, decide_eq_false_iff_not, beq_iff_eq, beq_eq_false_iff_ne, bne_iff_ne, bne_eq_false_iff_eq, Bool.not_eq_true', Bool.not_eq_false', ne_eq, Int.not_lt, Int.not_le, Decidable.not_not] at g81'
                      refine run_seq ?_
                      refine run_region ?_
                      refine run_q (.none rfl) rfl rfl (q_assign rfl rfl) ?_
                      refine run_nil ?_
                      refine run_ret ?_
                      exact end1 rfl rfl (congrArg Value.bool (decide_eq_false (sameQ_len2 g81)).symm)
                    · have g81' := g81
                      try simp only [decide_eq_true_eq, decide_eq_false_iff_not, beq_iff_eq, beq_eq_false_iff_ne, bne_iff_ne, bne_eq_false_iff_eq, Bool.not_eq_true', Bool.not_eq_false', ne_eq, Int.not_lt, Int.not_le, Decidable.not_not] at g81'
                      have hll : x.ls.length = y.ls.length := by omega
                      refine run_skip ?_
                      refine run_seq ?_
                      refine run_seq ?_
                      refine run_region ?_
                      refine run_q (.none rfl) rfl rfl (q_assign rfl rfl) ?_
                      refine run_nil ?_
                      refine run_block ?_
                      refine run_sub (subMk (.cons (s := 5) rfl (.cons (s := 2) rfl (.cons (s := 3) rfl (.cons (s := 4) rfl .nil)))) (.cons Sel.here .refl (.cons Sel.here .refl .nil))) ?_
                      refine run_loopC1M0 (ι := Nat) (fun ih => ih ≤ x.hs.length ∧ eqL hdEq x.hs y.hs = eqL hdEq (x.hs.drop ih) (y.hs.drop ih)) (fun ih => .int .i64 (ih : Int))  (fun ih => x.hs.length - ih) 0 (by (try dsimp only); exact ⟨by omega, rfl⟩) rfl  ?_
                      rintro ih hq
                      (try dsimp only at hq)
                      obtain ⟨bh, Eh⟩ := hq
                      show Run _ _ _ _ _ _ _ ⟨(5, .int .i64 (ih : Int)) :: _, _⟩
                      refine run_seq ?_
                      refine run_seq ?_
                      refine run_region ?_
                      refine run_q (.none rfl) rfl rfl (q_move rfl rfl) ?_
                      refine run_q (.none rfl) rfl rfl (q_fieldB (d := 5) rfl Try.underlying30 rfl rfl sz26 rfl) ?_
                      refine run_q (.none rfl) rfl rfl (q_loadB rfl one26 rfl (.there Sel.here) rfl) ?_
                      refine run_q (.none rfl) rfl rfl (q_len rfl Try.underlying26 rfl) ?_
                      refine run_q (.none rfl) rfl rfl (q_lss rfl rfl rfl) ?_
                      refine run_nil ?_
                      refine run_sub (subMk (.cons (s := 2) rfl (.cons (s := 3) rfl (.cons (s := 4) rfl (.cons (s := 5) rfl (.cons (s := 86) rfl .nil))))) .refl) ?_
                      refine run_cond rfl (fun g86 => ?_) (fun g86 => ?_)
                      · have g86' := g86
                        try simp only [decide_eq_true_eq, decide_eq_false_iff_not, beq_iff_eq, beq_eq_false_iff_ne, bne_iff_ne, bne_eq_false_iff_eq, Bool.not_eq_true', Bool.not_eq_false', ne_eq, Int.not_lt, Int.not_le, Decidable.not_not] at g86'
                        have hkh : ih < x.hs.length := by omega
                        refine run_skip ?_
                        refine run_seq ?_
                        refine run_block ?_
                        refine run_seq ?_
                        refine run_draw [(0, 0), (1, 0), (2, 0), (3, 0), (4, 0), (5, 0), (6, 0), (7, 0), (8, 0), (9, 0), (10, 0)] mixed (by kernel_rfl) .refl ?_
                        refine d_q rfl rfl (.none rfl) rfl rfl (q_fieldB (d := 5) rfl Try.underlying30 rfl rfl sz26 rfl) ?_
                        refine d_q rfl rfl (.none rfl) rfl rfl (q_loadB rfl one26 rfl (.there Sel.here) rfl) ?_
                        refine d_q rfl rfl (.none rfl) rfl rfl (q_move rfl rfl) ?_
                        refine d_q rfl rfl (.none rfl) rfl rfl (q_indexS (q := ih) rfl Try.underlying26 sz53 rfl rfl (.inp hx.h .no) (by simp <;> omega) rfl (by omega)) ?_
                        refine d_q rfl rfl (.none rfl) rfl rfl (q_loadE rfl agg53 rfl (.inp hx.h .no) (getmap (by omega)) rfl) ?_
                        refine d_q rfl rfl (.none rfl) rfl rfl (q_fieldB (d := 5) rfl Try.underlying30 rfl rfl sz26 rfl) ?_
                        refine d_q rfl rfl (.none rfl) rfl rfl (q_loadB rfl one26 rfl Sel.here rfl) ?_
                        refine d_q rfl rfl (.none rfl) rfl rfl (q_move rfl rfl) ?_
                        refine d_q rfl rfl (.none rfl) rfl rfl (q_indexS (q := ih) rfl Try.underlying26 sz53 rfl rfl (.inp hy.h .no) (by simp <;> omega) rfl (by omega)) ?_
                        refine d_q rfl rfl (.none rfl) rfl rfl (q_loadE rfl agg53 rfl (.inp hy.h .no) (getmap (by omega)) rfl) ?_
                        refine d_q rfl rfl (.none rfl) rfl rfl (q_neqS rfl rfl rfl eqg53 (fun w => eqs53 _ _ _ _ _ _ _ _ _ _ w)) ?_
                        refine d_nil ?_
                        refine run_sub (subMk (.cons (s := 2) rfl (.cons (s := 3) rfl (.cons (s := 4) rfl (.cons (s := 5) rfl (.cons (s := 99) rfl .nil))))) .refl) ?_
                        refine run_cond rfl (fun g99 => ?_) (fun g99 => ?_)
                        · have g99' := g99
                          try simp only [decide_eq_true_eq, decide_eq_false_iff_not, beq_iff_eq, beq_eq_false_iff_ne, bne_iff_ne, bne_eq_false_iff_eq, Bool.not_eq_true', Bool.not_eq_false', ne_eq, Int.not_lt, Int.not_le, Decidable.not_not] at g99'
                          refine run_seq ?_
                          refine run_region ?_
                          refine run_q (.none rfl) rfl rfl (q_assign rfl rfl) ?_
                          refine run_nil ?_
                          refine run_ret ?_
                          exact end1 rfl rfl (congrArg Value.bool (decide_eq_false (fun h => absurd h.2.2.2.2.2.2.2.1 (by rw [Eh, eqL_stop hkh hlh (show hdEq _ _ = false from not_t g99)]; decide))).symm)
                        · have g99' := g99
                          try simp only [decide_eq_true_eq, decide_eq_false_iff_not, beq_iff_eq, beq_eq_false_iff_ne, bne_iff_ne, bne_eq_false_iff_eq, Bool.not_eq_true', Bool.not_eq_false', ne_eq, Int.not_lt, Int.not_le, Decidable.not_not] at g99'
                          refine run_skip ?_
                          refine run_blk ?_
                          refine run_region ?_
                          refine run_q (.none rfl) rfl rfl (q_move rfl rfl) ?_
                          refine run_q (.none rfl) rfl rfl (q_add rfl rfl rfl (by omega)) ?_
                          refine run_q (.none rfl) rfl rfl (q_assign rfl rfl) ?_
                          refine run_nil ?_
                          refine run_sub (subMk (.cons (s := 2) rfl (.cons (s := 3) rfl (.cons (s := 4) rfl (.cons (s := 5) rfl .nil)))) .refl) ?_
                          exact run_again (ih + 1) (by (try dsimp only); exact ⟨by omega, by rw [Eh, eqL_step hkh hlh (show hdEq _ _ = true from not_f g99)]⟩) (by (try dsimp only); omega) (subMk (.cons' (s := 5) rfl (vint (by omega)) (.cons (s := 2) rfl (.cons (s := 3) rfl (.cons (s := 4) rfl .nil)))) (.cons Sel.here .refl (.cons Sel.here .refl .nil)))
                      · have g86' := g86
                        try simp only [decide_eq_true_eq, decide_eq_false_iff_not, beq_iff_eq, beq_eq_false_iff_ne, bne_iff_ne, bne_eq_false_iff_eq, Bool.not_eq_true', Bool.not_eq_false', ne_eq, Int.not_lt, Int.not_le, Decidable.not_not] at g86'
                        refine run_exit rfl ?_
                        refine run_seq ?_
                        refine run_seq ?_
                        refine run_region ?_
                        refine run_q (.none rfl) rfl rfl (q_assign rfl rfl) ?_
                        refine run_nil ?_
                        refine run_block ?_
                        refine run_sub (subMk (.cons (s := 6) rfl (.cons (s := 2) rfl (.cons (s := 3) rfl (.cons (s := 4) rfl .nil)))) (.cons Sel.here .refl (.cons Sel.here .refl .nil))) ?_
                        refine run_loopC1M0 (ι := Nat) (fun ig => ig ≤ x.gs.length ∧ eqL grEq x.gs y.gs = eqL grEq (x.gs.drop ig) (y.gs.drop ig)) (fun ig => .int .i64 (ig : Int))  (fun ig => x.gs.length - ig) 0 (by (try dsimp only); exact ⟨by omega, rfl⟩) rfl  ?_
                        rintro ig hq
                        (try dsimp only at hq)
                        obtain ⟨bg, Eg⟩ := hq
                        show Run _ _ _ _ _ _ _ ⟨(6, .int .i64 (ig : Int)) :: _, _⟩
                        refine run_seq ?_
                        refine run_seq ?_
                        refine run_region ?_
                        refine run_q (.none rfl) rfl rfl (q_move rfl rfl) ?_
                        refine run_q (.none rfl) rfl rfl (q_fieldB (d := 6) rfl Try.underlying30 rfl rfl sz27 rfl) ?_
                        refine run_q (.none rfl) rfl rfl (q_loadB rfl one27 rfl (.there Sel.here) rfl) ?_
                        refine run_q (.none rfl) rfl rfl (q_len rfl Try.underlying27 rfl) ?_
                        refine run_q (.none rfl) rfl rfl (q_lss rfl rfl rfl) ?_
                        refine run_nil ?_
                        refine run_sub (subMk (.cons (s := 2) rfl (.cons (s := 3) rfl (.cons (s := 4) rfl (.cons (s := 6) rfl (.cons (s := 104) rfl .nil))))) .refl) ?_
                        refine run_cond rfl (fun g104 => ?_) (fun g104 => ?_)
                        · have g104' := g104
                          try simp only [decide_eq_true_eq, decide_eq_false_iff_not, beq_iff_eq, beq_eq_false_iff_ne, bne_iff_ne, bne_eq_false_iff_eq, Bool.not_eq_true', Bool.not_eq_false', ne_eq, Int.not_lt, Int.not_le, Decidable.not_not] at g104'
                          have hkg : ig < x.gs.length := by omega
                          refine run_skip ?_
                          refine run_seq ?_
                          refine run_block ?_
                          refine run_seq ?_
                          refine run_draw [(0, 0), (1, 0), (2, 0), (3, 0), (4, 0), (5, 0), (6, 0), (7, 0), (8, 0), (9, 0), (10, 0)] mixed (by kernel_rfl) .refl ?_
                          refine d_q rfl rfl (.none rfl) rfl rfl (q_fieldB (d := 6) rfl Try.underlying30 rfl rfl sz27 rfl) ?_
                          refine d_q rfl rfl (.none rfl) rfl rfl (q_loadB rfl one27 rfl (.there Sel.here) rfl) ?_
                          refine d_q rfl rfl (.none rfl) rfl rfl (q_move rfl rfl) ?_
                          refine d_q rfl rfl (.none rfl) rfl rfl (q_indexS (q := ig) rfl Try.underlying27 sz55 rfl rfl (.inp hx.g .no) (by simp <;> omega) rfl (by omega)) ?_
                          refine d_q rfl rfl (.none rfl) rfl rfl (q_loadE rfl agg55 rfl (.inp hx.g .no) (getmap (by omega)) rfl) ?_
                          refine d_q rfl rfl (.none rfl) rfl rfl (q_fieldB (d := 6) rfl Try.underlying30 rfl rfl sz27 rfl) ?_
                          refine d_q rfl rfl (.none rfl) rfl rfl (q_loadB rfl one27 rfl Sel.here rfl) ?_
                          refine d_q rfl rfl (.none rfl) rfl rfl (q_move rfl rfl) ?_
                          refine d_q rfl rfl (.none rfl) rfl rfl (q_indexS (q := ig) rfl Try.underlying27 sz55 rfl rfl (.inp hy.g .no) (by simp <;> omega) rfl (by omega)) ?_
                          refine d_q rfl rfl (.none rfl) rfl rfl (q_loadE rfl agg55 rfl (.inp hy.g .no) (getmap (by omega)) rfl) ?_
                          refine d_q rfl rfl (.none rfl) rfl rfl (q_neqS rfl rfl rfl eqg55 (fun w => eqs55 _ _ _ _ _ _ _ _ _ _ w)) ?_
                          refine d_nil ?_
                          refine run_sub (subMk (.cons (s := 2) rfl (.cons (s := 3) rfl (.cons (s := 4) rfl (.cons (s := 6) rfl (.cons (s := 117) rfl .nil))))) .refl) ?_
                          refine run_cond rfl (fun g117 => ?_) (fun g117 => ?_)
                          · have g117' := g117
                            try simp only [decide_eq_true_eq, decide_eq_false_iff_not, beq_iff_eq, beq_eq_false_iff_ne, bne_iff_ne, bne_eq_false_iff_eq, Bool.not_eq_true', Bool.not_eq_false', ne_eq, Int.not_lt, Int.not_le, Decidable.not_not] at g117'
                            refine run_seq ?_
                            refine run_region ?_
                            refine run_q (.none rfl) rfl rfl (q_assign rfl rfl) ?_
                            refine run_nil ?_
                            refine run_ret ?_
                            exact end1 rfl rfl (congrArg Value.bool (decide_eq_false (fun h => absurd h.2.2.2.2.2.2.2.2.1 (by rw [Eg, eqL_stop hkg hlg (show grEq _ _ = false from not_t g117)]; decide))).symm)
                          · have g117' := g117
                            try simp only [decide_eq_true_eq, decide_eq_false_iff_not, beq_iff_eq, beq_eq_false_iff_ne, bne_iff_ne, bne_eq_false_iff_eq, Bool.not_eq_true', Bool.not_eq_false', ne_eq, Int.not_lt, Int.not_le, Decidable.not_not] at g117'
                            refine run_skip ?_
                            refine run_blk ?_
                            refine run_region ?_
                            refine run_q (.none rfl) rfl rfl (q_move rfl rfl) ?_
                            refine run_q (.none rfl) rfl rfl (q_add rfl rfl rfl (by omega)) ?_
                            refine run_q (.none rfl) rfl rfl (q_assign rfl rfl) ?_
                            refine run_nil ?_
                            refine run_sub (subMk (.cons (s := 2) rfl (.cons (s := 3) rfl (.cons (s := 4) rfl (.cons (s := 6) rfl .nil)))) .refl) ?_
                            exact run_again (ig + 1) (by (try dsimp only); exact ⟨by omega, by rw [Eg, eqL_step hkg hlg (show grEq _ _ = true from not_f g117)]⟩) (by (try dsimp only); omega) (subMk (.cons' (s := 6) rfl (vint (by omega)) (.cons (s := 2) rfl (.cons (s := 3) rfl (.cons (s := 4) rfl .nil)))) (.cons Sel.here .refl (.cons Sel.here .refl .nil)))
                        · have g104' := g104
                          try simp only [decide_eq_true_eq, decide_eq_false_iff_not, beq_iff_eq, beq_eq_false_iff_ne, bne_iff_ne, bne_eq_false_iff_eq, Bool.not_eq_true', Bool.not_eq_false', ne_eq, Int.not_lt, Int.not_le, Decidable.not_not] at g104'
                          refine run_exit rfl ?_
                          refine run_seq ?_
                          refine run_seq ?_
                          refine run_region ?_
                          refine run_q (.none rfl) rfl rfl (q_assign rfl rfl) ?_
                          refine run_nil ?_
                          refine run_block ?_
                          refine run_sub (subMk (.cons (s := 7) rfl (.cons (s := 2) rfl (.cons (s := 3) rfl (.cons (s := 4) rfl .nil)))) (.cons Sel.here .refl (.cons Sel.here .refl .nil))) ?_
                          refine run_loopC1M0 (ι := Nat) (fun il => il ≤ x.ls.length ∧ eqL syEq x.ls y.ls = eqL syEq (x.ls.drop il) (y.ls.drop il)) (fun il => .int .i64 (il : Int))  (fun il => x.ls.length - il) 0 (by (try dsimp only); exact ⟨by omega, rfl⟩) rfl  ?_
                          rintro il hq
                          (try dsimp only at hq)
                          obtain ⟨bl, El⟩ := hq
                          show Run _ _ _ _ _ _ _ ⟨(7, .int .i64 (il : Int)) :: _, _⟩
                          refine run_seq ?_
                          refine run_seq ?_
                          refine run_region ?_
                          refine run_q (.none rfl) rfl rfl (q_move rfl rfl) ?_
                          refine run_q (.none rfl) rfl rfl (q_fieldB (d := 10) rfl Try.underlying30 rfl rfl sz28 rfl) ?_
                          refine run_q (.none rfl) rfl rfl (q_loadB rfl one28 rfl (.there Sel.here) rfl) ?_
                          refine run_q (.none rfl) rfl rfl (q_len rfl Try.underlying28 rfl) ?_
                          refine run_q (.none rfl) rfl rfl (q_lss rfl rfl rfl) ?_
                          refine run_nil ?_
                          refine run_sub (subMk (.cons (s := 2) rfl (.cons (s := 3) rfl (.cons (s := 4) rfl (.cons (s := 7) rfl (.cons (s := 122) rfl .nil))))) .refl) ?_
                          refine run_cond rfl (fun g122 => ?_) (fun g122 => ?_)
                          · have g122' := g122
                            try simp only [decide_eq_true_eq, decide_eq_false_iff_not, beq_iff_eq, beq_eq_false_iff_ne, bne_iff_ne, bne_eq_false_iff_eq, Bool.not_eq_true', Bool.not_eq_false', ne_eq, Int.not_lt, Int.not_le, Decidable.not_not] at g122'
                            have hkl : il < x.ls.length := by omega
                            refine run_skip ?_
                            refine run_seq ?_
                            refine run_block ?_
                            refine run_seq ?_
                            refine run_draw [(0, 0), (1, 0), (2, 0), (3, 0), (4, 0), (5, 0), (6, 0), (7, 0), (8, 0), (9, 0), (10, 0)] mixed (by kernel_rfl) .refl ?_
                            refine d_q rfl rfl (.none rfl) rfl rfl (q_fieldB (d := 10) rfl Try.underlying30 rfl rfl sz28 rfl) ?_
                            refine d_q rfl rfl (.none rfl) rfl rfl (q_loadB rfl one28 rfl (.there Sel.here) rfl) ?_
                            refine d_q rfl rfl (.none rfl) rfl rfl (q_move rfl rfl) ?_
                            refine d_q rfl rfl (.none rfl) rfl rfl (q_indexS (q := il) rfl Try.underlying28 sz57 rfl rfl (.inp hx.l .no) (by simp <;> omega) rfl (by omega)) ?_
                            refine d_q rfl rfl (.none rfl) rfl rfl (q_loadE rfl agg57 rfl (.inp hx.l .no) (getmap (by omega)) rfl) ?_
                            refine d_q rfl rfl (.none rfl) rfl rfl (q_fieldB (d := 10) rfl Try.underlying30 rfl rfl sz28 rfl) ?_
                            refine d_q rfl rfl (.none rfl) rfl rfl (q_loadB rfl one28 rfl Sel.here rfl) ?_
                            refine d_q rfl rfl (.none rfl) rfl rfl (q_move rfl rfl) ?_
                            refine d_q rfl rfl (.none rfl) rfl rfl (q_indexS (q := il) rfl Try.underlying28 sz57 rfl rfl (.inp hy.l .no) (by simp <;> omega) rfl (by omega)) ?_
                            refine d_q rfl rfl (.none rfl) rfl rfl (q_loadE rfl agg57 rfl (.inp hy.l .no) (getmap (by omega)) rfl) ?_
                            refine d_q rfl rfl (.none rfl) rfl rfl (q_neqS rfl rfl rfl eqg57 (fun w => eqs57 _ _ _ _ w)) ?_
                            refine d_nil ?_
                            refine run_sub (subMk (.cons (s := 2) rfl (.cons (s := 3) rfl (.cons (s := 4) rfl (.cons (s := 7) rfl (.cons (s := 135) rfl .nil))))) .refl) ?_
                            refine run_cond rfl (fun g135 => ?_) (fun g135 => ?_)
                            · have g135' := g135
                              try simp only [decide_eq_true_eq, decide_eq_false_iff_not, beq_iff_eq, beq_eq_false_iff_ne, bne_iff_ne, bne_eq_false_iff_eq, Bool.not_eq_true', Bool.not_eq_false', ne_eq, Int.not_lt, Int.not_le, Decidable.not_not] at g135'
                              refine run_seq ?_
                              refine run_region ?_
                              refine run_q (.none rfl) rfl rfl (q_assign rfl rfl) ?_
                              refine run_nil ?_
                              refine run_ret ?_
                              exact end1 rfl rfl (congrArg Value.bool (decide_eq_false (fun h => absurd h.2.2.2.2.2.2.2.2.2 (by rw [El, eqL_stop hkl hll (show syEq _ _ = false from not_t g135)]; decide))).symm)
                            · have g135' := g135
                              try simp only [decide_eq_true_eq, decide_eq_false_iff_not, beq_iff_eq, beq_eq_false_iff_ne, bne_iff_ne, bne_eq_false_iff_eq, Bool.not_eq_true', Bool.not_eq_false', ne_eq, Int.not_lt, Int.not_le, Decidable.not_not] at g135'
                              refine run_skip ?_
                              refine run_blk ?_
                              refine run_region ?_
                              refine run_q (.none rfl) rfl rfl (q_move rfl rfl) ?_
                              refine run_q (.none rfl) rfl rfl (q_add rfl rfl rfl (by omega)) ?_
                              refine run_q (.none rfl) rfl rfl (q_assign rfl rfl) ?_
                              refine run_nil ?_
                              refine run_sub (subMk (.cons (s := 2) rfl (.cons (s := 3) rfl (.cons (s := 4) rfl (.cons (s := 7) rfl .nil)))) .refl) ?_
                              exact run_again (il + 1) (by (try dsimp only); exact ⟨by omega, by rw [El, eqL_step hkl hll (show syEq _ _ = true from not_f g135)]⟩) (by (try dsimp only); omega) (subMk (.cons' (s := 7) rfl (vint (by omega)) (.cons (s := 2) rfl (.cons (s := 3) rfl (.cons (s := 4) rfl .nil)))) (.cons Sel.here .refl (.cons Sel.here .refl .nil)))
                          · have g122' := g122
                            try simp only [decide_eq_true_eq, decide_eq_false_iff_not, beq_iff_eq, beq_eq_false_iff_ne, bne_iff_ne, bne_eq_false_iff_eq, Bool.not_eq_true', Bool.not_eq_false', ne_eq, Int.not_lt, Int.not_le, Decidable.not_not] at g122'
                            refine run_exit rfl ?_
                            refine run_sub (subMk (.cons (s := 4) rfl .nil) .refl) ?_
                            refine run_seq ?_
                            refine run_region ?_
                            refine run_q (.none rfl) rfl rfl (q_assign rfl rfl) ?_
                            refine run_nil ?_
                            refine run_ret ?_
                            exact end1 rfl rfl (congrArg Value.bool (decide_eq_true ⟨bne_f g13, and_t g20, bne_f g27, bne_f g34, bne_f g41, bne_f g48, bne_f g55, by rw [Eh, eqL_end (by omega) hlh], by rw [Eg, eqL_end (by omega) hlg], by rw [El, eqL_end (by omega) hll]⟩).symm)

end Go.Proofs.Ytneadapfoaccmaa
