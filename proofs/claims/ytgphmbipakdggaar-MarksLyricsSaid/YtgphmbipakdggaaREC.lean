/- Events compared. -/
import Derived.Test.YtgphmbipakdggaaREB
set_option linter.unusedSimpArgs false
set_option linter.unusedVariables false
namespace Go.Proofs.YtgphmbipakdggaaR.Ev
open Go Go.RowKit Hr

theorem eqg152 : Try.prog.eqGuardType Try.prog.depth 152 = false := by kernel_rfl
theorem stood152 : Try.prog.stoodInHeld 152 = false := by kernel_rfl
theorem one4 : Hr.One Try.prog 4 := ⟨fun w => by simp [isAgg, run_underlying Try.underlying4], Hr.Sz.of (by kernel_rfl)⟩
theorem stood150 : Try.prog.stoodInHeld 150 = false := by kernel_rfl
set_option maxRecDepth 100000 in
theorem eqs150d9999 (a0 : Int) (a1 : Int) (a2 : Int) (b0 : Int) (b1 : Int) (b2 : Int) (w : World) : (Op.equalIn 9999 150 (.agg #[.int .i64 a0, .int .i64 a1, .int .i64 a2]) (.agg #[.int .i64 b0, .int .i64 b1, .int .i64 b2])).run Try.prog w = .ok (a0 == b0 && (a1 == b1 && (a2 == b2))) w := by
  rw [run_equalIn_struct w 9998 150 _ _ (by simp only [Program.fieldsOf, Try.underlying150]) stood150]
  simp only [Program.fieldsOf, Try.underlying150]
  exact Eq.trans (eqF_cons (by decide) (part_one one3 rfl) (part_one one3 rfl) (run_equalIn_int w 9997 3 .i64 .i64 a0 b0 Try.underlying3) (eqF_cons (by decide) (part_one one3 rfl) (part_one one3 rfl) (run_equalIn_int w 9997 3 .i64 .i64 a1 b1 Try.underlying3) (eqF_cons (by decide) (part_one one3 rfl) (part_one one3 rfl) (run_equalIn_int w 9997 3 .i64 .i64 a2 b2 Try.underlying3) eqF_nil))) (by simp only [Bool.and_true, Bool.and_assoc, strEq])
set_option maxRecDepth 100000 in
theorem eqs152 (a0 : Int) (a1 : Int) (a2 : Int) (a3 : Bool) (a4 : Int) (b0 : Int) (b1 : Int) (b2 : Int) (b3 : Bool) (b4 : Int) (w : World) : (Op.equalIn 10000 152 (.agg #[.int .i64 a0, .int .i64 a1, .int .i64 a2, .bool a3, .int .i64 a4]) (.agg #[.int .i64 b0, .int .i64 b1, .int .i64 b2, .bool b3, .int .i64 b4])).run Try.prog w = .ok (a0 == b0 && (a1 == b1 && (a2 == b2 && (a3 == b3 && (a4 == b4))))) w := by
  rw [run_equalIn_struct w 9999 152 _ _ (by simp only [Program.fieldsOf, Try.underlying152]) stood152]
  simp only [Program.fieldsOf, Try.underlying152]
  exact Eq.trans (eqF_cons (by decide) (part_agg agg150 rfl) (part_agg agg150 rfl) (eqs150d9999 a0 a1 a2 b0 b1 b2 w) (eqF_cons (by decide) (part_one one4 rfl) (part_one one4 rfl) (run_equalIn_bool' w 9998 4 a3 b3 Try.underlying4) (eqF_cons (by decide) (part_one one3 rfl) (part_one one3 rfl) (run_equalIn_int w 9998 3 .i64 .i64 a4 b4 Try.underlying3) eqF_nil))) (by simp only [Bool.and_true, Bool.and_assoc, strEq])
theorem eqg155 : Try.prog.eqGuardType Try.prog.depth 155 = false := by kernel_rfl
theorem stood155 : Try.prog.stoodInHeld 155 = false := by kernel_rfl
set_option maxRecDepth 100000 in
theorem eqs155 (a0 : Int) (a1 : Int) (a2 : Int) (a3 : Int) (a4 : Bool) (b0 : Int) (b1 : Int) (b2 : Int) (b3 : Int) (b4 : Bool) (w : World) : (Op.equalIn 10000 155 (.agg #[.int .i64 a0, .int .i64 a1, .int .i64 a2, .int .i64 a3, .bool a4]) (.agg #[.int .i64 b0, .int .i64 b1, .int .i64 b2, .int .i64 b3, .bool b4])).run Try.prog w = .ok (a0 == b0 && (a1 == b1 && (a2 == b2 && (a3 == b3 && (a4 == b4))))) w := by
  rw [run_equalIn_struct w 9999 155 _ _ (by simp only [Program.fieldsOf, Try.underlying155]) stood155]
  simp only [Program.fieldsOf, Try.underlying155]
  exact Eq.trans (eqF_cons (by decide) (part_agg agg150 rfl) (part_agg agg150 rfl) (eqs150d9999 a0 a1 a2 b0 b1 b2 w) (eqF_cons (by decide) (part_one one3 rfl) (part_one one3 rfl) (run_equalIn_int w 9998 3 .i64 .i64 a3 b3 Try.underlying3) (eqF_cons (by decide) (part_one one4 rfl) (part_one one4 rfl) (run_equalIn_bool' w 9998 4 a4 b4 Try.underlying4) eqF_nil))) (by simp only [Bool.and_true, Bool.and_assoc, strEq])
theorem sz73 : Hr.Sz Try.prog 73 2 := Hr.Sz.of (by kernel_rfl)
theorem agg73 : Hr.Agg Try.prog 73 2 := ⟨fun w => by simp [isAgg, run_underlying Try.underlying73], Hr.Sz.of (by kernel_rfl)⟩
theorem eqg73 : Try.prog.eqGuardType Try.prog.depth 73 = false := by kernel_rfl
theorem stood73 : Try.prog.stoodInHeld 73 = false := by kernel_rfl
theorem eqs73 (a0 a1 b0 b1 : Int) (w : World) : (Op.equalIn 10000 73 (.agg #[.int .i64 a0, .int .i64 a1]) (.agg #[.int .i64 b0, .int .i64 b1])).run Try.prog w = .ok (a0 == b0 && (a1 == b1)) w := by
  rw [run_equalIn_struct w 9999 73 _ _ (by simp only [Program.fieldsOf, Try.underlying73]) stood73]
  have hz : ∀ (x y : Int) (w : World), (Op.equalIn 9999 3 (.int .i64 x) (.int .i64 y)).run Try.prog w = .ok (x == y) w := fun x y w => run_equalIn_int w 9998 3 .i64 .i64 x y Try.underlying3
  cases h0 : (a0 == b0) <;> cases h1 : (a1 == b1) <;> simp [Program.fieldsOf, Try.underlying73, Op.eqFields, part, one3.1, hz, h0, h1]
theorem sz74 : Hr.Sz Try.prog 74 1 := Hr.Sz.of (by kernel_rfl)
theorem one74 : Hr.One Try.prog 74 := ⟨fun w => by simp [isAgg, run_underlying Try.underlying74], Hr.Sz.of (by kernel_rfl)⟩
theorem call78 : Hr.Callable Try.prog 78 := fun args w => by kernel_rfl
theorem sz75 : Hr.Sz Try.prog 75 1 := Hr.Sz.of (by kernel_rfl)
theorem one75 : Hr.One Try.prog 75 := ⟨fun w => by simp [isAgg, run_underlying Try.underlying75], Hr.Sz.of (by kernel_rfl)⟩
theorem call79 : Hr.Callable Try.prog 79 := fun args w => by kernel_rfl
theorem sz76 : Hr.Sz Try.prog 76 1 := Hr.Sz.of (by kernel_rfl)
theorem one76 : Hr.One Try.prog 76 := ⟨fun w => by simp [isAgg, run_underlying Try.underlying76], Hr.Sz.of (by kernel_rfl)⟩
theorem call80 : Hr.Callable Try.prog 80 := fun args w => by kernel_rfl

set_option maxRecDepth 100000 in
theorem eqH_just (l k : List Hd) (A B : Option Addr) (ca cb : Nat) (W : World) (hr : Rd W A 5 (l.map Hd.enc)) (hq : Rd W B 5 (k.map Hd.enc)) (hl : l.length ≤ 100000) (hk1 : k.length ≤ 100000) : Calls Try.prog 78 #[.slice A l.length ca, .slice B k.length cb] W (Hr.Just W (.bool (eqL hdEq l k))) := by
  refine Just.of_ret ?_
  refine enterA (X := nX) (vs := [.slice A l.length ca, .slice B k.length cb]) Try.func78 Try.ntmps78 rfl rfl Mem.nil ?_
  refine run_seq ?_
  refine run_region ?_
  refine run_q (.none rfl) rfl rfl (q_assign rfl rfl) ?_
  refine run_nil ?_
  refine run_seq ?_
  refine run_seq ?_
  refine run_region ?_
  refine run_q (.none rfl) rfl rfl (q_move rfl rfl) ?_
  refine run_q (.none rfl) rfl rfl (q_len rfl Try.underlying74 rfl) ?_
  refine run_q (.none rfl) rfl rfl (q_move rfl rfl) ?_
  refine run_q (.none rfl) rfl rfl (q_len rfl Try.underlying74 rfl) ?_
  refine run_q (.none rfl) rfl rfl (q_neq rfl rfl rfl) ?_
  refine run_nil ?_
  refine run_sub (subMk (.cons (s := 0) rfl (.cons (s := 1) rfl (.cons (s := 4) rfl (.cons (s := 10) rfl .nil)))) .refl) ?_
  refine run_cond rfl (fun g10 => ?_) (fun g10 => ?_)
  · have g10' := g10
    try simp only [decide_eq_true_eq, decide_eq_false_iff_not, beq_iff_eq, beq_eq_false_iff_ne, bne_iff_ne, bne_eq_false_iff_eq, Bool.not_eq_true', Bool.not_eq_false', ne_eq, Int.not_lt, Int.not_le, Decidable.not_not] at g10'
    refine run_seq ?_
    refine run_region ?_
    refine run_q (.none rfl) rfl rfl (q_assign rfl rfl) ?_
    refine run_nil ?_
    refine run_ret ?_
    exact end1 rfl rfl (by rw [eqL_ne (by omega)])
  · have g10' := g10
    try simp only [decide_eq_true_eq, decide_eq_false_iff_not, beq_iff_eq, beq_eq_false_iff_ne, bne_iff_ne, bne_eq_false_iff_eq, Bool.not_eq_true', Bool.not_eq_false', ne_eq, Int.not_lt, Int.not_le, Decidable.not_not] at g10'
    have hlk : l.length = k.length := by omega
    refine run_skip ?_
    refine run_seq ?_
    refine run_seq ?_
    refine run_region ?_
    refine run_q (.none rfl) rfl rfl (q_move rfl rfl) ?_
    refine run_q (.none rfl) rfl rfl (q_len rfl Try.underlying74 rfl) ?_
    refine run_q (.none rfl) rfl rfl (q_move rfl rfl) ?_
    refine run_nil ?_
    refine run_block ?_
    refine run_sub (subMk (.cons (s := 13) rfl (.cons (s := 0) rfl (.cons (s := 1) rfl (.cons (s := 4) rfl (.cons (s := 12) rfl .nil))))) .nil) ?_
    refine run_loopC1M0 (ι := Nat) (fun i => i ≤ l.length ∧ eqL hdEq l k = eqL hdEq (l.drop i) (k.drop i)) (fun i => .int .i64 (i : Int))  (fun i => l.length - i) 0 (by (try dsimp only); exact ⟨by omega, rfl⟩) rfl  ?_
    rintro i hq
    (try dsimp only at hq)
    obtain ⟨hi, hE⟩ := hq
    show Run _ _ _ _ _ _ _ ⟨(13, .int .i64 (i : Int)) :: _, _⟩
    refine run_seq ?_
    refine run_region ?_
    refine run_q (.none rfl) rfl rfl (q_lss rfl rfl rfl) ?_
    refine run_nil ?_
    refine run_seq ?_
    refine run_cond rfl (fun g14 => ?_) (fun g14 => ?_)
    · have g14' := g14
      try simp only [decide_eq_true_eq, decide_eq_false_iff_not, beq_iff_eq, beq_eq_false_iff_ne, bne_iff_ne, bne_eq_false_iff_eq, Bool.not_eq_true', Bool.not_eq_false', ne_eq, Int.not_lt, Int.not_le, Decidable.not_not] at g14'
      have hkl : i < l.length := by omega
      refine run_skip ?_
      refine run_seq ?_
      refine run_block ?_
      refine run_seq ?_
      refine run_region ?_
      refine run_q (.none rfl) rfl rfl (q_move rfl rfl) ?_
      refine run_q (.none rfl) rfl rfl (q_assign rfl rfl) ?_
      refine run_nil ?_
      refine run_seq ?_
      refine run_draw [(0, 0), (1, 0), (2, 0), (3, 0), (4, 0), (5, 0), (6, 0), (7, 0), (8, 0)] mixed (by kernel_rfl) .refl ?_
      refine d_q rfl rfl (.none rfl) rfl rfl (q_move rfl rfl) ?_
      refine d_q rfl rfl (.none rfl) rfl rfl (q_move rfl rfl) ?_
      refine d_q rfl rfl (.none rfl) rfl rfl (q_indexS (q := i) rfl Try.underlying74 sz152 rfl rfl (.inp hr .no) (by simp <;> omega) rfl (by omega)) ?_
      refine d_q rfl rfl (.none rfl) rfl rfl (q_loadE rfl agg152 rfl (.inp hr .no) (getmap (by omega)) rfl) ?_
      refine d_q rfl rfl (.none rfl) rfl rfl (q_move rfl rfl) ?_
      refine d_q rfl rfl (.none rfl) rfl rfl (q_move rfl rfl) ?_
      refine d_q rfl rfl (.none rfl) rfl rfl (q_indexS (q := i) rfl Try.underlying74 sz152 rfl rfl (.inp hq .no) (by simp <;> omega) rfl (by omega)) ?_
      refine d_q rfl rfl (.none rfl) rfl rfl (q_loadE rfl agg152 rfl (.inp hq .no) (getmap (by omega)) rfl) ?_
      refine d_q rfl rfl (.none rfl) rfl rfl (q_neqS rfl rfl rfl eqg152 (fun w => eqs152 _ _ _ _ _ _ _ _ _ _ w)) ?_
      refine d_nil ?_
      refine run_sub (subMk (.cons (s := 0) rfl (.cons (s := 1) rfl (.cons (s := 4) rfl (.cons (s := 12) rfl (.cons (s := 13) rfl (.cons (s := 24) rfl .nil)))))) .refl) ?_
      refine run_cond rfl (fun g24 => ?_) (fun g24 => ?_)
      · have g24' := g24
        try simp only [decide_eq_true_eq, decide_eq_false_iff_not, beq_iff_eq, beq_eq_false_iff_ne, bne_iff_ne, bne_eq_false_iff_eq, Bool.not_eq_true', Bool.not_eq_false', ne_eq, Int.not_lt, Int.not_le, Decidable.not_not] at g24'
        refine run_seq ?_
        refine run_region ?_
        refine run_q (.none rfl) rfl rfl (q_assign rfl rfl) ?_
        refine run_nil ?_
        refine run_ret ?_
        exact end1 rfl rfl (by rw [hE, eqL_stop hkl hlk (show hdEq (nth l i) (nth k i) = false from not_t g24)])
      · have g24' := g24
        try simp only [decide_eq_true_eq, decide_eq_false_iff_not, beq_iff_eq, beq_eq_false_iff_ne, bne_iff_ne, bne_eq_false_iff_eq, Bool.not_eq_true', Bool.not_eq_false', ne_eq, Int.not_lt, Int.not_le, Decidable.not_not] at g24'
        refine run_skip ?_
        refine run_blk ?_
        refine run_region ?_
        refine run_q (.none rfl) rfl rfl (q_add rfl rfl rfl (by omega)) ?_
        refine run_q (.none rfl) rfl rfl (q_move rfl rfl) ?_
        refine run_nil ?_
        exact run_again (i + 1) (by (try dsimp only); exact ⟨by omega, by rw [hE, eqL_step hkl hlk (show hdEq (nth l i) (nth k i) = true from not_f g24)]⟩) (by (try dsimp only); omega) (subMk (.cons' (s := 13) rfl (vint (by omega)) (.cons (s := 0) rfl (.cons (s := 1) rfl (.cons (s := 4) rfl (.cons (s := 12) rfl .nil))))) .nil)
    · have g14' := g14
      try simp only [decide_eq_true_eq, decide_eq_false_iff_not, beq_iff_eq, beq_eq_false_iff_ne, bne_iff_ne, bne_eq_false_iff_eq, Bool.not_eq_true', Bool.not_eq_false', ne_eq, Int.not_lt, Int.not_le, Decidable.not_not] at g14'
      refine run_exit rfl ?_
      refine run_sub (subMk (.cons (s := 4) rfl .nil) .refl) ?_
      refine run_seq ?_
      refine run_region ?_
      refine run_q (.none rfl) rfl rfl (q_assign rfl rfl) ?_
      refine run_nil ?_
      refine run_ret ?_
      exact end1 rfl rfl (by rw [hE, eqL_end (by omega) hlk])

set_option maxRecDepth 100000 in
theorem eqG_just (l k : List Gr) (A B : Option Addr) (ca cb : Nat) (W : World) (hr : Rd W A 5 (l.map Gr.enc)) (hq : Rd W B 5 (k.map Gr.enc)) (hl : l.length ≤ 100000) (hk1 : k.length ≤ 100000) : Calls Try.prog 79 #[.slice A l.length ca, .slice B k.length cb] W (Hr.Just W (.bool (eqL grEq l k))) := by
  refine Just.of_ret ?_
  refine enterA (X := nX) (vs := [.slice A l.length ca, .slice B k.length cb]) Try.func79 Try.ntmps79 rfl rfl Mem.nil ?_
  refine run_seq ?_
  refine run_region ?_
  refine run_q (.none rfl) rfl rfl (q_assign rfl rfl) ?_
  refine run_nil ?_
  refine run_seq ?_
  refine run_seq ?_
  refine run_region ?_
  refine run_q (.none rfl) rfl rfl (q_move rfl rfl) ?_
  refine run_q (.none rfl) rfl rfl (q_len rfl Try.underlying75 rfl) ?_
  refine run_q (.none rfl) rfl rfl (q_move rfl rfl) ?_
  refine run_q (.none rfl) rfl rfl (q_len rfl Try.underlying75 rfl) ?_
  refine run_q (.none rfl) rfl rfl (q_neq rfl rfl rfl) ?_
  refine run_nil ?_
  refine run_sub (subMk (.cons (s := 0) rfl (.cons (s := 1) rfl (.cons (s := 4) rfl (.cons (s := 10) rfl .nil)))) .refl) ?_
  refine run_cond rfl (fun g10 => ?_) (fun g10 => ?_)
  · have g10' := g10
    try simp only [decide_eq_true_eq, decide_eq_false_iff_not, beq_iff_eq, beq_eq_false_iff_ne, bne_iff_ne, bne_eq_false_iff_eq, Bool.not_eq_true', Bool.not_eq_false', ne_eq, Int.not_lt, Int.not_le, Decidable.not_not] at g10'
    refine run_seq ?_
    refine run_region ?_
    refine run_q (.none rfl) rfl rfl (q_assign rfl rfl) ?_
    refine run_nil ?_
    refine run_ret ?_
    exact end1 rfl rfl (by rw [eqL_ne (by omega)])
  · have g10' := g10
    try simp only [decide_eq_true_eq, decide_eq_false_iff_not, beq_iff_eq, beq_eq_false_iff_ne, bne_iff_ne, bne_eq_false_iff_eq, Bool.not_eq_true', Bool.not_eq_false', ne_eq, Int.not_lt, Int.not_le, Decidable.not_not] at g10'
    have hlk : l.length = k.length := by omega
    refine run_skip ?_
    refine run_seq ?_
    refine run_seq ?_
    refine run_region ?_
    refine run_q (.none rfl) rfl rfl (q_move rfl rfl) ?_
    refine run_q (.none rfl) rfl rfl (q_len rfl Try.underlying75 rfl) ?_
    refine run_q (.none rfl) rfl rfl (q_move rfl rfl) ?_
    refine run_nil ?_
    refine run_block ?_
    refine run_sub (subMk (.cons (s := 13) rfl (.cons (s := 0) rfl (.cons (s := 1) rfl (.cons (s := 4) rfl (.cons (s := 12) rfl .nil))))) .nil) ?_
    refine run_loopC1M0 (ι := Nat) (fun i => i ≤ l.length ∧ eqL grEq l k = eqL grEq (l.drop i) (k.drop i)) (fun i => .int .i64 (i : Int))  (fun i => l.length - i) 0 (by (try dsimp only); exact ⟨by omega, rfl⟩) rfl  ?_
    rintro i hq
    (try dsimp only at hq)
    obtain ⟨hi, hE⟩ := hq
    show Run _ _ _ _ _ _ _ ⟨(13, .int .i64 (i : Int)) :: _, _⟩
    refine run_seq ?_
    refine run_region ?_
    refine run_q (.none rfl) rfl rfl (q_lss rfl rfl rfl) ?_
    refine run_nil ?_
    refine run_seq ?_
    refine run_cond rfl (fun g14 => ?_) (fun g14 => ?_)
    · have g14' := g14
      try simp only [decide_eq_true_eq, decide_eq_false_iff_not, beq_iff_eq, beq_eq_false_iff_ne, bne_iff_ne, bne_eq_false_iff_eq, Bool.not_eq_true', Bool.not_eq_false', ne_eq, Int.not_lt, Int.not_le, Decidable.not_not] at g14'
      have hkl : i < l.length := by omega
      refine run_skip ?_
      refine run_seq ?_
      refine run_block ?_
      refine run_seq ?_
      refine run_region ?_
      refine run_q (.none rfl) rfl rfl (q_move rfl rfl) ?_
      refine run_q (.none rfl) rfl rfl (q_assign rfl rfl) ?_
      refine run_nil ?_
      refine run_seq ?_
      refine run_draw [(0, 0), (1, 0), (2, 0), (3, 0), (4, 0), (5, 0), (6, 0), (7, 0), (8, 0)] mixed (by kernel_rfl) .refl ?_
      refine d_q rfl rfl (.none rfl) rfl rfl (q_move rfl rfl) ?_
      refine d_q rfl rfl (.none rfl) rfl rfl (q_move rfl rfl) ?_
      refine d_q rfl rfl (.none rfl) rfl rfl (q_indexS (q := i) rfl Try.underlying75 sz155 rfl rfl (.inp hr .no) (by simp <;> omega) rfl (by omega)) ?_
      refine d_q rfl rfl (.none rfl) rfl rfl (q_loadE rfl agg155 rfl (.inp hr .no) (getmap (by omega)) rfl) ?_
      refine d_q rfl rfl (.none rfl) rfl rfl (q_move rfl rfl) ?_
      refine d_q rfl rfl (.none rfl) rfl rfl (q_move rfl rfl) ?_
      refine d_q rfl rfl (.none rfl) rfl rfl (q_indexS (q := i) rfl Try.underlying75 sz155 rfl rfl (.inp hq .no) (by simp <;> omega) rfl (by omega)) ?_
      refine d_q rfl rfl (.none rfl) rfl rfl (q_loadE rfl agg155 rfl (.inp hq .no) (getmap (by omega)) rfl) ?_
      refine d_q rfl rfl (.none rfl) rfl rfl (q_neqS rfl rfl rfl eqg155 (fun w => eqs155 _ _ _ _ _ _ _ _ _ _ w)) ?_
      refine d_nil ?_
      refine run_sub (subMk (.cons (s := 0) rfl (.cons (s := 1) rfl (.cons (s := 4) rfl (.cons (s := 12) rfl (.cons (s := 13) rfl (.cons (s := 24) rfl .nil)))))) .refl) ?_
      refine run_cond rfl (fun g24 => ?_) (fun g24 => ?_)
      · have g24' := g24
        try simp only [decide_eq_true_eq, decide_eq_false_iff_not, beq_iff_eq, beq_eq_false_iff_ne, bne_iff_ne, bne_eq_false_iff_eq, Bool.not_eq_true', Bool.not_eq_false', ne_eq, Int.not_lt, Int.not_le, Decidable.not_not] at g24'
        refine run_seq ?_
        refine run_region ?_
        refine run_q (.none rfl) rfl rfl (q_assign rfl rfl) ?_
        refine run_nil ?_
        refine run_ret ?_
        exact end1 rfl rfl (by rw [hE, eqL_stop hkl hlk (show grEq (nth l i) (nth k i) = false from not_t g24)])
      · have g24' := g24
        try simp only [decide_eq_true_eq, decide_eq_false_iff_not, beq_iff_eq, beq_eq_false_iff_ne, bne_iff_ne, bne_eq_false_iff_eq, Bool.not_eq_true', Bool.not_eq_false', ne_eq, Int.not_lt, Int.not_le, Decidable.not_not] at g24'
        refine run_skip ?_
        refine run_blk ?_
        refine run_region ?_
        refine run_q (.none rfl) rfl rfl (q_add rfl rfl rfl (by omega)) ?_
        refine run_q (.none rfl) rfl rfl (q_move rfl rfl) ?_
        refine run_nil ?_
        exact run_again (i + 1) (by (try dsimp only); exact ⟨by omega, by rw [hE, eqL_step hkl hlk (show grEq (nth l i) (nth k i) = true from not_f g24)]⟩) (by (try dsimp only); omega) (subMk (.cons' (s := 13) rfl (vint (by omega)) (.cons (s := 0) rfl (.cons (s := 1) rfl (.cons (s := 4) rfl (.cons (s := 12) rfl .nil))))) .nil)
    · have g14' := g14
      try simp only [decide_eq_true_eq, decide_eq_false_iff_not, beq_iff_eq, beq_eq_false_iff_ne, bne_iff_ne, bne_eq_false_iff_eq, Bool.not_eq_true', Bool.not_eq_false', ne_eq, Int.not_lt, Int.not_le, Decidable.not_not] at g14'
      refine run_exit rfl ?_
      refine run_sub (subMk (.cons (s := 4) rfl .nil) .refl) ?_
      refine run_seq ?_
      refine run_region ?_
      refine run_q (.none rfl) rfl rfl (q_assign rfl rfl) ?_
      refine run_nil ?_
      refine run_ret ?_
      exact end1 rfl rfl (by rw [hE, eqL_end (by omega) hlk])

set_option maxRecDepth 100000 in
theorem eqY_just (l k : List Syl) (A B : Option Addr) (ca cb : Nat) (W : World) (hr : Rd W A 2 (l.map Syl.enc)) (hq : Rd W B 2 (k.map Syl.enc)) (hl : l.length ≤ 100000) (hk1 : k.length ≤ 100000) : Calls Try.prog 80 #[.slice A l.length ca, .slice B k.length cb] W (Hr.Just W (.bool (eqL syEq l k))) := by
  refine Just.of_ret ?_
  refine enterA (X := nX) (vs := [.slice A l.length ca, .slice B k.length cb]) Try.func80 Try.ntmps80 rfl rfl Mem.nil ?_
  refine run_seq ?_
  refine run_region ?_
  refine run_q (.none rfl) rfl rfl (q_assign rfl rfl) ?_
  refine run_nil ?_
  refine run_seq ?_
  refine run_seq ?_
  refine run_region ?_
  refine run_q (.none rfl) rfl rfl (q_move rfl rfl) ?_
  refine run_q (.none rfl) rfl rfl (q_len rfl Try.underlying76 rfl) ?_
  refine run_q (.none rfl) rfl rfl (q_move rfl rfl) ?_
  refine run_q (.none rfl) rfl rfl (q_len rfl Try.underlying76 rfl) ?_
  refine run_q (.none rfl) rfl rfl (q_neq rfl rfl rfl) ?_
  refine run_nil ?_
  refine run_sub (subMk (.cons (s := 0) rfl (.cons (s := 1) rfl (.cons (s := 4) rfl (.cons (s := 10) rfl .nil)))) .refl) ?_
  refine run_cond rfl (fun g10 => ?_) (fun g10 => ?_)
  · have g10' := g10
    try simp only [decide_eq_true_eq, decide_eq_false_iff_not, beq_iff_eq, beq_eq_false_iff_ne, bne_iff_ne, bne_eq_false_iff_eq, Bool.not_eq_true', Bool.not_eq_false', ne_eq, Int.not_lt, Int.not_le, Decidable.not_not] at g10'
    refine run_seq ?_
    refine run_region ?_
    refine run_q (.none rfl) rfl rfl (q_assign rfl rfl) ?_
    refine run_nil ?_
    refine run_ret ?_
    exact end1 rfl rfl (by rw [eqL_ne (by omega)])
  · have g10' := g10
    try simp only [decide_eq_true_eq, decide_eq_false_iff_not, beq_iff_eq, beq_eq_false_iff_ne, bne_iff_ne, bne_eq_false_iff_eq, Bool.not_eq_true', Bool.not_eq_false', ne_eq, Int.not_lt, Int.not_le, Decidable.not_not] at g10'
    have hlk : l.length = k.length := by omega
    refine run_skip ?_
    refine run_seq ?_
    refine run_seq ?_
    refine run_region ?_
    refine run_q (.none rfl) rfl rfl (q_move rfl rfl) ?_
    refine run_q (.none rfl) rfl rfl (q_len rfl Try.underlying76 rfl) ?_
    refine run_q (.none rfl) rfl rfl (q_move rfl rfl) ?_
    refine run_nil ?_
    refine run_block ?_
    refine run_sub (subMk (.cons (s := 13) rfl (.cons (s := 0) rfl (.cons (s := 1) rfl (.cons (s := 4) rfl (.cons (s := 12) rfl .nil))))) .nil) ?_
    refine run_loopC1M0 (ι := Nat) (fun i => i ≤ l.length ∧ eqL syEq l k = eqL syEq (l.drop i) (k.drop i)) (fun i => .int .i64 (i : Int))  (fun i => l.length - i) 0 (by (try dsimp only); exact ⟨by omega, rfl⟩) rfl  ?_
    rintro i hq
    (try dsimp only at hq)
    obtain ⟨hi, hE⟩ := hq
    show Run _ _ _ _ _ _ _ ⟨(13, .int .i64 (i : Int)) :: _, _⟩
    refine run_seq ?_
    refine run_region ?_
    refine run_q (.none rfl) rfl rfl (q_lss rfl rfl rfl) ?_
    refine run_nil ?_
    refine run_seq ?_
    refine run_cond rfl (fun g14 => ?_) (fun g14 => ?_)
    · have g14' := g14
      try simp only [decide_eq_true_eq, decide_eq_false_iff_not, beq_iff_eq, beq_eq_false_iff_ne, bne_iff_ne, bne_eq_false_iff_eq, Bool.not_eq_true', Bool.not_eq_false', ne_eq, Int.not_lt, Int.not_le, Decidable.not_not] at g14'
      have hkl : i < l.length := by omega
      refine run_skip ?_
      refine run_seq ?_
      refine run_block ?_
      refine run_seq ?_
      refine run_region ?_
      refine run_q (.none rfl) rfl rfl (q_move rfl rfl) ?_
      refine run_q (.none rfl) rfl rfl (q_assign rfl rfl) ?_
      refine run_nil ?_
      refine run_seq ?_
      refine run_draw [(0, 0), (1, 0), (2, 0), (3, 0), (4, 0), (5, 0), (6, 0), (7, 0), (8, 0)] mixed (by kernel_rfl) .refl ?_
      refine d_q rfl rfl (.none rfl) rfl rfl (q_move rfl rfl) ?_
      refine d_q rfl rfl (.none rfl) rfl rfl (q_move rfl rfl) ?_
      refine d_q rfl rfl (.none rfl) rfl rfl (q_indexS (q := i) rfl Try.underlying76 sz86 rfl rfl (.inp hr .no) (by simp <;> omega) rfl (by omega)) ?_
      refine d_q rfl rfl (.none rfl) rfl rfl (q_loadE rfl agg86 rfl (.inp hr .no) (getmap (by omega)) rfl) ?_
      refine d_q rfl rfl (.none rfl) rfl rfl (q_move rfl rfl) ?_
      refine d_q rfl rfl (.none rfl) rfl rfl (q_move rfl rfl) ?_
      refine d_q rfl rfl (.none rfl) rfl rfl (q_indexS (q := i) rfl Try.underlying76 sz86 rfl rfl (.inp hq .no) (by simp <;> omega) rfl (by omega)) ?_
      refine d_q rfl rfl (.none rfl) rfl rfl (q_loadE rfl agg86 rfl (.inp hq .no) (getmap (by omega)) rfl) ?_
      refine d_q rfl rfl (.none rfl) rfl rfl (q_neqS rfl rfl rfl eqg86 (fun w => eqs86 _ _ _ _ w)) ?_
      refine d_nil ?_
      refine run_sub (subMk (.cons (s := 0) rfl (.cons (s := 1) rfl (.cons (s := 4) rfl (.cons (s := 12) rfl (.cons (s := 13) rfl (.cons (s := 24) rfl .nil)))))) .refl) ?_
      refine run_cond rfl (fun g24 => ?_) (fun g24 => ?_)
      · have g24' := g24
        try simp only [decide_eq_true_eq, decide_eq_false_iff_not, beq_iff_eq, beq_eq_false_iff_ne, bne_iff_ne, bne_eq_false_iff_eq, Bool.not_eq_true', Bool.not_eq_false', ne_eq, Int.not_lt, Int.not_le, Decidable.not_not] at g24'
        refine run_seq ?_
        refine run_region ?_
        refine run_q (.none rfl) rfl rfl (q_assign rfl rfl) ?_
        refine run_nil ?_
        refine run_ret ?_
        exact end1 rfl rfl (by rw [hE, eqL_stop hkl hlk (show syEq (nth l i) (nth k i) = false from not_t g24)])
      · have g24' := g24
        try simp only [decide_eq_true_eq, decide_eq_false_iff_not, beq_iff_eq, beq_eq_false_iff_ne, bne_iff_ne, bne_eq_false_iff_eq, Bool.not_eq_true', Bool.not_eq_false', ne_eq, Int.not_lt, Int.not_le, Decidable.not_not] at g24'
        refine run_skip ?_
        refine run_blk ?_
        refine run_region ?_
        refine run_q (.none rfl) rfl rfl (q_add rfl rfl rfl (by omega)) ?_
        refine run_q (.none rfl) rfl rfl (q_move rfl rfl) ?_
        refine run_nil ?_
        exact run_again (i + 1) (by (try dsimp only); exact ⟨by omega, by rw [hE, eqL_step hkl hlk (show syEq (nth l i) (nth k i) = true from not_f g24)]⟩) (by (try dsimp only); omega) (subMk (.cons' (s := 13) rfl (vint (by omega)) (.cons (s := 0) rfl (.cons (s := 1) rfl (.cons (s := 4) rfl (.cons (s := 12) rfl .nil))))) .nil)
    · have g14' := g14
      try simp only [decide_eq_true_eq, decide_eq_false_iff_not, beq_iff_eq, beq_eq_false_iff_ne, bne_iff_ne, bne_eq_false_iff_eq, Bool.not_eq_true', Bool.not_eq_false', ne_eq, Int.not_lt, Int.not_le, Decidable.not_not] at g14'
      refine run_exit rfl ?_
      refine run_sub (subMk (.cons (s := 4) rfl .nil) .refl) ?_
      refine run_seq ?_
      refine run_region ?_
      refine run_q (.none rfl) rfl rfl (q_assign rfl rfl) ?_
      refine run_nil ?_
      refine run_ret ?_
      exact end1 rfl rfl (by rw [hE, eqL_end (by omega) hlk])

set_option maxHeartbeats 2000000 in
set_option maxRecDepth 100000 in
theorem same_just (x y : Evt) (p q : Lie) (W : World) (hx : RdE W x p) (hy : RdE W y q) (fx : x.few) (fy : y.few) : Calls Try.prog 59 #[evV x p, evV y q] W (Hr.Just W (.bool (decide (sameP x y)))) := by
  refine Just.of_ret ?_
  refine enterA (X := nX) (vs := [evV x p, evV y q]) Try.func59 Try.ntmps59 rfl rfl Mem.nil ?_
  refine run_seq ?_
  refine run_region ?_
  refine run_h (.none rfl) (h_box rfl rfl rfl rfl rfl) ?_
  rintro b2 -
  refine run_h (.none rfl) (h_box rfl rfl rfl rfl rfl) ?_
  rintro b3 -
  refine run_q (.none rfl) rfl rfl (q_assign rfl rfl) ?_
  refine run_nil ?_
  refine run_seq ?_
  refine run_region ?_
  refine run_q (.none rfl) rfl rfl (q_fieldB (d := 2) rfl Try.underlying78 rfl rfl sz3 rfl) ?_
  refine run_q (.none rfl) rfl rfl (q_loadB rfl one3 rfl (.there Sel.here) rfl) ?_
  refine run_q (.none rfl) rfl rfl (q_fieldB (d := 2) rfl Try.underlying78 rfl rfl sz3 rfl) ?_
  refine run_q (.none rfl) rfl rfl (q_loadB rfl one3 rfl Sel.here rfl) ?_
  refine run_q (.none rfl) rfl rfl (q_eql rfl rfl rfl) ?_
  refine run_q (.none rfl) rfl rfl (q_move rfl rfl) ?_
  refine run_split 10 rfl (fun g10 => ?_) (fun g10 => ?_)
  · have g10' := g10
    try simp only [decide_eq_true_eq, decide_eq_false_iff_not, beq_iff_eq, beq_eq_false_iff_ne, bne_iff_ne, bne_eq_false_iff_eq, Bool.not_eq_true', Bool.not_eq_false', ne_eq, Int.not_lt, Int.not_le, Decidable.not_not] at g10'
    refine run_q (.on rfl rfl rfl g10) rfl rfl (q_fieldB (d := 3) rfl Try.underlying78 rfl rfl sz73 rfl) ?_
    refine run_q (.on rfl rfl rfl g10) rfl rfl (q_loadBN rfl agg73 rfl (.there Sel.here) (.cons rfl (.cons rfl CellsAt.nil)) rfl) ?_
    refine run_q (.on rfl rfl rfl g10) rfl rfl (q_fieldB (d := 3) rfl Try.underlying78 rfl rfl sz73 rfl) ?_
    refine run_q (.on rfl rfl rfl g10) rfl rfl (q_loadBN rfl agg73 rfl Sel.here (.cons rfl (.cons rfl CellsAt.nil)) rfl) ?_
    refine run_q (.on rfl rfl rfl g10) rfl rfl (q_eqlS rfl rfl rfl eqg73 (fun w => eqs73 _ _ _ _ w)) ?_
    refine run_q (.none rfl) rfl rfl (q_pickT rfl rfl g10 rfl) ?_
    refine run_q (.none rfl) rfl rfl (q_move rfl rfl) ?_
    refine run_split 17 rfl (fun g17 => ?_) (fun g17 => ?_)
    · have g17' := g17
      try simp only [decide_eq_true_eq, decide_eq_false_iff_not, beq_iff_eq, beq_eq_false_iff_ne, bne_iff_ne, bne_eq_false_iff_eq, Bool.not_eq_true', Bool.not_eq_false', ne_eq, Int.not_lt, Int.not_le, Decidable.not_not] at g17'
      refine run_q (.on rfl rfl rfl g17) rfl rfl (q_fieldB (d := 7) rfl Try.underlying78 rfl rfl sz3 rfl) ?_
      refine run_q (.on rfl rfl rfl g17) rfl rfl (q_loadB rfl one3 rfl (.there Sel.here) rfl) ?_
      refine run_q (.on rfl rfl rfl g17) rfl rfl (q_fieldB (d := 7) rfl Try.underlying78 rfl rfl sz3 rfl) ?_
      refine run_q (.on rfl rfl rfl g17) rfl rfl (q_loadB rfl one3 rfl Sel.here rfl) ?_
      refine run_q (.on rfl rfl rfl g17) rfl rfl (q_eql rfl rfl rfl) ?_
      refine run_q (.none rfl) rfl rfl (q_pickT rfl rfl g17 rfl) ?_
      refine run_q (.none rfl) rfl rfl (q_move rfl rfl) ?_
      refine run_split 24 rfl (fun g24 => ?_) (fun g24 => ?_)
      · have g24' := g24
        try simp only [decide_eq_true_eq, decide_eq_false_iff_not, beq_iff_eq, beq_eq_false_iff_ne, bne_iff_ne, bne_eq_false_iff_eq, Bool.not_eq_true', Bool.not_eq_false', ne_eq, Int.not_lt, Int.not_le, Decidable.not_not] at g24'
        refine run_q (.on rfl rfl rfl g24) rfl rfl (q_fieldB (d := 8) rfl Try.underlying78 rfl rfl sz3 rfl) ?_
        refine run_q (.on rfl rfl rfl g24) rfl rfl (q_loadB rfl one3 rfl (.there Sel.here) rfl) ?_
        refine run_q (.on rfl rfl rfl g24) rfl rfl (q_fieldB (d := 8) rfl Try.underlying78 rfl rfl sz3 rfl) ?_
        refine run_q (.on rfl rfl rfl g24) rfl rfl (q_loadB rfl one3 rfl Sel.here rfl) ?_
        refine run_q (.on rfl rfl rfl g24) rfl rfl (q_eql rfl rfl rfl) ?_
        refine run_q (.none rfl) rfl rfl (q_pickT rfl rfl g24 rfl) ?_
        refine run_q (.none rfl) rfl rfl (q_move rfl rfl) ?_
        refine run_split 31 rfl (fun g31 => ?_) (fun g31 => ?_)
        · have g31' := g31
          try simp only [decide_eq_true_eq, decide_eq_false_iff_not, beq_iff_eq, beq_eq_false_iff_ne, bne_iff_ne, bne_eq_false_iff_eq, Bool.not_eq_true', Bool.not_eq_false', ne_eq, Int.not_lt, Int.not_le, Decidable.not_not] at g31'
          refine run_q (.on rfl rfl rfl g31) rfl rfl (q_fieldB (d := 9) rfl Try.underlying78 rfl rfl sz3 rfl) ?_
          refine run_q (.on rfl rfl rfl g31) rfl rfl (q_loadB rfl one3 rfl (.there Sel.here) rfl) ?_
          refine run_q (.on rfl rfl rfl g31) rfl rfl (q_fieldB (d := 9) rfl Try.underlying78 rfl rfl sz3 rfl) ?_
          refine run_q (.on rfl rfl rfl g31) rfl rfl (q_loadB rfl one3 rfl Sel.here rfl) ?_
          refine run_q (.on rfl rfl rfl g31) rfl rfl (q_eql rfl rfl rfl) ?_
          refine run_q (.none rfl) rfl rfl (q_pickT rfl rfl g31 rfl) ?_
          refine run_q (.none rfl) rfl rfl (q_move rfl rfl) ?_
          refine run_split 38 rfl (fun g38 => ?_) (fun g38 => ?_)
          · have g38' := g38
            try simp only [decide_eq_true_eq, decide_eq_false_iff_not, beq_iff_eq, beq_eq_false_iff_ne, bne_iff_ne, bne_eq_false_iff_eq, Bool.not_eq_true', Bool.not_eq_false', ne_eq, Int.not_lt, Int.not_le, Decidable.not_not] at g38'
            refine run_q (.on rfl rfl rfl g38) rfl rfl (q_fieldB (d := 11) rfl Try.underlying78 rfl rfl sz3 rfl) ?_
            refine run_q (.on rfl rfl rfl g38) rfl rfl (q_loadB rfl one3 rfl (.there Sel.here) rfl) ?_
            refine run_q (.on rfl rfl rfl g38) rfl rfl (q_fieldB (d := 11) rfl Try.underlying78 rfl rfl sz3 rfl) ?_
            refine run_q (.on rfl rfl rfl g38) rfl rfl (q_loadB rfl one3 rfl Sel.here rfl) ?_
            refine run_q (.on rfl rfl rfl g38) rfl rfl (q_eql rfl rfl rfl) ?_
            refine run_q (.none rfl) rfl rfl (q_pickT rfl rfl g38 rfl) ?_
            refine run_q (.none rfl) rfl rfl (q_move rfl rfl) ?_
            refine run_split 45 rfl (fun g45 => ?_) (fun g45 => ?_)
            · have g45' := g45
              try simp only [decide_eq_true_eq, decide_eq_false_iff_not, beq_iff_eq, beq_eq_false_iff_ne, bne_iff_ne, bne_eq_false_iff_eq, Bool.not_eq_true', Bool.not_eq_false', ne_eq, Int.not_lt, Int.not_le, Decidable.not_not] at g45'
              refine run_q (.on rfl rfl rfl g45) rfl rfl (q_fieldB (d := 12) rfl Try.underlying78 rfl rfl sz3 rfl) ?_
              refine run_q (.on rfl rfl rfl g45) rfl rfl (q_loadB rfl one3 rfl (.there Sel.here) rfl) ?_
              refine run_q (.on rfl rfl rfl g45) rfl rfl (q_fieldB (d := 12) rfl Try.underlying78 rfl rfl sz3 rfl) ?_
              refine run_q (.on rfl rfl rfl g45) rfl rfl (q_loadB rfl one3 rfl Sel.here rfl) ?_
              refine run_q (.on rfl rfl rfl g45) rfl rfl (q_eql rfl rfl rfl) ?_
              refine run_q (.none rfl) rfl rfl (q_pickT rfl rfl g45 rfl) ?_
              refine run_q (.none rfl) rfl rfl (q_move rfl rfl) ?_
              refine run_split 52 rfl (fun g52 => ?_) (fun g52 => ?_)
              · have g52' := g52
                try simp only [decide_eq_true_eq, decide_eq_false_iff_not, beq_iff_eq, beq_eq_false_iff_ne, bne_iff_ne, bne_eq_false_iff_eq, Bool.not_eq_true', Bool.not_eq_false', ne_eq, Int.not_lt, Int.not_le, Decidable.not_not] at g52'
                refine run_q (.on rfl rfl rfl g52) rfl rfl (q_fieldB (d := 5) rfl Try.underlying78 rfl rfl sz74 rfl) ?_
                refine run_q (.on rfl rfl rfl g52) rfl rfl (q_loadB rfl one74 rfl (.there Sel.here) rfl) ?_
                refine run_q (.on rfl rfl rfl g52) rfl rfl (q_fieldB (d := 5) rfl Try.underlying78 rfl rfl sz74 rfl) ?_
                refine run_q (.on rfl rfl rfl g52) rfl rfl (q_loadB rfl one74 rfl Sel.here rfl) ?_
                refine run_q (.on rfl rfl rfl g52) rfl rfl (q_call rfl call78 (.cons rfl (.cons rfl Evs.nil)) (fun w hk hm => eqH_just x.hs y.hs p.HA q.HA p.hc q.hc w (hx.h.kept0 hk) (hy.h.kept0 hk) fx.1 fy.1)) ?_
                refine run_q (.none rfl) rfl rfl (q_pickT rfl rfl g52 rfl) ?_
                refine run_q (.none rfl) rfl rfl (q_move rfl rfl) ?_
                refine run_split 59 rfl (fun g59 => ?_) (fun g59 => ?_)
                · have g59' := g59
                  try simp only [decide_eq_true_eq, decide_eq_false_iff_not, beq_iff_eq, beq_eq_false_iff_ne, bne_iff_ne, bne_eq_false_iff_eq, Bool.not_eq_true', Bool.not_eq_false', ne_eq, Int.not_lt, Int.not_le, Decidable.not_not] at g59'
                  refine run_q (.on rfl rfl rfl g59) rfl rfl (q_fieldB (d := 6) rfl Try.underlying78 rfl rfl sz75 rfl) ?_
                  refine run_q (.on rfl rfl rfl g59) rfl rfl (q_loadB rfl one75 rfl (.there Sel.here) rfl) ?_
                  refine run_q (.on rfl rfl rfl g59) rfl rfl (q_fieldB (d := 6) rfl Try.underlying78 rfl rfl sz75 rfl) ?_
                  refine run_q (.on rfl rfl rfl g59) rfl rfl (q_loadB rfl one75 rfl Sel.here rfl) ?_
                  refine run_q (.on rfl rfl rfl g59) rfl rfl (q_call rfl call79 (.cons rfl (.cons rfl Evs.nil)) (fun w hk hm => eqG_just x.gs y.gs p.GA q.GA p.gc q.gc w (hx.g.kept0 hk) (hy.g.kept0 hk) fx.2.1 fy.2.1)) ?_
                  refine run_q (.none rfl) rfl rfl (q_pickT rfl rfl g59 rfl) ?_
                  refine run_q (.none rfl) rfl rfl (q_move rfl rfl) ?_
                  refine run_split 66 rfl (fun g66 => ?_) (fun g66 => ?_)
                  · have g66' := g66
                    try simp only [decide_eq_true_eq, decide_eq_false_iff_not, beq_iff_eq, beq_eq_false_iff_ne, bne_iff_ne, bne_eq_false_iff_eq, Bool.not_eq_true', Bool.not_eq_false', ne_eq, Int.not_lt, Int.not_le, Decidable.not_not] at g66'
                    refine run_q (.on rfl rfl rfl g66) rfl rfl (q_fieldB (d := 10) rfl Try.underlying78 rfl rfl sz76 rfl) ?_
                    refine run_q (.on rfl rfl rfl g66) rfl rfl (q_loadB rfl one76 rfl (.there Sel.here) rfl) ?_
                    refine run_q (.on rfl rfl rfl g66) rfl rfl (q_fieldB (d := 10) rfl Try.underlying78 rfl rfl sz76 rfl) ?_
                    refine run_q (.on rfl rfl rfl g66) rfl rfl (q_loadB rfl one76 rfl Sel.here rfl) ?_
                    refine run_q (.on rfl rfl rfl g66) rfl rfl (q_call rfl call80 (.cons rfl (.cons rfl Evs.nil)) (fun w hk hm => eqY_just x.ls y.ls p.LA q.LA p.lc q.lc w (hx.l.kept0 hk) (hy.l.kept0 hk) fx.2.2.1 fy.2.2.1)) ?_
                    refine run_q (.none rfl) rfl rfl (q_pickT rfl rfl g66 rfl) ?_
                    refine run_q (.none rfl) rfl rfl (q_assign rfl rfl) ?_
                    refine run_nil ?_
                    refine run_sub (subMk (.cons (s := 4) rfl .nil) .refl) ?_
                    refine run_ret ?_
                    exact end1 rfl rfl (congrArg Value.bool (sameP_yes g10 g17 g24 g31 g38 g45 g52 g59 g66).symm)
                  · have g66' := g66
                    try simp only [decide_eq_true_eq, decide_eq_false_iff_not, beq_iff_eq, beq_eq_false_iff_ne, bne_iff_ne, bne_eq_false_iff_eq, Bool.not_eq_true', Bool.not_eq_false', ne_eq, Int.not_lt, Int.not_le, Decidable.not_not] at g66'
                    refine run_off (.no rfl rfl rfl g66) rfl rfl ?_
                    refine run_off (.no rfl rfl rfl g66) rfl rfl ?_
                    refine run_off (.no rfl rfl rfl g66) rfl rfl ?_
                    refine run_off (.no rfl rfl rfl g66) rfl rfl ?_
                    refine run_off (.no rfl rfl rfl g66) rfl rfl ?_
                    refine run_q (.none rfl) rfl rfl (q_pickF rfl rfl g66 rfl) ?_
                    refine run_q (.none rfl) rfl rfl (q_assign rfl rfl) ?_
                    refine run_nil ?_
                    refine run_sub (subMk (.cons (s := 4) rfl .nil) .refl) ?_
                    refine run_ret ?_
                    exact end1 rfl rfl (congrArg Value.bool (decide_eq_false (sameP_no8 g66)).symm)
                · have g59' := g59
                  try simp only [decide_eq_true_eq, decide_eq_false_iff_not, beq_iff_eq, beq_eq_false_iff_ne, bne_iff_ne, bne_eq_false_iff_eq, Bool.not_eq_true', Bool.not_eq_false', ne_eq, Int.not_lt, Int.not_le, Decidable.not_not] at g59'
                  refine run_off (.no rfl rfl rfl g59) rfl rfl ?_
                  refine run_off (.no rfl rfl rfl g59) rfl rfl ?_
                  refine run_off (.no rfl rfl rfl g59) rfl rfl ?_
                  refine run_off (.no rfl rfl rfl g59) rfl rfl ?_
                  refine run_off (.no rfl rfl rfl g59) rfl rfl ?_
                  refine run_q (.none rfl) rfl rfl (q_pickF rfl rfl g59 rfl) ?_
                  refine run_q (.none rfl) rfl rfl (q_move rfl rfl) ?_
                  refine run_off (.no rfl rfl rfl rfl) rfl rfl ?_
                  refine run_off (.no rfl rfl rfl rfl) rfl rfl ?_
                  refine run_off (.no rfl rfl rfl rfl) rfl rfl ?_
                  refine run_off (.no rfl rfl rfl rfl) rfl rfl ?_
                  refine run_off (.no rfl rfl rfl rfl) rfl rfl ?_
                  refine run_q (.none rfl) rfl rfl (q_pickF rfl rfl rfl rfl) ?_
                  refine run_q (.none rfl) rfl rfl (q_assign rfl rfl) ?_
                  refine run_nil ?_
                  refine run_sub (subMk (.cons (s := 4) rfl .nil) .refl) ?_
                  refine run_ret ?_
                  exact end1 rfl rfl (congrArg Value.bool (decide_eq_false (sameP_no7 g59)).symm)
              · have g52' := g52
                try simp only [decide_eq_true_eq, decide_eq_false_iff_not, beq_iff_eq, beq_eq_false_iff_ne, bne_iff_ne, bne_eq_false_iff_eq, Bool.not_eq_true', Bool.not_eq_false', ne_eq, Int.not_lt, Int.not_le, Decidable.not_not] at g52'
                refine run_off (.no rfl rfl rfl g52) rfl rfl ?_
                refine run_off (.no rfl rfl rfl g52) rfl rfl ?_
                refine run_off (.no rfl rfl rfl g52) rfl rfl ?_
                refine run_off (.no rfl rfl rfl g52) rfl rfl ?_
                refine run_off (.no rfl rfl rfl g52) rfl rfl ?_
                refine run_q (.none rfl) rfl rfl (q_pickF rfl rfl g52 rfl) ?_
                refine run_q (.none rfl) rfl rfl (q_move rfl rfl) ?_
                refine run_off (.no rfl rfl rfl rfl) rfl rfl ?_
                refine run_off (.no rfl rfl rfl rfl) rfl rfl ?_
                refine run_off (.no rfl rfl rfl rfl) rfl rfl ?_
                refine run_off (.no rfl rfl rfl rfl) rfl rfl ?_
                refine run_off (.no rfl rfl rfl rfl) rfl rfl ?_
                refine run_q (.none rfl) rfl rfl (q_pickF rfl rfl rfl rfl) ?_
                refine run_q (.none rfl) rfl rfl (q_move rfl rfl) ?_
                refine run_off (.no rfl rfl rfl rfl) rfl rfl ?_
                refine run_off (.no rfl rfl rfl rfl) rfl rfl ?_
                refine run_off (.no rfl rfl rfl rfl) rfl rfl ?_
                refine run_off (.no rfl rfl rfl rfl) rfl rfl ?_
                refine run_off (.no rfl rfl rfl rfl) rfl rfl ?_
                refine run_q (.none rfl) rfl rfl (q_pickF rfl rfl rfl rfl) ?_
                refine run_q (.none rfl) rfl rfl (q_assign rfl rfl) ?_
                refine run_nil ?_
                refine run_sub (subMk (.cons (s := 4) rfl .nil) .refl) ?_
                refine run_ret ?_
                exact end1 rfl rfl (congrArg Value.bool (decide_eq_false (sameP_no6 g52)).symm)
            · have g45' := g45
              try simp only [decide_eq_true_eq, decide_eq_false_iff_not, beq_iff_eq, beq_eq_false_iff_ne, bne_iff_ne, bne_eq_false_iff_eq, Bool.not_eq_true', Bool.not_eq_false', ne_eq, Int.not_lt, Int.not_le, Decidable.not_not] at g45'
              refine run_off (.no rfl rfl rfl g45) rfl rfl ?_
              refine run_off (.no rfl rfl rfl g45) rfl rfl ?_
              refine run_off (.no rfl rfl rfl g45) rfl rfl ?_
              refine run_off (.no rfl rfl rfl g45) rfl rfl ?_
              refine run_off (.no rfl rfl rfl g45) rfl rfl ?_
              refine run_q (.none rfl) rfl rfl (q_pickF rfl rfl g45 rfl) ?_
              refine run_q (.none rfl) rfl rfl (q_move rfl rfl) ?_
              refine run_off (.no rfl rfl rfl rfl) rfl rfl ?_
              refine run_off (.no rfl rfl rfl rfl) rfl rfl ?_
              refine run_off (.no rfl rfl rfl rfl) rfl rfl ?_
              refine run_off (.no rfl rfl rfl rfl) rfl rfl ?_
              refine run_off (.no rfl rfl rfl rfl) rfl rfl ?_
              refine run_q (.none rfl) rfl rfl (q_pickF rfl rfl rfl rfl) ?_
              refine run_q (.none rfl) rfl rfl (q_move rfl rfl) ?_
              refine run_off (.no rfl rfl rfl rfl) rfl rfl ?_
              refine run_off (.no rfl rfl rfl rfl) rfl rfl ?_
              refine run_off (.no rfl rfl rfl rfl) rfl rfl ?_
              refine run_off (.no rfl rfl rfl rfl) rfl rfl ?_
              refine run_off (.no rfl rfl rfl rfl) rfl rfl ?_
              refine run_q (.none rfl) rfl rfl (q_pickF rfl rfl rfl rfl) ?_
              refine run_q (.none rfl) rfl rfl (q_move rfl rfl) ?_
              refine run_off (.no rfl rfl rfl rfl) rfl rfl ?_
              refine run_off (.no rfl rfl rfl rfl) rfl rfl ?_
              refine run_off (.no rfl rfl rfl rfl) rfl rfl ?_
              refine run_off (.no rfl rfl rfl rfl) rfl rfl ?_
              refine run_off (.no rfl rfl rfl rfl) rfl rfl ?_
              refine run_q (.none rfl) rfl rfl (q_pickF rfl rfl rfl rfl) ?_
              refine run_q (.none rfl) rfl rfl (q_assign rfl rfl) ?_
              refine run_nil ?_
              refine run_sub (subMk (.cons (s := 4) rfl .nil) .refl) ?_
              refine run_ret ?_
              exact end1 rfl rfl (congrArg Value.bool (decide_eq_false (sameP_no5 g45)).symm)
          · have g38' := g38
            try simp only [decide_eq_true_eq, decide_eq_false_iff_not, beq_iff_eq, beq_eq_false_iff_ne, bne_iff_ne, bne_eq_false_iff_eq, Bool.not_eq_true', Bool.not_eq_false', ne_eq, Int.not_lt, Int.not_le, Decidable.not_not] at g38'
            refine run_off (.no rfl rfl rfl g38) rfl rfl ?_
            refine run_off (.no rfl rfl rfl g38) rfl rfl ?_
            refine run_off (.no rfl rfl rfl g38) rfl rfl ?_
            refine run_off (.no rfl rfl rfl g38) rfl rfl ?_
            refine run_off (.no rfl rfl rfl g38) rfl rfl ?_
            refine run_q (.none rfl) rfl rfl (q_pickF rfl rfl g38 rfl) ?_
            refine run_q (.none rfl) rfl rfl (q_move rfl rfl) ?_
            refine run_off (.no rfl rfl rfl rfl) rfl rfl ?_
            refine run_off (.no rfl rfl rfl rfl) rfl rfl ?_
            refine run_off (.no rfl rfl rfl rfl) rfl rfl ?_
            refine run_off (.no rfl rfl rfl rfl) rfl rfl ?_
            refine run_off (.no rfl rfl rfl rfl) rfl rfl ?_
            refine run_q (.none rfl) rfl rfl (q_pickF rfl rfl rfl rfl) ?_
            refine run_q (.none rfl) rfl rfl (q_move rfl rfl) ?_
            refine run_off (.no rfl rfl rfl rfl) rfl rfl ?_
            refine run_off (.no rfl rfl rfl rfl) rfl rfl ?_
            refine run_off (.no rfl rfl rfl rfl) rfl rfl ?_
            refine run_off (.no rfl rfl rfl rfl) rfl rfl ?_
            refine run_off (.no rfl rfl rfl rfl) rfl rfl ?_
            refine run_q (.none rfl) rfl rfl (q_pickF rfl rfl rfl rfl) ?_
            refine run_q (.none rfl) rfl rfl (q_move rfl rfl) ?_
            refine run_off (.no rfl rfl rfl rfl) rfl rfl ?_
            refine run_off (.no rfl rfl rfl rfl) rfl rfl ?_
            refine run_off (.no rfl rfl rfl rfl) rfl rfl ?_
            refine run_off (.no rfl rfl rfl rfl) rfl rfl ?_
            refine run_off (.no rfl rfl rfl rfl) rfl rfl ?_
            refine run_q (.none rfl) rfl rfl (q_pickF rfl rfl rfl rfl) ?_
            refine run_q (.none rfl) rfl rfl (q_move rfl rfl) ?_
            refine run_off (.no rfl rfl rfl rfl) rfl rfl ?_
            refine run_off (.no rfl rfl rfl rfl) rfl rfl ?_
            refine run_off (.no rfl rfl rfl rfl) rfl rfl ?_
            refine run_off (.no rfl rfl rfl rfl) rfl rfl ?_
            refine run_off (.no rfl rfl rfl rfl) rfl rfl ?_
            refine run_q (.none rfl) rfl rfl (q_pickF rfl rfl rfl rfl) ?_
            refine run_q (.none rfl) rfl rfl (q_assign rfl rfl) ?_
            refine run_nil ?_
            refine run_sub (subMk (.cons (s := 4) rfl .nil) .refl) ?_
            refine run_ret ?_
            exact end1 rfl rfl (congrArg Value.bool (decide_eq_false (sameP_no4 g38)).symm)
        · have g31' := g31
          try simp only [decide_eq_true_eq, decide_eq_false_iff_not, beq_iff_eq, beq_eq_false_iff_ne, bne_iff_ne, bne_eq_false_iff_eq, Bool.not_eq_true', Bool.not_eq_false', ne_eq, Int.not_lt, Int.not_le, Decidable.not_not] at g31'
          refine run_off (.no rfl rfl rfl g31) rfl rfl ?_
          refine run_off (.no rfl rfl rfl g31) rfl rfl ?_
          refine run_off (.no rfl rfl rfl g31) rfl rfl ?_
          refine run_off (.no rfl rfl rfl g31) rfl rfl ?_
          refine run_off (.no rfl rfl rfl g31) rfl rfl ?_
          refine run_q (.none rfl) rfl rfl (q_pickF rfl rfl g31 rfl) ?_
          refine run_q (.none rfl) rfl rfl (q_move rfl rfl) ?_
          refine run_off (.no rfl rfl rfl rfl) rfl rfl ?_
          refine run_off (.no rfl rfl rfl rfl) rfl rfl ?_
          refine run_off (.no rfl rfl rfl rfl) rfl rfl ?_
          refine run_off (.no rfl rfl rfl rfl) rfl rfl ?_
          refine run_off (.no rfl rfl rfl rfl) rfl rfl ?_
          refine run_q (.none rfl) rfl rfl (q_pickF rfl rfl rfl rfl) ?_
          refine run_q (.none rfl) rfl rfl (q_move rfl rfl) ?_
          refine run_off (.no rfl rfl rfl rfl) rfl rfl ?_
          refine run_off (.no rfl rfl rfl rfl) rfl rfl ?_
          refine run_off (.no rfl rfl rfl rfl) rfl rfl ?_
          refine run_off (.no rfl rfl rfl rfl) rfl rfl ?_
          refine run_off (.no rfl rfl rfl rfl) rfl rfl ?_
          refine run_q (.none rfl) rfl rfl (q_pickF rfl rfl rfl rfl) ?_
          refine run_q (.none rfl) rfl rfl (q_move rfl rfl) ?_
          refine run_off (.no rfl rfl rfl rfl) rfl rfl ?_
          refine run_off (.no rfl rfl rfl rfl) rfl rfl ?_
          refine run_off (.no rfl rfl rfl rfl) rfl rfl ?_
          refine run_off (.no rfl rfl rfl rfl) rfl rfl ?_
          refine run_off (.no rfl rfl rfl rfl) rfl rfl ?_
          refine run_q (.none rfl) rfl rfl (q_pickF rfl rfl rfl rfl) ?_
          refine run_q (.none rfl) rfl rfl (q_move rfl rfl) ?_
          refine run_off (.no rfl rfl rfl rfl) rfl rfl ?_
          refine run_off (.no rfl rfl rfl rfl) rfl rfl ?_
          refine run_off (.no rfl rfl rfl rfl) rfl rfl ?_
          refine run_off (.no rfl rfl rfl rfl) rfl rfl ?_
          refine run_off (.no rfl rfl rfl rfl) rfl rfl ?_
          refine run_q (.none rfl) rfl rfl (q_pickF rfl rfl rfl rfl) ?_
          refine run_q (.none rfl) rfl rfl (q_move rfl rfl) ?_
          refine run_off (.no rfl rfl rfl rfl) rfl rfl ?_
          refine run_off (.no rfl rfl rfl rfl) rfl rfl ?_
          refine run_off (.no rfl rfl rfl rfl) rfl rfl ?_
          refine run_off (.no rfl rfl rfl rfl) rfl rfl ?_
          refine run_off (.no rfl rfl rfl rfl) rfl rfl ?_
          refine run_q (.none rfl) rfl rfl (q_pickF rfl rfl rfl rfl) ?_
          refine run_q (.none rfl) rfl rfl (q_assign rfl rfl) ?_
          refine run_nil ?_
          refine run_sub (subMk (.cons (s := 4) rfl .nil) .refl) ?_
          refine run_ret ?_
          exact end1 rfl rfl (congrArg Value.bool (decide_eq_false (sameP_no3 g31)).symm)
      · have g24' := g24
        try simp only [decide_eq_true_eq, decide_eq_false_iff_not, beq_iff_eq, beq_eq_false_iff_ne, bne_iff_ne, bne_eq_false_iff_eq, Bool.not_eq_true', Bool.not_eq_false', ne_eq, Int.not_lt, Int.not_le, Decidable.not_not] at g24'
        refine run_off (.no rfl rfl rfl g24) rfl rfl ?_
        refine run_off (.no rfl rfl rfl g24) rfl rfl ?_
        refine run_off (.no rfl rfl rfl g24) rfl rfl ?_
        refine run_off (.no rfl rfl rfl g24) rfl rfl ?_
        refine run_off (.no rfl rfl rfl g24) rfl rfl ?_
        refine run_q (.none rfl) rfl rfl (q_pickF rfl rfl g24 rfl) ?_
        refine run_q (.none rfl) rfl rfl (q_move rfl rfl) ?_
        refine run_off (.no rfl rfl rfl rfl) rfl rfl ?_
        refine run_off (.no rfl rfl rfl rfl) rfl rfl ?_
        refine run_off (.no rfl rfl rfl rfl) rfl rfl ?_
        refine run_off (.no rfl rfl rfl rfl) rfl rfl ?_
        refine run_off (.no rfl rfl rfl rfl) rfl rfl ?_
        refine run_q (.none rfl) rfl rfl (q_pickF rfl rfl rfl rfl) ?_
        refine run_q (.none rfl) rfl rfl (q_move rfl rfl) ?_
        refine run_off (.no rfl rfl rfl rfl) rfl rfl ?_
        refine run_off (.no rfl rfl rfl rfl) rfl rfl ?_
        refine run_off (.no rfl rfl rfl rfl) rfl rfl ?_
        refine run_off (.no rfl rfl rfl rfl) rfl rfl ?_
        refine run_off (.no rfl rfl rfl rfl) rfl rfl ?_
        refine run_q (.none rfl) rfl rfl (q_pickF rfl rfl rfl rfl) ?_
        refine run_q (.none rfl) rfl rfl (q_move rfl rfl) ?_
        refine run_off (.no rfl rfl rfl rfl) rfl rfl ?_
        refine run_off (.no rfl rfl rfl rfl) rfl rfl ?_
        refine run_off (.no rfl rfl rfl rfl) rfl rfl ?_
        refine run_off (.no rfl rfl rfl rfl) rfl rfl ?_
        refine run_off (.no rfl rfl rfl rfl) rfl rfl ?_
        refine run_q (.none rfl) rfl rfl (q_pickF rfl rfl rfl rfl) ?_
        refine run_q (.none rfl) rfl rfl (q_move rfl rfl) ?_
        refine run_off (.no rfl rfl rfl rfl) rfl rfl ?_
        refine run_off (.no rfl rfl rfl rfl) rfl rfl ?_
        refine run_off (.no rfl rfl rfl rfl) rfl rfl ?_
        refine run_off (.no rfl rfl rfl rfl) rfl rfl ?_
        refine run_off (.no rfl rfl rfl rfl) rfl rfl ?_
        refine run_q (.none rfl) rfl rfl (q_pickF rfl rfl rfl rfl) ?_
        refine run_q (.none rfl) rfl rfl (q_move rfl rfl) ?_
        refine run_off (.no rfl rfl rfl rfl) rfl rfl ?_
        refine run_off (.no rfl rfl rfl rfl) rfl rfl ?_
        refine run_off (.no rfl rfl rfl rfl) rfl rfl ?_
        refine run_off (.no rfl rfl rfl rfl) rfl rfl ?_
        refine run_off (.no rfl rfl rfl rfl) rfl rfl ?_
        refine run_q (.none rfl) rfl rfl (q_pickF rfl rfl rfl rfl) ?_
        refine run_q (.none rfl) rfl rfl (q_move rfl rfl) ?_
        refine run_off (.no rfl rfl rfl rfl) rfl rfl ?_
        refine run_off (.no rfl rfl rfl rfl) rfl rfl ?_
        refine run_off (.no rfl rfl rfl rfl) rfl rfl ?_
        refine run_off (.no rfl rfl rfl rfl) rfl rfl ?_
        refine run_off (.no rfl rfl rfl rfl) rfl rfl ?_
        refine run_q (.none rfl) rfl rfl (q_pickF rfl rfl rfl rfl) ?_
        refine run_q (.none rfl) rfl rfl (q_assign rfl rfl) ?_
        refine run_nil ?_
        refine run_sub (subMk (.cons (s := 4) rfl .nil) .refl) ?_
        refine run_ret ?_
        exact end1 rfl rfl (congrArg Value.bool (decide_eq_false (sameP_no2 g24)).symm)
    · have g17' := g17
      try simp only [decide_eq_true_eq, decide_eq_false_iff_not, beq_iff_eq, beq_eq_false_iff_ne, bne_iff_ne, bne_eq_false_iff_eq, Bool.not_eq_true', Bool.not_eq_false', ne_eq, Int.not_lt, Int.not_le, Decidable.not_not] at g17'
      refine run_off (.no rfl rfl rfl g17) rfl rfl ?_
      refine run_off (.no rfl rfl rfl g17) rfl rfl ?_
      refine run_off (.no rfl rfl rfl g17) rfl rfl ?_
      refine run_off (.no rfl rfl rfl g17) rfl rfl ?_
      refine run_off (.no rfl rfl rfl g17) rfl rfl ?_
      refine run_q (.none rfl) rfl rfl (q_pickF rfl rfl g17 rfl) ?_
      refine run_q (.none rfl) rfl rfl (q_move rfl rfl) ?_
      refine run_off (.no rfl rfl rfl rfl) rfl rfl ?_
      refine run_off (.no rfl rfl rfl rfl) rfl rfl ?_
      refine run_off (.no rfl rfl rfl rfl) rfl rfl ?_
      refine run_off (.no rfl rfl rfl rfl) rfl rfl ?_
      refine run_off (.no rfl rfl rfl rfl) rfl rfl ?_
      refine run_q (.none rfl) rfl rfl (q_pickF rfl rfl rfl rfl) ?_
      refine run_q (.none rfl) rfl rfl (q_move rfl rfl) ?_
      refine run_off (.no rfl rfl rfl rfl) rfl rfl ?_
      refine run_off (.no rfl rfl rfl rfl) rfl rfl ?_
      refine run_off (.no rfl rfl rfl rfl) rfl rfl ?_
      refine run_off (.no rfl rfl rfl rfl) rfl rfl ?_
      refine run_off (.no rfl rfl rfl rfl) rfl rfl ?_
      refine run_q (.none rfl) rfl rfl (q_pickF rfl rfl rfl rfl) ?_
      refine run_q (.none rfl) rfl rfl (q_move rfl rfl) ?_
      refine run_off (.no rfl rfl rfl rfl) rfl rfl ?_
      refine run_off (.no rfl rfl rfl rfl) rfl rfl ?_
      refine run_off (.no rfl rfl rfl rfl) rfl rfl ?_
      refine run_off (.no rfl rfl rfl rfl) rfl rfl ?_
      refine run_off (.no rfl rfl rfl rfl) rfl rfl ?_
      refine run_q (.none rfl) rfl rfl (q_pickF rfl rfl rfl rfl) ?_
      refine run_q (.none rfl) rfl rfl (q_move rfl rfl) ?_
      refine run_off (.no rfl rfl rfl rfl) rfl rfl ?_
      refine run_off (.no rfl rfl rfl rfl) rfl rfl ?_
      refine run_off (.no rfl rfl rfl rfl) rfl rfl ?_
      refine run_off (.no rfl rfl rfl rfl) rfl rfl ?_
      refine run_off (.no rfl rfl rfl rfl) rfl rfl ?_
      refine run_q (.none rfl) rfl rfl (q_pickF rfl rfl rfl rfl) ?_
      refine run_q (.none rfl) rfl rfl (q_move rfl rfl) ?_
      refine run_off (.no rfl rfl rfl rfl) rfl rfl ?_
      refine run_off (.no rfl rfl rfl rfl) rfl rfl ?_
      refine run_off (.no rfl rfl rfl rfl) rfl rfl ?_
      refine run_off (.no rfl rfl rfl rfl) rfl rfl ?_
      refine run_off (.no rfl rfl rfl rfl) rfl rfl ?_
      refine run_q (.none rfl) rfl rfl (q_pickF rfl rfl rfl rfl) ?_
      refine run_q (.none rfl) rfl rfl (q_move rfl rfl) ?_
      refine run_off (.no rfl rfl rfl rfl) rfl rfl ?_
      refine run_off (.no rfl rfl rfl rfl) rfl rfl ?_
      refine run_off (.no rfl rfl rfl rfl) rfl rfl ?_
      refine run_off (.no rfl rfl rfl rfl) rfl rfl ?_
      refine run_off (.no rfl rfl rfl rfl) rfl rfl ?_
      refine run_q (.none rfl) rfl rfl (q_pickF rfl rfl rfl rfl) ?_
      refine run_q (.none rfl) rfl rfl (q_move rfl rfl) ?_
      refine run_off (.no rfl rfl rfl rfl) rfl rfl ?_
      refine run_off (.no rfl rfl rfl rfl) rfl rfl ?_
      refine run_off (.no rfl rfl rfl rfl) rfl rfl ?_
      refine run_off (.no rfl rfl rfl rfl) rfl rfl ?_
      refine run_off (.no rfl rfl rfl rfl) rfl rfl ?_
      refine run_q (.none rfl) rfl rfl (q_pickF rfl rfl rfl rfl) ?_
      refine run_q (.none rfl) rfl rfl (q_assign rfl rfl) ?_
      refine run_nil ?_
      refine run_sub (subMk (.cons (s := 4) rfl .nil) .refl) ?_
      refine run_ret ?_
      exact end1 rfl rfl (congrArg Value.bool (decide_eq_false (sameP_no1 g17)).symm)
  · have g10' := g10
    try simp only [decide_eq_true_eq, decide_eq_false_iff_not, beq_iff_eq, beq_eq_false_iff_ne, bne_iff_ne, bne_eq_false_iff_eq, Bool.not_eq_true', Bool.not_eq_false', ne_eq, Int.not_lt, Int.not_le, Decidable.not_not] at g10'
    refine run_off (.no rfl rfl rfl g10) rfl rfl ?_
    refine run_off (.no rfl rfl rfl g10) rfl rfl ?_
    refine run_off (.no rfl rfl rfl g10) rfl rfl ?_
    refine run_off (.no rfl rfl rfl g10) rfl rfl ?_
    refine run_off (.no rfl rfl rfl g10) rfl rfl ?_
    refine run_q (.none rfl) rfl rfl (q_pickF rfl rfl g10 rfl) ?_
    refine run_q (.none rfl) rfl rfl (q_move rfl rfl) ?_
    refine run_off (.no rfl rfl rfl rfl) rfl rfl ?_
    refine run_off (.no rfl rfl rfl rfl) rfl rfl ?_
    refine run_off (.no rfl rfl rfl rfl) rfl rfl ?_
    refine run_off (.no rfl rfl rfl rfl) rfl rfl ?_
    refine run_off (.no rfl rfl rfl rfl) rfl rfl ?_
    refine run_q (.none rfl) rfl rfl (q_pickF rfl rfl rfl rfl) ?_
    refine run_q (.none rfl) rfl rfl (q_move rfl rfl) ?_
    refine run_off (.no rfl rfl rfl rfl) rfl rfl ?_
    refine run_off (.no rfl rfl rfl rfl) rfl rfl ?_
    refine run_off (.no rfl rfl rfl rfl) rfl rfl ?_
    refine run_off (.no rfl rfl rfl rfl) rfl rfl ?_
    refine run_off (.no rfl rfl rfl rfl) rfl rfl ?_
    refine run_q (.none rfl) rfl rfl (q_pickF rfl rfl rfl rfl) ?_
    refine run_q (.none rfl) rfl rfl (q_move rfl rfl) ?_
    refine run_off (.no rfl rfl rfl rfl) rfl rfl ?_
    refine run_off (.no rfl rfl rfl rfl) rfl rfl ?_
    refine run_off (.no rfl rfl rfl rfl) rfl rfl ?_
    refine run_off (.no rfl rfl rfl rfl) rfl rfl ?_
    refine run_off (.no rfl rfl rfl rfl) rfl rfl ?_
    refine run_q (.none rfl) rfl rfl (q_pickF rfl rfl rfl rfl) ?_
    refine run_q (.none rfl) rfl rfl (q_move rfl rfl) ?_
    refine run_off (.no rfl rfl rfl rfl) rfl rfl ?_
    refine run_off (.no rfl rfl rfl rfl) rfl rfl ?_
    refine run_off (.no rfl rfl rfl rfl) rfl rfl ?_
    refine run_off (.no rfl rfl rfl rfl) rfl rfl ?_
    refine run_off (.no rfl rfl rfl rfl) rfl rfl ?_
    refine run_q (.none rfl) rfl rfl (q_pickF rfl rfl rfl rfl) ?_
    refine run_q (.none rfl) rfl rfl (q_move rfl rfl) ?_
    refine run_off (.no rfl rfl rfl rfl) rfl rfl ?_
    refine run_off (.no rfl rfl rfl rfl) rfl rfl ?_
    refine run_off (.no rfl rfl rfl rfl) rfl rfl ?_
    refine run_off (.no rfl rfl rfl rfl) rfl rfl ?_
    refine run_off (.no rfl rfl rfl rfl) rfl rfl ?_
    refine run_q (.none rfl) rfl rfl (q_pickF rfl rfl rfl rfl) ?_
    refine run_q (.none rfl) rfl rfl (q_move rfl rfl) ?_
    refine run_off (.no rfl rfl rfl rfl) rfl rfl ?_
    refine run_off (.no rfl rfl rfl rfl) rfl rfl ?_
    refine run_off (.no rfl rfl rfl rfl) rfl rfl ?_
    refine run_off (.no rfl rfl rfl rfl) rfl rfl ?_
    refine run_off (.no rfl rfl rfl rfl) rfl rfl ?_
    refine run_q (.none rfl) rfl rfl (q_pickF rfl rfl rfl rfl) ?_
    refine run_q (.none rfl) rfl rfl (q_move rfl rfl) ?_
    refine run_off (.no rfl rfl rfl rfl) rfl rfl ?_
    refine run_off (.no rfl rfl rfl rfl) rfl rfl ?_
    refine run_off (.no rfl rfl rfl rfl) rfl rfl ?_
    refine run_off (.no rfl rfl rfl rfl) rfl rfl ?_
    refine run_off (.no rfl rfl rfl rfl) rfl rfl ?_
    refine run_q (.none rfl) rfl rfl (q_pickF rfl rfl rfl rfl) ?_
    refine run_q (.none rfl) rfl rfl (q_move rfl rfl) ?_
    refine run_off (.no rfl rfl rfl rfl) rfl rfl ?_
    refine run_off (.no rfl rfl rfl rfl) rfl rfl ?_
    refine run_off (.no rfl rfl rfl rfl) rfl rfl ?_
    refine run_off (.no rfl rfl rfl rfl) rfl rfl ?_
    refine run_off (.no rfl rfl rfl rfl) rfl rfl ?_
    refine run_q (.none rfl) rfl rfl (q_pickF rfl rfl rfl rfl) ?_
    refine run_q (.none rfl) rfl rfl (q_assign rfl rfl) ?_
    refine run_nil ?_
    refine run_sub (subMk (.cons (s := 4) rfl .nil) .refl) ?_
    refine run_ret ?_
    exact end1 rfl rfl (congrArg Value.bool (decide_eq_false (sameP_no0 g10)).symm)

end Go.Proofs.YtgphmbipakdggaaR.Ev
