/- Lengths, the example, and the reference's copy. -/
import Derived.Test.YticofkkkafhpiaaB
import Derived.Test.YticofkkkafhpiaaScale
set_option linter.unusedSimpArgs false
set_option linter.unusedVariables false
namespace Go.Proofs.Yticofkkkafhpiaa
open Go Go.RowKit Hr

theorem call41 : Hr.Callable Try.prog 41 := fun args w => by kernel_rfl
theorem call47 : Hr.Callable Try.prog 47 := fun args w => by kernel_rfl
theorem call42 : Hr.Callable Try.prog 42 := fun args w => by kernel_rfl
theorem call13 : Hr.Callable Try.prog 13 := fun args w => by kernel_rfl
theorem info3 : Hr.Info Try.prog 3 [.int .i64 0] 1 8 := Hr.Info.of (by kernel_rfl)
theorem call40 : Hr.Callable Try.prog 40 := fun args w => by kernel_rfl
theorem built46p0p1p2p3 (x0y : Int) (x1y : Int) (x2y : Int) (x3y : Int) : Try.prog.built 46 [(0, .int .i64 x0y), (1, .int .i64 x1y), (2, .int .i64 x2y), (3, .int .i64 x3y)] = some #[.int .i64 x0y, .int .i64 x1y, .int .i64 x2y, .int .i64 x3y] := by kernel_rfl
theorem call16 : Hr.Callable Try.prog 16 := fun args w => by kernel_rfl

theorem contains_just (t : Tup) (e : Int) (W : World) (ht : TupOk t) (he : e ≤ 9223372036854775807) : Calls Try.prog 41 #[t.val, .int .i64 e] W (Hr.Just W (.bool (inB t e))) := by
  unfold TupOk at ht
  refine Just.of_ret ?_
  refine enterA (X := nX) (vs := [t.val, .int .i64 e]) Try.func41 Try.ntmps41 rfl rfl Mem.nil ?_
  refine run_seq ?_
  refine run_region ?_
  refine run_h (.none rfl) (h_box rfl rfl rfl rfl rfl) ?_
  rintro b2 -
  refine run_q (.none rfl) rfl rfl (q_assign rfl rfl) ?_
  refine run_nil ?_
  refine run_seq ?_
  refine run_region ?_
  refine run_q (.none rfl) rfl rfl (q_move rfl rfl) ?_
  refine run_q (.none rfl) rfl rfl (q_fieldB (d := 0) rfl Try.underlying46 rfl rfl sz3 rfl) ?_
  refine run_q (.none rfl) rfl rfl (q_loadB rfl one3 rfl Sel.here rfl) ?_
  refine run_q (.none rfl) rfl rfl (q_geq rfl rfl rfl) ?_
  refine run_q (.none rfl) rfl rfl (q_move rfl rfl) ?_
  refine run_split 9 rfl (fun g9 => ?_) (fun g9 => ?_)
  · have g9' := g9
    try simp only [decide_eq_true_eq, decide_eq_false_iff_not, beq_iff_eq, beq_eq_false_iff_ne, bne_iff_ne, bne_eq_false_iff_eq, Bool.not_eq_true', Bool.not_eq_false', ne_eq, Int.not_lt, Int.not_le, Decidable.not_not] at g9'
    refine run_q (.on rfl rfl rfl g9) rfl rfl (q_move rfl rfl) ?_
    refine run_q (.on rfl rfl rfl g9) rfl rfl (q_fieldB (d := 0) rfl Try.underlying46 rfl rfl sz3 rfl) ?_
    refine run_q (.on rfl rfl rfl g9) rfl rfl (q_loadB rfl one3 rfl Sel.here rfl) ?_
    refine run_q (.on rfl rfl rfl g9) rfl rfl (q_sub rfl rfl rfl (by omega)) ?_
    refine run_q (.on rfl rfl rfl g9) rfl rfl (q_fieldB (d := 1) rfl Try.underlying46 rfl rfl sz3 rfl) ?_
    refine run_q (.on rfl rfl rfl g9) rfl rfl (q_loadB rfl one3 rfl Sel.here rfl) ?_
    refine run_q (.on rfl rfl rfl g9) rfl rfl (q_lss rfl rfl rfl) ?_
    refine run_q (.none rfl) rfl rfl (q_pickT rfl rfl g9 rfl) ?_
    refine run_q (.none rfl) rfl rfl (q_assign rfl rfl) ?_
    refine run_nil ?_
    refine run_sub (subMk (.cons (s := 4) rfl .nil) .refl) ?_
    refine run_ret ?_
    exact end1 rfl rfl (congrArg Value.bool (by rw [Bool.eq_iff_iff, inB_iff]; unfold tend; (try simp only [decide_eq_true_eq, Bool.false_eq_true, false_iff]); omega))
  · have g9' := g9
    try simp only [decide_eq_true_eq, decide_eq_false_iff_not, beq_iff_eq, beq_eq_false_iff_ne, bne_iff_ne, bne_eq_false_iff_eq, Bool.not_eq_true', Bool.not_eq_false', ne_eq, Int.not_lt, Int.not_le, Decidable.not_not] at g9'
    refine run_off (.no rfl rfl rfl g9) rfl rfl ?_
    refine run_off (.no rfl rfl rfl g9) rfl rfl ?_
    refine run_off (.no rfl rfl rfl g9) rfl rfl ?_
    refine run_off (.no rfl rfl rfl g9) rfl rfl ?_
    refine run_off (.no rfl rfl rfl g9) rfl rfl ?_
    refine run_off (.no rfl rfl rfl g9) rfl rfl ?_
    refine run_off (.no rfl rfl rfl g9) rfl rfl ?_
    refine run_q (.none rfl) rfl rfl (q_pickF rfl rfl g9 rfl) ?_
    refine run_q (.none rfl) rfl rfl (q_assign rfl rfl) ?_
    refine run_nil ?_
    refine run_sub (subMk (.cons (s := 4) rfl .nil) .refl) ?_
    refine run_ret ?_
    exact end1 rfl rfl (congrArg Value.bool (by rw [Bool.eq_iff_iff, inB_iff]; unfold tend; (try simp only [decide_eq_true_eq, Bool.false_eq_true, false_iff]); omega))

theorem gcd_just (a b : Nat) (W : World)  : Calls Try.prog 47 #[.int .i64 (a : Int), .int .i64 (b : Int)] W (Hr.Just W (.int .i64 (Nat.gcd a b : Int))) := by
  refine Just.of_ret ?_
  refine enterA (X := nX) (vs := [.int .i64 (a : Int), .int .i64 (b : Int)]) Try.func47 Try.ntmps47 rfl rfl Mem.nil ?_
  refine run_seq ?_
  refine run_region ?_
  refine run_q (.none rfl) rfl rfl (q_assign rfl rfl) ?_
  refine run_nil ?_
  refine run_seq ?_
  refine run_block ?_
  refine run_sub (subMk (.cons (s := 0) rfl (.cons (s := 1) rfl (.cons (s := 4) rfl .nil))) .nil) ?_
  refine run_loopC2M0 (ι := Nat × Nat) (fun gg => Nat.gcd gg.1 gg.2 = Nat.gcd a b ∧ True) (fun gg => .int .i64 (gg.1 : Int)) (fun gg => .int .i64 (gg.2 : Int))  (fun gg => gg.2) (a, b) (by (try dsimp only); exact ⟨rfl, trivial⟩) rfl rfl  ?_
  rintro ⟨x, y⟩ hq
  (try dsimp only at hq)
  obtain ⟨hinv, -⟩ := hq
  show Run _ _ _ _ _ _ _ ⟨(0, .int .i64 (x : Int)) :: (1, .int .i64 (y : Int)) :: _, _⟩
  refine run_seq ?_
  refine run_seq ?_
  refine run_region ?_
  refine run_q (.none rfl) rfl rfl (q_move rfl rfl) ?_
  refine run_q (.none rfl) rfl rfl (q_gtr rfl rfl rfl) ?_
  refine run_nil ?_
  refine run_cond rfl (fun g6 => ?_) (fun g6 => ?_)
  · have g6' := g6
    try simp only [decide_eq_true_eq, decide_eq_false_iff_not, beq_iff_eq, beq_eq_false_iff_ne, bne_iff_ne, bne_eq_false_iff_eq, Bool.not_eq_true', Bool.not_eq_false', ne_eq, Int.not_lt, Int.not_le, Decidable.not_not] at g6'
    refine run_skip ?_
    refine run_block ?_
    refine run_draw [(0, 0), (1, 0), (2, 0), (3, 0), (4, 0), (5, 0)] mixed (by kernel_rfl) .refl ?_
    refine d_q rfl rfl (.none rfl) rfl rfl (q_move rfl rfl) ?_
    refine d_q rfl rfl (.none rfl) rfl rfl (q_move rfl rfl) ?_
    refine d_q rfl rfl (.none rfl) rfl rfl (q_move rfl rfl) ?_
    refine d_q rfl rfl (.none rfl) rfl rfl (q_rem rfl rfl rfl (by omega)) ?_
    refine d_q rfl rfl (.none rfl) rfl rfl (q_assign rfl rfl) ?_
    refine d_q rfl rfl (.none rfl) rfl rfl (q_assign rfl rfl) ?_
    refine d_nil ?_
    refine run_sub (subMk (.cons (s := 0) rfl (.cons (s := 1) rfl (.cons (s := 4) rfl .nil))) .refl) ?_
    refine run_blk ?_
    exact run_again (y, x % y) (by (try dsimp only); exact ⟨by rw [← hinv, Nat.gcd_comm y, ← Nat.gcd_rec, Nat.gcd_comm], trivial⟩) (by (try dsimp only); exact Nat.mod_lt _ (by omega)) (subMk (.cons' (s := 0) rfl rfl (.cons' (s := 1) rfl (vint (by simp)) (.cons (s := 4) rfl .nil))) .nil)
  · have g6' := g6
    try simp only [decide_eq_true_eq, decide_eq_false_iff_not, beq_iff_eq, beq_eq_false_iff_ne, bne_iff_ne, bne_eq_false_iff_eq, Bool.not_eq_true', Bool.not_eq_false', ne_eq, Int.not_lt, Int.not_le, Decidable.not_not] at g6'
    refine run_exit rfl ?_
    refine run_sub (subMk (.cons (s := 0) rfl (.cons (s := 4) rfl .nil)) .refl) ?_
    refine run_seq ?_
    refine run_region ?_
    refine run_q (.none rfl) rfl rfl (q_move rfl rfl) ?_
    refine run_q (.none rfl) rfl rfl (q_assign rfl rfl) ?_
    refine run_nil ?_
    refine run_ret ?_
    exact end1 rfl rfl (vint (by rw [← hinv, show y = 0 from by omega, Nat.gcd_zero_right]))

theorem product_just (ts : List Tup) (A : Option Addr) (ca : Nat) (e : Int) (W : World) (hr : Rd W A 4 (ts.map Tup.enc)) (hl : ts.length ≤ 1000000000000) (hv : Val ts) (he : e ≤ 9223372036854775807) : Calls Try.prog 42 #[.slice A ts.length ca, .int .i64 e] W (Hr.Just W (.tuple #[.int .i64 ((prodR ts e ts.length).1 : Int), .int .i64 ((prodR ts e ts.length).2 : Int)])) := by
  refine Just.of_ret ?_
  refine enterA (X := nX) (vs := [.slice A ts.length ca, .int .i64 e]) Try.func42 Try.ntmps42 rfl rfl Mem.nil ?_
  refine run_seq ?_
  refine run_region ?_
  refine run_q (.none rfl) rfl rfl (q_assign rfl rfl) ?_
  refine run_q (.none rfl) rfl rfl (q_assign rfl rfl) ?_
  refine run_nil ?_
  refine run_seq ?_
  refine run_region ?_
  refine run_q (.none rfl) rfl rfl (q_assign rfl rfl) ?_
  refine run_q (.none rfl) rfl rfl (q_assign rfl rfl) ?_
  refine run_nil ?_
  refine run_seq ?_
  refine run_seq ?_
  refine run_region ?_
  refine run_q (.none rfl) rfl rfl (q_move rfl rfl) ?_
  refine run_q (.none rfl) rfl rfl (q_len rfl Try.underlying22 rfl) ?_
  refine run_q (.none rfl) rfl rfl (q_move rfl rfl) ?_
  refine run_nil ?_
  refine run_block ?_
  refine run_sub (subMk (.cons (s := 11) rfl (.cons (s := 4) rfl (.cons (s := 5) rfl (.cons (s := 1) rfl (.cons (s := 9) rfl (.cons (s := 10) rfl .nil)))))) .nil) ?_
  refine run_loopC3M0 (ι := Nat) (fun k => k ≤ ts.length) (fun k => .int .i64 (k : Int)) (fun k => .int .i64 ((prodR ts e k).1 : Int)) (fun k => .int .i64 ((prodR ts e k).2 : Int))  (fun k => ts.length - k) 0 (by (try dsimp only); exact (by omega)) rfl rfl rfl  ?_
  rintro k hk
  (try dsimp only at hk)
  show Run _ _ _ _ _ _ _ ⟨(11, .int .i64 (k : Int)) :: (4, .int .i64 ((prodR ts e k).1 : Int)) :: (5, .int .i64 ((prodR ts e k).2 : Int)) :: _, _⟩
  refine run_seq ?_
  refine run_region ?_
  refine run_q (.none rfl) rfl rfl (q_lss rfl rfl rfl) ?_
  refine run_nil ?_
  refine run_seq ?_
  refine run_cond rfl (fun g12 => ?_) (fun g12 => ?_)
  · have g12' := g12
    try simp only [decide_eq_true_eq, decide_eq_false_iff_not, beq_iff_eq, beq_eq_false_iff_ne, bne_iff_ne, bne_eq_false_iff_eq, Bool.not_eq_true', Bool.not_eq_false', ne_eq, Int.not_lt, Int.not_le, Decidable.not_not] at g12'
    obtain ⟨hok, p1, p2, p3, p4⟩ := hv.prop (k := k) (by omega)
    obtain ⟨b1, b2, b3, b4⟩ := prodR_le hv e (k := k) (by omega)
    refine run_skip ?_
    refine run_seq ?_
    refine run_block ?_
    refine run_seq ?_
    refine run_region ?_
    refine run_q (.none rfl) rfl rfl (q_indexS (q := k) rfl Try.underlying22 sz46 rfl rfl (.inp hr .no) (by simp <;> omega) rfl (by omega)) ?_
    refine run_q (.none rfl) rfl rfl (q_loadE rfl agg46 rfl (.inp hr .no) (getmap (by omega)) rfl) ?_
    refine run_h (.none rfl) (h_alloc rfl rfl rfl info46) ?_
    rintro b7 -
    refine run_h (.none rfl) (h_storeB rfl rfl sz46 rfl rfl rfl rfl rfl Sel.here rfl) ?_
    rintro - -
    refine run_nil ?_
    refine run_sub (subMk (.cons (s := 1) rfl (.cons (s := 4) rfl (.cons (s := 5) rfl (.cons (s := 7) rfl (.cons (s := 9) rfl (.cons (s := 10) rfl (.cons (s := 11) rfl .nil))))))) .refl) ?_
    refine run_seq ?_
    refine run_region ?_
    refine run_q (.none rfl) rfl rfl (q_loadBN rfl agg46 rfl Sel.here (.cons rfl (.cons rfl (.cons rfl (.cons rfl CellsAt.nil)))) rfl) ?_
    refine run_q (.none rfl) rfl rfl (q_move rfl rfl) ?_
    refine run_q (.none rfl) rfl rfl (q_call rfl call41 (.cons rfl (.cons rfl Evs.nil)) (fun w hk hm => contains_just (nth ts k) e w hok he)) ?_
    refine run_nil ?_
    refine run_cond rfl (fun g17 => ?_) (fun g17 => ?_)
    · have g17' := g17
      try simp only [decide_eq_true_eq, decide_eq_false_iff_not, beq_iff_eq, beq_eq_false_iff_ne, bne_iff_ne, bne_eq_false_iff_eq, Bool.not_eq_true', Bool.not_eq_false', ne_eq, Int.not_lt, Int.not_le, Decidable.not_not] at g17'
      refine run_seq ?_
      refine run_draw [(0, 0), (1, 0), (2, 0), (3, 0), (4, 0), (5, 0), (6, 0), (7, 0), (8, 0), (9, 0)] mixed (by kernel_rfl) .refl ?_
      refine d_q rfl rfl (.none rfl) rfl rfl (q_move rfl rfl) ?_
      refine d_q rfl rfl (.none rfl) rfl rfl (q_fieldB (d := 3) rfl Try.underlying46 rfl rfl sz3 rfl) ?_
      refine d_q rfl rfl (.none rfl) rfl rfl (q_loadB rfl one3 rfl Sel.here rfl) ?_
      refine d_q rfl rfl (.none rfl) rfl rfl (q_mul rfl rfl rfl (by have := mulB b2 (x := (nth ts k).normal) (by omega); omega)) ?_
      refine d_q rfl rfl (.none rfl) rfl rfl (q_move rfl rfl) ?_
      refine d_q rfl rfl (.none rfl) rfl rfl (q_fieldB (d := 2) rfl Try.underlying46 rfl rfl sz3 rfl) ?_
      refine d_q rfl rfl (.none rfl) rfl rfl (q_loadB rfl one3 rfl Sel.here rfl) ?_
      refine d_q rfl rfl (.none rfl) rfl rfl (q_mul rfl rfl rfl (by have := mulB b4 (x := (nth ts k).actual) (by omega); omega)) ?_
      refine d_q rfl rfl (.none rfl) rfl rfl (q_assign rfl rfl) ?_
      refine d_q rfl rfl (.none rfl) rfl rfl (q_assign rfl rfl) ?_
      refine d_nil ?_
      refine run_sub (subMk (.cons (s := 1) rfl (.cons (s := 4) rfl (.cons (s := 5) rfl (.cons (s := 9) rfl (.cons (s := 10) rfl (.cons (s := 11) rfl .nil)))))) .refl) ?_
      refine run_seq ?_
      refine run_sub (subMk (.cons (s := 1) rfl (.cons' (s := 4) (v' := .int .i64 ((((prodR ts e k).1 * (nth ts k).normal.toNat) : Nat) : Int)) rfl (vint (by rw [Int.natCast_mul, Int.toNat_of_nonneg (by omega)])) (.cons' (s := 5) (v' := .int .i64 ((((prodR ts e k).2 * (nth ts k).actual.toNat) : Nat) : Int)) rfl (vint (by rw [Int.natCast_mul, Int.toNat_of_nonneg (by omega)])) (.cons (s := 9) rfl (.cons (s := 10) rfl (.cons (s := 11) rfl .nil)))))) .refl) ?_
      refine run_region ?_
      refine run_q (.none rfl) rfl rfl (q_move rfl rfl) ?_
      refine run_q (.none rfl) rfl rfl (q_move rfl rfl) ?_
      refine run_q (.none rfl) rfl rfl (q_call rfl call47 (.cons rfl (.cons rfl Evs.nil)) (fun w hk hm => gcd_just ((prodR ts e k).1 * (nth ts k).normal.toNat) ((prodR ts e k).2 * (nth ts k).actual.toNat) w)) ?_
      refine run_q (.none rfl) rfl rfl (q_assign rfl rfl) ?_
      refine run_nil ?_
      refine run_sub (subMk (.cons (s := 1) rfl (.cons (s := 4) rfl (.cons (s := 5) rfl (.cons (s := 8) rfl (.cons (s := 9) rfl (.cons (s := 10) rfl (.cons (s := 11) rfl .nil))))))) .refl) ?_
      have hgd : 0 < Nat.gcd ((prodR ts e k).1 * (nth ts k).normal.toNat) ((prodR ts e k).2 * (nth ts k).actual.toNat) := Nat.gcd_pos_of_pos_left _ (Nat.mul_pos (by omega) (by omega))
      have m1 : ((prodR ts e k).1 * (nth ts k).normal.toNat) ≤ 32768 * 32 := Nat.mul_le_mul b2 (by omega)
      have m2 : ((prodR ts e k).2 * (nth ts k).actual.toNat) ≤ 32768 * 32 := Nat.mul_le_mul b4 (by omega)
      refine run_draw [(0, 0), (1, 0), (2, 0), (3, 0), (4, 0), (5, 0), (6, 0), (7, 0)] mixed (by kernel_rfl) .refl ?_
      refine d_q rfl rfl (.none rfl) rfl rfl (q_move rfl rfl) ?_
      refine d_q rfl rfl (.none rfl) rfl rfl (q_move rfl rfl) ?_
      refine d_q rfl rfl (.none rfl) rfl rfl (q_quo rfl rfl rfl (by omega)) ?_
      refine d_q rfl rfl (.none rfl) rfl rfl (q_move rfl rfl) ?_
      refine d_q rfl rfl (.none rfl) rfl rfl (q_move rfl rfl) ?_
      refine d_q rfl rfl (.none rfl) rfl rfl (q_quo rfl rfl rfl (by omega)) ?_
      refine d_q rfl rfl (.none rfl) rfl rfl (q_assign rfl rfl) ?_
      refine d_q rfl rfl (.none rfl) rfl rfl (q_assign rfl rfl) ?_
      refine d_nil ?_
      refine run_sub (subMk (.cons (s := 1) rfl (.cons (s := 4) rfl (.cons (s := 5) rfl (.cons (s := 9) rfl (.cons (s := 10) rfl (.cons (s := 11) rfl .nil)))))) .refl) ?_
      refine run_blk ?_
      refine run_region ?_
      refine run_q (.none rfl) rfl rfl (q_add rfl rfl rfl (by omega)) ?_
      refine run_q (.none rfl) rfl rfl (q_move rfl rfl) ?_
      refine run_nil ?_
      exact run_again (k + 1) (by (try dsimp only); exact (by omega)) (by (try dsimp only); omega) (subMk (.cons' (s := 11) rfl rfl (.cons' (s := 4) rfl (vint (by rw [prodR_in (by simpa using g17)]; exact (Int.natCast_ediv _ _).symm)) (.cons' (s := 5) rfl (vint (by rw [prodR_in (by simpa using g17)]; exact (Int.natCast_ediv _ _).symm)) (.cons (s := 1) rfl (.cons (s := 9) rfl (.cons (s := 10) rfl .nil)))))) .nil)
    · have g17' := g17
      try simp only [decide_eq_true_eq, decide_eq_false_iff_not, beq_iff_eq, beq_eq_false_iff_ne, bne_iff_ne, bne_eq_false_iff_eq, Bool.not_eq_true', Bool.not_eq_false', ne_eq, Int.not_lt, Int.not_le, Decidable.not_not] at g17'
      refine run_skip ?_
      refine run_blk ?_
      refine run_region ?_
      refine run_q (.none rfl) rfl rfl (q_add rfl rfl rfl (by omega)) ?_
      refine run_q (.none rfl) rfl rfl (q_move rfl rfl) ?_
      refine run_nil ?_
      refine run_sub (subMk (.cons (s := 1) rfl (.cons (s := 4) rfl (.cons (s := 5) rfl (.cons (s := 9) rfl (.cons (s := 10) rfl (.cons (s := 11) rfl .nil)))))) .refl) ?_
      exact run_again (k + 1) (by (try dsimp only); exact (by omega)) (by (try dsimp only); omega) (subMk (.cons' (s := 11) rfl rfl (.cons' (s := 4) rfl (vint (by rw [prodR_out (by simpa using g17)])) (.cons' (s := 5) rfl (vint (by rw [prodR_out (by simpa using g17)])) (.cons (s := 1) rfl (.cons (s := 9) rfl (.cons (s := 10) rfl .nil)))))) .nil)
  · have g12' := g12
    try simp only [decide_eq_true_eq, decide_eq_false_iff_not, beq_iff_eq, beq_eq_false_iff_ne, bne_iff_ne, bne_eq_false_iff_eq, Bool.not_eq_true', Bool.not_eq_false', ne_eq, Int.not_lt, Int.not_le, Decidable.not_not] at g12'
    refine run_exit rfl ?_
    refine run_sub (subMk (.cons (s := 4) rfl (.cons (s := 5) rfl .nil)) .refl) ?_
    refine run_seq ?_
    refine run_region ?_
    refine run_q (.none rfl) rfl rfl (q_move rfl rfl) ?_
    refine run_q (.none rfl) rfl rfl (q_move rfl rfl) ?_
    refine run_q (.none rfl) rfl rfl (q_assign rfl rfl) ?_
    refine run_q (.none rfl) rfl rfl (q_assign rfl rfl) ?_
    refine run_nil ?_
    refine run_ret ?_
    exact end2 rfl rfl rfl (by rw [show k = ts.length from by omega])

theorem scale_just (ts : List Tup) (A : Option Addr) (ca : Nat) (e x : Int) (W : World) (hr : Rd W A 4 (ts.map Tup.enc)) (hl : ts.length ≤ 1000000000000) (hv : Val ts) (he : e ≤ 9223372036854775807) : Calls Try.prog 40 #[.slice A ts.length ca, .int .i64 e, .int .i64 x] W (Hr.Just W (.tuple #[.int .i64 (scaleV ts e x).1, .int .i64 (scaleV ts e x).2])) := by
  refine Just.of_ret ?_
  refine enterA (X := nX) (vs := [.slice A ts.length ca, .int .i64 e, .int .i64 x]) Try.func40 Try.ntmps40 rfl rfl Mem.nil ?_
  refine run_seq ?_
  refine run_region ?_
  refine run_q (.none rfl) rfl rfl (q_assign rfl rfl) ?_
  refine run_q (.none rfl) rfl rfl (q_assign rfl rfl) ?_
  refine run_nil ?_
  refine run_seq ?_
  refine run_seq ?_
  refine run_region ?_
  refine run_q (.none rfl) rfl rfl (q_move rfl rfl) ?_
  refine run_q (.none rfl) rfl rfl (q_lss rfl rfl rfl) ?_
  refine run_q (.none rfl) rfl rfl (q_move rfl rfl) ?_
  refine run_split 12 rfl (fun g12 => ?_) (fun g12 => ?_)
  · have g12' := g12
    try simp only [decide_eq_true_eq, decide_eq_false_iff_not, beq_iff_eq, beq_eq_false_iff_ne, bne_iff_ne, bne_eq_false_iff_eq, Bool.not_eq_true', Bool.not_eq_false', ne_eq, Int.not_lt, Int.not_le, Decidable.not_not] at g12'
    refine run_off (.no rfl rfl rfl g12) rfl rfl ?_
    refine run_off (.no rfl rfl rfl g12) rfl rfl ?_
    refine run_q (.none rfl) rfl rfl (q_pickT rfl rfl g12 rfl) ?_
    refine run_nil ?_
    refine run_sub (subMk (.cons (s := 0) rfl (.cons (s := 1) rfl (.cons (s := 2) rfl (.cons (s := 6) rfl (.cons (s := 7) rfl (.cons (s := 15) rfl .nil)))))) .refl) ?_
    refine run_condT rfl rfl ?_
    refine run_seq ?_
    refine run_region ?_
    refine run_q (.none rfl) rfl rfl (q_assign rfl rfl) ?_
    refine run_q (.none rfl) rfl rfl (q_assign rfl rfl) ?_
    refine run_nil ?_
    refine run_ret ?_
    exact end2 rfl rfl rfl (by rw [scaleV_2 (by omega)])
  · have g12' := g12
    try simp only [decide_eq_true_eq, decide_eq_false_iff_not, beq_iff_eq, beq_eq_false_iff_ne, bne_iff_ne, bne_eq_false_iff_eq, Bool.not_eq_true', Bool.not_eq_false', ne_eq, Int.not_lt, Int.not_le, Decidable.not_not] at g12'
    refine run_q (.on rfl rfl rfl g12) rfl rfl (q_move rfl rfl) ?_
    refine run_q (.on rfl rfl rfl g12) rfl rfl (q_gtr rfl rfl rfl) ?_
    refine run_q (.none rfl) rfl rfl (q_pickF rfl rfl g12 rfl) ?_
    refine run_nil ?_
    refine run_sub (subMk (.cons (s := 0) rfl (.cons (s := 1) rfl (.cons (s := 2) rfl (.cons (s := 6) rfl (.cons (s := 7) rfl (.cons (s := 15) rfl .nil)))))) .refl) ?_
    refine run_cond rfl (fun g15 => ?_) (fun g15 => ?_)
    · have g15' := g15
      try simp only [decide_eq_true_eq, decide_eq_false_iff_not, beq_iff_eq, beq_eq_false_iff_ne, bne_iff_ne, bne_eq_false_iff_eq, Bool.not_eq_true', Bool.not_eq_false', ne_eq, Int.not_lt, Int.not_le, Decidable.not_not] at g15'
      refine run_seq ?_
      refine run_region ?_
      refine run_q (.none rfl) rfl rfl (q_assign rfl rfl) ?_
      refine run_q (.none rfl) rfl rfl (q_assign rfl rfl) ?_
      refine run_nil ?_
      refine run_ret ?_
      exact end2 rfl rfl rfl (by rw [scaleV_2 (by omega)])
    · have g15' := g15
      try simp only [decide_eq_true_eq, decide_eq_false_iff_not, beq_iff_eq, beq_eq_false_iff_ne, bne_iff_ne, bne_eq_false_iff_eq, Bool.not_eq_true', Bool.not_eq_false', ne_eq, Int.not_lt, Int.not_le, Decidable.not_not] at g15'
      refine run_skip ?_
      refine run_seq ?_
      refine run_region ?_
      refine run_q (.none rfl) rfl rfl (q_move rfl rfl) ?_
      refine run_q (.none rfl) rfl rfl (q_move rfl rfl) ?_
      refine run_q (.none rfl) rfl rfl (q_call rfl call42 (.cons rfl (.cons rfl Evs.nil)) (fun w hk hm => product_just ts A ca e w (hr.kept0 hk) hl hv he)) ?_
      refine run_q (.none rfl) rfl rfl (q_move rfl rfl) ?_
      refine run_q (.none rfl) rfl rfl (q_extract rfl rfl rfl) ?_
      refine run_q (.none rfl) rfl rfl (q_extract rfl rfl rfl) ?_
      refine run_q (.none rfl) rfl rfl (q_assign rfl rfl) ?_
      refine run_q (.none rfl) rfl rfl (q_assign rfl rfl) ?_
      refine run_nil ?_
      refine run_sub (subMk (.cons (s := 2) rfl (.cons (s := 6) rfl (.cons (s := 7) rfl (.cons (s := 8) rfl (.cons (s := 9) rfl .nil))))) .refl) ?_
      refine run_seq ?_
      refine run_seq ?_
      obtain ⟨b1, b2, b3, b4⟩ := prodR_le hv e (Nat.le_refl ts.length)
      have hml := mulL (x := x) (p := (prodR ts e ts.length).1) (by omega) b2
      refine run_region ?_
      refine run_q (.none rfl) rfl rfl (q_move rfl rfl) ?_
      refine run_q (.none rfl) rfl rfl (q_move rfl rfl) ?_
      refine run_q (.none rfl) rfl rfl (q_mul rfl rfl rfl (by omega)) ?_
      refine run_q (.none rfl) rfl rfl (q_move rfl rfl) ?_
      refine run_q (.none rfl) rfl rfl (q_rem rfl rfl rfl (by omega)) ?_
      refine run_q (.none rfl) rfl rfl (q_neq rfl rfl rfl) ?_
      refine run_nil ?_
      refine run_sub (subMk (.cons (s := 2) rfl (.cons (s := 6) rfl (.cons (s := 7) rfl (.cons (s := 8) rfl (.cons (s := 9) rfl (.cons (s := 27) rfl .nil)))))) .refl) ?_
      refine run_cond rfl (fun g27 => ?_) (fun g27 => ?_)
      · have g27' := g27
        try simp only [decide_eq_true_eq, decide_eq_false_iff_not, beq_iff_eq, beq_eq_false_iff_ne, bne_iff_ne, bne_eq_false_iff_eq, Bool.not_eq_true', Bool.not_eq_false', ne_eq, Int.not_lt, Int.not_le, Decidable.not_not] at g27'
        refine run_seq ?_
        refine run_region ?_
        refine run_q (.none rfl) rfl rfl (q_assign rfl rfl) ?_
        refine run_q (.none rfl) rfl rfl (q_assign rfl rfl) ?_
        refine run_nil ?_
        refine run_ret ?_
        exact end2 rfl rfl rfl (by rw [scaleV_16 (by omega) (fun hx => g27' ((scale_mod hv e x).1.1 hx))])
      · have g27' := g27
        try simp only [decide_eq_true_eq, decide_eq_false_iff_not, beq_iff_eq, beq_eq_false_iff_ne, bne_iff_ne, bne_eq_false_iff_eq, Bool.not_eq_true', Bool.not_eq_false', ne_eq, Int.not_lt, Int.not_le, Decidable.not_not] at g27'
        refine run_skip ?_
        refine run_seq ?_
        refine run_region ?_
        refine run_q (.none rfl) rfl rfl (q_move rfl rfl) ?_
        refine run_q (.none rfl) rfl rfl (q_move rfl rfl) ?_
        refine run_q (.none rfl) rfl rfl (q_mul rfl rfl rfl (by omega)) ?_
        refine run_q (.none rfl) rfl rfl (q_move rfl rfl) ?_
        refine run_q (.none rfl) rfl rfl (q_quo rfl rfl rfl (by omega)) ?_
        refine run_q (.none rfl) rfl rfl (q_assign rfl rfl) ?_
        refine run_q (.none rfl) rfl rfl (q_assign rfl rfl) ?_
        refine run_nil ?_
        refine run_sub (subMk (.cons (s := 6) rfl (.cons (s := 7) rfl .nil)) .refl) ?_
        refine run_ret ?_
        exact end2 rfl rfl rfl (by rw [scaleV_0 (by omega) ((scale_mod hv e x).1.2 g27'), (scale_mod hv e x).2])

theorem lengths_ret (ts : List Tup) (A : Option Addr) (ca : Nat) (ws : List Int) (B : Option Addr) (cb : Nat) (W : World) (hr : Rd W A 4 (ts.map Tup.enc)) (hrw : Rd W B 1 (ws.map encI)) (hlt : ts.length ≤ 1000000000000) (hlw : ws.length ≤ 1000000000000) : Calls Try.prog 16 #[.slice A ts.length ca, .slice B ws.length cb] W (Ret W nX (fun v m => ∃ O co, v = .tuple #[.slice O (lenV ts ws).1.length co, .int .i64 (lenV ts ws).2] ∧ m = [.own 3 1 O (lenV ts ws).1.length co ((lenV ts ws).1.map encI)])) := by
  refine enterA (X := nX) (vs := [.slice A ts.length ca, .slice B ws.length cb]) Try.func16 Try.ntmps16 rfl rfl Mem.nil ?_
  refine run_seq ?_
  refine run_region ?_
  refine run_q (.none rfl) rfl rfl (q_assign rfl rfl) ?_
  refine run_q (.none rfl) rfl rfl (q_assign rfl rfl) ?_
  refine run_nil ?_
  refine run_seq ?_
  refine run_seq ?_
  refine run_region ?_
  refine run_q (.none rfl) rfl rfl (q_move rfl rfl) ?_
  refine run_q (.none rfl) rfl rfl (q_move rfl rfl) ?_
  refine run_q (.none rfl) rfl rfl (q_len rfl Try.underlying30 rfl) ?_
  refine run_q (.none rfl) rfl rfl (q_call rfl call13 (.cons rfl (.cons rfl Evs.nil)) (fun w hk hm => check_just ts A ca _ w (hr.kept0 hk) hlt)) ?_
  refine run_q (.none rfl) rfl rfl (q_assign rfl rfl) ?_
  refine run_nil ?_
  refine run_sub (subMk (.cons (s := 0) rfl (.cons (s := 1) rfl (.cons (s := 4) rfl (.cons (s := 5) rfl (.cons (s := 6) rfl .nil))))) .refl) ?_
  refine run_seq ?_
  refine run_region ?_
  refine run_q (.none rfl) rfl rfl (q_move rfl rfl) ?_
  refine run_q (.none rfl) rfl rfl (q_neq rfl rfl rfl) ?_
  refine run_nil ?_
  refine run_cond rfl (fun g17 => ?_) (fun g17 => ?_)
  · have g17' := g17
    try simp only [decide_eq_true_eq, decide_eq_false_iff_not, beq_iff_eq, beq_eq_false_iff_ne, bne_iff_ne, bne_eq_false_iff_eq, Bool.not_eq_true', Bool.not_eq_false', ne_eq, Int.not_lt, Int.not_le, Decidable.not_not] at g17'
    refine run_seq ?_
    refine run_region ?_
    refine run_q (.none rfl) rfl rfl (q_move rfl rfl) ?_
    refine run_q (.none rfl) rfl rfl (q_assign rfl rfl) ?_
    refine run_q (.none rfl) rfl rfl (q_assign rfl rfl) ?_
    refine run_nil ?_
    refine run_sub (subMk (.cons (s := 0) rfl (.cons (s := 1) rfl (.cons (s := 4) rfl (.cons (s := 5) rfl .nil)))) .refl) ?_
    refine run_ret ?_
    refine run_sub (subMk .refl (MemSub.nilOwn 3 1)) ?_
    refine run_sub (subMk .refl (.cons Sel.here .refl .nil)) ?_
    exact end2 rfl rfl rfl ⟨none, 0, by rw [lenV_err (by simpa using g17)]; rfl, by rw [lenV_err (by simpa using g17)]; rfl⟩
  · have g17' := g17
    try simp only [decide_eq_true_eq, decide_eq_false_iff_not, beq_iff_eq, beq_eq_false_iff_ne, bne_iff_ne, bne_eq_false_iff_eq, Bool.not_eq_true', Bool.not_eq_false', ne_eq, Int.not_lt, Int.not_le, Decidable.not_not] at g17'
    have hc : checkV ts ws.length = 0 := by simpa using g17
    obtain ⟨c1, c2, c3, c4⟩ := checkV_good hc
    have hv := Val.of hc
    refine run_skip ?_
    refine run_seq ?_
    refine run_region ?_
    refine run_q (.none rfl) rfl rfl (q_move rfl rfl) ?_
    refine run_q (.none rfl) rfl rfl (q_len rfl Try.underlying30 rfl) ?_
    refine run_h (.none rfl) (h_make (m := 0) (cap := ws.length) rfl rfl rfl Try.underlying30 info3 rfl rfl (by omega) (by omega) (by omega)) ?_
    rintro b21 -
    refine run_q (.none rfl) rfl rfl (q_assign rfl rfl) ?_
    refine run_nil ?_
    refine run_sub (subMk (.cons (s := 0) rfl (.cons (s := 1) rfl (.cons (s := 4) rfl (.cons (s := 5) rfl (.cons (s := 7) rfl .nil))))) .refl) ?_
    refine run_seq ?_
    refine run_seq ?_
    refine run_region ?_
    refine run_q (.none rfl) rfl rfl (q_move rfl rfl) ?_
    refine run_q (.none rfl) rfl rfl (q_len rfl Try.underlying30 rfl) ?_
    refine run_q (.none rfl) rfl rfl (q_move rfl rfl) ?_
    refine run_nil ?_
    refine run_block ?_
    refine run_sub (subMk (.cons (s := 24) rfl (.cons (s := 7) rfl (.cons (s := 0) rfl (.cons (s := 4) rfl (.cons (s := 5) rfl (.cons (s := 22) rfl (.cons (s := 23) rfl .nil))))))) (.cons Sel.here .refl .nil)) ?_
    refine run_loopC2M1 (ι := Nat × (Option Addr) × Nat) (fun gg => gg.1 ≤ ws.length ∧ ∀ j, j < gg.1 → (scaleV ts (j : Int) (nth ws j)).2 = 0) (fun gg => .int .i64 (gg.1 : Int)) (fun gg => .slice gg.2.1 gg.1 gg.2.2) (fun gg => .own 3 1 gg.2.1 gg.1 gg.2.2 ((lensK ts ws gg.1).map encI)) (fun gg => ws.length - gg.1) (0, some ⟨b21, 0, none⟩, ws.length) (by (try dsimp only); exact ⟨by omega, fun j hj => absurd hj (by omega)⟩) rfl rfl (.own rfl rfl rfl (by simp [lensK])) ?_
    rintro ⟨k, O, co⟩ hq
    (try dsimp only at hq)
    obtain ⟨hk, hinv⟩ := hq
    show Run _ _ _ _ _ _ _ ⟨(24, .int .i64 (k : Int)) :: (7, .slice O k co) :: _, .own 3 1 O k co ((lensK ts ws k).map encI) :: _⟩
    refine run_seq ?_
    refine run_region ?_
    refine run_q (.none rfl) rfl rfl (q_lss rfl rfl rfl) ?_
    refine run_nil ?_
    refine run_seq ?_
    refine run_cond rfl (fun g25 => ?_) (fun g25 => ?_)
    · have g25' := g25
      try simp only [decide_eq_true_eq, decide_eq_false_iff_not, beq_iff_eq, beq_eq_false_iff_ne, bne_iff_ne, bne_eq_false_iff_eq, Bool.not_eq_true', Bool.not_eq_false', ne_eq, Int.not_lt, Int.not_le, Decidable.not_not] at g25'
      refine run_skip ?_
      refine run_seq ?_
      refine run_block ?_
      refine run_seq ?_
      refine run_region ?_
      refine run_q (.none rfl) rfl rfl (q_move rfl rfl) ?_
      refine run_q (.none rfl) rfl rfl (q_indexS (q := k) rfl Try.underlying30 sz3 rfl rfl (.inp hrw .no) (by simp <;> omega) rfl (by omega)) ?_
      refine run_q (.none rfl) rfl rfl (q_loadC rfl one3 rfl (.inp hrw .no) (getmap (by omega))) ?_
      refine run_q (.none rfl) rfl rfl (q_assign rfl rfl) ?_
      refine run_q (.none rfl) rfl rfl (q_assign rfl rfl) ?_
      refine run_nil ?_
      refine run_sub (subMk (.cons (s := 0) rfl (.cons (s := 4) rfl (.cons (s := 5) rfl (.cons (s := 7) rfl (.cons (s := 8) rfl (.cons (s := 9) rfl (.cons (s := 22) rfl (.cons (s := 23) rfl (.cons (s := 24) rfl .nil))))))))) .refl) ?_
      refine run_seq ?_
      refine run_region ?_
      refine run_q (.none rfl) rfl rfl (q_move rfl rfl) ?_
      refine run_q (.none rfl) rfl rfl (q_move rfl rfl) ?_
      refine run_q (.none rfl) rfl rfl (q_move rfl rfl) ?_
      refine run_q (.none rfl) rfl rfl (q_call rfl call40 (.cons rfl (.cons rfl (.cons rfl Evs.nil))) (fun w hk hm => scale_just ts A ca k (nth ws k) w (hr.kept0 hk) hlt hv (by omega))) ?_
      refine run_q (.none rfl) rfl rfl (q_move rfl rfl) ?_
      refine run_q (.none rfl) rfl rfl (q_extract rfl rfl rfl) ?_
      refine run_q (.none rfl) rfl rfl (q_extract rfl rfl rfl) ?_
      refine run_q (.none rfl) rfl rfl (q_assign rfl rfl) ?_
      refine run_q (.none rfl) rfl rfl (q_assign rfl rfl) ?_
      refine run_nil ?_
      refine run_sub (subMk (.cons (s := 0) rfl (.cons (s := 4) rfl (.cons (s := 5) rfl (.cons (s := 7) rfl (.cons (s := 10) rfl (.cons (s := 11) rfl (.cons (s := 22) rfl (.cons (s := 23) rfl (.cons (s := 24) rfl .nil))))))))) .refl) ?_
      refine run_seq ?_
      refine run_seq ?_
      refine run_region ?_
      refine run_q (.none rfl) rfl rfl (q_move rfl rfl) ?_
      refine run_q (.none rfl) rfl rfl (q_neq rfl rfl rfl) ?_
      refine run_nil ?_
      refine run_cond rfl (fun g37 => ?_) (fun g37 => ?_)
      · have g37' := g37
        try simp only [decide_eq_true_eq, decide_eq_false_iff_not, beq_iff_eq, beq_eq_false_iff_ne, bne_iff_ne, bne_eq_false_iff_eq, Bool.not_eq_true', Bool.not_eq_false', ne_eq, Int.not_lt, Int.not_le, Decidable.not_not] at g37'
        refine run_seq ?_
        refine run_region ?_
        refine run_q (.none rfl) rfl rfl (q_move rfl rfl) ?_
        refine run_q (.none rfl) rfl rfl (q_assign rfl rfl) ?_
        refine run_q (.none rfl) rfl rfl (q_assign rfl rfl) ?_
        refine run_nil ?_
        refine run_sub (subMk (.cons (s := 0) rfl (.cons (s := 4) rfl (.cons (s := 5) rfl (.cons (s := 7) rfl (.cons (s := 10) rfl (.cons (s := 22) rfl (.cons (s := 23) rfl (.cons (s := 24) rfl .nil)))))))) .refl) ?_
        refine run_ret ?_
        refine run_sub (subMk .refl (MemSub.nilOwn 3 1)) ?_
        refine run_sub (subMk .refl (.cons Sel.here .refl .nil)) ?_
        exact end2 rfl rfl rfl ⟨none, 0, by rw [lenV_at hc (by omega) hinv g37']; rfl, by rw [lenV_at hc (by omega) hinv g37']; rfl⟩
      · have g37' := g37
        try simp only [decide_eq_true_eq, decide_eq_false_iff_not, beq_iff_eq, beq_eq_false_iff_ne, bne_iff_ne, bne_eq_false_iff_eq, Bool.not_eq_true', Bool.not_eq_false', ne_eq, Int.not_lt, Int.not_le, Decidable.not_not] at g37'
        refine run_skip ?_
        refine run_region ?_
        refine run_q (.none rfl) rfl rfl (q_move rfl rfl) ?_
        refine run_q (.none rfl) rfl rfl (q_move rfl rfl) ?_
        refine run_h (.none rfl) (h_buildSlice rfl rfl rfl Try.underlying30 info3 (.cons rfl rfl rfl rfl Parts.nil) rfl (by omega)) ?_
        rintro b41 -
        refine run_h (.none rfl) (h_append rfl rfl rfl Try.underlying30 info3 rfl rfl (.there Sel.here) rfl (.own Sel.here) rfl (all1 rfl) (all1 rfl) (by omega) (by omega)) ?_
        rintro ⟨A42, c42⟩ -
        refine run_q (.none rfl) rfl rfl (q_assign rfl rfl) ?_
        refine run_nil ?_
        refine run_sub (subMk (.cons (s := 0) rfl (.cons (s := 4) rfl (.cons (s := 5) rfl (.cons (s := 7) rfl (.cons (s := 22) rfl (.cons (s := 23) rfl (.cons (s := 24) rfl .nil))))))) .refl) ?_
        refine run_blk ?_
        refine run_region ?_
        refine run_q (.none rfl) rfl rfl (q_add rfl rfl rfl (by omega)) ?_
        refine run_q (.none rfl) rfl rfl (q_move rfl rfl) ?_
        refine run_nil ?_
        exact run_again (k + 1, A42, c42) (by (try dsimp only); exact ⟨by omega, upto_succ hinv g37'⟩) (by (try dsimp only); omega) (subMk (.cons' (s := 24) rfl rfl (.cons' (s := 7) rfl (by simp) (.cons (s := 0) rfl (.cons (s := 4) rfl (.cons (s := 5) rfl (.cons (s := 22) rfl (.cons (s := 23) rfl .nil))))))) (.cons Sel.here (.own rfl (by simp) rfl (by rw [lensK_succ]; simp [encI, vlist])) .nil))
    · have g25' := g25
      try simp only [decide_eq_true_eq, decide_eq_false_iff_not, beq_iff_eq, beq_eq_false_iff_ne, bne_iff_ne, bne_eq_false_iff_eq, Bool.not_eq_true', Bool.not_eq_false', ne_eq, Int.not_lt, Int.not_le, Decidable.not_not] at g25'
      refine run_exit rfl ?_
      refine run_sub (subMk (.cons (s := 4) rfl (.cons (s := 5) rfl (.cons (s := 7) rfl .nil))) .refl) ?_
      refine run_seq ?_
      refine run_region ?_
      refine run_q (.none rfl) rfl rfl (q_move rfl rfl) ?_
      refine run_q (.none rfl) rfl rfl (q_assign rfl rfl) ?_
      refine run_q (.none rfl) rfl rfl (q_assign rfl rfl) ?_
      refine run_nil ?_
      refine run_ret ?_
      refine run_sub (subMk .refl (.cons Sel.here .refl .nil)) ?_
      exact end2 rfl rfl rfl ⟨O, co, by rw [lenV_ok hc (fun j hj => hinv j (by omega)), lensK_len, show k = ws.length from by omega], by rw [lenV_ok hc (fun j hj => hinv j (by omega)), lensK_len, show k = ws.length from by omega]⟩

theorem known_just  (W : World)  : Calls Try.prog 12 #[] W (Hr.Just W (.bool true)) := by
  refine Just.of_ret ?_
  refine enterA (X := nX) (vs := []) Try.func12 Try.ntmps12 rfl rfl Mem.nil ?_
  refine run_seq ?_
  refine run_region ?_
  refine run_q (.none rfl) rfl rfl (q_assign rfl rfl) ?_
  refine run_nil ?_
  refine run_seq ?_
  refine run_region ?_
  refine run_q (.none rfl) rfl rfl (q_build rfl (.cons rfl (.cons rfl (.cons rfl (.cons rfl PV.nil)))) (built46p0p1p2p3 _ _ _ _)) ?_
  refine run_q (.none rfl) rfl rfl (q_build rfl (.cons rfl (.cons rfl (.cons rfl (.cons rfl PV.nil)))) (built46p0p1p2p3 _ _ _ _)) ?_
  refine run_h (.none rfl) (h_buildSlice rfl rfl rfl Try.underlying22 info46 (.cons rfl rfl rfl rfl (.cons rfl rfl rfl rfl Parts.nil)) rfl (by omega)) ?_
  rintro b6 -
  refine run_h (.none rfl) (h_buildSlice rfl rfl rfl Try.underlying30 info3 (.cons rfl rfl rfl rfl (.cons rfl rfl rfl rfl (.cons rfl rfl rfl rfl (.cons rfl rfl rfl rfl (.cons rfl rfl rfl rfl Parts.nil))))) rfl (by omega)) ?_
  rintro b7 -
  refine run_h (.none rfl) (h_call rfl rfl rfl call16 (.cons rfl (.cons rfl Evs.nil)) (fun w hk hm => lengths_ret kT (some ⟨b6, 0, none⟩) 2 kW (some ⟨b7, 0, none⟩) 5 w (own_rd ((Sel.there Sel.here).holds hm)) (own_rd (Sel.here.holds hm)) (by decide) (by decide))) ?_
  rw [known_len]
  rintro ⟨v, m⟩ ⟨O, co, rfl, rfl⟩
  show Run _ _ _ _ _ _ _ ⟨(8, .tuple #[.slice O 5 co, .int .i64 0]) :: _, _ :: _⟩
  refine run_q (.none rfl) rfl rfl (q_move rfl rfl) ?_
  refine run_q (.none rfl) rfl rfl (q_extract rfl rfl rfl) ?_
  refine run_q (.none rfl) rfl rfl (q_extract rfl rfl rfl) ?_
  refine run_q (.none rfl) rfl rfl (q_assign rfl rfl) ?_
  refine run_q (.none rfl) rfl rfl (q_assign rfl rfl) ?_
  refine run_nil ?_
  refine run_sub (subMk (.cons (s := 0) rfl (.cons (s := 1) rfl (.cons (s := 2) rfl .nil))) .refl) ?_
  refine run_seq ?_
  refine run_region ?_
  refine run_q (.none rfl) rfl rfl (q_move rfl rfl) ?_
  refine run_q (.none rfl) rfl rfl (q_eql rfl rfl rfl) ?_
  refine run_q (.none rfl) rfl rfl (q_move rfl rfl) ?_
  refine run_q (.on rfl rfl rfl rfl) rfl rfl (q_move rfl rfl) ?_
  refine run_q (.on rfl rfl rfl rfl) rfl rfl (q_len rfl Try.underlying30 rfl) ?_
  refine run_q (.on rfl rfl rfl rfl) rfl rfl (q_eql rfl rfl rfl) ?_
  refine run_q (.none rfl) rfl rfl (q_pickT rfl rfl rfl rfl) ?_
  refine run_q (.none rfl) rfl rfl (q_move rfl rfl) ?_
  refine run_q (.on rfl rfl rfl rfl) rfl rfl (q_move rfl rfl) ?_
  refine run_q (.on rfl rfl rfl rfl) rfl rfl (q_indexS (q := 0) rfl Try.underlying30 sz3 rfl rfl (.own Sel.here) rfl rfl (by omega)) ?_
  refine run_q (.on rfl rfl rfl rfl) rfl rfl (q_loadC rfl one3 rfl (.own Sel.here) rfl) ?_
  refine run_q (.on rfl rfl rfl rfl) rfl rfl (q_eql rfl rfl rfl) ?_
  refine run_q (.none rfl) rfl rfl (q_pickT rfl rfl rfl rfl) ?_
  refine run_q (.none rfl) rfl rfl (q_move rfl rfl) ?_
  refine run_q (.on rfl rfl rfl rfl) rfl rfl (q_move rfl rfl) ?_
  refine run_q (.on rfl rfl rfl rfl) rfl rfl (q_indexS (q := 1) rfl Try.underlying30 sz3 rfl rfl (.own Sel.here) rfl rfl (by omega)) ?_
  refine run_q (.on rfl rfl rfl rfl) rfl rfl (q_loadC rfl one3 rfl (.own Sel.here) rfl) ?_
  refine run_q (.on rfl rfl rfl rfl) rfl rfl (q_eql rfl rfl rfl) ?_
  refine run_q (.none rfl) rfl rfl (q_pickT rfl rfl rfl rfl) ?_
  refine run_q (.none rfl) rfl rfl (q_move rfl rfl) ?_
  refine run_q (.on rfl rfl rfl rfl) rfl rfl (q_move rfl rfl) ?_
  refine run_q (.on rfl rfl rfl rfl) rfl rfl (q_indexS (q := 4) rfl Try.underlying30 sz3 rfl rfl (.own Sel.here) rfl rfl (by omega)) ?_
  refine run_q (.on rfl rfl rfl rfl) rfl rfl (q_loadC rfl one3 rfl (.own Sel.here) rfl) ?_
  refine run_q (.on rfl rfl rfl rfl) rfl rfl (q_eql rfl rfl rfl) ?_
  refine run_q (.none rfl) rfl rfl (q_pickT rfl rfl rfl rfl) ?_
  refine run_q (.none rfl) rfl rfl (q_assign rfl rfl) ?_
  refine run_nil ?_
  refine run_sub (subMk (.cons (s := 0) rfl .nil) .refl) ?_
  refine run_ret ?_
  exact end1 rfl rfl rfl

theorem to_ret (ts : List Tup) (A : Option Addr) (ca : Nat) (W : World) (hr : Rd W A 4 (ts.map Tup.enc)) (hl : ts.length ≤ 20) : Calls Try.prog 15 #[.slice A ts.length ca] W (Ret W nX (fun v m => ∃ O co, v = .slice O ts.length co ∧ m = [.own 45 4 O ts.length co (ts.map Tup.enc)])) := by
  refine enterA (X := nX) (vs := [.slice A ts.length ca]) Try.func15 Try.ntmps15 rfl rfl Mem.nil ?_
  refine run_seq ?_
  refine run_region ?_
  refine run_q (.none rfl) rfl rfl (q_assign rfl rfl) ?_
  refine run_nil ?_
  refine run_seq ?_
  refine run_region ?_
  refine run_q (.none rfl) rfl rfl (q_assign rfl rfl) ?_
  refine run_nil ?_
  refine run_seq ?_
  refine run_seq ?_
  refine run_region ?_
  refine run_q (.none rfl) rfl rfl (q_assign rfl rfl) ?_
  refine run_nil ?_
  refine run_block ?_
  refine run_sub (subMk .refl (MemSub.nilOwn 45 4)) ?_
  refine run_sub (subMk (.cons (s := 4) rfl (.cons (s := 3) rfl (.cons (s := 0) rfl (.cons (s := 2) rfl .nil)))) (.cons Sel.here .refl .nil)) ?_
  refine run_loopC2M1 (ι := Nat × (Option Addr) × Nat) (fun gg => gg.1 ≤ ts.length) (fun gg => .int .i64 (gg.1 : Int)) (fun gg => .slice gg.2.1 gg.1 gg.2.2) (fun gg => .own 45 4 gg.2.1 gg.1 gg.2.2 ((ts.take gg.1).map Tup.enc)) (fun gg => ts.length - gg.1) (0, none, 0) (by (try dsimp only); exact (by omega)) rfl rfl .refl ?_
  rintro ⟨k, O, co⟩ hk
  (try dsimp only at hk)
  show Run _ _ _ _ _ _ _ ⟨(4, .int .i64 (k : Int)) :: (3, .slice O k co) :: _, .own 45 4 O k co ((ts.take k).map Tup.enc) :: _⟩
  refine run_seq ?_
  refine run_seq ?_
  refine run_region ?_
  refine run_q (.none rfl) rfl rfl (q_move rfl rfl) ?_
  refine run_q (.none rfl) rfl rfl (q_move rfl rfl) ?_
  refine run_q (.none rfl) rfl rfl (q_len rfl Try.underlying22 rfl) ?_
  refine run_q (.none rfl) rfl rfl (q_lss rfl rfl rfl) ?_
  refine run_q (.none rfl) rfl rfl (q_move rfl rfl) ?_
  refine run_split 9 rfl (fun g9 => ?_) (fun g9 => ?_)
  · have g9' := g9
    try simp only [decide_eq_true_eq, decide_eq_false_iff_not, beq_iff_eq, beq_eq_false_iff_ne, bne_iff_ne, bne_eq_false_iff_eq, Bool.not_eq_true', Bool.not_eq_false', ne_eq, Int.not_lt, Int.not_le, Decidable.not_not] at g9'
    refine run_q (.on rfl rfl rfl g9) rfl rfl (q_move rfl rfl) ?_
    refine run_q (.on rfl rfl rfl g9) rfl rfl (q_lss rfl rfl rfl) ?_
    refine run_q (.none rfl) rfl rfl (q_pickT rfl rfl g9 rfl) ?_
    refine run_nil ?_
    refine run_sub (subMk (.cons (s := 0) rfl (.cons (s := 2) rfl (.cons (s := 3) rfl (.cons (s := 4) rfl (.cons (s := 12) rfl .nil))))) .refl) ?_
    refine run_condT rfl (decide_eq_true (by omega)) ?_
    refine run_skip ?_
    refine run_seq ?_
    refine run_block ?_
    refine run_region ?_
    refine run_q (.none rfl) rfl rfl (q_move rfl rfl) ?_
    refine run_q (.none rfl) rfl rfl (q_move rfl rfl) ?_
    refine run_q (.none rfl) rfl rfl (q_move rfl rfl) ?_
    refine run_q (.none rfl) rfl rfl (q_indexS (q := k) rfl Try.underlying22 sz46 rfl rfl (.inp hr .no) (by simp <;> omega) rfl (by omega)) ?_
    refine run_q (.none rfl) rfl rfl (q_loadE rfl agg46 rfl (.inp hr .no) (getmap (by omega)) rfl) ?_
    refine run_h (.none rfl) (h_buildSlice rfl rfl rfl Try.underlying27 info45 (.cons rfl rfl rfl rfl Parts.nil) rfl (by omega)) ?_
    rintro b20 -
    refine run_h (.none rfl) (h_append rfl rfl rfl Try.underlying27 info45 rfl rfl (.there Sel.here) rfl (.own Sel.here) rfl (all1 rfl) (all1 rfl) (by omega) (by omega)) ?_
    rintro ⟨A21, c21⟩ -
    refine run_q (.none rfl) rfl rfl (q_assign rfl rfl) ?_
    refine run_nil ?_
    refine run_sub (subMk (.cons (s := 0) rfl (.cons (s := 2) rfl (.cons (s := 3) rfl (.cons (s := 4) rfl .nil)))) .refl) ?_
    refine run_blk ?_
    refine run_region ?_
    refine run_q (.none rfl) rfl rfl (q_move rfl rfl) ?_
    refine run_q (.none rfl) rfl rfl (q_add rfl rfl rfl (by omega)) ?_
    refine run_q (.none rfl) rfl rfl (q_assign rfl rfl) ?_
    refine run_nil ?_
    exact run_again (k + 1, A21, c21) (by (try dsimp only); exact (by omega)) (by (try dsimp only); omega) (subMk (.cons' (s := 4) rfl rfl (.cons' (s := 3) rfl (by simp) (.cons (s := 0) rfl (.cons (s := 2) rfl .nil)))) (.cons Sel.here (.own rfl (by simp) rfl (by rw [take_nth (by omega), List.map_append]; rfl)) .nil))
  · have g9' := g9
    try simp only [decide_eq_true_eq, decide_eq_false_iff_not, beq_iff_eq, beq_eq_false_iff_ne, bne_iff_ne, bne_eq_false_iff_eq, Bool.not_eq_true', Bool.not_eq_false', ne_eq, Int.not_lt, Int.not_le, Decidable.not_not] at g9'
    refine run_off (.no rfl rfl rfl g9) rfl rfl ?_
    refine run_off (.no rfl rfl rfl g9) rfl rfl ?_
    refine run_q (.none rfl) rfl rfl (q_pickF rfl rfl g9 rfl) ?_
    refine run_nil ?_
    refine run_sub (subMk (.cons (s := 0) rfl (.cons (s := 2) rfl (.cons (s := 3) rfl (.cons (s := 4) rfl (.cons (s := 12) rfl .nil))))) .refl) ?_
    refine run_condF rfl rfl ?_
    refine run_exit rfl ?_
    refine run_sub (subMk (.cons (s := 2) rfl (.cons (s := 3) rfl .nil)) .refl) ?_
    refine run_seq ?_
    refine run_region ?_
    refine run_q (.none rfl) rfl rfl (q_move rfl rfl) ?_
    refine run_q (.none rfl) rfl rfl (q_assign rfl rfl) ?_
    refine run_nil ?_
    refine run_ret ?_
    refine run_sub (subMk .refl (.cons Sel.here .refl .nil)) ?_
    exact end1 rfl rfl ⟨O, co, by rw [show k = ts.length from by omega], by rw [show k = ts.length from by omega, List.take_length]⟩

end Go.Proofs.Yticofkkkafhpiaa
