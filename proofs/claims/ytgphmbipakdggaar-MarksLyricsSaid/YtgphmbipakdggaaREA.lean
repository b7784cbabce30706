/- Pitches and their numbers. -/
import Derived.Test.YtgphmbipakdggaaRProg
import Derived.Test.YtgphmbipakdggaaREPlain
import Derived.Test.YtgphmbipakdggaaREqs
import Derived.Test.YtgphmbipakdggaaRBase
set_option linter.unusedSimpArgs false
set_option linter.unusedVariables false
namespace Go.Proofs.YtgphmbipakdggaaR.Ev
open Go Go.RowKit Hr

theorem sz3 : Hr.Sz Try.prog 3 1 := Hr.Sz.of (by kernel_rfl)
theorem one3 : Hr.One Try.prog 3 := ⟨fun w => by simp [isAgg, run_underlying Try.underlying3], Hr.Sz.of (by kernel_rfl)⟩
theorem mixed : Try.prog.follows .mixedOrders = true := by kernel_rfl
theorem sz27 : Hr.Sz Try.prog 27 1 := Hr.Sz.of (by kernel_rfl)
theorem one27 : Hr.One Try.prog 27 := ⟨fun w => by simp [isAgg, run_underlying Try.underlying27], Hr.Sz.of (by kernel_rfl)⟩
theorem info175 : Hr.Info Try.prog 175 [.int .i64 0, .int .i64 0, .int .i64 0, .int .i64 0, .int .i64 0, .int .i64 0, .int .i64 0] 7 56 := Hr.Info.of (by kernel_rfl)
theorem built175p0p1p2p3p4p5p6 (x0y : Int) (x1y : Int) (x2y : Int) (x3y : Int) (x4y : Int) (x5y : Int) (x6y : Int) : Try.prog.built 175 [(0, .int .i64 x0y), (1, .int .i64 x1y), (2, .int .i64 x2y), (3, .int .i64 x3y), (4, .int .i64 x4y), (5, .int .i64 x5y), (6, .int .i64 x6y)] = some #[.int .i64 x0y, .int .i64 x1y, .int .i64 x2y, .int .i64 x3y, .int .i64 x4y, .int .i64 x5y, .int .i64 x6y] := by kernel_rfl
theorem sz175 : Hr.Sz Try.prog 175 7 := Hr.Sz.of (by kernel_rfl)
theorem agg175 : Hr.Agg Try.prog 175 7 := ⟨fun w => by simp [isAgg, run_underlying Try.underlying175], Hr.Sz.of (by kernel_rfl)⟩
theorem call100 : Hr.Callable Try.prog 100 := fun args w => by kernel_rfl
theorem agg150 : Hr.Agg Try.prog 150 3 := ⟨fun w => by simp [isAgg, run_underlying Try.underlying150], Hr.Sz.of (by kernel_rfl)⟩
theorem call97 : Hr.Callable Try.prog 97 := fun args w => by kernel_rfl
theorem call96 : Hr.Callable Try.prog 96 := fun args w => by kernel_rfl
theorem call92 : Hr.Callable Try.prog 92 := fun args w => by kernel_rfl
theorem sz150 : Hr.Sz Try.prog 150 3 := Hr.Sz.of (by kernel_rfl)
theorem call83 : Hr.Callable Try.prog 83 := fun args w => by kernel_rfl
theorem call57 : Hr.Callable Try.prog 57 := fun args w => by kernel_rfl
theorem info27 : Hr.Info Try.prog 27 [.int .i64 0] 1 8 := Hr.Info.of (by kernel_rfl)
theorem call56 : Hr.Callable Try.prog 56 := fun args w => by kernel_rfl

theorem within_just (n m : Int) (W : World)  : Calls Try.prog 57 #[.int .i64 n, .int .i64 m] W (Hr.Just W (.int .i64 (if n < 0 ∨ m < n then 2 else 0))) := by
  refine Just.of_ret ?_
  refine enterA (X := nX) (vs := [.int .i64 n, .int .i64 m]) Try.func57 Try.ntmps57 rfl rfl Mem.nil ?_
  refine run_seq ?_
  refine run_region ?_
  refine run_q (.none rfl) rfl rfl (q_assign rfl rfl) ?_
  refine run_nil ?_
  refine run_seq ?_
  refine run_seq ?_
  refine run_region ?_
  refine run_q (.none rfl) rfl rfl (q_move rfl rfl) ?_
  refine run_q (.none rfl) rfl rfl (q_lss rfl rfl rfl) ?_
  refine run_q (.none rfl) rfl rfl (q_move rfl rfl) ?_
  refine run_split 7 rfl (fun g7 => ?_) (fun g7 => ?_)
  · have g7' := g7
    try simp only [decide_eq_true_eq, decide_eq_false_iff_not, beq_iff_eq, beq_eq_false_iff_ne, bne_iff_ne, bne_eq_false_iff_eq, Bool.not_eq_true', Bool.not_eq_false', ne_eq, Int.not_lt, Int.not_le, Decidable.not_not] at g7'
    refine run_off (.no rfl rfl rfl g7) rfl rfl ?_
    refine run_off (.no rfl rfl rfl g7) rfl rfl ?_
    refine run_off (.no rfl rfl rfl g7) rfl rfl ?_
    refine run_q (.none rfl) rfl rfl (q_pickT rfl rfl g7 rfl) ?_
    refine run_nil ?_
    refine run_sub (subMk (.cons (s := 4) rfl (.cons (s := 11) rfl .nil)) .refl) ?_
    refine run_condT rfl rfl ?_
    refine run_seq ?_
    refine run_region ?_
    refine run_q (.none rfl) rfl rfl (q_assign rfl rfl) ?_
    refine run_nil ?_
    refine run_ret ?_
    exact end1 rfl rfl (by rw [if_pos (by omega)])
  · have g7' := g7
    try simp only [decide_eq_true_eq, decide_eq_false_iff_not, beq_iff_eq, beq_eq_false_iff_ne, bne_iff_ne, bne_eq_false_iff_eq, Bool.not_eq_true', Bool.not_eq_false', ne_eq, Int.not_lt, Int.not_le, Decidable.not_not] at g7'
    refine run_q (.on rfl rfl rfl g7) rfl rfl (q_move rfl rfl) ?_
    refine run_q (.on rfl rfl rfl g7) rfl rfl (q_move rfl rfl) ?_
    refine run_q (.on rfl rfl rfl g7) rfl rfl (q_gtr rfl rfl rfl) ?_
    refine run_q (.none rfl) rfl rfl (q_pickF rfl rfl g7 rfl) ?_
    refine run_nil ?_
    refine run_sub (subMk (.cons (s := 4) rfl (.cons (s := 11) rfl .nil)) .refl) ?_
    refine run_cond rfl (fun g11 => ?_) (fun g11 => ?_)
    · have g11' := g11
      try simp only [decide_eq_true_eq, decide_eq_false_iff_not, beq_iff_eq, beq_eq_false_iff_ne, bne_iff_ne, bne_eq_false_iff_eq, Bool.not_eq_true', Bool.not_eq_false', ne_eq, Int.not_lt, Int.not_le, Decidable.not_not] at g11'
      refine run_seq ?_
      refine run_region ?_
      refine run_q (.none rfl) rfl rfl (q_assign rfl rfl) ?_
      refine run_nil ?_
      refine run_ret ?_
      exact end1 rfl rfl (by rw [if_pos (by omega)])
    · have g11' := g11
      try simp only [decide_eq_true_eq, decide_eq_false_iff_not, beq_iff_eq, beq_eq_false_iff_ne, bne_iff_ne, bne_eq_false_iff_eq, Bool.not_eq_true', Bool.not_eq_false', ne_eq, Int.not_lt, Int.not_le, Decidable.not_not] at g11'
      refine run_skip ?_
      refine run_seq ?_
      refine run_region ?_
      refine run_q (.none rfl) rfl rfl (q_assign rfl rfl) ?_
      refine run_nil ?_
      refine run_ret ?_
      exact end1 rfl rfl (by rw [if_neg (by omega)])

theorem exists_just (k : Int) (W : World)  : Calls Try.prog 58 #[.int .i64 k] W (Hr.Just W (.bool (decide (1 ≤ k ∧ k ≤ 4)))) := by
  refine Just.of_ret ?_
  refine enterA (X := nX) (vs := [.int .i64 k]) Try.func58 Try.ntmps58 rfl rfl Mem.nil ?_
  refine run_seq ?_
  refine run_region ?_
  refine run_q (.none rfl) rfl rfl (q_assign rfl rfl) ?_
  refine run_nil ?_
  refine run_seq ?_
  refine run_region ?_
  refine run_q (.none rfl) rfl rfl (q_move rfl rfl) ?_
  refine run_q (.none rfl) rfl rfl (q_geq rfl rfl rfl) ?_
  refine run_q (.none rfl) rfl rfl (q_move rfl rfl) ?_
  refine run_split 5 rfl (fun g5 => ?_) (fun g5 => ?_)
  · have g5' := g5
    try simp only [decide_eq_true_eq, decide_eq_false_iff_not, beq_iff_eq, beq_eq_false_iff_ne, bne_iff_ne, bne_eq_false_iff_eq, Bool.not_eq_true', Bool.not_eq_false', ne_eq, Int.not_lt, Int.not_le, Decidable.not_not] at g5'
    refine run_q (.on rfl rfl rfl g5) rfl rfl (q_move rfl rfl) ?_
    refine run_q (.on rfl rfl rfl g5) rfl rfl (q_leq rfl rfl rfl) ?_
    refine run_q (.none rfl) rfl rfl (q_pickT rfl rfl g5 rfl) ?_
    refine run_q (.none rfl) rfl rfl (q_assign rfl rfl) ?_
    refine run_nil ?_
    refine run_sub (subMk (.cons (s := 2) rfl .nil) .refl) ?_
    refine run_ret ?_
    exact end1 rfl rfl (congrArg Value.bool (by rw [Bool.eq_iff_iff]; (try simp only [decide_eq_true_eq, Bool.false_eq_true, false_iff, true_iff]); omega))
  · have g5' := g5
    try simp only [decide_eq_true_eq, decide_eq_false_iff_not, beq_iff_eq, beq_eq_false_iff_ne, bne_iff_ne, bne_eq_false_iff_eq, Bool.not_eq_true', Bool.not_eq_false', ne_eq, Int.not_lt, Int.not_le, Decidable.not_not] at g5'
    refine run_off (.no rfl rfl rfl g5) rfl rfl ?_
    refine run_off (.no rfl rfl rfl g5) rfl rfl ?_
    refine run_q (.none rfl) rfl rfl (q_pickF rfl rfl g5 rfl) ?_
    refine run_q (.none rfl) rfl rfl (q_assign rfl rfl) ?_
    refine run_nil ?_
    refine run_sub (subMk (.cons (s := 2) rfl .nil) .refl) ?_
    refine run_ret ?_
    exact end1 rfl rfl (congrArg Value.bool (by rw [Bool.eq_iff_iff]; (try simp only [decide_eq_true_eq, Bool.false_eq_true, false_iff, true_iff]); omega))

set_option maxRecDepth 100000 in
theorem first_just (l : List Int) (A : Option Addr) (ca : Nat) (W : World) (hr : Rd W A 1 (l.map encI)) (hl : l.length ≤ 1000) : Calls Try.prog 56 #[.slice A l.length ca] W (Hr.Just W (.int .i64 (Ky.fst0 l))) := by
  refine Just.of_ret ?_
  refine enterA (X := nX) (vs := [.slice A l.length ca]) Try.func56 Try.ntmps56 rfl rfl Mem.nil ?_
  refine run_seq ?_
  refine run_region ?_
  refine run_q (.none rfl) rfl rfl (q_assign rfl rfl) ?_
  refine run_nil ?_
  refine run_seq ?_
  refine run_seq ?_
  refine run_region ?_
  refine run_q (.none rfl) rfl rfl (q_move rfl rfl) ?_
  refine run_q (.none rfl) rfl rfl (q_len rfl Try.underlying147 rfl) ?_
  refine run_q (.none rfl) rfl rfl (q_move rfl rfl) ?_
  refine run_nil ?_
  refine run_block ?_
  refine run_sub (subMk (.cons (s := 7) rfl (.cons (s := 2) rfl (.cons (s := 5) rfl (.cons (s := 6) rfl .nil)))) .nil) ?_
  refine run_loopC1M0 (ι := Nat) (fun k => k ≤ l.length ∧ Ky.fst0 l = Ky.fst0 (l.drop k)) (fun k => .int .i64 (k : Int))  (fun k => l.length - k) 0 (by (try dsimp only); exact ⟨by omega, rfl⟩) rfl  ?_
  rintro k hq
  (try dsimp only at hq)
  obtain ⟨hk, hE⟩ := hq
  show Run _ _ _ _ _ _ _ ⟨(7, .int .i64 (k : Int)) :: _, _⟩
  refine run_seq ?_
  refine run_region ?_
  refine run_q (.none rfl) rfl rfl (q_lss rfl rfl rfl) ?_
  refine run_nil ?_
  refine run_seq ?_
  refine run_cond rfl (fun g8 => ?_) (fun g8 => ?_)
  · have g8' := g8
    try simp only [decide_eq_true_eq, decide_eq_false_iff_not, beq_iff_eq, beq_eq_false_iff_ne, bne_iff_ne, bne_eq_false_iff_eq, Bool.not_eq_true', Bool.not_eq_false', ne_eq, Int.not_lt, Int.not_le, Decidable.not_not] at g8'
    have hkl : k < l.length := by omega
    refine run_skip ?_
    refine run_seq ?_
    refine run_block ?_
    refine run_seq ?_
    refine run_region ?_
    refine run_q (.none rfl) rfl rfl (q_indexS (q := k) rfl Try.underlying147 sz27 rfl rfl (.inp hr .no) (by simp <;> omega) rfl (by omega)) ?_
    refine run_q (.none rfl) rfl rfl (q_loadC rfl one27 rfl (.inp hr .no) (getmap (by omega))) ?_
    refine run_q (.none rfl) rfl rfl (q_assign rfl rfl) ?_
    refine run_nil ?_
    refine run_sub (subMk (.cons (s := 2) rfl (.cons (s := 4) rfl (.cons (s := 5) rfl (.cons (s := 6) rfl (.cons (s := 7) rfl .nil))))) .refl) ?_
    refine run_seq ?_
    refine run_region ?_
    refine run_q (.none rfl) rfl rfl (q_move rfl rfl) ?_
    refine run_q (.none rfl) rfl rfl (q_neq rfl rfl rfl) ?_
    refine run_nil ?_
    refine run_cond rfl (fun g12 => ?_) (fun g12 => ?_)
    · have g12' := g12
      try simp only [decide_eq_true_eq, decide_eq_false_iff_not, beq_iff_eq, beq_eq_false_iff_ne, bne_iff_ne, bne_eq_false_iff_eq, Bool.not_eq_true', Bool.not_eq_false', ne_eq, Int.not_lt, Int.not_le, Decidable.not_not] at g12'
      refine run_seq ?_
      refine run_region ?_
      refine run_q (.none rfl) rfl rfl (q_move rfl rfl) ?_
      refine run_q (.none rfl) rfl rfl (q_assign rfl rfl) ?_
      refine run_nil ?_
      refine run_sub (subMk (.cons (s := 2) rfl (.cons (s := 5) rfl (.cons (s := 6) rfl (.cons (s := 7) rfl .nil)))) .refl) ?_
      refine run_ret ?_
      exact end1 rfl rfl (by rw [hE, Ky.fst0_hit hkl g12'])
    · have g12' := g12
      try simp only [decide_eq_true_eq, decide_eq_false_iff_not, beq_iff_eq, beq_eq_false_iff_ne, bne_iff_ne, bne_eq_false_iff_eq, Bool.not_eq_true', Bool.not_eq_false', ne_eq, Int.not_lt, Int.not_le, Decidable.not_not] at g12'
      have h0 : nth l k = 0 := by omega
      refine run_skip ?_
      refine run_blk ?_
      refine run_region ?_
      refine run_q (.none rfl) rfl rfl (q_add rfl rfl rfl (by omega)) ?_
      refine run_q (.none rfl) rfl rfl (q_move rfl rfl) ?_
      refine run_nil ?_
      refine run_sub (subMk (.cons (s := 2) rfl (.cons (s := 5) rfl (.cons (s := 6) rfl (.cons (s := 7) rfl .nil)))) .refl) ?_
      exact run_again (k + 1) (by (try dsimp only); exact ⟨by omega, by rw [hE, Ky.fst0_step hkl h0]⟩) (by (try dsimp only); omega) (subMk (.cons' (s := 7) rfl (vint (by omega)) (.cons (s := 2) rfl (.cons (s := 5) rfl (.cons (s := 6) rfl .nil)))) .nil)
  · have g8' := g8
    try simp only [decide_eq_true_eq, decide_eq_false_iff_not, beq_iff_eq, beq_eq_false_iff_ne, bne_iff_ne, bne_eq_false_iff_eq, Bool.not_eq_true', Bool.not_eq_false', ne_eq, Int.not_lt, Int.not_le, Decidable.not_not] at g8'
    refine run_exit rfl ?_
    refine run_sub (subMk (.cons (s := 2) rfl .nil) .refl) ?_
    refine run_seq ?_
    refine run_region ?_
    refine run_q (.none rfl) rfl rfl (q_assign rfl rfl) ?_
    refine run_nil ?_
    refine run_ret ?_
    exact end1 rfl rfl (by rw [hE, List.drop_eq_nil_of_le (by omega)]; rfl)

set_option maxRecDepth 100000 in
theorem semi_just  (W : World)  : Calls Try.prog 100 #[] W (Hr.Just W (.agg #[.int .i64 0, .int .i64 2, .int .i64 4, .int .i64 5, .int .i64 7, .int .i64 9, .int .i64 11])) := by
  refine Just.of_ret ?_
  refine enterA (X := nX) (vs := []) Try.func100 Try.ntmps100 rfl rfl Mem.nil ?_
  refine run_seq ?_
  refine run_region ?_
  refine run_h (.none rfl) (h_alloc rfl rfl rfl info175) ?_
  rintro b0 -
  refine run_nil ?_
  refine run_seq ?_
  refine run_region ?_
  refine run_q (.none rfl) rfl rfl (q_build rfl (.cons rfl (.cons rfl (.cons rfl (.cons rfl (.cons rfl (.cons rfl (.cons rfl PV.nil))))))) (built175p0p1p2p3p4p5p6 _ _ _ _ _ _ _)) ?_
  refine run_h (.none rfl) (h_storeB rfl rfl sz175 rfl rfl rfl rfl rfl Sel.here rfl) ?_
  rintro - -
  refine run_nil ?_
  refine run_ret ?_
  exact endG rfl (.cellN rfl agg175 Sel.here (.cons rfl (.cons rfl (.cons rfl (.cons rfl (.cons rfl (.cons rfl (.cons rfl CellsAt.nil))))))) rfl Outs.nil) _ .nil rfl

set_option maxRecDepth 100000 in
theorem pnum_just (s a o : Int) (W : World) (hin : inP s a o) : Calls Try.prog 97 #[.agg #[.int .i64 s, .int .i64 a, .int .i64 o]] W (Hr.Just W (.int .i64 (semi s + a + 12 * (o + 1)))) := by
  unfold inP at hin
  have hs := semi_bd (s := s) (by omega)
  refine Just.of_ret ?_
  refine enterA (X := nX) (vs := [.agg #[.int .i64 s, .int .i64 a, .int .i64 o]]) Try.func97 Try.ntmps97 rfl rfl Mem.nil ?_
  refine run_seq ?_
  refine run_region ?_
  refine run_h (.none rfl) (h_box rfl rfl rfl rfl rfl) ?_
  rintro b1 -
  refine run_q (.none rfl) rfl rfl (q_assign rfl rfl) ?_
  refine run_nil ?_
  refine run_seq ?_
  refine run_draw [(0, 0), (1, 0), (2, 0), (3, 0), (4, 0), (5, 0), (6, 0), (7, 0), (8, 0), (9, 0), (10, 0), (11, 0), (12, 0)] mixed (by kernel_rfl) .refl ?_
  refine d_q rfl rfl (.none rfl) rfl rfl (q_fieldB (d := 2) rfl Try.underlying150 rfl rfl sz3 rfl) ?_
  refine d_q rfl rfl (.none rfl) rfl rfl (q_loadB rfl one3 rfl Sel.here rfl) ?_
  refine d_q rfl rfl (.none rfl) rfl rfl (q_add rfl rfl rfl (by omega)) ?_
  refine d_q rfl rfl (.none rfl) rfl rfl (q_mul rfl rfl rfl (by omega)) ?_
  refine d_q rfl rfl (.none rfl) rfl rfl (q_call rfl call100 Evs.nil (fun w hk hm => semi_just w)) ?_
  refine d_q rfl rfl (.none rfl) rfl rfl (q_fieldB (d := 0) rfl Try.underlying150 rfl rfl sz3 rfl) ?_
  refine d_q rfl rfl (.none rfl) rfl rfl (q_loadB rfl one3 rfl Sel.here rfl) ?_
  refine d_q rfl rfl (.none rfl) rfl rfl (q_indexA (q := s.toNat) rfl Try.underlying175 one3 rfl rfl (by omega) (by omega) (semi_get (by omega))) ?_
  refine d_q rfl rfl (.none rfl) rfl rfl (q_add rfl rfl rfl (by omega)) ?_
  refine d_q rfl rfl (.none rfl) rfl rfl (q_fieldB (d := 1) rfl Try.underlying150 rfl rfl sz3 rfl) ?_
  refine d_q rfl rfl (.none rfl) rfl rfl (q_loadB rfl one3 rfl Sel.here rfl) ?_
  refine d_q rfl rfl (.none rfl) rfl rfl (q_add rfl rfl rfl (by omega)) ?_
  refine d_q rfl rfl (.none rfl) rfl rfl (q_assign rfl rfl) ?_
  refine d_nil ?_
  refine run_sub (subMk (.cons (s := 2) rfl .nil) .refl) ?_
  refine run_ret ?_
  exact end1 rfl rfl (vint (by omega))

set_option maxRecDepth 100000 in
theorem pcheck_just (s a o : Int) (W : World)  : Calls Try.prog 96 #[.agg #[.int .i64 s, .int .i64 a, .int .i64 o]] W (Hr.Just W (.int .i64 (if numP s a o < 0 then 18 else 0))) := by
  refine Just.of_ret ?_
  refine enterA (X := nX) (vs := [.agg #[.int .i64 s, .int .i64 a, .int .i64 o]]) Try.func96 Try.ntmps96 rfl rfl Mem.nil ?_
  refine run_seq ?_
  refine run_region ?_
  refine run_h (.none rfl) (h_box rfl rfl rfl rfl rfl) ?_
  rintro b1 -
  refine run_q (.none rfl) rfl rfl (q_assign rfl rfl) ?_
  refine run_nil ?_
  refine run_seq ?_
  refine run_seq ?_
  refine run_region ?_
  refine run_q (.none rfl) rfl rfl (q_fieldB (d := 0) rfl Try.underlying150 rfl rfl sz3 rfl) ?_
  refine run_q (.none rfl) rfl rfl (q_loadB rfl one3 rfl Sel.here rfl) ?_
  refine run_q (.none rfl) rfl rfl (q_lss rfl rfl rfl) ?_
  refine run_q (.none rfl) rfl rfl (q_move rfl rfl) ?_
  refine run_split 7 rfl (fun g7 => ?_) (fun g7 => ?_)
  · have g7' := g7
    try simp only [decide_eq_true_eq, decide_eq_false_iff_not, beq_iff_eq, beq_eq_false_iff_ne, bne_iff_ne, bne_eq_false_iff_eq, Bool.not_eq_true', Bool.not_eq_false', ne_eq, Int.not_lt, Int.not_le, Decidable.not_not] at g7'
    refine run_off (.no rfl rfl rfl g7) rfl rfl ?_
    refine run_off (.no rfl rfl rfl g7) rfl rfl ?_
    refine run_off (.no rfl rfl rfl g7) rfl rfl ?_
    refine run_q (.none rfl) rfl rfl (q_pickT rfl rfl g7 rfl) ?_
    refine run_q (.none rfl) rfl rfl (q_move rfl rfl) ?_
    refine run_off (.no rfl rfl rfl rfl) rfl rfl ?_
    refine run_off (.no rfl rfl rfl rfl) rfl rfl ?_
    refine run_off (.no rfl rfl rfl rfl) rfl rfl ?_
    refine run_q (.none rfl) rfl rfl (q_pickT rfl rfl rfl rfl) ?_
    refine run_q (.none rfl) rfl rfl (q_move rfl rfl) ?_
    refine run_off (.no rfl rfl rfl rfl) rfl rfl ?_
    refine run_off (.no rfl rfl rfl rfl) rfl rfl ?_
    refine run_off (.no rfl rfl rfl rfl) rfl rfl ?_
    refine run_q (.none rfl) rfl rfl (q_pickT rfl rfl rfl rfl) ?_
    refine run_q (.none rfl) rfl rfl (q_move rfl rfl) ?_
    refine run_off (.no rfl rfl rfl rfl) rfl rfl ?_
    refine run_off (.no rfl rfl rfl rfl) rfl rfl ?_
    refine run_off (.no rfl rfl rfl rfl) rfl rfl ?_
    refine run_q (.none rfl) rfl rfl (q_pickT rfl rfl rfl rfl) ?_
    refine run_q (.none rfl) rfl rfl (q_move rfl rfl) ?_
    refine run_off (.no rfl rfl rfl rfl) rfl rfl ?_
    refine run_off (.no rfl rfl rfl rfl) rfl rfl ?_
    refine run_off (.no rfl rfl rfl rfl) rfl rfl ?_
    refine run_q (.none rfl) rfl rfl (q_pickT rfl rfl rfl rfl) ?_
    refine run_nil ?_
    refine run_sub (subMk (.cons (s := 1) rfl (.cons (s := 2) rfl (.cons (s := 31) rfl .nil))) .refl) ?_
    refine run_condT rfl rfl ?_
    refine run_seq ?_
    refine run_region ?_
    refine run_q (.none rfl) rfl rfl (q_assign rfl rfl) ?_
    refine run_nil ?_
    refine run_ret ?_
    exact end1 rfl rfl (by rw [numP_1 (by unfold inP; omega)]; rfl)
  · have g7' := g7
    try simp only [decide_eq_true_eq, decide_eq_false_iff_not, beq_iff_eq, beq_eq_false_iff_ne, bne_iff_ne, bne_eq_false_iff_eq, Bool.not_eq_true', Bool.not_eq_false', ne_eq, Int.not_lt, Int.not_le, Decidable.not_not] at g7'
    refine run_q (.on rfl rfl rfl g7) rfl rfl (q_fieldB (d := 0) rfl Try.underlying150 rfl rfl sz3 rfl) ?_
    refine run_q (.on rfl rfl rfl g7) rfl rfl (q_loadB rfl one3 rfl Sel.here rfl) ?_
    refine run_q (.on rfl rfl rfl g7) rfl rfl (q_gtr rfl rfl rfl) ?_
    refine run_q (.none rfl) rfl rfl (q_pickF rfl rfl g7 rfl) ?_
    refine run_q (.none rfl) rfl rfl (q_move rfl rfl) ?_
    refine run_split 12 rfl (fun g12 => ?_) (fun g12 => ?_)
    · have g12' := g12
      try simp only [decide_eq_true_eq, decide_eq_false_iff_not, beq_iff_eq, beq_eq_false_iff_ne, bne_iff_ne, bne_eq_false_iff_eq, Bool.not_eq_true', Bool.not_eq_false', ne_eq, Int.not_lt, Int.not_le, Decidable.not_not] at g12'
      refine run_off (.no rfl rfl rfl g12) rfl rfl ?_
      refine run_off (.no rfl rfl rfl g12) rfl rfl ?_
      refine run_off (.no rfl rfl rfl g12) rfl rfl ?_
      refine run_q (.none rfl) rfl rfl (q_pickT rfl rfl g12 rfl) ?_
      refine run_q (.none rfl) rfl rfl (q_move rfl rfl) ?_
      refine run_off (.no rfl rfl rfl rfl) rfl rfl ?_
      refine run_off (.no rfl rfl rfl rfl) rfl rfl ?_
      refine run_off (.no rfl rfl rfl rfl) rfl rfl ?_
      refine run_q (.none rfl) rfl rfl (q_pickT rfl rfl rfl rfl) ?_
      refine run_q (.none rfl) rfl rfl (q_move rfl rfl) ?_
      refine run_off (.no rfl rfl rfl rfl) rfl rfl ?_
      refine run_off (.no rfl rfl rfl rfl) rfl rfl ?_
      refine run_off (.no rfl rfl rfl rfl) rfl rfl ?_
      refine run_q (.none rfl) rfl rfl (q_pickT rfl rfl rfl rfl) ?_
      refine run_q (.none rfl) rfl rfl (q_move rfl rfl) ?_
      refine run_off (.no rfl rfl rfl rfl) rfl rfl ?_
      refine run_off (.no rfl rfl rfl rfl) rfl rfl ?_
      refine run_off (.no rfl rfl rfl rfl) rfl rfl ?_
      refine run_q (.none rfl) rfl rfl (q_pickT rfl rfl rfl rfl) ?_
      refine run_nil ?_
      refine run_sub (subMk (.cons (s := 1) rfl (.cons (s := 2) rfl (.cons (s := 31) rfl .nil))) .refl) ?_
      refine run_condT rfl rfl ?_
      refine run_seq ?_
      refine run_region ?_
      refine run_q (.none rfl) rfl rfl (q_assign rfl rfl) ?_
      refine run_nil ?_
      refine run_ret ?_
      exact end1 rfl rfl (by rw [numP_1 (by unfold inP; omega)]; rfl)
    · have g12' := g12
      try simp only [decide_eq_true_eq, decide_eq_false_iff_not, beq_iff_eq, beq_eq_false_iff_ne, bne_iff_ne, bne_eq_false_iff_eq, Bool.not_eq_true', Bool.not_eq_false', ne_eq, Int.not_lt, Int.not_le, Decidable.not_not] at g12'
      refine run_q (.on rfl rfl rfl g12) rfl rfl (q_fieldB (d := 1) rfl Try.underlying150 rfl rfl sz3 rfl) ?_
      refine run_q (.on rfl rfl rfl g12) rfl rfl (q_loadB rfl one3 rfl Sel.here rfl) ?_
      refine run_q (.on rfl rfl rfl g12) rfl rfl (q_lss rfl rfl rfl) ?_
      refine run_q (.none rfl) rfl rfl (q_pickF rfl rfl g12 rfl) ?_
      refine run_q (.none rfl) rfl rfl (q_move rfl rfl) ?_
      refine run_split 17 rfl (fun g17 => ?_) (fun g17 => ?_)
      · have g17' := g17
        try simp only [decide_eq_true_eq, decide_eq_false_iff_not, beq_iff_eq, beq_eq_false_iff_ne, bne_iff_ne, bne_eq_false_iff_eq, Bool.not_eq_true', Bool.not_eq_false', ne_eq, Int.not_lt, Int.not_le, Decidable.not_not] at g17'
        refine run_off (.no rfl rfl rfl g17) rfl rfl ?_
        refine run_off (.no rfl rfl rfl g17) rfl rfl ?_
        refine run_off (.no rfl rfl rfl g17) rfl rfl ?_
        refine run_q (.none rfl) rfl rfl (q_pickT rfl rfl g17 rfl) ?_
        refine run_q (.none rfl) rfl rfl (q_move rfl rfl) ?_
        refine run_off (.no rfl rfl rfl rfl) rfl rfl ?_
        refine run_off (.no rfl rfl rfl rfl) rfl rfl ?_
        refine run_off (.no rfl rfl rfl rfl) rfl rfl ?_
        refine run_q (.none rfl) rfl rfl (q_pickT rfl rfl rfl rfl) ?_
        refine run_q (.none rfl) rfl rfl (q_move rfl rfl) ?_
        refine run_off (.no rfl rfl rfl rfl) rfl rfl ?_
        refine run_off (.no rfl rfl rfl rfl) rfl rfl ?_
        refine run_off (.no rfl rfl rfl rfl) rfl rfl ?_
        refine run_q (.none rfl) rfl rfl (q_pickT rfl rfl rfl rfl) ?_
        refine run_nil ?_
        refine run_sub (subMk (.cons (s := 1) rfl (.cons (s := 2) rfl (.cons (s := 31) rfl .nil))) .refl) ?_
        refine run_condT rfl rfl ?_
        refine run_seq ?_
        refine run_region ?_
        refine run_q (.none rfl) rfl rfl (q_assign rfl rfl) ?_
        refine run_nil ?_
        refine run_ret ?_
        exact end1 rfl rfl (by rw [numP_1 (by unfold inP; omega)]; rfl)
      · have g17' := g17
        try simp only [decide_eq_true_eq, decide_eq_false_iff_not, beq_iff_eq, beq_eq_false_iff_ne, bne_iff_ne, bne_eq_false_iff_eq, Bool.not_eq_true', Bool.not_eq_false', ne_eq, Int.not_lt, Int.not_le, Decidable.not_not] at g17'
        refine run_q (.on rfl rfl rfl g17) rfl rfl (q_fieldB (d := 1) rfl Try.underlying150 rfl rfl sz3 rfl) ?_
        refine run_q (.on rfl rfl rfl g17) rfl rfl (q_loadB rfl one3 rfl Sel.here rfl) ?_
        refine run_q (.on rfl rfl rfl g17) rfl rfl (q_gtr rfl rfl rfl) ?_
        refine run_q (.none rfl) rfl rfl (q_pickF rfl rfl g17 rfl) ?_
        refine run_q (.none rfl) rfl rfl (q_move rfl rfl) ?_
        refine run_split 22 rfl (fun g22 => ?_) (fun g22 => ?_)
        · have g22' := g22
          try simp only [decide_eq_true_eq, decide_eq_false_iff_not, beq_iff_eq, beq_eq_false_iff_ne, bne_iff_ne, bne_eq_false_iff_eq, Bool.not_eq_true', Bool.not_eq_false', ne_eq, Int.not_lt, Int.not_le, Decidable.not_not] at g22'
          refine run_off (.no rfl rfl rfl g22) rfl rfl ?_
          refine run_off (.no rfl rfl rfl g22) rfl rfl ?_
          refine run_off (.no rfl rfl rfl g22) rfl rfl ?_
          refine run_q (.none rfl) rfl rfl (q_pickT rfl rfl g22 rfl) ?_
          refine run_q (.none rfl) rfl rfl (q_move rfl rfl) ?_
          refine run_off (.no rfl rfl rfl rfl) rfl rfl ?_
          refine run_off (.no rfl rfl rfl rfl) rfl rfl ?_
          refine run_off (.no rfl rfl rfl rfl) rfl rfl ?_
          refine run_q (.none rfl) rfl rfl (q_pickT rfl rfl rfl rfl) ?_
          refine run_nil ?_
          refine run_sub (subMk (.cons (s := 1) rfl (.cons (s := 2) rfl (.cons (s := 31) rfl .nil))) .refl) ?_
          refine run_condT rfl rfl ?_
          refine run_seq ?_
          refine run_region ?_
          refine run_q (.none rfl) rfl rfl (q_assign rfl rfl) ?_
          refine run_nil ?_
          refine run_ret ?_
          exact end1 rfl rfl (by rw [numP_1 (by unfold inP; omega)]; rfl)
        · have g22' := g22
          try simp only [decide_eq_true_eq, decide_eq_false_iff_not, beq_iff_eq, beq_eq_false_iff_ne, bne_iff_ne, bne_eq_false_iff_eq, Bool.not_eq_true', Bool.not_eq_false', ne_eq, Int.not_lt, Int.not_le, Decidable.not_not] at g22'
          refine run_q (.on rfl rfl rfl g22) rfl rfl (q_fieldB (d := 2) rfl Try.underlying150 rfl rfl sz3 rfl) ?_
          refine run_q (.on rfl rfl rfl g22) rfl rfl (q_loadB rfl one3 rfl Sel.here rfl) ?_
          refine run_q (.on rfl rfl rfl g22) rfl rfl (q_lss rfl rfl rfl) ?_
          refine run_q (.none rfl) rfl rfl (q_pickF rfl rfl g22 rfl) ?_
          refine run_q (.none rfl) rfl rfl (q_move rfl rfl) ?_
          refine run_split 27 rfl (fun g27 => ?_) (fun g27 => ?_)
          · have g27' := g27
            try simp only [decide_eq_true_eq, decide_eq_false_iff_not, beq_iff_eq, beq_eq_false_iff_ne, bne_iff_ne, bne_eq_false_iff_eq, Bool.not_eq_true', Bool.not_eq_false', ne_eq, Int.not_lt, Int.not_le, Decidable.not_not] at g27'
            refine run_off (.no rfl rfl rfl g27) rfl rfl ?_
            refine run_off (.no rfl rfl rfl g27) rfl rfl ?_
            refine run_off (.no rfl rfl rfl g27) rfl rfl ?_
            refine run_q (.none rfl) rfl rfl (q_pickT rfl rfl g27 rfl) ?_
            refine run_nil ?_
            refine run_sub (subMk (.cons (s := 1) rfl (.cons (s := 2) rfl (.cons (s := 31) rfl .nil))) .refl) ?_
            refine run_condT rfl rfl ?_
            refine run_seq ?_
            refine run_region ?_
            refine run_q (.none rfl) rfl rfl (q_assign rfl rfl) ?_
            refine run_nil ?_
            refine run_ret ?_
            exact end1 rfl rfl (by rw [numP_1 (by unfold inP; omega)]; rfl)
          · have g27' := g27
            try simp only [decide_eq_true_eq, decide_eq_false_iff_not, beq_iff_eq, beq_eq_false_iff_ne, bne_iff_ne, bne_eq_false_iff_eq, Bool.not_eq_true', Bool.not_eq_false', ne_eq, Int.not_lt, Int.not_le, Decidable.not_not] at g27'
            refine run_q (.on rfl rfl rfl g27) rfl rfl (q_fieldB (d := 2) rfl Try.underlying150 rfl rfl sz3 rfl) ?_
            refine run_q (.on rfl rfl rfl g27) rfl rfl (q_loadB rfl one3 rfl Sel.here rfl) ?_
            refine run_q (.on rfl rfl rfl g27) rfl rfl (q_gtr rfl rfl rfl) ?_
            refine run_q (.none rfl) rfl rfl (q_pickF rfl rfl g27 rfl) ?_
            refine run_nil ?_
            refine run_sub (subMk (.cons (s := 1) rfl (.cons (s := 2) rfl (.cons (s := 31) rfl .nil))) .refl) ?_
            refine run_cond rfl (fun g31 => ?_) (fun g31 => ?_)
            · have g31' := g31
              try simp only [decide_eq_true_eq, decide_eq_false_iff_not, beq_iff_eq, beq_eq_false_iff_ne, bne_iff_ne, bne_eq_false_iff_eq, Bool.not_eq_true', Bool.not_eq_false', ne_eq, Int.not_lt, Int.not_le, Decidable.not_not] at g31'
              refine run_seq ?_
              refine run_region ?_
              refine run_q (.none rfl) rfl rfl (q_assign rfl rfl) ?_
              refine run_nil ?_
              refine run_ret ?_
              exact end1 rfl rfl (by rw [numP_1 (by unfold inP; omega)]; rfl)
            · have g31' := g31
              try simp only [decide_eq_true_eq, decide_eq_false_iff_not, beq_iff_eq, beq_eq_false_iff_ne, bne_iff_ne, bne_eq_false_iff_eq, Bool.not_eq_true', Bool.not_eq_false', ne_eq, Int.not_lt, Int.not_le, Decidable.not_not] at g31'
              have hin : inP s a o := by unfold inP; omega
              refine run_skip ?_
              refine run_seq ?_
              refine run_seq ?_
              refine run_region ?_
              refine run_q (.none rfl) rfl rfl (q_loadBN rfl agg150 rfl Sel.here (.cons rfl (.cons rfl (.cons rfl CellsAt.nil))) rfl) ?_
              refine run_q (.none rfl) rfl rfl (q_call rfl call97 (.cons rfl Evs.nil) (fun w hk hm => pnum_just s a o w hin)) ?_
              refine run_q (.none rfl) rfl rfl (q_assign rfl rfl) ?_
              refine run_nil ?_
              refine run_sub (subMk (.cons (s := 2) rfl (.cons (s := 3) rfl .nil)) .refl) ?_
              refine run_seq ?_
              refine run_region ?_
              refine run_q (.none rfl) rfl rfl (q_move rfl rfl) ?_
              refine run_q (.none rfl) rfl rfl (q_lss rfl rfl rfl) ?_
              refine run_q (.none rfl) rfl rfl (q_move rfl rfl) ?_
              refine run_split 36 rfl (fun g36 => ?_) (fun g36 => ?_)
              · have g36' := g36
                try simp only [decide_eq_true_eq, decide_eq_false_iff_not, beq_iff_eq, beq_eq_false_iff_ne, bne_iff_ne, bne_eq_false_iff_eq, Bool.not_eq_true', Bool.not_eq_false', ne_eq, Int.not_lt, Int.not_le, Decidable.not_not] at g36'
                refine run_off (.no rfl rfl rfl g36) rfl rfl ?_
                refine run_off (.no rfl rfl rfl g36) rfl rfl ?_
                refine run_q (.none rfl) rfl rfl (q_pickT rfl rfl g36 rfl) ?_
                refine run_nil ?_
                refine run_sub (subMk (.cons (s := 2) rfl (.cons (s := 39) rfl .nil)) .refl) ?_
                refine run_condT rfl rfl ?_
                refine run_seq ?_
                refine run_region ?_
                refine run_q (.none rfl) rfl rfl (q_assign rfl rfl) ?_
                refine run_nil ?_
                refine run_ret ?_
                exact end1 rfl rfl (by rw [numP_2 hin (by omega)]; rfl)
              · have g36' := g36
                try simp only [decide_eq_true_eq, decide_eq_false_iff_not, beq_iff_eq, beq_eq_false_iff_ne, bne_iff_ne, bne_eq_false_iff_eq, Bool.not_eq_true', Bool.not_eq_false', ne_eq, Int.not_lt, Int.not_le, Decidable.not_not] at g36'
                refine run_q (.on rfl rfl rfl g36) rfl rfl (q_move rfl rfl) ?_
                refine run_q (.on rfl rfl rfl g36) rfl rfl (q_gtr rfl rfl rfl) ?_
                refine run_q (.none rfl) rfl rfl (q_pickF rfl rfl g36 rfl) ?_
                refine run_nil ?_
                refine run_sub (subMk (.cons (s := 2) rfl (.cons (s := 39) rfl .nil)) .refl) ?_
                refine run_cond rfl (fun g39 => ?_) (fun g39 => ?_)
                · have g39' := g39
                  try simp only [decide_eq_true_eq, decide_eq_false_iff_not, beq_iff_eq, beq_eq_false_iff_ne, bne_iff_ne, bne_eq_false_iff_eq, Bool.not_eq_true', Bool.not_eq_false', ne_eq, Int.not_lt, Int.not_le, Decidable.not_not] at g39'
                  refine run_seq ?_
                  refine run_region ?_
                  refine run_q (.none rfl) rfl rfl (q_assign rfl rfl) ?_
                  refine run_nil ?_
                  refine run_ret ?_
                  exact end1 rfl rfl (by rw [numP_2 hin (by omega)]; rfl)
                · have g39' := g39
                  try simp only [decide_eq_true_eq, decide_eq_false_iff_not, beq_iff_eq, beq_eq_false_iff_ne, bne_iff_ne, bne_eq_false_iff_eq, Bool.not_eq_true', Bool.not_eq_false', ne_eq, Int.not_lt, Int.not_le, Decidable.not_not] at g39'
                  refine run_skip ?_
                  refine run_seq ?_
                  refine run_region ?_
                  refine run_q (.none rfl) rfl rfl (q_assign rfl rfl) ?_
                  refine run_nil ?_
                  refine run_ret ?_
                  exact end1 rfl rfl (by rw [numP_3 hin (by omega), if_neg (by omega)])

set_option maxRecDepth 100000 in
theorem pNumber_just (s a o : Int) (W : World)  : Calls Try.prog 92 #[.agg #[.int .i64 s, .int .i64 a, .int .i64 o]] W (Hr.Just W (.tuple #[.int .i64 (if numP s a o < 0 then 0 else numP s a o), .int .i64 (if numP s a o < 0 then 18 else 0)])) := by
  refine Just.of_ret ?_
  refine enterA (X := nX) (vs := [.agg #[.int .i64 s, .int .i64 a, .int .i64 o]]) Try.func92 Try.ntmps92 rfl rfl Mem.nil ?_
  refine run_seq ?_
  refine run_region ?_
  refine run_h (.none rfl) (h_box rfl rfl rfl rfl rfl) ?_
  rintro b1 -
  refine run_q (.none rfl) rfl rfl (q_assign rfl rfl) ?_
  refine run_q (.none rfl) rfl rfl (q_assign rfl rfl) ?_
  refine run_nil ?_
  refine run_seq ?_
  refine run_seq ?_
  refine run_region ?_
  refine run_q (.none rfl) rfl rfl (q_loadBN rfl agg150 rfl Sel.here (.cons rfl (.cons rfl (.cons rfl CellsAt.nil))) rfl) ?_
  refine run_q (.none rfl) rfl rfl (q_call rfl call96 (.cons rfl Evs.nil) (fun w hk hm => pcheck_just s a o w)) ?_
  refine run_q (.none rfl) rfl rfl (q_assign rfl rfl) ?_
  refine run_nil ?_
  refine run_sub (subMk (.cons (s := 1) rfl (.cons (s := 2) rfl (.cons (s := 3) rfl (.cons (s := 4) rfl .nil)))) .refl) ?_
  refine run_seq ?_
  refine run_region ?_
  refine run_q (.none rfl) rfl rfl (q_move rfl rfl) ?_
  refine run_q (.none rfl) rfl rfl (q_neq rfl rfl rfl) ?_
  refine run_nil ?_
  refine run_cond rfl (fun g8 => ?_) (fun g8 => ?_)
  · have g8' := g8
    try simp only [decide_eq_true_eq, decide_eq_false_iff_not, beq_iff_eq, beq_eq_false_iff_ne, bne_iff_ne, bne_eq_false_iff_eq, Bool.not_eq_true', Bool.not_eq_false', ne_eq, Int.not_lt, Int.not_le, Decidable.not_not] at g8'
    have hp : numP s a o < 0 := by by_cases h : numP s a o < 0; (· exact h); (· rw [if_neg h] at g8'; exact absurd rfl g8')
    refine run_seq ?_
    refine run_region ?_
    refine run_q (.none rfl) rfl rfl (q_move rfl rfl) ?_
    refine run_q (.none rfl) rfl rfl (q_assign rfl rfl) ?_
    refine run_q (.none rfl) rfl rfl (q_assign rfl rfl) ?_
    refine run_nil ?_
    refine run_sub (subMk (.cons (s := 1) rfl (.cons (s := 2) rfl (.cons (s := 3) rfl .nil))) .refl) ?_
    refine run_ret ?_
    exact end2 rfl rfl rfl (by rw [if_pos hp, if_pos hp])
  · have g8' := g8
    try simp only [decide_eq_true_eq, decide_eq_false_iff_not, beq_iff_eq, beq_eq_false_iff_ne, bne_iff_ne, bne_eq_false_iff_eq, Bool.not_eq_true', Bool.not_eq_false', ne_eq, Int.not_lt, Int.not_le, Decidable.not_not] at g8'
    have hp : 0 ≤ numP s a o := by by_cases h : numP s a o < 0; (· rw [if_pos h] at g8'; cases g8'); (· omega)
    refine run_skip ?_
    refine run_seq ?_
    refine run_region ?_
    refine run_q (.none rfl) rfl rfl (q_loadBN rfl agg150 rfl Sel.here (.cons rfl (.cons rfl (.cons rfl CellsAt.nil))) rfl) ?_
    refine run_q (.none rfl) rfl rfl (q_call rfl call97 (.cons rfl Evs.nil) (fun w hk hm => pnum_just s a o w (numP_ok hp).1)) ?_
    refine run_q (.none rfl) rfl rfl (q_assign rfl rfl) ?_
    refine run_q (.none rfl) rfl rfl (q_assign rfl rfl) ?_
    refine run_nil ?_
    refine run_sub (subMk (.cons (s := 2) rfl (.cons (s := 3) rfl .nil)) .refl) ?_
    refine run_ret ?_
    exact end2 rfl rfl rfl (by rw [if_neg (by omega), if_neg (by omega), (numP_ok hp).2])

set_option maxRecDepth 100000 in
theorem number_just (s a o : Int) (W : World)  : Calls Try.prog 83 #[.agg #[.int .i64 s, .int .i64 a, .int .i64 o]] W (Hr.Just W (.tuple #[.int .i64 (if numP s a o < 0 then 0 else numP s a o), .int .i64 (if numP s a o < 0 then 18 else 0)])) := by
  have hnb := numP_bd s a o
  refine Just.of_ret ?_
  refine enterA (X := nX) (vs := [.agg #[.int .i64 s, .int .i64 a, .int .i64 o]]) Try.func83 Try.ntmps83 rfl rfl Mem.nil ?_
  refine run_seq ?_
  refine run_region ?_
  refine run_h (.none rfl) (h_box rfl rfl rfl rfl rfl) ?_
  rintro b1 -
  refine run_q (.none rfl) rfl rfl (q_assign rfl rfl) ?_
  refine run_q (.none rfl) rfl rfl (q_assign rfl rfl) ?_
  refine run_nil ?_
  refine run_seq ?_
  refine run_region ?_
  refine run_q (.none rfl) rfl rfl (q_loadBN rfl agg150 rfl Sel.here (.cons rfl (.cons rfl (.cons rfl CellsAt.nil))) rfl) ?_
  refine run_q (.none rfl) rfl rfl (q_call rfl call92 (.cons rfl Evs.nil) (fun w hk hm => pNumber_just s a o w)) ?_
  refine run_q (.none rfl) rfl rfl (q_move rfl rfl) ?_
  refine run_q (.none rfl) rfl rfl (q_extract rfl rfl rfl) ?_
  refine run_q (.none rfl) rfl rfl (q_extract rfl rfl rfl) ?_
  refine run_q (.none rfl) rfl rfl (q_assign rfl rfl) ?_
  refine run_q (.none rfl) rfl rfl (q_assign rfl rfl) ?_
  refine run_nil ?_
  refine run_sub (subMk (.cons (s := 2) rfl (.cons (s := 3) rfl (.cons (s := 4) rfl (.cons (s := 5) rfl .nil)))) .refl) ?_
  refine run_seq ?_
  refine run_seq ?_
  refine run_region ?_
  refine run_q (.none rfl) rfl rfl (q_move rfl rfl) ?_
  refine run_q (.none rfl) rfl rfl (q_neq rfl rfl rfl) ?_
  refine run_q (.none rfl) rfl rfl (q_move rfl rfl) ?_
  refine run_split 13 rfl (fun g13 => ?_) (fun g13 => ?_)
  · have g13' := g13
    try simp only [decide_eq_true_eq, decide_eq_false_iff_not, beq_iff_eq, beq_eq_false_iff_ne, bne_iff_ne, bne_eq_false_iff_eq, Bool.not_eq_true', Bool.not_eq_false', ne_eq, Int.not_lt, Int.not_le, Decidable.not_not] at g13'
    refine run_off (.no rfl rfl rfl g13) rfl rfl ?_
    refine run_off (.no rfl rfl rfl g13) rfl rfl ?_
    refine run_q (.none rfl) rfl rfl (q_pickT rfl rfl g13 rfl) ?_
    refine run_q (.none rfl) rfl rfl (q_move rfl rfl) ?_
    refine run_off (.no rfl rfl rfl rfl) rfl rfl ?_
    refine run_off (.no rfl rfl rfl rfl) rfl rfl ?_
    refine run_q (.none rfl) rfl rfl (q_pickT rfl rfl rfl rfl) ?_
    refine run_nil ?_
    refine run_sub (subMk (.cons (s := 2) rfl (.cons (s := 3) rfl (.cons (s := 4) rfl (.cons (s := 20) rfl .nil)))) .refl) ?_
    refine run_condT rfl rfl ?_
    refine run_seq ?_
    refine run_region ?_
    refine run_q (.none rfl) rfl rfl (q_assign rfl rfl) ?_
    refine run_q (.none rfl) rfl rfl (q_assign rfl rfl) ?_
    refine run_nil ?_
    refine run_ret ?_
    exact end2 rfl rfl rfl (by rw [if_pos (by omega), if_pos (by omega)] <;> rfl)
  · have g13' := g13
    try simp only [decide_eq_true_eq, decide_eq_false_iff_not, beq_iff_eq, beq_eq_false_iff_ne, bne_iff_ne, bne_eq_false_iff_eq, Bool.not_eq_true', Bool.not_eq_false', ne_eq, Int.not_lt, Int.not_le, Decidable.not_not] at g13'
    refine run_q (.on rfl rfl rfl g13) rfl rfl (q_move rfl rfl) ?_
    refine run_q (.on rfl rfl rfl g13) rfl rfl (q_lss rfl rfl rfl) ?_
    refine run_q (.none rfl) rfl rfl (q_pickF rfl rfl g13 rfl) ?_
    refine run_q (.none rfl) rfl rfl (q_move rfl rfl) ?_
    refine run_split 17 rfl (fun g17 => ?_) (fun g17 => ?_)
    · have g17' := g17
      try simp only [decide_eq_true_eq, decide_eq_false_iff_not, beq_iff_eq, beq_eq_false_iff_ne, bne_iff_ne, bne_eq_false_iff_eq, Bool.not_eq_true', Bool.not_eq_false', ne_eq, Int.not_lt, Int.not_le, Decidable.not_not] at g17'
      refine run_off (.no rfl rfl rfl g17) rfl rfl ?_
      refine run_off (.no rfl rfl rfl g17) rfl rfl ?_
      refine run_q (.none rfl) rfl rfl (q_pickT rfl rfl g17 rfl) ?_
      refine run_nil ?_
      refine run_sub (subMk (.cons (s := 2) rfl (.cons (s := 3) rfl (.cons (s := 4) rfl (.cons (s := 20) rfl .nil)))) .refl) ?_
      refine run_condT rfl rfl ?_
      refine run_seq ?_
      refine run_region ?_
      refine run_q (.none rfl) rfl rfl (q_assign rfl rfl) ?_
      refine run_q (.none rfl) rfl rfl (q_assign rfl rfl) ?_
      refine run_nil ?_
      refine run_ret ?_
      exact end2 rfl rfl rfl (by rw [if_pos (by omega), if_pos (by omega)] <;> rfl)
    · have g17' := g17
      try simp only [decide_eq_true_eq, decide_eq_false_iff_not, beq_iff_eq, beq_eq_false_iff_ne, bne_iff_ne, bne_eq_false_iff_eq, Bool.not_eq_true', Bool.not_eq_false', ne_eq, Int.not_lt, Int.not_le, Decidable.not_not] at g17'
      refine run_q (.on rfl rfl rfl g17) rfl rfl (q_move rfl rfl) ?_
      refine run_q (.on rfl rfl rfl g17) rfl rfl (q_gtr rfl rfl rfl) ?_
      refine run_q (.none rfl) rfl rfl (q_pickF rfl rfl g17 rfl) ?_
      refine run_nil ?_
      refine run_sub (subMk (.cons (s := 2) rfl (.cons (s := 3) rfl (.cons (s := 4) rfl (.cons (s := 20) rfl .nil)))) .refl) ?_
      refine run_cond rfl (fun g20 => ?_) (fun g20 => ?_)
      · have g20' := g20
        try simp only [decide_eq_true_eq, decide_eq_false_iff_not, beq_iff_eq, beq_eq_false_iff_ne, bne_iff_ne, bne_eq_false_iff_eq, Bool.not_eq_true', Bool.not_eq_false', ne_eq, Int.not_lt, Int.not_le, Decidable.not_not] at g20'
        refine run_seq ?_
        refine run_region ?_
        refine run_q (.none rfl) rfl rfl (q_assign rfl rfl) ?_
        refine run_q (.none rfl) rfl rfl (q_assign rfl rfl) ?_
        refine run_nil ?_
        refine run_ret ?_
        exact end2 rfl rfl rfl (by rw [if_pos (by omega), if_pos (by omega)] <;> rfl)
      · have g20' := g20
        try simp only [decide_eq_true_eq, decide_eq_false_iff_not, beq_iff_eq, beq_eq_false_iff_ne, bne_iff_ne, bne_eq_false_iff_eq, Bool.not_eq_true', Bool.not_eq_false', ne_eq, Int.not_lt, Int.not_le, Decidable.not_not] at g20'
        refine run_skip ?_
        refine run_seq ?_
        refine run_region ?_
        refine run_q (.none rfl) rfl rfl (q_move rfl rfl) ?_
        refine run_q (.none rfl) rfl rfl (q_assign rfl rfl) ?_
        refine run_q (.none rfl) rfl rfl (q_assign rfl rfl) ?_
        refine run_nil ?_
        refine run_sub (subMk (.cons (s := 2) rfl (.cons (s := 3) rfl .nil)) .refl) ?_
        refine run_ret ?_
        exact end2 rfl rfl rfl (by rw [if_neg (by omega), if_neg (by omega)] <;> rfl)

set_option maxRecDepth 100000 in
theorem well_just (h : Hd) (W : World)  : Calls Try.prog 82 #[h.val] W (Hr.Just W (.int .i64 (headE h))) := by
  refine Just.of_ret ?_
  refine enterA (X := nX) (vs := [h.val]) Try.func82 Try.ntmps82 rfl rfl Mem.nil ?_
  refine run_seq ?_
  refine run_region ?_
  refine run_h (.none rfl) (h_box rfl rfl rfl rfl rfl) ?_
  rintro b1 -
  refine run_q (.none rfl) rfl rfl (q_assign rfl rfl) ?_
  refine run_nil ?_
  refine run_seq ?_
  refine run_region ?_
  refine run_q (.none rfl) rfl rfl (q_fieldB (d := 0) rfl Try.underlying152 rfl rfl sz150 rfl) ?_
  refine run_q (.none rfl) rfl rfl (q_loadBN rfl agg150 rfl Sel.here (.cons rfl (.cons rfl (.cons rfl CellsAt.nil))) rfl) ?_
  refine run_q (.none rfl) rfl rfl (q_call rfl call83 (.cons rfl Evs.nil) (fun w hk hm => number_just h.step h.alter h.oct w)) ?_
  refine run_q (.none rfl) rfl rfl (q_move rfl rfl) ?_
  refine run_q (.none rfl) rfl rfl (q_extract rfl rfl rfl) ?_
  refine run_q (.none rfl) rfl rfl (q_extract rfl rfl rfl) ?_
  refine run_q (.none rfl) rfl rfl (q_assign rfl rfl) ?_
  refine run_q (.none rfl) rfl rfl (q_assign rfl rfl) ?_
  refine run_nil ?_
  refine run_sub (subMk (.cons (s := 1) rfl (.cons (s := 2) rfl (.cons (s := 4) rfl .nil))) .refl) ?_
  refine run_seq ?_
  refine run_region ?_
  refine run_q (.none rfl) rfl rfl (q_move rfl rfl) ?_
  refine run_q (.none rfl) rfl rfl (q_fieldB (d := 4) rfl Try.underlying152 rfl rfl sz3 rfl) ?_
  refine run_q (.none rfl) rfl rfl (q_loadB rfl one3 rfl Sel.here rfl) ?_
  refine run_q (.none rfl) rfl rfl (q_call rfl call57 (.cons rfl (.cons rfl Evs.nil)) (fun w hk hm => within_just _ _ w)) ?_
  refine run_h (.none rfl) (h_buildSlice rfl rfl rfl Try.underlying147 info27 (.cons rfl rfl rfl rfl (.cons rfl rfl rfl rfl Parts.nil)) rfl (by omega)) ?_
  rintro b15 -
  refine run_q (.none rfl) rfl rfl (q_call rfl call56 (.cons rfl Evs.nil) (fun w hk hm => first_just [if h.num < 0 then 18 else 0, if h.shw < 0 ∨ 2 < h.shw then 2 else 0] (some ⟨b15, 0, none⟩) 2 w (own_rd (Sel.here.holds hm)) (by simp))) ?_
  refine run_q (.none rfl) rfl rfl (q_assign rfl rfl) ?_
  refine run_nil ?_
  refine run_sub (subMk (.cons (s := 2) rfl .nil) .refl) ?_
  refine run_ret ?_
  exact end1 rfl rfl (vint (by rw [headE, Ky.fst0]; split <;> (try simp) <;> split <;> simp [Ky.fst0]))

end Go.Proofs.YtgphmbipakdggaaR.Ev
