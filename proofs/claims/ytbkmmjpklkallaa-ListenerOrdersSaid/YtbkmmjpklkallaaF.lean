/- The layer's own function and the reference's example. -/
import Derived.Test.YtbkmmjpklkallaaE
set_option linter.unusedSimpArgs false
set_option linter.unusedVariables false
namespace Go.Proofs.Ytbkmmjpklkallaa
open Go Go.RowKit Hr

theorem sz40 : Hr.Sz Try.prog 40 3 := Hr.Sz.of (by kernel_rfl)
theorem agg40 : Hr.Agg Try.prog 40 3 := ⟨fun w => by simp [isAgg, run_underlying Try.underlying40], Hr.Sz.of (by kernel_rfl)⟩
theorem eqg40 : Try.prog.eqGuardType Try.prog.depth 40 = false := by kernel_rfl
theorem stood40 : Try.prog.stoodInHeld 40 = false := by kernel_rfl
theorem eqs40 (a0 a1 a2 b0 b1 b2 : Int) (w : World) : (Op.equalIn 10000 40 (.agg #[.int .i64 a0, .int .i64 a1, .int .i64 a2]) (.agg #[.int .i64 b0, .int .i64 b1, .int .i64 b2])).run Try.prog w = .ok (a0 == b0 && (a1 == b1 && (a2 == b2))) w := by
  rw [run_equalIn_struct w 9999 40 _ _ (by simp only [Program.fieldsOf, Try.underlying40]) stood40]
  have hz : ∀ (x y : Int) (w : World), (Op.equalIn 9999 3 (.int .i64 x) (.int .i64 y)).run Try.prog w = .ok (x == y) w := fun x y w => run_equalIn_int w 9998 3 .i64 .i64 x y Try.underlying3
  cases h0 : (a0 == b0) <;> cases h1 : (a1 == b1) <;> cases h2 : (a2 == b2) <;> simp [Program.fieldsOf, Try.underlying40, Op.eqFields, part, one3.1, hz, h0, h1, h2]
theorem built47p0p1p2p3 (x0y : Int) (x1y : Int) (x2y : Int) (x3y : Int) : Try.prog.built 47 [(0, .int .i64 x0y), (1, .int .i64 x1y), (2, .int .i64 x2y), (3, .int .i64 x3y)] = some #[.int .i64 x0y, .int .i64 x1y, .int .i64 x2y, .int .i64 x3y, .int .i64 0, .int .i64 0, .int .i64 0] := by kernel_rfl
theorem info26 : Hr.Info Try.prog 26 [.int .i64 0, .int .i64 0, .int .i64 0, .int .i64 0, .int .i64 0] 5 40 := Hr.Info.of (by kernel_rfl)
theorem built26p0p1p2p3p4 (x0y : Int) (x1y : Int) (x2y : Int) (x3y : Int) (x4y : Int) : Try.prog.built 26 [(0, .int .i64 x0y), (1, .int .i64 x1y), (2, .int .i64 x2y), (3, .int .i64 x3y), (4, .int .i64 x4y)] = some #[.int .i64 x0y, .int .i64 x1y, .int .i64 x2y, .int .i64 x3y, .int .i64 x4y] := by kernel_rfl
theorem sz26 : Hr.Sz Try.prog 26 5 := Hr.Sz.of (by kernel_rfl)
theorem call36 : Hr.Callable Try.prog 36 := fun args w => by kernel_rfl
theorem call37 : Hr.Callable Try.prog 37 := fun args w => by kernel_rfl
theorem info29 : Hr.Info Try.prog 29 [.int .i64 0] 1 8 := Hr.Info.of (by kernel_rfl)
theorem call35 : Hr.Callable Try.prog 35 := fun args w => by kernel_rfl
theorem call38 : Hr.Callable Try.prog 38 := fun args w => by kernel_rfl
theorem call30 : Hr.Callable Try.prog 30 := fun args w => by kernel_rfl
theorem call31 : Hr.Callable Try.prog 31 := fun args w => by kernel_rfl
theorem call13 : Hr.Callable Try.prog 13 := fun args w => by kernel_rfl
theorem built40p0 (x0y : Int) : Try.prog.built 40 [(0, .int .i64 x0y)] = some #[.int .i64 x0y, .int .i64 0, .int .i64 0] := by kernel_rfl
theorem call18 : Hr.Callable Try.prog 18 := fun args w => by kernel_rfl

theorem same_just (l : List Pair) (A B : Option Addr) (n ca cb : Nat) (W : World) (hra : Rd W A 3 (l.map Pair.enc)) (hrb : Rd W B 3 (l.map Pair.enc)) (hn : l.length = n) (hb : n ≤ 1000000000000) : Calls Try.prog 18 #[.slice A n ca, .slice B n cb] W (Hr.Just W (.bool true)) := by
  refine Just.of_ret ?_
  refine enterA (X := nX) (vs := [.slice A n ca, .slice B n cb]) Try.func18 Try.ntmps18 rfl rfl Mem.nil ?_
  refine run_seq ?_
  refine run_region ?_
  refine run_q (.none rfl) rfl rfl (q_assign rfl rfl) ?_
  refine run_nil ?_
  refine run_seq ?_
  refine run_seq ?_
  refine run_region ?_
  refine run_q (.none rfl) rfl rfl (q_move rfl rfl) ?_
  refine run_q (.none rfl) rfl rfl (q_len rfl Try.underlying28 rfl) ?_
  refine run_q (.none rfl) rfl rfl (q_move rfl rfl) ?_
  refine run_q (.none rfl) rfl rfl (q_len rfl Try.underlying28 rfl) ?_
  refine run_q (.none rfl) rfl rfl (q_neq rfl rfl rfl) ?_
  refine run_nil ?_
  refine run_sub (subMk (.cons (s := 0) rfl (.cons (s := 1) rfl (.cons (s := 4) rfl (.cons (s := 10) rfl .nil)))) .refl) ?_
  refine run_condF rfl (by simp) ?_
  refine run_skip ?_
  refine run_seq ?_
  refine run_seq ?_
  refine run_region ?_
  refine run_q (.none rfl) rfl rfl (q_assign rfl rfl) ?_
  refine run_nil ?_
  refine run_block ?_
  refine run_sub (subMk (.cons (s := 5) rfl (.cons (s := 0) rfl (.cons (s := 1) rfl (.cons (s := 4) rfl .nil)))) .nil) ?_
  refine run_loopC1M0 (ι := Nat) (fun k => k ≤ n) (fun k => .int .i64 (k : Int))  (fun k => n - k) 0 (by (try dsimp only); exact (by omega)) rfl  ?_
  rintro k hk
  (try dsimp only at hk)
  show Run _ _ _ _ _ _ _ ⟨(5, .int .i64 (k : Int)) :: _, _⟩
  refine run_seq ?_
  refine run_seq ?_
  refine run_region ?_
  refine run_q (.none rfl) rfl rfl (q_move rfl rfl) ?_
  refine run_q (.none rfl) rfl rfl (q_move rfl rfl) ?_
  refine run_q (.none rfl) rfl rfl (q_len rfl Try.underlying28 rfl) ?_
  refine run_q (.none rfl) rfl rfl (q_lss rfl rfl rfl) ?_
  refine run_nil ?_
  refine run_sub (subMk (.cons (s := 0) rfl (.cons (s := 1) rfl (.cons (s := 4) rfl (.cons (s := 5) rfl (.cons (s := 14) rfl .nil))))) .refl) ?_
  refine run_cond rfl (fun g14 => ?_) (fun g14 => ?_)
  · have g14' := g14
    try simp only [decide_eq_true_eq, decide_eq_false_iff_not, beq_iff_eq, beq_eq_false_iff_ne, bne_iff_ne, bne_eq_false_iff_eq, Bool.not_eq_true', Bool.not_eq_false', ne_eq, Int.not_lt, Int.not_le, Decidable.not_not] at g14'
    refine run_skip ?_
    refine run_seq ?_
    refine run_block ?_
    refine run_seq ?_
    refine run_draw [(0, 0), (1, 0), (2, 0), (3, 0), (4, 0), (5, 0), (6, 0), (7, 0), (8, 0)] mixed (by kernel_rfl) .refl ?_
    refine d_q rfl rfl (.none rfl) rfl rfl (q_move rfl rfl) ?_
    refine d_q rfl rfl (.none rfl) rfl rfl (q_move rfl rfl) ?_
    refine d_q rfl rfl (.none rfl) rfl rfl (q_indexS rfl Try.underlying28 sz40 rfl rfl (.inp hra .no) (by simp <;> omega) rfl (by omega)) ?_
    refine d_q rfl rfl (.none rfl) rfl rfl (q_loadE rfl agg40 rfl (.inp hra .no) (getmap (by omega)) rfl) ?_
    refine d_q rfl rfl (.none rfl) rfl rfl (q_move rfl rfl) ?_
    refine d_q rfl rfl (.none rfl) rfl rfl (q_move rfl rfl) ?_
    refine d_q rfl rfl (.none rfl) rfl rfl (q_indexS rfl Try.underlying28 sz40 rfl rfl (.inp hrb .no) (by simp <;> omega) rfl (by omega)) ?_
    refine d_q rfl rfl (.none rfl) rfl rfl (q_loadE rfl agg40 rfl (.inp hrb .no) (getmap (by omega)) rfl) ?_
    refine d_q rfl rfl (.none rfl) rfl rfl (q_neqS rfl rfl rfl eqg40 (fun w => eqs40 _ _ _ _ _ _ w)) ?_
    refine d_nil ?_
    refine run_sub (subMk (.cons (s := 0) rfl (.cons (s := 1) rfl (.cons (s := 4) rfl (.cons (s := 5) rfl (.cons (s := 25) rfl .nil))))) .refl) ?_
    refine run_condF rfl (by simp) ?_
    refine run_skip ?_
    refine run_blk ?_
    refine run_region ?_
    refine run_q (.none rfl) rfl rfl (q_move rfl rfl) ?_
    refine run_q (.none rfl) rfl rfl (q_add rfl rfl rfl (by omega)) ?_
    refine run_q (.none rfl) rfl rfl (q_assign rfl rfl) ?_
    refine run_nil ?_
    refine run_sub (subMk (.cons (s := 0) rfl (.cons (s := 1) rfl (.cons (s := 4) rfl (.cons (s := 5) rfl .nil)))) .refl) ?_
    exact run_again (k + 1) (by (try dsimp only); exact (by omega)) (by (try dsimp only); omega) (subMk (.cons' (s := 5) rfl rfl (.cons (s := 0) rfl (.cons (s := 1) rfl (.cons (s := 4) rfl .nil)))) .nil)
  · have g14' := g14
    try simp only [decide_eq_true_eq, decide_eq_false_iff_not, beq_iff_eq, beq_eq_false_iff_ne, bne_iff_ne, bne_eq_false_iff_eq, Bool.not_eq_true', Bool.not_eq_false', ne_eq, Int.not_lt, Int.not_le, Decidable.not_not] at g14'
    refine run_exit rfl ?_
    refine run_sub (subMk (.cons (s := 4) rfl .nil) .refl) ?_
    refine run_seq ?_
    refine run_region ?_
    refine run_q (.none rfl) rfl rfl (q_assign rfl rfl) ?_
    refine run_nil ?_
    refine run_ret ?_
    exact end1 rfl rfl rfl

theorem note_just (m n : Int) (W : World) (hm : 0 ≤ m ∧ m ≤ 1000000000) : Calls Try.prog 30 #[.int .i64 m, .int .i64 n] W (Hr.Just W (Note.val ⟨m, m + 1000, n, 64, 0, 0, 0⟩)) := by
  refine Just.of_ret ?_
  refine enterA (X := nX) (vs := [.int .i64 m, .int .i64 n]) Try.func30 Try.ntmps30 rfl rfl Mem.nil ?_
  refine run_seq ?_
  refine run_region ?_
  refine run_h (.none rfl) (h_alloc rfl rfl rfl info47) ?_
  rintro b4 -
  refine run_nil ?_
  refine run_seq ?_
  refine run_region ?_
  refine run_q (.none rfl) rfl rfl (q_move rfl rfl) ?_
  refine run_q (.none rfl) rfl rfl (q_move rfl rfl) ?_
  refine run_q (.none rfl) rfl rfl (q_add rfl rfl rfl (by omega)) ?_
  refine run_q (.none rfl) rfl rfl (q_move rfl rfl) ?_
  refine run_q (.none rfl) rfl rfl (q_build rfl (.cons rfl (.cons rfl (.cons rfl (.cons rfl PV.nil)))) (built47p0p1p2p3 _ _ _ _)) ?_
  refine run_h (.none rfl) (h_storeB rfl rfl sz47 rfl rfl rfl rfl rfl Sel.here rfl) ?_
  rintro - -
  refine run_nil ?_
  refine run_sub (subMk (.cons (s := 4) rfl .nil) .refl) ?_
  refine run_ret ?_
  exact endG rfl (.cellN rfl agg47 Sel.here (.cons rfl (.cons rfl (.cons rfl (.cons rfl (.cons rfl (.cons rfl (.cons rfl CellsAt.nil))))))) rfl Outs.nil) _ .nil rfl

theorem standard_just  (W : World)  : Calls Try.prog 31 #[] W (Hr.Just W (kC.val)) := by
  refine Just.of_ret ?_
  refine enterA (X := nX) (vs := []) Try.func31 Try.ntmps31 rfl rfl Mem.nil ?_
  refine run_seq ?_
  refine run_region ?_
  refine run_h (.none rfl) (h_alloc rfl rfl rfl info26) ?_
  rintro b0 -
  refine run_nil ?_
  refine run_seq ?_
  refine run_region ?_
  refine run_q (.none rfl) rfl rfl (q_build rfl (.cons rfl (.cons rfl (.cons rfl (.cons rfl (.cons rfl PV.nil))))) (built26p0p1p2p3p4 _ _ _ _ _)) ?_
  refine run_h (.none rfl) (h_storeB rfl rfl sz26 rfl rfl rfl rfl rfl Sel.here rfl) ?_
  rintro - -
  refine run_nil ?_
  refine run_ret ?_
  exact endG rfl (.cellN rfl agg26 Sel.here (.cons rfl (.cons rfl (.cons rfl (.cons rfl (.cons rfl CellsAt.nil))))) rfl Outs.nil) _ .nil rfl

theorem alignErr_just (c : Cost) (a b : List Note) (A B : Option Addr) (ca cb : Nat) (W : World) (hra : Rd W A 7 (a.map Note.enc)) (hrb : Rd W B 7 (b.map Note.enc)) (hla : a.length ≤ 1000000000000) (hlb : b.length ≤ 1000000000000) (he : (firstNZ [wrongL a, wrongL b, costB c]) ≠ 0) : Calls Try.prog 13 #[.slice A a.length ca, .slice B b.length cb, c.val] W (Hr.Just W (.tuple #[.slice none 0 0, .int .i64 0, .int .i64 (firstNZ [wrongL a, wrongL b, costB c])])) := by
  refine Just.of_ret ?_
  refine enterA (X := nX) (vs := [.slice A a.length ca, .slice B b.length cb, c.val]) Try.func13 Try.ntmps13 rfl rfl Mem.nil ?_
  refine run_seq ?_
  refine run_region ?_
  refine run_h (.none rfl) (h_box rfl rfl rfl rfl rfl) ?_
  rintro b5 -
  refine run_q (.none rfl) rfl rfl (q_assign rfl rfl) ?_
  refine run_q (.none rfl) rfl rfl (q_assign rfl rfl) ?_
  refine run_q (.none rfl) rfl rfl (q_assign rfl rfl) ?_
  refine run_nil ?_
  refine run_seq ?_
  refine run_seq ?_
  refine run_draw [(0, 0), (1, 0), (2, 0), (3, 0), (4, 0), (5, 0), (6, 2), (7, 2), (8, 2)] mixed (by kernel_rfl) .refl ?_
  refine d_q rfl rfl (.none rfl) rfl rfl (q_move rfl rfl) ?_
  refine d_q rfl rfl (.none rfl) rfl rfl (q_call rfl call36 (.cons rfl Evs.nil) (fun w hk hm => wrong_just a A a.length ca w (hra.kept0 hk) rfl hla)) ?_
  refine d_q rfl rfl (.none rfl) rfl rfl (q_move rfl rfl) ?_
  refine d_q rfl rfl (.none rfl) rfl rfl (q_call rfl call36 (.cons rfl Evs.nil) (fun w hk hm => wrong_just b B b.length cb w (hrb.kept0 hk) rfl hlb)) ?_
  refine d_q rfl rfl (.none rfl) rfl rfl (q_loadBN rfl agg26 rfl Sel.here (.cons rfl (.cons rfl (.cons rfl (.cons rfl (.cons rfl CellsAt.nil))))) rfl) ?_
  refine d_q rfl rfl (.none rfl) rfl rfl (q_call rfl call37 (.cons rfl Evs.nil) (fun w hk hm => check_just c w)) ?_
  refine d_t rfl rfl (.none rfl) (h_buildSlice rfl rfl rfl Try.underlying89 info29 (.cons rfl rfl rfl rfl (.cons rfl rfl rfl rfl (.cons rfl rfl rfl rfl Parts.nil))) rfl (by omega)) ?_
  rintro b18 -
  refine d_t rfl rfl (.none rfl) (.of_q rfl rfl (q_call rfl call35 (.cons rfl Evs.nil) (fun w hk hm => first_just [wrongL a, wrongL b, costB c] (some ⟨b18, 0, none⟩) 3 3 w (own_rd (Sel.here.holds hm)) (by simp) (by simp)))) ?_
  rintro - -
  refine d_t rfl rfl (.none rfl) (.of_q rfl rfl (q_assign rfl rfl)) ?_
  rintro - -
  refine d_nil ?_
  refine run_sub (subMk (.cons (s := 0) rfl (.cons (s := 1) rfl (.cons (s := 5) rfl (.cons (s := 6) rfl (.cons (s := 7) rfl (.cons (s := 8) rfl (.cons (s := 9) rfl .nil))))))) .refl) ?_
  refine run_seq ?_
  refine run_region ?_
  refine run_q (.none rfl) rfl rfl (q_move rfl rfl) ?_
  refine run_q (.none rfl) rfl rfl (q_neq rfl rfl rfl) ?_
  refine run_nil ?_
  refine run_condT rfl (by simpa using he) ?_
  refine run_seq ?_
  refine run_region ?_
  refine run_q (.none rfl) rfl rfl (q_move rfl rfl) ?_
  refine run_q (.none rfl) rfl rfl (q_assign rfl rfl) ?_
  refine run_q (.none rfl) rfl rfl (q_assign rfl rfl) ?_
  refine run_q (.none rfl) rfl rfl (q_assign rfl rfl) ?_
  refine run_nil ?_
  refine run_sub (subMk (.cons (s := 0) rfl (.cons (s := 1) rfl (.cons (s := 5) rfl (.cons (s := 6) rfl (.cons (s := 7) rfl (.cons (s := 8) rfl .nil)))))) .refl) ?_
  refine run_ret ?_
  exact end3 rfl rfl rfl rfl rfl

theorem alignOk_ret (c : Cost) (a b : List Note) (A B : Option Addr) (ca cb : Nat) (W : World) (hra : Rd W A 7 (a.map Note.enc)) (hrb : Rd W B 7 (b.map Note.enc)) (hla : a.length ≤ 1000000000000) (hlb : b.length ≤ 1000000000000) (hwa : wrongL a = 0) (hwb : wrongL b = 0) (hcc : costB c = 0) : Calls Try.prog 13 #[.slice A a.length ca, .slice B b.length cb, c.val] W (Ret W nX (fun v m => ∃ A' c', v = .tuple #[.slice A' (path c a b 0 0).length c', .int .i64 (best c a b), .int .i64 0] ∧ m = [.own 40 3 A' (path c a b 0 0).length c' ((path c a b 0 0).map Pair.enc)])) := by
  obtain ⟨hna, hla'⟩ := wrongL_ok hwa
  obtain ⟨hnb, hlb'⟩ := wrongL_ok hwb
  have hc := costB_ok hcc
  refine enterA (X := nX) (vs := [.slice A a.length ca, .slice B b.length cb, c.val]) Try.func13 Try.ntmps13 rfl rfl Mem.nil ?_
  refine run_seq ?_
  refine run_region ?_
  refine run_h (.none rfl) (h_box rfl rfl rfl rfl rfl) ?_
  rintro b5 -
  refine run_q (.none rfl) rfl rfl (q_assign rfl rfl) ?_
  refine run_q (.none rfl) rfl rfl (q_assign rfl rfl) ?_
  refine run_q (.none rfl) rfl rfl (q_assign rfl rfl) ?_
  refine run_nil ?_
  refine run_seq ?_
  refine run_seq ?_
  refine run_draw [(0, 0), (1, 0), (2, 0), (3, 0), (4, 0), (5, 0), (6, 2), (7, 2), (8, 2)] mixed (by kernel_rfl) .refl ?_
  refine d_q rfl rfl (.none rfl) rfl rfl (q_move rfl rfl) ?_
  refine d_q rfl rfl (.none rfl) rfl rfl (q_call rfl call36 (.cons rfl Evs.nil) (fun w hk hm => wrong_just a A a.length ca w (hra.kept0 hk) rfl hla)) ?_
  refine d_q rfl rfl (.none rfl) rfl rfl (q_move rfl rfl) ?_
  refine d_q rfl rfl (.none rfl) rfl rfl (q_call rfl call36 (.cons rfl Evs.nil) (fun w hk hm => wrong_just b B b.length cb w (hrb.kept0 hk) rfl hlb)) ?_
  refine d_q rfl rfl (.none rfl) rfl rfl (q_loadBN rfl agg26 rfl Sel.here (.cons rfl (.cons rfl (.cons rfl (.cons rfl (.cons rfl CellsAt.nil))))) rfl) ?_
  refine d_q rfl rfl (.none rfl) rfl rfl (q_call rfl call37 (.cons rfl Evs.nil) (fun w hk hm => check_just c w)) ?_
  refine d_t rfl rfl (.none rfl) (h_buildSlice rfl rfl rfl Try.underlying89 info29 (.cons rfl rfl rfl rfl (.cons rfl rfl rfl rfl (.cons rfl rfl rfl rfl Parts.nil))) rfl (by omega)) ?_
  rintro b18 -
  refine d_t rfl rfl (.none rfl) (.of_q rfl rfl (q_call rfl call35 (.cons rfl Evs.nil) (fun w hk hm => first_just [wrongL a, wrongL b, costB c] (some ⟨b18, 0, none⟩) 3 3 w (own_rd (Sel.here.holds hm)) (by simp) (by simp)))) ?_
  rintro - -
  refine d_t rfl rfl (.none rfl) (.of_q rfl rfl (q_assign rfl rfl)) ?_
  rintro - -
  refine d_nil ?_
  refine run_sub (subMk (.cons (s := 0) rfl (.cons (s := 1) rfl (.cons (s := 5) rfl (.cons (s := 6) rfl (.cons (s := 7) rfl (.cons (s := 8) rfl (.cons (s := 9) rfl .nil))))))) .refl) ?_
  refine run_seq ?_
  refine run_region ?_
  refine run_q (.none rfl) rfl rfl (q_move rfl rfl) ?_
  refine run_q (.none rfl) rfl rfl (q_neq rfl rfl rfl) ?_
  refine run_nil ?_
  refine run_condF rfl (by simp [firstNZ, hwa, hwb, hcc]) ?_
  refine run_skip ?_
  refine run_seq ?_
  refine run_region ?_
  refine run_q (.none rfl) rfl rfl (q_move rfl rfl) ?_
  refine run_q (.none rfl) rfl rfl (q_move rfl rfl) ?_
  refine run_q (.none rfl) rfl rfl (q_loadBN rfl agg26 rfl (.there Sel.here) (.cons rfl (.cons rfl (.cons rfl (.cons rfl (.cons rfl CellsAt.nil))))) rfl) ?_
  refine run_h (.none rfl) (h_call rfl rfl rfl call38 (.cons rfl (.cons rfl (.cons rfl Evs.nil))) (fun w hk hm => align_ret c a b A B ca cb w (hra.kept0 hk) (hrb.kept0 hk) hc hna hnb hla' hlb')) ?_
  rintro ⟨v, m⟩ ⟨A', c', rfl, rfl⟩
  show Run _ _ _ _ _ _ _ ⟨(27, .tuple #[.slice A' (path c a b 0 0).length c', .int .i64 (best c a b)]) :: _, _ :: _⟩
  refine run_q (.none rfl) rfl rfl (q_move rfl rfl) ?_
  refine run_q (.none rfl) rfl rfl (q_extract rfl rfl rfl) ?_
  refine run_q (.none rfl) rfl rfl (q_extract rfl rfl rfl) ?_
  refine run_q (.none rfl) rfl rfl (q_assign rfl rfl) ?_
  refine run_q (.none rfl) rfl rfl (q_assign rfl rfl) ?_
  refine run_nil ?_
  refine run_sub (subMk (.cons (s := 6) rfl (.cons (s := 7) rfl (.cons (s := 8) rfl (.cons (s := 10) rfl (.cons (s := 11) rfl .nil))))) .refl) ?_
  refine run_seq ?_
  refine run_region ?_
  refine run_q (.none rfl) rfl rfl (q_move rfl rfl) ?_
  refine run_q (.none rfl) rfl rfl (q_move rfl rfl) ?_
  refine run_q (.none rfl) rfl rfl (q_assign rfl rfl) ?_
  refine run_q (.none rfl) rfl rfl (q_assign rfl rfl) ?_
  refine run_q (.none rfl) rfl rfl (q_assign rfl rfl) ?_
  refine run_nil ?_
  refine run_sub (subMk (.cons (s := 6) rfl (.cons (s := 7) rfl (.cons (s := 8) rfl .nil))) .refl) ?_
  refine run_ret ?_
  refine run_sub (subMk .refl (.cons Sel.here .refl .nil)) ?_
  exact end3 rfl rfl rfl rfl ⟨A', c', rfl, rfl⟩

theorem known_just  (W : World)  : Calls Try.prog 14 #[] W (Hr.Just W (.bool true)) := by
  refine Just.of_ret ?_
  refine enterA (X := nX) (vs := []) Try.func14 Try.ntmps14 rfl rfl Mem.nil ?_
  refine run_seq ?_
  refine run_region ?_
  refine run_q (.none rfl) rfl rfl (q_assign rfl rfl) ?_
  refine run_nil ?_
  refine run_seq ?_
  refine run_region ?_
  refine run_q (.none rfl) rfl rfl (q_call rfl call30 (.cons rfl (.cons rfl Evs.nil)) (fun w hk hm => note_just _ _ w (by decide))) ?_
  refine run_q (.none rfl) rfl rfl (q_call rfl call30 (.cons rfl (.cons rfl Evs.nil)) (fun w hk hm => note_just _ _ w (by decide))) ?_
  refine run_q (.none rfl) rfl rfl (q_call rfl call30 (.cons rfl (.cons rfl Evs.nil)) (fun w hk hm => note_just _ _ w (by decide))) ?_
  refine run_h (.none rfl) (h_buildSlice rfl rfl rfl Try.underlying22 info47 (.cons rfl rfl rfl rfl (.cons rfl rfl rfl rfl (.cons rfl rfl rfl rfl Parts.nil))) rfl (by omega)) ?_
  rintro b8 -
  refine run_q (.none rfl) rfl rfl (q_call rfl call30 (.cons rfl (.cons rfl Evs.nil)) (fun w hk hm => note_just _ _ w (by decide))) ?_
  refine run_q (.none rfl) rfl rfl (q_call rfl call30 (.cons rfl (.cons rfl Evs.nil)) (fun w hk hm => note_just _ _ w (by decide))) ?_
  refine run_h (.none rfl) (h_buildSlice rfl rfl rfl Try.underlying22 info47 (.cons rfl rfl rfl rfl (.cons rfl rfl rfl rfl Parts.nil)) rfl (by omega)) ?_
  rintro b11 -
  refine run_q (.none rfl) rfl rfl (q_call rfl call31 Evs.nil (fun w hk hm => standard_just w)) ?_
  refine run_h (.none rfl) (h_call rfl rfl rfl call13 (.cons rfl (.cons rfl (.cons rfl Evs.nil))) (fun w hk hm => alignOk_ret kC kA kB (some ⟨b8, 0, none⟩) (some ⟨b11, 0, none⟩) 3 2 w (own_rd ((Sel.there Sel.here).holds hm)) (own_rd (Sel.here.holds hm)) (by decide) (by decide) (by decide) (by decide) (by decide))) ?_
  rw [known_best, known_path]
  rintro ⟨v, m⟩ ⟨A', c', rfl, rfl⟩
  show Run _ _ _ _ _ _ _ ⟨(13, .tuple #[.slice A' 3 c', .int .i64 60, .int .i64 0]) :: _, _ :: _⟩
  refine run_q (.none rfl) rfl rfl (q_move rfl rfl) ?_
  refine run_q (.none rfl) rfl rfl (q_extract rfl rfl rfl) ?_
  refine run_q (.none rfl) rfl rfl (q_extract rfl rfl rfl) ?_
  refine run_q (.none rfl) rfl rfl (q_extract rfl rfl rfl) ?_
  refine run_q (.none rfl) rfl rfl (q_assign rfl rfl) ?_
  refine run_q (.none rfl) rfl rfl (q_assign rfl rfl) ?_
  refine run_q (.none rfl) rfl rfl (q_assign rfl rfl) ?_
  refine run_nil ?_
  refine run_sub (subMk (.cons (s := 0) rfl (.cons (s := 1) rfl (.cons (s := 2) rfl (.cons (s := 3) rfl .nil)))) .refl) ?_
  refine run_seq ?_
  refine run_region ?_
  refine run_q (.none rfl) rfl rfl (q_move rfl rfl) ?_
  refine run_q (.none rfl) rfl rfl (q_eql rfl rfl rfl) ?_
  refine run_q (.none rfl) rfl rfl (q_move rfl rfl) ?_
  refine run_q (.on rfl rfl rfl rfl) rfl rfl (q_move rfl rfl) ?_
  refine run_q (.on rfl rfl rfl rfl) rfl rfl (q_eql rfl rfl rfl) ?_
  refine run_q (.none rfl) rfl rfl (q_pickT rfl rfl rfl rfl) ?_
  refine run_q (.none rfl) rfl rfl (q_move rfl rfl) ?_
  refine run_q (.on rfl rfl rfl rfl) rfl rfl (q_move rfl rfl) ?_
  refine run_q (.on rfl rfl rfl rfl) rfl rfl (q_build rfl (.cons rfl PV.nil) (built40p0 _)) ?_
  refine run_q (.on rfl rfl rfl rfl) rfl rfl (q_build rfl (.cons rfl (.cons rfl (.cons rfl PV.nil))) (built40p0p1p2 _ _ _)) ?_
  refine run_q (.on rfl rfl rfl rfl) rfl rfl (q_build rfl (.cons rfl (.cons rfl (.cons rfl PV.nil))) (built40p0p1p2 _ _ _)) ?_
  refine run_h (.on rfl rfl rfl rfl) (h_buildSlice rfl rfl rfl Try.underlying28 info40 (.cons rfl rfl rfl rfl (.cons rfl rfl rfl rfl (.cons rfl rfl rfl rfl Parts.nil))) rfl (by omega)) ?_
  rintro b28 -
  refine run_q (.on rfl rfl rfl rfl) rfl rfl (q_call rfl call18 (.cons rfl (.cons rfl Evs.nil)) (fun w hk hm => same_just kP A' (some ⟨b28, 0, none⟩) 3 c' 3 w (own_rd ((Sel.there Sel.here).holds hm)) (own_rd (Sel.here.holds hm)) rfl (by decide))) ?_
  refine run_q (.none rfl) rfl rfl (q_pickT rfl rfl rfl rfl) ?_
  refine run_q (.none rfl) rfl rfl (q_assign rfl rfl) ?_
  refine run_nil ?_
  refine run_sub (subMk (.cons (s := 0) rfl .nil) .refl) ?_
  refine run_ret ?_
  exact end1 rfl rfl rfl

end Go.Proofs.Ytbkmmjpklkallaa
