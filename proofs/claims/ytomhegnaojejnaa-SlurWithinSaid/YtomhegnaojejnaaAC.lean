/- Samples of a curve. -/
import Derived.Test.YtomhegnaojejnaaK
import Derived.Test.YtomhegnaojejnaaSamp
import Derived.Test.YtomhegnaojejnaaAryn
set_option linter.unusedSimpArgs false
set_option linter.unusedVariables false
namespace Go.Proofs.Ytomhegnaojejnaa
open Go Go.RowKit Hr

theorem sz5 : Hr.Sz Try.prog 5 1 := Hr.Sz.of (by kernel_rfl)
theorem one5 : Hr.One Try.prog 5 := ⟨fun w => by simp [isAgg, run_underlying Try.underlying5], Hr.Sz.of (by kernel_rfl)⟩
theorem info107 : Hr.Info Try.prog 107 [.int .i64 0, .int .i64 0, .int .i64 0, .int .i64 0, .int .i64 0, .int .i64 0, .int .i64 0] 7 56 := Hr.Info.of (by kernel_rfl)
theorem built107p0p1p2p3p4p5p6 (x0y : Int) (x1y : Int) (x2y : Int) (x3y : Int) (x4y : Int) (x5y : Int) (x6y : Int) : Try.prog.built 107 [(0, .int .i64 x0y), (1, .int .i64 x1y), (2, .int .i64 x2y), (3, .int .i64 x3y), (4, .int .i64 x4y), (5, .int .i64 x5y), (6, .int .i64 x6y)] = some #[.int .i64 x0y, .int .i64 x1y, .int .i64 x2y, .int .i64 x3y, .int .i64 x4y, .int .i64 x5y, .int .i64 x6y] := by kernel_rfl
theorem sz107 : Hr.Sz Try.prog 107 7 := Hr.Sz.of (by kernel_rfl)
theorem agg107 : Hr.Agg Try.prog 107 7 := ⟨fun w => by simp [isAgg, run_underlying Try.underlying107], Hr.Sz.of (by kernel_rfl)⟩
theorem call61 : Hr.Callable Try.prog 61 := fun args w => by kernel_rfl
theorem call41 : Hr.Callable Try.prog 41 := fun args w => by kernel_rfl
theorem call16 : Hr.Callable Try.prog 16 := fun args w => by kernel_rfl
theorem eqg25 : Try.prog.eqGuardType Try.prog.depth 25 = false := by kernel_rfl
theorem stood25 : Try.prog.stoodInHeld 25 = false := by kernel_rfl
theorem stood23 : Try.prog.stoodInHeld 23 = false := by kernel_rfl
set_option maxRecDepth 100000 in
theorem eqs23d9999 (a0 : Int) (a1 : Int) (b0 : Int) (b1 : Int) (w : World) : (Op.equalIn 9999 23 (.agg #[.int .i64 a0, .int .i64 a1]) (.agg #[.int .i64 b0, .int .i64 b1])).run Try.prog w = .ok (a0 == b0 && (a1 == b1)) w := by
  rw [run_equalIn_struct w 9998 23 _ _ (by simp only [Program.fieldsOf, Try.underlying23]) stood23]
  simp only [Program.fieldsOf, Try.underlying23]
  exact Eq.trans (eqF_cons (by decide) (part_one one3 rfl) (part_one one3 rfl) (run_equalIn_int w 9997 3 .i64 .i64 a0 b0 Try.underlying3) (eqF_cons (by decide) (part_one one3 rfl) (part_one one3 rfl) (run_equalIn_int w 9997 3 .i64 .i64 a1 b1 Try.underlying3) eqF_nil)) (by simp only [Bool.and_true, Bool.and_assoc, strEq])
set_option maxRecDepth 100000 in
theorem eqs25 (a0 : Int) (a1 : Int) (a2 : Int) (a3 : Int) (a4 : Int) (a5 : Int) (a6 : Int) (a7 : Int) (a8 : Int) (a9 : Int) (a10 : Bool) (a11 : Bool) (b0 : Int) (b1 : Int) (b2 : Int) (b3 : Int) (b4 : Int) (b5 : Int) (b6 : Int) (b7 : Int) (b8 : Int) (b9 : Int) (b10 : Bool) (b11 : Bool) (w : World) : (Op.equalIn 10000 25 (.agg #[.int .i64 a0, .int .i64 a1, .int .i64 a2, .int .i64 a3, .int .i64 a4, .int .i64 a5, .int .i64 a6, .int .i64 a7, .int .i64 a8, .int .i64 a9, .bool a10, .bool a11]) (.agg #[.int .i64 b0, .int .i64 b1, .int .i64 b2, .int .i64 b3, .int .i64 b4, .int .i64 b5, .int .i64 b6, .int .i64 b7, .int .i64 b8, .int .i64 b9, .bool b10, .bool b11])).run Try.prog w = .ok (a0 == b0 && (a1 == b1 && (a2 == b2 && (a3 == b3 && (a4 == b4 && (a5 == b5 && (a6 == b6 && (a7 == b7 && (a8 == b8 && (a9 == b9 && (a10 == b10 && (a11 == b11)))))))))))) w := by
  rw [run_equalIn_struct w 9999 25 _ _ (by simp only [Program.fieldsOf, Try.underlying25]) stood25]
  simp only [Program.fieldsOf, Try.underlying25]
  exact Eq.trans (eqF_cons (by decide) (part_one one3 rfl) (part_one one3 rfl) (run_equalIn_int w 9998 3 .i64 .i64 a0 b0 Try.underlying3) (eqF_cons (by decide) (part_one one3 rfl) (part_one one3 rfl) (run_equalIn_int w 9998 3 .i64 .i64 a1 b1 Try.underlying3) (eqF_cons (by decide) (part_one one3 rfl) (part_one one3 rfl) (run_equalIn_int w 9998 3 .i64 .i64 a2 b2 Try.underlying3) (eqF_cons (by decide) (part_one one3 rfl) (part_one one3 rfl) (run_equalIn_int w 9998 3 .i64 .i64 a3 b3 Try.underlying3) (eqF_cons (by decide) (part_agg agg23 rfl) (part_agg agg23 rfl) (eqs23d9999 a4 a5 b4 b5 w) (eqF_cons (by decide) (part_one one3 rfl) (part_one one3 rfl) (run_equalIn_int w 9998 3 .i64 .i64 a6 b6 Try.underlying3) (eqF_cons (by decide) (part_one one3 rfl) (part_one one3 rfl) (run_equalIn_int w 9998 3 .i64 .i64 a7 b7 Try.underlying3) (eqF_cons (by decide) (part_one one3 rfl) (part_one one3 rfl) (run_equalIn_int w 9998 3 .i64 .i64 a8 b8 Try.underlying3) (eqF_cons (by decide) (part_one one3 rfl) (part_one one3 rfl) (run_equalIn_int w 9998 3 .i64 .i64 a9 b9 Try.underlying3) (eqF_cons (by decide) (part_one one4 rfl) (part_one one4 rfl) (run_equalIn_bool' w 9998 4 a10 b10 Try.underlying4) (eqF_cons (by decide) (part_one one4 rfl) (part_one one4 rfl) (run_equalIn_bool' w 9998 4 a11 b11 Try.underlying4) eqF_nil))))))))))) (by simp only [Bool.and_true, Bool.and_assoc, strEq])
theorem call18 : Hr.Callable Try.prog 18 := fun args w => by kernel_rfl
theorem call29 : Hr.Callable Try.prog 29 := fun args w => by kernel_rfl
theorem call28 : Hr.Callable Try.prog 28 := fun args w => by kernel_rfl
theorem info40 : Hr.Info Try.prog 40 [.int .i64 0, .slice none 0 0] 2 32 := Hr.Info.of (by kernel_rfl)
theorem sz34 : Hr.Sz Try.prog 34 1 := Hr.Sz.of (by kernel_rfl)
theorem one34 : Hr.One Try.prog 34 := ⟨fun w => by simp [isAgg, run_underlying Try.underlying34], Hr.Sz.of (by kernel_rfl)⟩
theorem built40p0 (x0y : Int) : Try.prog.built 40 [(0, .int .i64 x0y)] = some #[.int .i64 x0y, .slice none 0 0] := by kernel_rfl
theorem sz40 : Hr.Sz Try.prog 40 2 := Hr.Sz.of (by kernel_rfl)
theorem sz85 : Hr.Sz Try.prog 85 1 := Hr.Sz.of (by kernel_rfl)
theorem one85 : Hr.One Try.prog 85 := ⟨fun w => by simp [isAgg, run_underlying Try.underlying85], Hr.Sz.of (by kernel_rfl)⟩
theorem agg40 : Hr.Agg Try.prog 40 2 := ⟨fun w => by simp [isAgg, run_underlying Try.underlying40], Hr.Sz.of (by kernel_rfl)⟩
theorem agg36 : Hr.Agg Try.prog 36 2 := ⟨fun w => by simp [isAgg, run_underlying Try.underlying36], Hr.Sz.of (by kernel_rfl)⟩
theorem call19 : Hr.Callable Try.prog 19 := fun args w => by kernel_rfl
theorem call26 : Hr.Callable Try.prog 26 := fun args w => by kernel_rfl
theorem call52 : Hr.Callable Try.prog 52 := fun args w => by kernel_rfl
theorem built49p0p1p2p3p4p6 (x0y : Int) (x1y : Int) (x2y : Int) (x3y : Int) (x4y : Int) (x6y0 : Int) (x6y1 : Int) : Try.prog.built 49 [(0, .int .i64 x0y), (1, .int .i64 x1y), (2, .int .i64 x2y), (3, .int .i64 x3y), (4, .int .i64 x4y), (6, .agg #[.int .i64 x6y0, .int .i64 x6y1])] = some #[.int .i64 x0y, .int .i64 x1y, .int .i64 x2y, .int .i64 x3y, .int .i64 x4y, .int .i64 0, .int .i64 x6y0, .int .i64 x6y1, .int .i64 0, .int .i64 0, .int .i64 0, .int .i64 0] := by kernel_rfl
theorem agg49 : Hr.Agg Try.prog 49 12 := ⟨fun w => by simp [isAgg, run_underlying Try.underlying49], Hr.Sz.of (by kernel_rfl)⟩
theorem call50 : Hr.Callable Try.prog 50 := fun args w => by kernel_rfl
theorem call51 : Hr.Callable Try.prog 51 := fun args w => by kernel_rfl
theorem call22 : Hr.Callable Try.prog 22 := fun args w => by kernel_rfl
theorem call24 : Hr.Callable Try.prog 24 := fun args w => by kernel_rfl
theorem call23 : Hr.Callable Try.prog 23 := fun args w => by kernel_rfl
theorem eqg49 : Try.prog.eqGuardType Try.prog.depth 49 = false := by kernel_rfl
theorem stood49 : Try.prog.stoodInHeld 49 = false := by kernel_rfl
set_option maxRecDepth 100000 in
theorem eqs47d9999 (a0 a1 a2 a3 b0 b1 b2 b3 : Int) (w : World) : (Op.equalIn 9999 47 (.agg #[.int .i64 a0, .int .i64 a1, .int .i64 a2, .int .i64 a3]) (.agg #[.int .i64 b0, .int .i64 b1, .int .i64 b2, .int .i64 b3])).run Try.prog w = .ok (a0 == b0 && (a1 == b1 && (a2 == b2 && (a3 == b3)))) w := by
  rw [run_equalIn_struct w 9998 47 _ _ (by simp only [Program.fieldsOf, Try.underlying47]) stood47]
  simp only [Program.fieldsOf, Try.underlying47]
  exact Eq.trans (eqF_cons (by decide) (part_one one3 rfl) (part_one one3 rfl) (run_equalIn_int w 9997 3 .i64 .i64 a0 b0 Try.underlying3) (eqF_cons (by decide) (part_one one3 rfl) (part_one one3 rfl) (run_equalIn_int w 9997 3 .i64 .i64 a1 b1 Try.underlying3) (eqF_cons (by decide) (part_one one3 rfl) (part_one one3 rfl) (run_equalIn_int w 9997 3 .i64 .i64 a2 b2 Try.underlying3) (eqF_cons (by decide) (part_one one3 rfl) (part_one one3 rfl) (run_equalIn_int w 9997 3 .i64 .i64 a3 b3 Try.underlying3) eqF_nil)))) (by simp only [Bool.and_true, Bool.and_assoc])
set_option maxRecDepth 100000 in
theorem eqs49 (a0 a1 a2 a3 a4 a5 a6 a7 a8 a9 a10 a11 b0 b1 b2 b3 b4 b5 b6 b7 b8 b9 b10 b11 : Int) (w : World) : (Op.equalIn 10000 49 (.agg #[.int .i64 a0, .int .i64 a1, .int .i64 a2, .int .i64 a3, .int .i64 a4, .int .i64 a5, .int .i64 a6, .int .i64 a7, .int .i64 a8, .int .i64 a9, .int .i64 a10, .int .i64 a11]) (.agg #[.int .i64 b0, .int .i64 b1, .int .i64 b2, .int .i64 b3, .int .i64 b4, .int .i64 b5, .int .i64 b6, .int .i64 b7, .int .i64 b8, .int .i64 b9, .int .i64 b10, .int .i64 b11])).run Try.prog w = .ok (a0 == b0 && (a1 == b1 && (a2 == b2 && (a3 == b3 && (a4 == b4 && (a5 == b5 && (a6 == b6 && (a7 == b7 && (a8 == b8 && (a9 == b9 && (a10 == b10 && (a11 == b11)))))))))))) w := by
  rw [run_equalIn_struct w 9999 49 _ _ (by simp only [Program.fieldsOf, Try.underlying49]) stood49]
  simp only [Program.fieldsOf, Try.underlying49]
  exact Eq.trans (eqF_cons (by decide) (part_one one3 rfl) (part_one one3 rfl) (run_equalIn_int w 9998 3 .i64 .i64 a0 b0 Try.underlying3) (eqF_cons (by decide) (part_one one3 rfl) (part_one one3 rfl) (run_equalIn_int w 9998 3 .i64 .i64 a1 b1 Try.underlying3) (eqF_cons (by decide) (part_one one3 rfl) (part_one one3 rfl) (run_equalIn_int w 9998 3 .i64 .i64 a2 b2 Try.underlying3) (eqF_cons (by decide) (part_one one3 rfl) (part_one one3 rfl) (run_equalIn_int w 9998 3 .i64 .i64 a3 b3 Try.underlying3) (eqF_cons (by decide) (part_one one3 rfl) (part_one one3 rfl) (run_equalIn_int w 9998 3 .i64 .i64 a4 b4 Try.underlying3) (eqF_cons (by decide) (part_one one3 rfl) (part_one one3 rfl) (run_equalIn_int w 9998 3 .i64 .i64 a5 b5 Try.underlying3) (eqF_cons (by decide) (part_agg agg23 rfl) (part_agg agg23 rfl) (eqs23d9999 a6 a7 b6 b7 w) (eqF_cons (by decide) (part_agg agg47 rfl) (part_agg agg47 rfl) (eqs47d9999 a8 a9 a10 a11 b8 b9 b10 b11 w) eqF_nil)))))))) (by simp only [Bool.and_true, Bool.and_assoc])
theorem call68 : Hr.Callable Try.prog 68 := fun args w => by kernel_rfl
theorem call75 : Hr.Callable Try.prog 75 := fun args w => by kernel_rfl
theorem call67 : Hr.Callable Try.prog 67 := fun args w => by kernel_rfl
theorem agg70 : Hr.Agg Try.prog 70 8 := ⟨fun w => by simp [isAgg, run_underlying Try.underlying70], Hr.Sz.of (by kernel_rfl)⟩
theorem agg69 : Hr.Agg Try.prog 69 2 := ⟨fun w => by simp [isAgg, run_underlying Try.underlying69], Hr.Sz.of (by kernel_rfl)⟩
theorem info69 : Hr.Info Try.prog 69 [.int .i64 0, .int .i64 0] 2 16 := Hr.Info.of (by kernel_rfl)
theorem sz69 : Hr.Sz Try.prog 69 2 := Hr.Sz.of (by kernel_rfl)
theorem call56 : Hr.Callable Try.prog 56 := fun args w => by kernel_rfl
theorem built103p0p1p2p3 (x0y : Int) (x1y : Int) (x2y : Int) (x3y : Int) : Try.prog.built 103 [(0, .int .i64 x0y), (1, .int .i64 x1y), (2, .int .i64 x2y), (3, .int .i64 x3y)] = some #[.int .i64 x0y, .int .i64 x1y, .int .i64 x2y, .int .i64 x3y] := by kernel_rfl
theorem info103 : Hr.Info Try.prog 103 [.int .i64 0, .int .i64 0, .int .i64 0, .int .i64 0] 4 32 := Hr.Info.of (by kernel_rfl)
theorem sz103 : Hr.Sz Try.prog 103 4 := Hr.Sz.of (by kernel_rfl)
theorem call57 : Hr.Callable Try.prog 57 := fun args w => by kernel_rfl
theorem built69p0p1 (x0y : Int) (x1y : Int) : Try.prog.built 69 [(0, .int .i64 x0y), (1, .int .i64 x1y)] = some #[.int .i64 x0y, .int .i64 x1y] := by kernel_rfl

set_option maxRecDepth 100000 in
theorem within1_just (z L : Int) (b : Nat) (W : World) (hb : Rd W (some ⟨b, 0, none⟩) 1 [[.int .i64 L]]) (hL : 0 ≤ L ∧ L ≤ 1099511627776) : Calls Try.prog 68 #[.int .i64 z, .pointer (some ((adr (some ⟨b, 0, none⟩)).add (0 * 1)))] W (Hr.Just W (.bool (outL L z))) := by
  refine Just.of_ret ?_
  refine enterA (X := nX) (vs := [.int .i64 z, .pointer (some ((adr (some ⟨b, 0, none⟩)).add (0 * 1)))]) Try.func68 Try.ntmps68 rfl rfl Mem.nil ?_
  refine run_seq ?_
  refine run_region ?_
  refine run_q (.none rfl) rfl rfl (q_assign rfl rfl) ?_
  refine run_nil ?_
  refine run_seq ?_
  refine run_region ?_
  refine run_q (.none rfl) rfl rfl (q_move rfl rfl) ?_
  refine run_q (.none rfl) rfl rfl (q_loadC rfl one3 rfl (.inp hb .no) (show ([[.int .i64 L]] : List (List Value))[0]? = some [.int .i64 L] from rfl)) ?_
  refine run_q (.none rfl) rfl rfl (q_neg rfl rfl (by omega)) ?_
  refine run_q (.none rfl) rfl rfl (q_lss rfl rfl rfl) ?_
  refine run_q (.none rfl) rfl rfl (q_move rfl rfl) ?_
  refine run_split 8 rfl (fun g8 => ?_) (fun g8 => ?_)
  · have g8' := g8
    try simp only [decide_eq_true_eq, decide_eq_false_iff_not, beq_iff_eq, beq_eq_false_iff_ne, bne_iff_ne, bne_eq_false_iff_eq, Bool.not_eq_true', Bool.not_eq_false', ne_eq, Int.not_lt, Int.not_le, Decidable.not_not] at g8'
    refine run_off (.no rfl rfl rfl g8) rfl rfl ?_
    refine run_off (.no rfl rfl rfl g8) rfl rfl ?_
    refine run_off (.no rfl rfl rfl g8) rfl rfl ?_
    refine run_q (.none rfl) rfl rfl (q_pickT rfl rfl g8 rfl) ?_
    refine run_q (.none rfl) rfl rfl (q_assign rfl rfl) ?_
    refine run_nil ?_
    refine run_sub (subMk (.cons (s := 3) rfl .nil) .refl) ?_
    refine run_ret ?_
    exact end1 rfl rfl (congrArg Value.bool (by rw [outL, decide_eq_true (show z < -L by omega), Bool.true_or]))
  · have g8' := g8
    try simp only [decide_eq_true_eq, decide_eq_false_iff_not, beq_iff_eq, beq_eq_false_iff_ne, bne_iff_ne, bne_eq_false_iff_eq, Bool.not_eq_true', Bool.not_eq_false', ne_eq, Int.not_lt, Int.not_le, Decidable.not_not] at g8'
    refine run_q (.on rfl rfl rfl g8) rfl rfl (q_move rfl rfl) ?_
    refine run_q (.on rfl rfl rfl g8) rfl rfl (q_loadC rfl one3 rfl (.inp hb .no) (show ([[.int .i64 L]] : List (List Value))[0]? = some [.int .i64 L] from rfl)) ?_
    refine run_q (.on rfl rfl rfl g8) rfl rfl (q_gtr rfl rfl rfl) ?_
    refine run_q (.none rfl) rfl rfl (q_pickF rfl rfl g8 rfl) ?_
    refine run_q (.none rfl) rfl rfl (q_assign rfl rfl) ?_
    refine run_nil ?_
    refine run_sub (subMk (.cons (s := 3) rfl .nil) .refl) ?_
    refine run_ret ?_
    exact end1 rfl rfl (congrArg Value.bool (by rw [outL, decide_eq_false (show ¬ z < -L by omega), Bool.false_or]))

theorem idxOut (l : List Int) (A : Option Addr) (ca : Nat) (L : Int) (b : Nat) (W : World) (hr : Rd W A 1 (l.map encI)) (hl : l.length ≤ 1000000) (hb : Rd W (some ⟨b, 0, none⟩) 1 [[.int .i64 L]]) (hL : 0 ≤ L ∧ L ≤ 1099511627776) : Calls Try.prog 75 #[.slice A l.length ca, .func (.func 68) #[] #[.pointer (some ⟨b, 0, none⟩)]] W (Hr.Just W (.int .i64 (Flt.idxV (outL L) l))) := by
  refine Just.of_ret ?_
  refine enterA (X := nX) (vs := [.slice A l.length ca, .func (.func 68) #[] #[.pointer (some ⟨b, 0, none⟩)]]) Try.func75 Try.ntmps75 rfl rfl Mem.nil ?_
  refine run_seq ?_
  refine run_region ?_
  refine run_q (.none rfl) rfl rfl (q_assign rfl rfl) ?_
  refine run_nil ?_
  refine run_seq ?_
  refine run_seq ?_
  refine run_region ?_
  refine run_q (.none rfl) rfl rfl (q_move rfl rfl) ?_
  refine run_q (.none rfl) rfl rfl (q_len rfl Try.underlying38 rfl) ?_
  refine run_q (.none rfl) rfl rfl (q_move rfl rfl) ?_
  refine run_nil ?_
  refine run_block ?_
  refine run_sub (subMk (.cons (s := 8) rfl (.cons (s := 0) rfl (.cons (s := 1) rfl (.cons (s := 4) rfl (.cons (s := 7) rfl .nil))))) .nil) ?_
  refine run_loopC1M0 (ι := Nat) (fun k => k ≤ l.length ∧ Flt.fidx (outL L) l = k + Flt.fidx (outL L) (l.drop k)) (fun k => .int .i64 (k : Int))  (fun k => l.length - k) 0 (by (try dsimp only); exact ⟨by omega, by simp⟩) rfl  ?_
  rintro k hq
  (try dsimp only at hq)
  obtain ⟨hk, hinv⟩ := hq
  show Run _ _ _ _ _ _ _ ⟨(8, .int .i64 (k : Int)) :: _, _⟩
  refine run_seq ?_
  refine run_region ?_
  refine run_q (.none rfl) rfl rfl (q_lss rfl rfl rfl) ?_
  refine run_nil ?_
  refine run_seq ?_
  refine run_cond rfl (fun g9 => ?_) (fun g9 => ?_)
  · have g9' := g9
    try simp only [decide_eq_true_eq, decide_eq_false_iff_not, beq_iff_eq, beq_eq_false_iff_ne, bne_iff_ne, bne_eq_false_iff_eq, Bool.not_eq_true', Bool.not_eq_false', ne_eq, Int.not_lt, Int.not_le, Decidable.not_not] at g9'
    refine run_skip ?_
    refine run_seq ?_
    refine run_block ?_
    refine run_seq ?_
    refine run_region ?_
    refine run_q (.none rfl) rfl rfl (q_move rfl rfl) ?_
    refine run_q (.none rfl) rfl rfl (q_assign rfl rfl) ?_
    refine run_nil ?_
    refine run_seq ?_
    refine run_region ?_
    refine run_q (.none rfl) rfl rfl (q_move rfl rfl) ?_
    refine run_q (.none rfl) rfl rfl (q_move rfl rfl) ?_
    refine run_q (.none rfl) rfl rfl (q_move rfl rfl) ?_
    refine run_q (.none rfl) rfl rfl (q_indexS (q := k) rfl Try.underlying38 sz3 rfl rfl (.inp hr .no) (by simp <;> omega) rfl (by omega)) ?_
    refine run_q (.none rfl) rfl rfl (q_loadC rfl one3 rfl (.inp hr .no) (getmap (by omega))) ?_
    refine run_q (.none rfl) rfl rfl (q_callv rfl rfl call68 (.cons rfl Evs.nil) (fun w hk hm => within1_just (nth l k) L b w (hb.kept0 hk) hL)) ?_
    refine run_nil ?_
    refine run_sub (subMk (.cons (s := 0) rfl (.cons (s := 1) rfl (.cons (s := 4) rfl (.cons (s := 5) rfl (.cons (s := 7) rfl (.cons (s := 8) rfl (.cons (s := 16) rfl .nil))))))) .refl) ?_
    refine run_cond rfl (fun g16 => ?_) (fun g16 => ?_)
    · have g16' := g16
      try simp only [decide_eq_true_eq, decide_eq_false_iff_not, beq_iff_eq, beq_eq_false_iff_ne, bne_iff_ne, bne_eq_false_iff_eq, Bool.not_eq_true', Bool.not_eq_false', ne_eq, Int.not_lt, Int.not_le, Decidable.not_not] at g16'
      refine run_seq ?_
      refine run_region ?_
      refine run_q (.none rfl) rfl rfl (q_move rfl rfl) ?_
      refine run_q (.none rfl) rfl rfl (q_assign rfl rfl) ?_
      refine run_nil ?_
      refine run_sub (subMk (.cons (s := 0) rfl (.cons (s := 1) rfl (.cons (s := 4) rfl (.cons (s := 7) rfl (.cons (s := 8) rfl .nil))))) .refl) ?_
      refine run_ret ?_
      exact end1 rfl rfl (by rw [Flt.fidx_hit (by omega) hinv (by simpa using g16)])
    · have g16' := g16
      try simp only [decide_eq_true_eq, decide_eq_false_iff_not, beq_iff_eq, beq_eq_false_iff_ne, bne_iff_ne, bne_eq_false_iff_eq, Bool.not_eq_true', Bool.not_eq_false', ne_eq, Int.not_lt, Int.not_le, Decidable.not_not] at g16'
      refine run_skip ?_
      refine run_blk ?_
      refine run_region ?_
      refine run_q (.none rfl) rfl rfl (q_add rfl rfl rfl (by omega)) ?_
      refine run_q (.none rfl) rfl rfl (q_move rfl rfl) ?_
      refine run_nil ?_
      refine run_sub (subMk (.cons (s := 0) rfl (.cons (s := 1) rfl (.cons (s := 4) rfl (.cons (s := 7) rfl (.cons (s := 8) rfl .nil))))) .refl) ?_
      exact run_again (k + 1) (by (try dsimp only); exact ⟨by omega, Flt.fidx_step (by omega) hinv (by simpa using g16)⟩) (by (try dsimp only); omega) (subMk (.cons' (s := 8) rfl rfl (.cons (s := 0) rfl (.cons (s := 1) rfl (.cons (s := 4) rfl (.cons (s := 7) rfl .nil))))) .nil)
  · have g9' := g9
    try simp only [decide_eq_true_eq, decide_eq_false_iff_not, beq_iff_eq, beq_eq_false_iff_ne, bne_iff_ne, bne_eq_false_iff_eq, Bool.not_eq_true', Bool.not_eq_false', ne_eq, Int.not_lt, Int.not_le, Decidable.not_not] at g9'
    refine run_exit rfl ?_
    refine run_sub (subMk (.cons (s := 4) rfl .nil) .refl) ?_
    refine run_seq ?_
    refine run_region ?_
    refine run_q (.none rfl) rfl rfl (q_assign rfl rfl) ?_
    refine run_nil ?_
    refine run_ret ?_
    exact end1 rfl rfl (by rw [Flt.fidx_none (by omega) hinv])

theorem conOut (l : List Int) (A : Option Addr) (ca : Nat) (L : Int) (b : Nat) (W : World) (hr : Rd W A 1 (l.map encI)) (hl : l.length ≤ 1000000) (hb : Rd W (some ⟨b, 0, none⟩) 1 [[.int .i64 L]]) (hL : 0 ≤ L ∧ L ≤ 1099511627776) : Calls Try.prog 67 #[.slice A l.length ca, .func (.func 68) #[] #[.pointer (some ⟨b, 0, none⟩)]] W (Hr.Just W (.bool (l.any (outL L)))) := by
  refine Just.of_ret ?_
  refine enterA (X := nX) (vs := [.slice A l.length ca, .func (.func 68) #[] #[.pointer (some ⟨b, 0, none⟩)]]) Try.func67 Try.ntmps67 rfl rfl Mem.nil ?_
  refine run_seq ?_
  refine run_region ?_
  refine run_q (.none rfl) rfl rfl (q_assign rfl rfl) ?_
  refine run_nil ?_
  refine run_seq ?_
  refine run_region ?_
  refine run_q (.none rfl) rfl rfl (q_move rfl rfl) ?_
  refine run_q (.none rfl) rfl rfl (q_move rfl rfl) ?_
  refine run_q (.none rfl) rfl rfl (q_call rfl call75 (.cons rfl (.cons rfl Evs.nil)) (fun w hk hm => idxOut l A ca L b w (hr.kept0 hk) hl (hb.kept0 hk) hL)) ?_
  refine run_q (.none rfl) rfl rfl (q_geq rfl rfl rfl) ?_
  refine run_q (.none rfl) rfl rfl (q_assign rfl rfl) ?_
  refine run_nil ?_
  refine run_sub (subMk (.cons (s := 4) rfl .nil) .refl) ?_
  refine run_ret ?_
  exact end1 rfl rfl (congrArg Value.bool (idx_any l))

set_option maxRecDepth 100000 in
theorem within_just (L : Int) (l : List Int) (A : Option Addr) (ca : Nat) (W : World) (hr : Rd W A 1 (l.map encI)) (hl : l.length ≤ 1000000) (hL : 0 ≤ L ∧ L ≤ 1099511627776) : Calls Try.prog 56 #[.int .i64 L, .slice A l.length ca] W (Hr.Just W (.bool (!(l.any (outL L))))) := by
  refine Just.of_ret ?_
  refine enterA (X := nX) (vs := [.int .i64 L, .slice A l.length ca]) Try.func56 Try.ntmps56 rfl rfl Mem.nil ?_
  refine run_seq ?_
  refine run_region ?_
  refine run_h (.none rfl) (h_box rfl rfl rfl rfl rfl) ?_
  rintro b2 -
  refine run_q (.none rfl) rfl rfl (q_assign rfl rfl) ?_
  refine run_nil ?_
  refine run_seq ?_
  refine run_region ?_
  refine run_q (.none rfl) rfl rfl (q_move rfl rfl) ?_
  refine run_q (.none rfl) rfl rfl (q_makeFunc rfl (.cons rfl Evs.nil)) ?_
  refine run_q (.none rfl) rfl rfl (q_call rfl call67 (.cons rfl (.cons rfl Evs.nil)) (fun w hk hm => conOut l A ca L b2 w (hr.kept0 hk) hl (rd_blk1 (Sel.here.holds hm)) hL)) ?_
  refine run_q (.none rfl) rfl rfl (q_not rfl rfl) ?_
  refine run_q (.none rfl) rfl rfl (q_assign rfl rfl) ?_
  refine run_nil ?_
  refine run_sub (subMk (.cons (s := 4) rfl .nil) .refl) ?_
  refine run_ret ?_
  exact end1 rfl rfl rfl

set_option maxRecDepth 100000 in
theorem floor_just (a b : Int) (W : World) (ha : -4611686018427387904 ≤ a ∧ a ≤ 4611686018427387904) (hb : 0 < b ∧ b ≤ 16777216) : Calls Try.prog 57 #[.int .i64 a, .int .i64 b] W (Hr.Just W (.int .i64 (a / b))) := by
  have htd := tdiv_bd (a := a) hb.1 ha
  have hfl := flr (a := a) hb.1
  have hf2 := flr2 (a := a) hb.1
  refine Just.of_ret ?_
  refine enterA (X := nX) (vs := [.int .i64 a, .int .i64 b]) Try.func57 Try.ntmps57 rfl rfl Mem.nil ?_
  refine run_seq ?_
  refine run_region ?_
  refine run_q (.none rfl) rfl rfl (q_assign rfl rfl) ?_
  refine run_nil ?_
  refine run_seq ?_
  refine run_region ?_
  refine run_q (.none rfl) rfl rfl (q_move rfl rfl) ?_
  refine run_q (.none rfl) rfl rfl (q_move rfl rfl) ?_
  refine run_q (.none rfl) rfl rfl (q_quot rfl rfl rfl (by omega)) ?_
  refine run_q (.none rfl) rfl rfl (q_assign rfl rfl) ?_
  refine run_nil ?_
  refine run_sub (subMk (.cons (s := 0) rfl (.cons (s := 1) rfl (.cons (s := 4) rfl (.cons (s := 5) rfl .nil)))) .refl) ?_
  refine run_seq ?_
  refine run_seq ?_
  refine run_sub (subMk (.cons (s := 0) rfl (.cons (s := 1) rfl (.cons (s := 4) rfl (.cons' (s := 5) (v' := .int .i64 (Int.tdiv a b)) rfl (vint (by rw [IntKind.wrap_i64]; omega)) .nil)))) .refl) ?_
  refine run_region ?_
  refine run_q (.none rfl) rfl rfl (q_move rfl rfl) ?_
  refine run_q (.none rfl) rfl rfl (q_move rfl rfl) ?_
  refine run_q (.none rfl) rfl rfl (q_remt rfl rfl rfl (by omega)) ?_
  refine run_q (.none rfl) rfl rfl (q_lss rfl rfl rfl) ?_
  refine run_nil ?_
  refine run_sub (subMk (.cons (s := 4) rfl (.cons (s := 5) rfl (.cons (s := 12) rfl .nil))) .refl) ?_
  refine run_cond rfl (fun g12 => ?_) (fun g12 => ?_)
  · have g12' := g12
    try simp only [decide_eq_true_eq, decide_eq_false_iff_not, beq_iff_eq, beq_eq_false_iff_ne, bne_iff_ne, bne_eq_false_iff_eq, Bool.not_eq_true', Bool.not_eq_false', ne_eq, Int.not_lt, Int.not_le, Decidable.not_not] at g12'
    refine run_region ?_
    refine run_q (.none rfl) rfl rfl (q_move rfl rfl) ?_
    refine run_q (.none rfl) rfl rfl (q_sub rfl rfl rfl (by omega)) ?_
    refine run_q (.none rfl) rfl rfl (q_assign rfl rfl) ?_
    refine run_nil ?_
    refine run_sub (subMk (.cons (s := 4) rfl (.cons (s := 5) rfl .nil)) .refl) ?_
    refine run_seq ?_
    refine run_region ?_
    refine run_q (.none rfl) rfl rfl (q_move rfl rfl) ?_
    refine run_q (.none rfl) rfl rfl (q_assign rfl rfl) ?_
    refine run_nil ?_
    refine run_ret ?_
    exact end1 rfl rfl (vint (by rw [← hfl, if_pos (by first | exact g12' | exact hf2.1 g13')]))
  · have g12' := g12
    try simp only [decide_eq_true_eq, decide_eq_false_iff_not, beq_iff_eq, beq_eq_false_iff_ne, bne_iff_ne, bne_eq_false_iff_eq, Bool.not_eq_true', Bool.not_eq_false', ne_eq, Int.not_lt, Int.not_le, Decidable.not_not] at g12'
    refine run_skip ?_
    refine run_seq ?_
    refine run_region ?_
    refine run_q (.none rfl) rfl rfl (q_move rfl rfl) ?_
    refine run_q (.none rfl) rfl rfl (q_assign rfl rfl) ?_
    refine run_nil ?_
    refine run_sub (subMk (.cons (s := 4) rfl .nil) .refl) ?_
    refine run_ret ?_
    exact end1 rfl rfl (vint (by rw [← hfl, if_neg (by first | exact Int.not_lt.2 g12' | exact fun h => absurd (hf2.2 h) (Int.not_lt.2 g13'))]))

set_option maxRecDepth 100000 in
theorem refFloor_just (a b : Int) (W : World) (ha : -4611686018427387904 ≤ a ∧ a ≤ 4611686018427387904) (hb : 0 < b ∧ b ≤ 16777216) : Calls Try.prog 32 #[.int .i64 a, .int .i64 b] W (Hr.Just W (.int .i64 (a / b))) := by
  have htd := tdiv_bd (a := a) hb.1 ha
  have hfl := flr (a := a) hb.1
  have hf2 := flr2 (a := a) hb.1
  refine Just.of_ret ?_
  refine enterA (X := nX) (vs := [.int .i64 a, .int .i64 b]) Try.func32 Try.ntmps32 rfl rfl Mem.nil ?_
  refine run_seq ?_
  refine run_region ?_
  refine run_q (.none rfl) rfl rfl (q_assign rfl rfl) ?_
  refine run_nil ?_
  refine run_seq ?_
  refine run_region ?_
  refine run_q (.none rfl) rfl rfl (q_move rfl rfl) ?_
  refine run_q (.none rfl) rfl rfl (q_move rfl rfl) ?_
  refine run_q (.none rfl) rfl rfl (q_quot rfl rfl rfl (by omega)) ?_
  refine run_q (.none rfl) rfl rfl (q_assign rfl rfl) ?_
  refine run_nil ?_
  refine run_sub (subMk (.cons (s := 0) rfl (.cons (s := 1) rfl (.cons (s := 4) rfl (.cons (s := 5) rfl .nil)))) .refl) ?_
  refine run_seq ?_
  refine run_seq ?_
  refine run_sub (subMk (.cons (s := 0) rfl (.cons (s := 1) rfl (.cons (s := 4) rfl (.cons' (s := 5) (v' := .int .i64 (Int.tdiv a b)) rfl (vint (by rw [IntKind.wrap_i64]; omega)) .nil)))) .refl) ?_
  refine run_region ?_
  refine run_q (.none rfl) rfl rfl (q_move rfl rfl) ?_
  refine run_q (.none rfl) rfl rfl (q_move rfl rfl) ?_
  refine run_q (.none rfl) rfl rfl (q_mul rfl rfl rfl (by omega)) ?_
  refine run_q (.none rfl) rfl rfl (q_move rfl rfl) ?_
  refine run_q (.none rfl) rfl rfl (q_gtr rfl rfl rfl) ?_
  refine run_nil ?_
  refine run_sub (subMk (.cons (s := 4) rfl (.cons (s := 5) rfl (.cons (s := 13) rfl .nil))) .refl) ?_
  refine run_cond rfl (fun g13 => ?_) (fun g13 => ?_)
  · have g13' := g13
    try simp only [decide_eq_true_eq, decide_eq_false_iff_not, beq_iff_eq, beq_eq_false_iff_ne, bne_iff_ne, bne_eq_false_iff_eq, Bool.not_eq_true', Bool.not_eq_false', ne_eq, Int.not_lt, Int.not_le, Decidable.not_not] at g13'
    refine run_region ?_
    refine run_q (.none rfl) rfl rfl (q_move rfl rfl) ?_
    refine run_q (.none rfl) rfl rfl (q_sub rfl rfl rfl (by omega)) ?_
    refine run_q (.none rfl) rfl rfl (q_assign rfl rfl) ?_
    refine run_nil ?_
    refine run_sub (subMk (.cons (s := 4) rfl (.cons (s := 5) rfl .nil)) .refl) ?_
    refine run_seq ?_
    refine run_region ?_
    refine run_q (.none rfl) rfl rfl (q_move rfl rfl) ?_
    refine run_q (.none rfl) rfl rfl (q_assign rfl rfl) ?_
    refine run_nil ?_
    refine run_ret ?_
    exact end1 rfl rfl (vint (by rw [← hfl, if_pos (by first | exact g12' | exact hf2.1 g13')]))
  · have g13' := g13
    try simp only [decide_eq_true_eq, decide_eq_false_iff_not, beq_iff_eq, beq_eq_false_iff_ne, bne_iff_ne, bne_eq_false_iff_eq, Bool.not_eq_true', Bool.not_eq_false', ne_eq, Int.not_lt, Int.not_le, Decidable.not_not] at g13'
    refine run_skip ?_
    refine run_seq ?_
    refine run_region ?_
    refine run_q (.none rfl) rfl rfl (q_move rfl rfl) ?_
    refine run_q (.none rfl) rfl rfl (q_assign rfl rfl) ?_
    refine run_nil ?_
    refine run_sub (subMk (.cons (s := 4) rfl .nil) .refl) ?_
    refine run_ret ?_
    exact end1 rfl rfl (vint (by rw [← hfl, if_neg (by first | exact Int.not_lt.2 g12' | exact fun h => absurd (hf2.2 h) (Int.not_lt.2 g13'))]))

set_option maxHeartbeats 1000000 in
set_option maxRecDepth 100000 in
theorem Sample_bad (c0 c1 c2 c3 : Pt) (n : Int) (W : World) (hbad : ¬ (1 ≤ n ∧ n ≤ 256) ∨ ∃ j, j < 4 ∧ ¬ okP (nth [c0, c1, c2, c3] j)) : Calls Try.prog 30 #[.agg #[.int .i64 c0.x, .int .i64 c0.y, .int .i64 c1.x, .int .i64 c1.y, .int .i64 c2.x, .int .i64 c2.y, .int .i64 c3.x, .int .i64 c3.y], .int .i64 n] W (Hr.Just W (.tuple #[.slice none 0 0, .int .i64 2])) := by
  refine Just.of_ret ?_
  refine enterA (X := nX) (vs := [.agg #[.int .i64 c0.x, .int .i64 c0.y, .int .i64 c1.x, .int .i64 c1.y, .int .i64 c2.x, .int .i64 c2.y, .int .i64 c3.x, .int .i64 c3.y], .int .i64 n]) Try.func30 Try.ntmps30 rfl rfl Mem.nil ?_
  refine run_seq ?_
  refine run_region ?_
  refine run_h (.none rfl) (h_box rfl rfl rfl rfl rfl) ?_
  rintro b2 -
  refine run_q (.none rfl) rfl rfl (q_assign rfl rfl) ?_
  refine run_q (.none rfl) rfl rfl (q_assign rfl rfl) ?_
  refine run_nil ?_
  refine run_seq ?_
  refine run_seq ?_
  refine run_region ?_
  refine run_q (.none rfl) rfl rfl (q_move rfl rfl) ?_
  refine run_q (.none rfl) rfl rfl (q_lss rfl rfl rfl) ?_
  refine run_q (.none rfl) rfl rfl (q_move rfl rfl) ?_
  refine run_split 18 rfl (fun g18 => ?_) (fun g18 => ?_)
  · have g18' := g18
    try simp only [decide_eq_true_eq, decide_eq_false_iff_not, beq_iff_eq, beq_eq_false_iff_ne, bne_iff_ne, bne_eq_false_iff_eq, Bool.not_eq_true', Bool.not_eq_false', ne_eq, Int.not_lt, Int.not_le, Decidable.not_not] at g18'
    refine run_off (.no rfl rfl rfl g18) rfl rfl ?_
    refine run_off (.no rfl rfl rfl g18) rfl rfl ?_
    refine run_q (.none rfl) rfl rfl (q_pickT rfl rfl g18 rfl) ?_
    refine run_nil ?_
    refine run_sub (subMk (.cons (s := 1) rfl (.cons (s := 2) rfl (.cons (s := 4) rfl (.cons (s := 5) rfl (.cons (s := 21) rfl .nil))))) .refl) ?_
    refine run_condT rfl rfl ?_
    refine run_seq ?_
    refine run_region ?_
    refine run_q (.none rfl) rfl rfl (q_assign rfl rfl) ?_
    refine run_q (.none rfl) rfl rfl (q_assign rfl rfl) ?_
    refine run_nil ?_
    refine run_ret ?_
    exact end2 rfl rfl rfl rfl
  · have g18' := g18
    try simp only [decide_eq_true_eq, decide_eq_false_iff_not, beq_iff_eq, beq_eq_false_iff_ne, bne_iff_ne, bne_eq_false_iff_eq, Bool.not_eq_true', Bool.not_eq_false', ne_eq, Int.not_lt, Int.not_le, Decidable.not_not] at g18'
    refine run_q (.on rfl rfl rfl g18) rfl rfl (q_move rfl rfl) ?_
    refine run_q (.on rfl rfl rfl g18) rfl rfl (q_gtr rfl rfl rfl) ?_
    refine run_q (.none rfl) rfl rfl (q_pickF rfl rfl g18 rfl) ?_
    refine run_nil ?_
    refine run_sub (subMk (.cons (s := 1) rfl (.cons (s := 2) rfl (.cons (s := 4) rfl (.cons (s := 5) rfl (.cons (s := 21) rfl .nil))))) .refl) ?_
    refine run_cond rfl (fun g21 => ?_) (fun g21 => ?_)
    · have g21' := g21
      try simp only [decide_eq_true_eq, decide_eq_false_iff_not, beq_iff_eq, beq_eq_false_iff_ne, bne_iff_ne, bne_eq_false_iff_eq, Bool.not_eq_true', Bool.not_eq_false', ne_eq, Int.not_lt, Int.not_le, Decidable.not_not] at g21'
      refine run_seq ?_
      refine run_region ?_
      refine run_q (.none rfl) rfl rfl (q_assign rfl rfl) ?_
      refine run_q (.none rfl) rfl rfl (q_assign rfl rfl) ?_
      refine run_nil ?_
      refine run_ret ?_
      exact end2 rfl rfl rfl rfl
    · have g21' := g21
      try simp only [decide_eq_true_eq, decide_eq_false_iff_not, beq_iff_eq, beq_eq_false_iff_ne, bne_iff_ne, bne_eq_false_iff_eq, Bool.not_eq_true', Bool.not_eq_false', ne_eq, Int.not_lt, Int.not_le, Decidable.not_not] at g21'
      refine run_skip ?_
      refine run_seq ?_
      refine run_seq ?_
      refine run_region ?_
      refine run_q (.none rfl) rfl rfl (q_loadBN rfl agg70 rfl Sel.here (.cons rfl (.cons rfl (.cons rfl (.cons rfl (.cons rfl (.cons rfl (.cons rfl (.cons rfl CellsAt.nil)))))))) rfl) ?_
      refine run_q (.none rfl) rfl rfl (q_move rfl rfl) ?_
      refine run_nil ?_
      refine run_block ?_
      refine run_sub (subMk (.cons (s := 23) rfl (.cons (s := 1) rfl (.cons (s := 2) rfl (.cons (s := 4) rfl (.cons (s := 5) rfl (.cons (s := 22) rfl .nil)))))) (.cons Sel.here .refl .nil)) ?_
      refine run_loopC1M0 (ι := Nat) (fun k => k ≤ 4 ∧ ∀ j, j < k → okP (nth [c0, c1, c2, c3] j)) (fun k => .int .i64 (k : Int))  (fun k => 4 - k) 0 (by (try dsimp only); exact ⟨by omega, fun j hj => absurd hj (by omega)⟩) rfl  ?_
      rintro k hq
      (try dsimp only at hq)
      obtain ⟨hk4', hC⟩ := hq
      show Run _ _ _ _ _ _ _ ⟨(23, .int .i64 (k : Int)) :: _, _⟩
      refine run_seq ?_
      refine run_region ?_
      refine run_q (.none rfl) rfl rfl (q_lss rfl rfl rfl) ?_
      refine run_nil ?_
      refine run_seq ?_
      refine run_cond rfl (fun g24 => ?_) (fun g24 => ?_)
      · have g24' := g24
        try simp only [decide_eq_true_eq, decide_eq_false_iff_not, beq_iff_eq, beq_eq_false_iff_ne, bne_iff_ne, bne_eq_false_iff_eq, Bool.not_eq_true', Bool.not_eq_false', ne_eq, Int.not_lt, Int.not_le, Decidable.not_not] at g24'
        have hk4 : k < 4 := by omega
        refine run_skip ?_
        refine run_seq ?_
        refine run_block ?_
        refine run_seq ?_
        refine run_region ?_
        refine run_q (.none rfl) rfl rfl (q_indexAN (q := k) rfl Try.underlying70 agg69 rfl rfl rfl (by omega) (ext4 hk4)) ?_
        refine run_h (.none rfl) (h_alloc rfl rfl rfl info69) ?_
        rintro b7 -
        refine run_h (.none rfl) (h_storeB rfl rfl sz69 rfl rfl rfl rfl rfl Sel.here rfl) ?_
        rintro - -
        refine run_nil ?_
        refine run_seq ?_
        refine run_region ?_
        refine run_q (.none rfl) rfl rfl (q_fieldB (d := 0) rfl Try.underlying69 rfl rfl sz3 rfl) ?_
        refine run_q (.none rfl) rfl rfl (q_loadB rfl one3 rfl Sel.here rfl) ?_
        refine run_q (.none rfl) rfl rfl (q_fieldB (d := 1) rfl Try.underlying69 rfl rfl sz3 rfl) ?_
        refine run_q (.none rfl) rfl rfl (q_loadB rfl one3 rfl Sel.here rfl) ?_
        refine run_h (.none rfl) (h_buildSlice rfl rfl rfl Try.underlying38 info3 (.cons rfl rfl rfl rfl (.cons rfl rfl rfl rfl Parts.nil)) rfl (by omega)) ?_
        rintro b30 -
        refine run_q (.none rfl) rfl rfl (q_call rfl call56 (.cons rfl (.cons rfl Evs.nil)) (fun w hk hm => within_just 33554432 [(nth [c0, c1, c2, c3] k).x, (nth [c0, c1, c2, c3] k).y] (some ⟨b30, 0, none⟩) 2 w (own_rd (Sel.here.holds hm)) (by simp) (by decide))) ?_
        refine run_q (.none rfl) rfl rfl (q_not rfl rfl) ?_
        refine run_nil ?_
        refine run_sub (subMk (.cons (s := 1) rfl (.cons (s := 2) rfl (.cons (s := 4) rfl (.cons (s := 5) rfl (.cons (s := 22) rfl (.cons (s := 23) rfl (.cons (s := 32) rfl .nil))))))) .refl) ?_
        refine run_cond rfl (fun g32 => ?_) (fun g32 => ?_)
        · have g32' := g32
          try simp only [decide_eq_true_eq, decide_eq_false_iff_not, beq_iff_eq, beq_eq_false_iff_ne, bne_iff_ne, bne_eq_false_iff_eq, Bool.not_eq_true', Bool.not_eq_false', ne_eq, Int.not_lt, Int.not_le, Decidable.not_not] at g32'
          refine run_seq ?_
          refine run_region ?_
          refine run_q (.none rfl) rfl rfl (q_assign rfl rfl) ?_
          refine run_q (.none rfl) rfl rfl (q_assign rfl rfl) ?_
          refine run_nil ?_
          refine run_ret ?_
          exact end2 rfl rfl rfl rfl
        · have g32' := g32
          try simp only [decide_eq_true_eq, decide_eq_false_iff_not, beq_iff_eq, beq_eq_false_iff_ne, bne_iff_ne, bne_eq_false_iff_eq, Bool.not_eq_true', Bool.not_eq_false', ne_eq, Int.not_lt, Int.not_le, Decidable.not_not] at g32'
          have hok : okP (nth [c0, c1, c2, c3] k) := okP_any.1 (by simpa using g32)
          refine run_skip ?_
          refine run_blk ?_
          refine run_region ?_
          refine run_q (.none rfl) rfl rfl (q_add rfl rfl rfl (by omega)) ?_
          refine run_q (.none rfl) rfl rfl (q_move rfl rfl) ?_
          refine run_nil ?_
          exact run_again (k + 1) (by (try dsimp only); exact ⟨by omega, fun j hj => by by_cases e : j = k; (· subst e; exact hok); (· exact hC j (by omega))⟩) (by (try dsimp only); omega) (subMk (.cons' (s := 23) rfl (vint (by omega)) (.cons (s := 1) rfl (.cons (s := 2) rfl (.cons (s := 4) rfl (.cons (s := 5) rfl (.cons (s := 22) rfl .nil)))))) (.cons (.there (.there Sel.here)) .refl .nil))
      · have g24' := g24
        try simp only [decide_eq_true_eq, decide_eq_false_iff_not, beq_iff_eq, beq_eq_false_iff_ne, bne_iff_ne, bne_eq_false_iff_eq, Bool.not_eq_true', Bool.not_eq_false', ne_eq, Int.not_lt, Int.not_le, Decidable.not_not] at g24'
        refine run_exit rfl ?_
        refine run_sub (subMk (.cons (s := 1) rfl (.cons (s := 2) rfl (.cons (s := 4) rfl (.cons (s := 5) rfl .nil)))) .refl) ?_
        refine run_seq ?_
        exact absurd hbad (fun h => h.elim (fun h => h ⟨by omega, by omega⟩) fun ⟨j, hj, hn⟩ => hn (hC j (by omega)))

set_option maxHeartbeats 2000000 in
set_option maxRecDepth 100000 in
theorem Sample_ok (c0 c1 c2 c3 : Pt) (n : Nat) (W : World) (hn : 1 ≤ n ∧ n ≤ 256) (hC : ∀ j, j < 4 → okP (nth [c0, c1, c2, c3] j)) : Calls Try.prog 30 #[.agg #[.int .i64 c0.x, .int .i64 c0.y, .int .i64 c1.x, .int .i64 c1.y, .int .i64 c2.x, .int .i64 c2.y, .int .i64 c3.x, .int .i64 c3.y], .int .i64 (n : Int)] W (Ret W nX (fun v m => ∃ O co, v = .tuple #[.slice O (n + 1) co, .int .i64 0] ∧ m = [.own 69 2 O (n + 1) co ((smps [c0, c1, c2, c3] n (n + 1)).map Pt.enc)])) := by
  have hn' : 0 ≤ (n : Int) ∧ (n : Int) ≤ 256 := by omega
  have hnn := mulb hn' hn'
  have hnnn := mulb hnn hn'
  have hn1 : 1 ≤ (n : Int) * n := by have := Int.mul_le_mul (show (1 : Int) ≤ n by omega) (show (1 : Int) ≤ n by omega) (by decide) (by omega); omega
  have hn3 : 1 ≤ (n : Int) * n * n := by have := Int.mul_le_mul hn1 (show (1 : Int) ≤ n by omega) (by decide) (by omega); omega
  refine enterA (X := nX) (vs := [.agg #[.int .i64 c0.x, .int .i64 c0.y, .int .i64 c1.x, .int .i64 c1.y, .int .i64 c2.x, .int .i64 c2.y, .int .i64 c3.x, .int .i64 c3.y], .int .i64 (n : Int)]) Try.func30 Try.ntmps30 rfl rfl Mem.nil ?_
  refine run_seq ?_
  refine run_region ?_
  refine run_h (.none rfl) (h_box rfl rfl rfl rfl rfl) ?_
  rintro b2 -
  refine run_q (.none rfl) rfl rfl (q_assign rfl rfl) ?_
  refine run_q (.none rfl) rfl rfl (q_assign rfl rfl) ?_
  refine run_nil ?_
  refine run_seq ?_
  refine run_seq ?_
  refine run_region ?_
  refine run_q (.none rfl) rfl rfl (q_move rfl rfl) ?_
  refine run_q (.none rfl) rfl rfl (q_lss rfl rfl rfl) ?_
  refine run_q (.none rfl) rfl rfl (q_move rfl rfl) ?_
  refine run_q (.on rfl rfl rfl (decide_eq_false (by omega))) rfl rfl (q_move rfl rfl) ?_
  refine run_q (.on rfl rfl rfl (decide_eq_false (by omega))) rfl rfl (q_gtr rfl rfl rfl) ?_
  refine run_q (.none rfl) rfl rfl (q_pickF rfl rfl (decide_eq_false (by omega)) rfl) ?_
  refine run_nil ?_
  refine run_sub (subMk (.cons (s := 1) rfl (.cons (s := 2) rfl (.cons (s := 4) rfl (.cons (s := 5) rfl (.cons (s := 21) rfl .nil))))) .refl) ?_
  refine run_condF rfl (decide_eq_false (by omega)) ?_
  refine run_skip ?_
  refine run_seq ?_
  refine run_seq ?_
  refine run_region ?_
  refine run_q (.none rfl) rfl rfl (q_loadBN rfl agg70 rfl Sel.here (.cons rfl (.cons rfl (.cons rfl (.cons rfl (.cons rfl (.cons rfl (.cons rfl (.cons rfl CellsAt.nil)))))))) rfl) ?_
  refine run_q (.none rfl) rfl rfl (q_move rfl rfl) ?_
  refine run_nil ?_
  refine run_block ?_
  refine run_sub (subMk (.cons (s := 23) rfl (.cons (s := 1) rfl (.cons (s := 2) rfl (.cons (s := 4) rfl (.cons (s := 5) rfl (.cons (s := 22) rfl .nil)))))) (.cons Sel.here .refl .nil)) ?_
  refine run_loopC1M0 (ι := Nat) (fun k => k ≤ 4) (fun k => .int .i64 (k : Int))  (fun k => 4 - k) 0 (by (try dsimp only); exact (by omega)) rfl  ?_
  rintro k hk4'
  (try dsimp only at hk4')
  show Run _ _ _ _ _ _ _ ⟨(23, .int .i64 (k : Int)) :: _, _⟩
  refine run_seq ?_
  refine run_region ?_
  refine run_q (.none rfl) rfl rfl (q_lss rfl rfl rfl) ?_
  refine run_nil ?_
  refine run_seq ?_
  refine run_cond rfl (fun g24 => ?_) (fun g24 => ?_)
  · have g24' := g24
    try simp only [decide_eq_true_eq, decide_eq_false_iff_not, beq_iff_eq, beq_eq_false_iff_ne, bne_iff_ne, bne_eq_false_iff_eq, Bool.not_eq_true', Bool.not_eq_false', ne_eq, Int.not_lt, Int.not_le, Decidable.not_not] at g24'
    have hk4 : k < 4 := by omega
    refine run_skip ?_
    refine run_seq ?_
    refine run_block ?_
    refine run_seq ?_
    refine run_region ?_
    refine run_q (.none rfl) rfl rfl (q_indexAN (q := k) rfl Try.underlying70 agg69 rfl rfl rfl (by omega) (ext4 hk4)) ?_
    refine run_h (.none rfl) (h_alloc rfl rfl rfl info69) ?_
    rintro b7 -
    refine run_h (.none rfl) (h_storeB rfl rfl sz69 rfl rfl rfl rfl rfl Sel.here rfl) ?_
    rintro - -
    refine run_nil ?_
    refine run_seq ?_
    refine run_region ?_
    refine run_q (.none rfl) rfl rfl (q_fieldB (d := 0) rfl Try.underlying69 rfl rfl sz3 rfl) ?_
    refine run_q (.none rfl) rfl rfl (q_loadB rfl one3 rfl Sel.here rfl) ?_
    refine run_q (.none rfl) rfl rfl (q_fieldB (d := 1) rfl Try.underlying69 rfl rfl sz3 rfl) ?_
    refine run_q (.none rfl) rfl rfl (q_loadB rfl one3 rfl Sel.here rfl) ?_
    refine run_h (.none rfl) (h_buildSlice rfl rfl rfl Try.underlying38 info3 (.cons rfl rfl rfl rfl (.cons rfl rfl rfl rfl Parts.nil)) rfl (by omega)) ?_
    rintro b30 -
    refine run_q (.none rfl) rfl rfl (q_call rfl call56 (.cons rfl (.cons rfl Evs.nil)) (fun w hk hm => within_just 33554432 [(nth [c0, c1, c2, c3] k).x, (nth [c0, c1, c2, c3] k).y] (some ⟨b30, 0, none⟩) 2 w (own_rd (Sel.here.holds hm)) (by simp) (by decide))) ?_
    refine run_q (.none rfl) rfl rfl (q_not rfl rfl) ?_
    refine run_nil ?_
    refine run_sub (subMk (.cons (s := 1) rfl (.cons (s := 2) rfl (.cons (s := 4) rfl (.cons (s := 5) rfl (.cons (s := 22) rfl (.cons (s := 23) rfl (.cons (s := 32) rfl .nil))))))) .refl) ?_
    refine run_condF rfl (by rw [okP_any.2 (hC k hk4)]; rfl) ?_
    refine run_skip ?_
    refine run_blk ?_
    refine run_region ?_
    refine run_q (.none rfl) rfl rfl (q_add rfl rfl rfl (by omega)) ?_
    refine run_q (.none rfl) rfl rfl (q_move rfl rfl) ?_
    refine run_nil ?_
    exact run_again (k + 1) (by (try dsimp only); exact (by omega)) (by (try dsimp only); omega) (subMk (.cons' (s := 23) rfl (vint (by omega)) (.cons (s := 1) rfl (.cons (s := 2) rfl (.cons (s := 4) rfl (.cons (s := 5) rfl (.cons (s := 22) rfl .nil)))))) (.cons (.there (.there Sel.here)) .refl .nil))
  · have g24' := g24
    try simp only [decide_eq_true_eq, decide_eq_false_iff_not, beq_iff_eq, beq_eq_false_iff_ne, bne_iff_ne, bne_eq_false_iff_eq, Bool.not_eq_true', Bool.not_eq_false', ne_eq, Int.not_lt, Int.not_le, Decidable.not_not] at g24'
    refine run_exit rfl ?_
    refine run_sub (subMk (.cons (s := 1) rfl (.cons (s := 2) rfl (.cons (s := 4) rfl (.cons (s := 5) rfl .nil)))) .refl) ?_
    refine run_seq ?_
    refine run_region ?_
    refine run_q (.none rfl) rfl rfl (q_assign rfl rfl) ?_
    refine run_nil ?_
    refine run_seq ?_
    refine run_seq ?_
    refine run_region ?_
    refine run_q (.none rfl) rfl rfl (q_move rfl rfl) ?_
    refine run_q (.none rfl) rfl rfl (q_add rfl rfl rfl (by omega)) ?_
    refine run_q (.none rfl) rfl rfl (q_move rfl rfl) ?_
    refine run_nil ?_
    refine run_block ?_
    refine run_sub (subMk .refl (MemSub.nilOwn 69 2)) ?_
    refine run_sub (subMk (.cons (s := 36) rfl (.cons (s := 8) rfl (.cons (s := 1) rfl (.cons (s := 2) rfl (.cons (s := 4) rfl (.cons (s := 5) rfl (.cons (s := 35) rfl .nil))))))) (.cons Sel.here .refl (.cons Sel.here .refl .nil))) ?_
    refine run_loopC2M1 (ι := Nat × (Option Addr) × Nat) (fun gg => gg.1 ≤ n + 1) (fun gg => .int .i64 (gg.1 : Int)) (fun gg => .slice gg.2.1 gg.1 gg.2.2) (fun gg => .own 69 2 gg.2.1 gg.1 gg.2.2 ((smps [c0, c1, c2, c3] n gg.1).map Pt.enc)) (fun gg => n + 1 - gg.1) (0, none, 0) (by (try dsimp only); exact (by omega)) rfl rfl (.own rfl rfl rfl rfl) ?_
    rintro ⟨k, O, co⟩ hkn
    (try dsimp only at hkn)
    show Run _ _ _ _ _ _ _ ⟨(36, .int .i64 (k : Int)) :: (8, .slice O k co) :: _, .own 69 2 O k co ((smps [c0, c1, c2, c3] n k).map Pt.enc) :: _⟩
    refine run_seq ?_
    refine run_region ?_
    refine run_q (.none rfl) rfl rfl (q_lss rfl rfl rfl) ?_
    refine run_nil ?_
    refine run_seq ?_
    refine run_cond rfl (fun g37 => ?_) (fun g37 => ?_)
    · have g37' := g37
      try simp only [decide_eq_true_eq, decide_eq_false_iff_not, beq_iff_eq, beq_eq_false_iff_ne, bne_iff_ne, bne_eq_false_iff_eq, Bool.not_eq_true', Bool.not_eq_false', ne_eq, Int.not_lt, Int.not_le, Decidable.not_not] at g37'
      refine run_skip ?_
      refine run_seq ?_
      refine run_block ?_
      refine run_seq ?_
      refine run_region ?_
      refine run_q (.none rfl) rfl rfl (q_move rfl rfl) ?_
      refine run_q (.none rfl) rfl rfl (q_assign rfl rfl) ?_
      refine run_nil ?_
      refine run_seq ?_
      refine run_region ?_
      refine run_q (.none rfl) rfl rfl (q_move rfl rfl) ?_
      refine run_q (.none rfl) rfl rfl (q_move rfl rfl) ?_
      refine run_q (.none rfl) rfl rfl (q_sub rfl rfl rfl (by omega)) ?_
      refine run_q (.none rfl) rfl rfl (q_assign rfl rfl) ?_
      refine run_nil ?_
      refine run_sub (subMk (.cons (s := 1) rfl (.cons (s := 2) rfl (.cons (s := 4) rfl (.cons (s := 5) rfl (.cons (s := 8) rfl (.cons (s := 9) rfl (.cons (s := 10) rfl (.cons (s := 35) rfl (.cons (s := 36) rfl .nil))))))))) .refl) ?_
      refine run_seq ?_
      obtain ⟨r, hrk⟩ : ∃ r : Int, r = (n : Int) - (k : Int) := ⟨_, rfl⟩
      have hr : 0 ≤ r ∧ r ≤ 256 := by omega
      have hkb : 0 ≤ (k : Int) ∧ (k : Int) ≤ 256 := by omega
      have q1 := mulb hr hr
      have q2 := mulb q1 hr
      have e3 : 0 ≤ 3 * r ∧ 3 * r ≤ 768 := by omega
      have q3 := mulb e3 hr
      have q4 := mulb q3 hkb
      have q5 := mulb e3 hkb
      have q6 := mulb q5 hkb
      have q7 := mulb hkb hkb
      have q8 := mulb q7 hkb
      refine run_sub (subMk (.cons (s := 1) rfl (.cons (s := 2) rfl (.cons (s := 4) rfl (.cons (s := 5) rfl (.cons (s := 8) rfl (.cons (s := 9) rfl (.cons' (s := 10) (v' := .int .i64 r) rfl (vint hrk.symm) (.cons (s := 35) rfl (.cons (s := 36) rfl .nil))))))))) .refl) ?_
      refine run_region ?_
      refine run_q (.none rfl) rfl rfl (q_move rfl rfl) ?_
      refine run_q (.none rfl) rfl rfl (q_move rfl rfl) ?_
      refine run_q (.none rfl) rfl rfl (q_mul rfl rfl rfl (by omega)) ?_
      refine run_q (.none rfl) rfl rfl (q_move rfl rfl) ?_
      refine run_q (.none rfl) rfl rfl (q_mul rfl rfl rfl (by omega)) ?_
      refine run_q (.none rfl) rfl rfl (q_move rfl rfl) ?_
      refine run_q (.none rfl) rfl rfl (q_mul rfl rfl rfl (by omega)) ?_
      refine run_q (.none rfl) rfl rfl (q_move rfl rfl) ?_
      refine run_q (.none rfl) rfl rfl (q_mul rfl rfl rfl (by omega)) ?_
      refine run_q (.none rfl) rfl rfl (q_move rfl rfl) ?_
      refine run_q (.none rfl) rfl rfl (q_mul rfl rfl rfl (by omega)) ?_
      refine run_q (.none rfl) rfl rfl (q_move rfl rfl) ?_
      refine run_q (.none rfl) rfl rfl (q_mul rfl rfl rfl (by omega)) ?_
      refine run_q (.none rfl) rfl rfl (q_move rfl rfl) ?_
      refine run_q (.none rfl) rfl rfl (q_mul rfl rfl rfl (by omega)) ?_
      refine run_q (.none rfl) rfl rfl (q_move rfl rfl) ?_
      refine run_q (.none rfl) rfl rfl (q_mul rfl rfl rfl (by omega)) ?_
      refine run_q (.none rfl) rfl rfl (q_move rfl rfl) ?_
      refine run_q (.none rfl) rfl rfl (q_move rfl rfl) ?_
      refine run_q (.none rfl) rfl rfl (q_mul rfl rfl rfl (by omega)) ?_
      refine run_q (.none rfl) rfl rfl (q_move rfl rfl) ?_
      refine run_q (.none rfl) rfl rfl (q_mul rfl rfl rfl (by omega)) ?_
      refine run_q (.none rfl) rfl rfl (q_build rfl (.cons rfl (.cons rfl (.cons rfl (.cons rfl PV.nil)))) (built103p0p1p2p3 _ _ _ _)) ?_
      refine run_h (.none rfl) (h_alloc rfl rfl rfl info103) ?_
      rintro b11 -
      refine run_h (.none rfl) (h_storeB rfl rfl sz103 rfl rfl rfl rfl rfl Sel.here rfl) ?_
      rintro - -
      refine run_nil ?_
      refine run_sub (subMk (.cons (s := 1) rfl (.cons (s := 2) rfl (.cons (s := 4) rfl (.cons (s := 5) rfl (.cons (s := 8) rfl (.cons (s := 11) rfl (.cons (s := 35) rfl (.cons (s := 36) rfl .nil)))))))) .refl) ?_
      refine run_seq ?_
      refine run_region ?_
      refine run_q (.none rfl) rfl rfl (q_assign rfl rfl) ?_
      refine run_q (.none rfl) rfl rfl (q_assign rfl rfl) ?_
      refine run_nil ?_
      refine run_seq ?_
      refine run_seq ?_
      refine run_region ?_
      refine run_q (.none rfl) rfl rfl (q_loadBN rfl agg70 rfl (.there (.there Sel.here)) (.cons rfl (.cons rfl (.cons rfl (.cons rfl (.cons rfl (.cons rfl (.cons rfl (.cons rfl CellsAt.nil)))))))) rfl) ?_
      refine run_q (.none rfl) rfl rfl (q_move rfl rfl) ?_
      refine run_nil ?_
      refine run_block ?_
      refine run_sub (subMk (.cons (s := 66) rfl (.cons (s := 12) rfl (.cons (s := 13) rfl (.cons (s := 1) rfl (.cons (s := 2) rfl (.cons (s := 4) rfl (.cons (s := 5) rfl (.cons (s := 8) rfl (.cons (s := 11) rfl (.cons (s := 35) rfl (.cons (s := 36) rfl (.cons (s := 65) rfl .nil)))))))))))) (.cons Sel.here .refl (.cons Sel.here .refl (.cons Sel.here .refl .nil)))) ?_
      refine run_loopC3M0 (ι := Nat) (fun i => i ≤ 4) (fun i => .int .i64 (i : Int)) (fun i => .int .i64 (sumX [c0, c1, c2, c3] (wts r k) i)) (fun i => .int .i64 (sumY [c0, c1, c2, c3] (wts r k) i))  (fun i => 4 - i) 0 (by (try dsimp only); exact (by omega)) rfl rfl rfl  ?_
      rintro i hi
      (try dsimp only at hi)
      show Run _ _ _ _ _ _ _ ⟨(66, .int .i64 (i : Int)) :: (12, .int .i64 (sumX [c0, c1, c2, c3] (wts r k) i)) :: (13, .int .i64 (sumY [c0, c1, c2, c3] (wts r k) i)) :: _, _⟩
      refine run_seq ?_
      refine run_region ?_
      refine run_q (.none rfl) rfl rfl (q_lss rfl rfl rfl) ?_
      refine run_nil ?_
      refine run_seq ?_
      refine run_cond rfl (fun g67 => ?_) (fun g67 => ?_)
      · have g67' := g67
        try simp only [decide_eq_true_eq, decide_eq_false_iff_not, beq_iff_eq, beq_eq_false_iff_ne, bne_iff_ne, bne_eq_false_iff_eq, Bool.not_eq_true', Bool.not_eq_false', ne_eq, Int.not_lt, Int.not_le, Decidable.not_not] at g67'
        have hi4 : i < 4 := by omega
        have hp1 := mulS (wts_bd hr hkb hi4) (hC i hi4).1
        have hp2 := mulS (wts_bd hr hkb hi4) (hC i hi4).2
        refine run_skip ?_
        refine run_seq ?_
        refine run_block ?_
        refine run_seq ?_
        refine run_region ?_
        refine run_q (.none rfl) rfl rfl (q_move rfl rfl) ?_
        refine run_q (.none rfl) rfl rfl (q_indexAN (q := i) rfl Try.underlying70 agg69 rfl rfl rfl (by omega) (ext4 hi4)) ?_
        refine run_h (.none rfl) (h_alloc rfl rfl rfl info69) ?_
        rintro b15 -
        refine run_q (.none rfl) rfl rfl (q_assign rfl rfl) ?_
        refine run_h (.none rfl) (h_storeB rfl rfl sz69 rfl rfl rfl rfl rfl Sel.here rfl) ?_
        rintro - -
        refine run_nil ?_
        refine run_sub (subMk (.cons (s := 1) rfl (.cons (s := 2) rfl (.cons (s := 4) rfl (.cons (s := 5) rfl (.cons (s := 8) rfl (.cons (s := 11) rfl (.cons (s := 12) rfl (.cons (s := 13) rfl (.cons (s := 14) rfl (.cons (s := 15) rfl (.cons (s := 35) rfl (.cons (s := 36) rfl (.cons (s := 65) rfl (.cons (s := 66) rfl .nil)))))))))))))) .refl) ?_
        have hsx := sumX_bd (c := [c0, c1, c2, c3]) (w := wts r k) (fun i h => wts_bd hr hkb h) hC (j := i) (by omega)
        have hsy := sumY_bd (c := [c0, c1, c2, c3]) (w := wts r k) (fun i h => wts_bd hr hkb h) hC (j := i) (by omega)
        refine run_draw [(0, 0), (1, 0), (2, 0), (3, 0), (4, 0), (5, 0), (6, 0), (7, 0), (8, 0), (9, 0), (10, 0), (11, 0), (12, 0), (13, 0), (14, 0), (15, 0), (16, 0), (17, 0)] mixed (by kernel_rfl) .refl ?_
        refine d_q rfl rfl (.none rfl) rfl rfl (q_move rfl rfl) ?_
        refine d_q rfl rfl (.none rfl) rfl rfl (q_move rfl rfl) ?_
        refine d_q rfl rfl (.none rfl) rfl rfl (q_indexBD (q := i) rfl Try.underlying103 sz3 rfl rfl rfl (by omega)) ?_
        refine d_q rfl rfl (.none rfl) rfl rfl (q_loadC rfl one3 rfl (RdS.blkRow (.there Sel.here) (.cons rfl (.cons rfl (.cons rfl (.cons rfl CellsAt.nil))))) (show ((wts r k).map encI)[i]? = some (encI (nth (wts r k) i)) from getmap (by show i < 4; omega))) ?_
        refine d_q rfl rfl (.none rfl) rfl rfl (q_fieldB (d := 0) rfl Try.underlying69 rfl rfl sz3 rfl) ?_
        refine d_q rfl rfl (.none rfl) rfl rfl (q_loadB rfl one3 rfl Sel.here rfl) ?_
        refine d_q rfl rfl (.none rfl) rfl rfl (q_mul rfl rfl rfl (by omega)) ?_
        refine d_q rfl rfl (.none rfl) rfl rfl (q_add rfl rfl rfl (by omega)) ?_
        refine d_q rfl rfl (.none rfl) rfl rfl (q_move rfl rfl) ?_
        refine d_q rfl rfl (.none rfl) rfl rfl (q_move rfl rfl) ?_
        refine d_q rfl rfl (.none rfl) rfl rfl (q_indexBD (q := i) rfl Try.underlying103 sz3 rfl rfl rfl (by omega)) ?_
        refine d_q rfl rfl (.none rfl) rfl rfl (q_loadC rfl one3 rfl (RdS.blkRow (.there Sel.here) (.cons rfl (.cons rfl (.cons rfl (.cons rfl CellsAt.nil))))) (show ((wts r k).map encI)[i]? = some (encI (nth (wts r k) i)) from getmap (by show i < 4; omega))) ?_
        refine d_q rfl rfl (.none rfl) rfl rfl (q_fieldB (d := 1) rfl Try.underlying69 rfl rfl sz3 rfl) ?_
        refine d_q rfl rfl (.none rfl) rfl rfl (q_loadB rfl one3 rfl Sel.here rfl) ?_
        refine d_q rfl rfl (.none rfl) rfl rfl (q_mul rfl rfl rfl (by omega)) ?_
        refine d_q rfl rfl (.none rfl) rfl rfl (q_add rfl rfl rfl (by omega)) ?_
        refine d_q rfl rfl (.none rfl) rfl rfl (q_assign rfl rfl) ?_
        refine d_q rfl rfl (.none rfl) rfl rfl (q_assign rfl rfl) ?_
        refine d_nil ?_
        refine run_sub (subMk (.cons (s := 1) rfl (.cons (s := 2) rfl (.cons (s := 4) rfl (.cons (s := 5) rfl (.cons (s := 8) rfl (.cons (s := 11) rfl (.cons (s := 12) rfl (.cons (s := 13) rfl (.cons (s := 35) rfl (.cons (s := 36) rfl (.cons (s := 65) rfl (.cons (s := 66) rfl .nil)))))))))))) .refl) ?_
        refine run_blk ?_
        refine run_region ?_
        refine run_q (.none rfl) rfl rfl (q_add rfl rfl rfl (by omega)) ?_
        refine run_q (.none rfl) rfl rfl (q_move rfl rfl) ?_
        refine run_nil ?_
        exact run_again (i + 1) (by (try dsimp only); exact (by omega)) (by (try dsimp only); omega) (subMk (.cons' (s := 66) rfl (vint (by omega)) (.cons' (s := 12) rfl rfl (.cons' (s := 13) rfl rfl (.cons (s := 1) rfl (.cons (s := 2) rfl (.cons (s := 4) rfl (.cons (s := 5) rfl (.cons (s := 8) rfl (.cons (s := 11) rfl (.cons (s := 35) rfl (.cons (s := 36) rfl (.cons (s := 65) rfl .nil)))))))))))) (.cons (.there Sel.here) .refl (.cons (.there Sel.here) .refl (.cons (.there Sel.here) .refl .nil))))
      · have g67' := g67
        try simp only [decide_eq_true_eq, decide_eq_false_iff_not, beq_iff_eq, beq_eq_false_iff_ne, bne_iff_ne, bne_eq_false_iff_eq, Bool.not_eq_true', Bool.not_eq_false', ne_eq, Int.not_lt, Int.not_le, Decidable.not_not] at g67'
        refine run_exit rfl ?_
        refine run_sub (subMk (.cons (s := 1) rfl (.cons (s := 2) rfl (.cons (s := 4) rfl (.cons (s := 5) rfl (.cons (s := 8) rfl (.cons (s := 12) rfl (.cons (s := 13) rfl (.cons (s := 35) rfl (.cons (s := 36) rfl .nil))))))))) .refl) ?_
        have hsx := sumX_bd (c := [c0, c1, c2, c3]) (w := wts r k) (fun i h => wts_bd hr hkb h) hC (j := i) (by omega)
        have hsy := sumY_bd (c := [c0, c1, c2, c3]) (w := wts r k) (fun i h => wts_bd hr hkb h) hC (j := i) (by omega)
        refine run_region ?_
        refine run_q (.none rfl) rfl rfl (q_move rfl rfl) ?_
        refine run_q (.none rfl) rfl rfl (q_move rfl rfl) ?_
        refine run_q (.none rfl) rfl rfl (q_move rfl rfl) ?_
        refine run_q (.none rfl) rfl rfl (q_move rfl rfl) ?_
        refine run_q (.none rfl) rfl rfl (q_mul rfl rfl rfl (by omega)) ?_
        refine run_q (.none rfl) rfl rfl (q_move rfl rfl) ?_
        refine run_q (.none rfl) rfl rfl (q_mul rfl rfl rfl (by omega)) ?_
        refine run_q (.none rfl) rfl rfl (q_call rfl call57 (.cons rfl (.cons rfl Evs.nil)) (fun w hk hm => floor_just (sumX [c0, c1, c2, c3] (wts r k) i) ((n : Int) * n * n) w ⟨by omega, by omega⟩ ⟨by omega, by omega⟩)) ?_
        refine run_q (.none rfl) rfl rfl (q_move rfl rfl) ?_
        refine run_q (.none rfl) rfl rfl (q_move rfl rfl) ?_
        refine run_q (.none rfl) rfl rfl (q_move rfl rfl) ?_
        refine run_q (.none rfl) rfl rfl (q_mul rfl rfl rfl (by omega)) ?_
        refine run_q (.none rfl) rfl rfl (q_move rfl rfl) ?_
        refine run_q (.none rfl) rfl rfl (q_mul rfl rfl rfl (by omega)) ?_
        refine run_q (.none rfl) rfl rfl (q_call rfl call57 (.cons rfl (.cons rfl Evs.nil)) (fun w hk hm => floor_just (sumY [c0, c1, c2, c3] (wts r k) i) ((n : Int) * n * n) w ⟨by omega, by omega⟩ ⟨by omega, by omega⟩)) ?_
        refine run_q (.none rfl) rfl rfl (q_build rfl (.cons rfl (.cons rfl PV.nil)) (built69p0p1 _ _)) ?_
        refine run_h (.none rfl) (h_buildSlice rfl rfl rfl Try.underlying71 info69 (.cons rfl rfl rfl rfl Parts.nil) rfl (by omega)) ?_
        rintro b103 -
        refine run_h (.none rfl) (h_append rfl rfl rfl Try.underlying71 info69 rfl rfl (.there (.there Sel.here)) rfl (.own Sel.here) rfl (all1 rfl) (all1 rfl) (by omega) (by omega)) ?_
        rintro ⟨A104, c104⟩ -
        refine run_q (.none rfl) rfl rfl (q_assign rfl rfl) ?_
        refine run_nil ?_
        refine run_sub (subMk (.cons (s := 1) rfl (.cons (s := 2) rfl (.cons (s := 4) rfl (.cons (s := 5) rfl (.cons (s := 8) rfl (.cons (s := 35) rfl (.cons (s := 36) rfl .nil))))))) .refl) ?_
        refine run_blk ?_
        refine run_region ?_
        refine run_q (.none rfl) rfl rfl (q_add rfl rfl rfl (by omega)) ?_
        refine run_q (.none rfl) rfl rfl (q_move rfl rfl) ?_
        refine run_nil ?_
        exact run_again (k + 1, A104, c104) (by (try dsimp only); exact (by omega)) (by (try dsimp only); omega) (subMk (.cons' (s := 36) rfl (vint (by omega)) (.cons' (s := 8) rfl rfl (.cons (s := 1) rfl (.cons (s := 2) rfl (.cons (s := 4) rfl (.cons (s := 5) rfl (.cons (s := 35) rfl .nil))))))) (.cons Sel.here (.own rfl rfl rfl (by rw [smps_succ, List.map_append, smpP, ← hrk, show i = 4 from by omega]; rfl)) (.cons (.there (.there Sel.here)) .refl .nil)))
    · have g37' := g37
      try simp only [decide_eq_true_eq, decide_eq_false_iff_not, beq_iff_eq, beq_eq_false_iff_ne, bne_iff_ne, bne_eq_false_iff_eq, Bool.not_eq_true', Bool.not_eq_false', ne_eq, Int.not_lt, Int.not_le, Decidable.not_not] at g37'
      refine run_exit rfl ?_
      refine run_sub (subMk (.cons (s := 4) rfl (.cons (s := 5) rfl (.cons (s := 8) rfl .nil))) .refl) ?_
      refine run_seq ?_
      refine run_region ?_
      refine run_q (.none rfl) rfl rfl (q_move rfl rfl) ?_
      refine run_q (.none rfl) rfl rfl (q_assign rfl rfl) ?_
      refine run_q (.none rfl) rfl rfl (q_assign rfl rfl) ?_
      refine run_nil ?_
      refine run_ret ?_
      refine run_sub (subMk .refl (.cons Sel.here (.own (m' := n + 1) (xs' := (smps [c0, c1, c2, c3] n (n + 1)).map Pt.enc) rfl (by omega) rfl (by rw [show k = n + 1 from by omega])) .nil)) ?_
      exact end2 rfl rfl rfl ⟨O, co, by rw [show k = n + 1 from by omega], rfl⟩

end Go.Proofs.Ytomhegnaojejnaa
