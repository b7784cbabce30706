/- The law on the order of requests. -/
import Derived.Test.YtgphmbipakdggaaRQC
import Derived.Test.YtgphmbipakdggaaRF
import Derived.Test.YtgphmbipakdggaaREqs
set_option linter.unusedSimpArgs false
set_option linter.unusedVariables false
namespace Go.Proofs.YtgphmbipakdggaaR
open Go Go.RowKit Hr

theorem call13 : Hr.Callable Try.prog 13 := fun args w => by kernel_rfl
theorem eqg25 : Try.prog.eqGuardType Try.prog.depth 25 = false := by kernel_rfl
theorem stood25 : Try.prog.stoodInHeld 25 = false := by kernel_rfl
theorem stood23 : Try.prog.stoodInHeld 23 = false := by kernel_rfl
set_option maxRecDepth 100000 in
theorem eqs23d9999 (a0 a1 b0 b1 : Int) (w : World) : (Op.equalIn 9999 23 (.agg #[.int .i64 a0, .int .i64 a1]) (.agg #[.int .i64 b0, .int .i64 b1])).run Try.prog w = .ok (a0 == b0 && (a1 == b1)) w := by
  rw [run_equalIn_struct w 9998 23 _ _ (by simp only [Program.fieldsOf, Try.underlying23]) stood23]
  simp only [Program.fieldsOf, Try.underlying23]
  exact Eq.trans (eqF_cons (by decide) (part_one one3 rfl) (part_one one3 rfl) (run_equalIn_int w 9997 3 .i64 .i64 a0 b0 Try.underlying3) (eqF_cons (by decide) (part_one one3 rfl) (part_one one3 rfl) (run_equalIn_int w 9997 3 .i64 .i64 a1 b1 Try.underlying3) eqF_nil)) (by simp only [Bool.and_true, Bool.and_assoc])
set_option maxRecDepth 100000 in
theorem eqs25 (a0 a1 a2 a3 a4 a5 a6 a7 a8 a9 a10 a11 a12 b0 b1 b2 b3 b4 b5 b6 b7 b8 b9 b10 b11 b12 : Int) (w : World) : (Op.equalIn 10000 25 (.agg #[.int .i64 a0, .int .i64 a1, .int .i64 a2, .int .i64 a3, .int .i64 a4, .int .i64 a5, .int .i64 a6, .int .i64 a7, .int .i64 a8, .int .i64 a9, .int .i64 a10, .int .i64 a11, .int .i64 a12]) (.agg #[.int .i64 b0, .int .i64 b1, .int .i64 b2, .int .i64 b3, .int .i64 b4, .int .i64 b5, .int .i64 b6, .int .i64 b7, .int .i64 b8, .int .i64 b9, .int .i64 b10, .int .i64 b11, .int .i64 b12])).run Try.prog w = .ok (a0 == b0 && (a1 == b1 && (a2 == b2 && (a3 == b3 && (a4 == b4 && (a5 == b5 && (a6 == b6 && (a7 == b7 && (a8 == b8 && (a9 == b9 && (a10 == b10 && (a11 == b11 && (a12 == b12))))))))))))) w := by
  rw [run_equalIn_struct w 9999 25 _ _ (by simp only [Program.fieldsOf, Try.underlying25]) stood25]
  simp only [Program.fieldsOf, Try.underlying25]
  exact Eq.trans (eqF_cons (by decide) (part_one one3 rfl) (part_one one3 rfl) (run_equalIn_int w 9998 3 .i64 .i64 a0 b0 Try.underlying3) (eqF_cons (by decide) (part_one one3 rfl) (part_one one3 rfl) (run_equalIn_int w 9998 3 .i64 .i64 a1 b1 Try.underlying3) (eqF_cons (by decide) (part_one one3 rfl) (part_one one3 rfl) (run_equalIn_int w 9998 3 .i64 .i64 a2 b2 Try.underlying3) (eqF_cons (by decide) (part_one one3 rfl) (part_one one3 rfl) (run_equalIn_int w 9998 3 .i64 .i64 a3 b3 Try.underlying3) (eqF_cons (by decide) (part_one one3 rfl) (part_one one3 rfl) (run_equalIn_int w 9998 3 .i64 .i64 a4 b4 Try.underlying3) (eqF_cons (by decide) (part_one one3 rfl) (part_one one3 rfl) (run_equalIn_int w 9998 3 .i64 .i64 a5 b5 Try.underlying3) (eqF_cons (by decide) (part_one one3 rfl) (part_one one3 rfl) (run_equalIn_int w 9998 3 .i64 .i64 a6 b6 Try.underlying3) (eqF_cons (by decide) (part_one one3 rfl) (part_one one3 rfl) (run_equalIn_int w 9998 3 .i64 .i64 a7 b7 Try.underlying3) (eqF_cons (by decide) (part_agg agg23 rfl) (part_agg agg23 rfl) (eqs23d9999 a8 a9 b8 b9 w) (eqF_cons (by decide) (part_one one3 rfl) (part_one one3 rfl) (run_equalIn_int w 9998 3 .i64 .i64 a10 b10 Try.underlying3) (eqF_cons (by decide) (part_one one3 rfl) (part_one one3 rfl) (run_equalIn_int w 9998 3 .i64 .i64 a11 b11 Try.underlying3) (eqF_cons (by decide) (part_one one3 rfl) (part_one one3 rfl) (run_equalIn_int w 9998 3 .i64 .i64 a12 b12 Try.underlying3) eqF_nil)))))))))))) (by simp only [Bool.and_true, Bool.and_assoc])
theorem call54 : Hr.Callable Try.prog 54 := fun args w => by kernel_rfl
theorem call30 : Hr.Callable Try.prog 30 := fun args w => by kernel_rfl
theorem call31 : Hr.Callable Try.prog 31 := fun args w => by kernel_rfl
theorem call29 : Hr.Callable Try.prog 29 := fun args w => by kernel_rfl

set_option maxHeartbeats 1000000 in
set_option maxRecDepth 100000 in
theorem before_just (a b : Req) (W : World)  : Calls Try.prog 54 #[a.val, b.val] W (Hr.Just W (.int .i64 (Ky.lex (keyM a) (keyM b)))) := by
  refine Just.of_ret ?_
  refine enterA (X := nX) (vs := [a.val, b.val]) Try.func54 Try.ntmps54 rfl rfl Mem.nil ?_
  refine run_seq ?_
  refine run_region ?_
  refine run_h (.none rfl) (h_box rfl rfl rfl rfl rfl) ?_
  rintro b2 -
  refine run_h (.none rfl) (h_box rfl rfl rfl rfl rfl) ?_
  rintro b3 -
  refine run_q (.none rfl) rfl rfl (q_assign rfl rfl) ?_
  refine run_nil ?_
  refine run_seq ?_
  refine run_region ?_
  refine run_q (.none rfl) rfl rfl (q_fieldB (d := 0) rfl Try.underlying25 rfl rfl sz3 rfl) ?_
  refine run_q (.none rfl) rfl rfl (q_loadB rfl one3 rfl (.there Sel.here) rfl) ?_
  refine run_q (.none rfl) rfl rfl (q_fieldB (d := 3) rfl Try.underlying25 rfl rfl sz3 rfl) ?_
  refine run_q (.none rfl) rfl rfl (q_loadB rfl one3 rfl (.there Sel.here) rfl) ?_
  refine run_q (.none rfl) rfl rfl (q_fieldB (d := 4) rfl Try.underlying25 rfl rfl sz3 rfl) ?_
  refine run_q (.none rfl) rfl rfl (q_loadB rfl one3 rfl (.there Sel.here) rfl) ?_
  refine run_q (.none rfl) rfl rfl (q_fieldB (d := 5) rfl Try.underlying25 rfl rfl sz3 rfl) ?_
  refine run_q (.none rfl) rfl rfl (q_loadB rfl one3 rfl (.there Sel.here) rfl) ?_
  refine run_q (.none rfl) rfl rfl (q_fieldB (d := 1) rfl Try.underlying25 rfl rfl sz3 rfl) ?_
  refine run_q (.none rfl) rfl rfl (q_loadB rfl one3 rfl (.there Sel.here) rfl) ?_
  refine run_q (.none rfl) rfl rfl (q_fieldB (d := 8) rfl Try.underlying25 rfl rfl sz23 rfl) ?_
  refine run_q (.none rfl) rfl rfl (q_fieldB (d := 8) rfl Try.underlying23 rfl rfl sz3 rfl) ?_
  refine run_q (.none rfl) rfl rfl (q_loadB rfl one3 rfl (.there Sel.here) rfl) ?_
  refine run_q (.none rfl) rfl rfl (q_fieldB (d := 8) rfl Try.underlying25 rfl rfl sz23 rfl) ?_
  refine run_q (.none rfl) rfl rfl (q_fieldB (d := 9) rfl Try.underlying23 rfl rfl sz3 rfl) ?_
  refine run_q (.none rfl) rfl rfl (q_loadB rfl one3 rfl (.there Sel.here) rfl) ?_
  refine run_h (.none rfl) (h_buildSlice rfl rfl rfl Try.underlying38 info3 (.cons rfl rfl rfl rfl (.cons rfl rfl rfl rfl (.cons rfl rfl rfl rfl (.cons rfl rfl rfl rfl (.cons rfl rfl rfl rfl (.cons rfl rfl rfl rfl (.cons rfl rfl rfl rfl Parts.nil))))))) rfl (by omega)) ?_
  rintro b24 -
  refine run_q (.none rfl) rfl rfl (q_assign rfl rfl) ?_
  refine run_nil ?_
  refine run_sub (subMk (.cons (s := 3) rfl (.cons (s := 4) rfl (.cons (s := 5) rfl .nil))) .refl) ?_
  refine run_seq ?_
  refine run_region ?_
  refine run_q (.none rfl) rfl rfl (q_fieldB (d := 0) rfl Try.underlying25 rfl rfl sz3 rfl) ?_
  refine run_q (.none rfl) rfl rfl (q_loadB rfl one3 rfl (.there Sel.here) rfl) ?_
  refine run_q (.none rfl) rfl rfl (q_fieldB (d := 3) rfl Try.underlying25 rfl rfl sz3 rfl) ?_
  refine run_q (.none rfl) rfl rfl (q_loadB rfl one3 rfl (.there Sel.here) rfl) ?_
  refine run_q (.none rfl) rfl rfl (q_fieldB (d := 4) rfl Try.underlying25 rfl rfl sz3 rfl) ?_
  refine run_q (.none rfl) rfl rfl (q_loadB rfl one3 rfl (.there Sel.here) rfl) ?_
  refine run_q (.none rfl) rfl rfl (q_fieldB (d := 5) rfl Try.underlying25 rfl rfl sz3 rfl) ?_
  refine run_q (.none rfl) rfl rfl (q_loadB rfl one3 rfl (.there Sel.here) rfl) ?_
  refine run_q (.none rfl) rfl rfl (q_fieldB (d := 1) rfl Try.underlying25 rfl rfl sz3 rfl) ?_
  refine run_q (.none rfl) rfl rfl (q_loadB rfl one3 rfl (.there Sel.here) rfl) ?_
  refine run_q (.none rfl) rfl rfl (q_fieldB (d := 8) rfl Try.underlying25 rfl rfl sz23 rfl) ?_
  refine run_q (.none rfl) rfl rfl (q_fieldB (d := 8) rfl Try.underlying23 rfl rfl sz3 rfl) ?_
  refine run_q (.none rfl) rfl rfl (q_loadB rfl one3 rfl (.there Sel.here) rfl) ?_
  refine run_q (.none rfl) rfl rfl (q_fieldB (d := 8) rfl Try.underlying25 rfl rfl sz23 rfl) ?_
  refine run_q (.none rfl) rfl rfl (q_fieldB (d := 9) rfl Try.underlying23 rfl rfl sz3 rfl) ?_
  refine run_q (.none rfl) rfl rfl (q_loadB rfl one3 rfl (.there Sel.here) rfl) ?_
  refine run_h (.none rfl) (h_buildSlice rfl rfl rfl Try.underlying38 info3 (.cons rfl rfl rfl rfl (.cons rfl rfl rfl rfl (.cons rfl rfl rfl rfl (.cons rfl rfl rfl rfl (.cons rfl rfl rfl rfl (.cons rfl rfl rfl rfl (.cons rfl rfl rfl rfl Parts.nil))))))) rfl (by omega)) ?_
  rintro b41 -
  refine run_q (.none rfl) rfl rfl (q_assign rfl rfl) ?_
  refine run_nil ?_
  refine run_sub (subMk (.cons (s := 4) rfl (.cons (s := 5) rfl (.cons (s := 6) rfl .nil))) .refl) ?_
  refine run_seq ?_
  refine run_seq ?_
  refine run_region ?_
  refine run_q (.none rfl) rfl rfl (q_assign rfl rfl) ?_
  refine run_nil ?_
  refine run_block ?_
  refine run_sub (subMk (.cons (s := 7) rfl (.cons (s := 4) rfl (.cons (s := 5) rfl (.cons (s := 6) rfl .nil)))) (.cons Sel.here .refl (.cons Sel.here .refl (.cons Sel.here .refl (.cons Sel.here .refl .nil))))) ?_
  refine run_loopC1M0 (ι := Nat) (fun k => k ≤ 7 ∧ Ky.lex (keyM a) (keyM b) = Ky.lex ((keyM a).drop k) ((keyM b).drop k)) (fun k => .int .i64 (k : Int))  (fun k => 7 - k) 0 (by (try dsimp only); exact ⟨by omega, rfl⟩) rfl  ?_
  rintro k hq
  (try dsimp only at hq)
  obtain ⟨hk, hE⟩ := hq
  show Run _ _ _ _ _ _ _ ⟨(7, .int .i64 (k : Int)) :: _, _⟩
  refine run_seq ?_
  refine run_seq ?_
  refine run_region ?_
  refine run_q (.none rfl) rfl rfl (q_move rfl rfl) ?_
  refine run_q (.none rfl) rfl rfl (q_move rfl rfl) ?_
  refine run_q (.none rfl) rfl rfl (q_len rfl Try.underlying38 rfl) ?_
  refine run_q (.none rfl) rfl rfl (q_lss rfl rfl rfl) ?_
  refine run_nil ?_
  refine run_sub (subMk (.cons (s := 4) rfl (.cons (s := 5) rfl (.cons (s := 6) rfl (.cons (s := 7) rfl (.cons (s := 45) rfl .nil))))) .refl) ?_
  refine run_cond rfl (fun g45 => ?_) (fun g45 => ?_)
  · have g45' := g45
    try simp only [decide_eq_true_eq, decide_eq_false_iff_not, beq_iff_eq, beq_eq_false_iff_ne, bne_iff_ne, bne_eq_false_iff_eq, Bool.not_eq_true', Bool.not_eq_false', ne_eq, Int.not_lt, Int.not_le, Decidable.not_not] at g45'
    have hk7 : k < 7 := by omega
    refine run_skip ?_
    refine run_seq ?_
    refine run_block ?_
    refine run_seq ?_
    refine run_seq ?_
    refine run_draw [(0, 0), (1, 0), (2, 0), (3, 0), (4, 0), (5, 0), (6, 0), (7, 0), (8, 0)] mixed (by kernel_rfl) .refl ?_
    refine d_q rfl rfl (.none rfl) rfl rfl (q_move rfl rfl) ?_
    refine d_q rfl rfl (.none rfl) rfl rfl (q_move rfl rfl) ?_
    refine d_q rfl rfl (.none rfl) rfl rfl (q_indexS (q := k) rfl Try.underlying38 sz3 rfl rfl (.own (.there Sel.here)) (by simp <;> omega) rfl (by omega)) ?_
    refine d_q rfl rfl (.none rfl) rfl rfl (q_loadC rfl one3 rfl (.own (.there Sel.here)) (show ((keyM a).map encI)[k]? = some (encI (nth (keyM a) k)) from getmap (by show k < 7; omega))) ?_
    refine d_q rfl rfl (.none rfl) rfl rfl (q_move rfl rfl) ?_
    refine d_q rfl rfl (.none rfl) rfl rfl (q_move rfl rfl) ?_
    refine d_q rfl rfl (.none rfl) rfl rfl (q_indexS (q := k) rfl Try.underlying38 sz3 rfl rfl (.own Sel.here) (by simp <;> omega) rfl (by omega)) ?_
    refine d_q rfl rfl (.none rfl) rfl rfl (q_loadC rfl one3 rfl (.own Sel.here) (show ((keyM b).map encI)[k]? = some (encI (nth (keyM b) k)) from getmap (by show k < 7; omega))) ?_
    refine d_q rfl rfl (.none rfl) rfl rfl (q_lss rfl rfl rfl) ?_
    refine d_nil ?_
    refine run_sub (subMk (.cons (s := 4) rfl (.cons (s := 5) rfl (.cons (s := 6) rfl (.cons (s := 7) rfl (.cons (s := 56) rfl .nil))))) .refl) ?_
    refine run_cond rfl (fun g56 => ?_) (fun g56 => ?_)
    · have g56' := g56
      try simp only [decide_eq_true_eq, decide_eq_false_iff_not, beq_iff_eq, beq_eq_false_iff_ne, bne_iff_ne, bne_eq_false_iff_eq, Bool.not_eq_true', Bool.not_eq_false', ne_eq, Int.not_lt, Int.not_le, Decidable.not_not] at g56'
      refine run_seq ?_
      refine run_region ?_
      refine run_q (.none rfl) rfl rfl (q_assign rfl rfl) ?_
      refine run_nil ?_
      refine run_ret ?_
      exact end1 rfl rfl (vint (bef_m hE hk7 g56'))
    · have g56' := g56
      try simp only [decide_eq_true_eq, decide_eq_false_iff_not, beq_iff_eq, beq_eq_false_iff_ne, bne_iff_ne, bne_eq_false_iff_eq, Bool.not_eq_true', Bool.not_eq_false', ne_eq, Int.not_lt, Int.not_le, Decidable.not_not] at g56'
      refine run_skip ?_
      refine run_seq ?_
      refine run_draw [(0, 0), (1, 0), (2, 0), (3, 0), (4, 0), (5, 0), (6, 0), (7, 0), (8, 0)] mixed (by kernel_rfl) .refl ?_
      refine d_q rfl rfl (.none rfl) rfl rfl (q_move rfl rfl) ?_
      refine d_q rfl rfl (.none rfl) rfl rfl (q_move rfl rfl) ?_
      refine d_q rfl rfl (.none rfl) rfl rfl (q_indexS (q := k) rfl Try.underlying38 sz3 rfl rfl (.own (.there Sel.here)) (by simp <;> omega) rfl (by omega)) ?_
      refine d_q rfl rfl (.none rfl) rfl rfl (q_loadC rfl one3 rfl (.own (.there Sel.here)) (show ((keyM a).map encI)[k]? = some (encI (nth (keyM a) k)) from getmap (by show k < 7; omega))) ?_
      refine d_q rfl rfl (.none rfl) rfl rfl (q_move rfl rfl) ?_
      refine d_q rfl rfl (.none rfl) rfl rfl (q_move rfl rfl) ?_
      refine d_q rfl rfl (.none rfl) rfl rfl (q_indexS (q := k) rfl Try.underlying38 sz3 rfl rfl (.own Sel.here) (by simp <;> omega) rfl (by omega)) ?_
      refine d_q rfl rfl (.none rfl) rfl rfl (q_loadC rfl one3 rfl (.own Sel.here) (show ((keyM b).map encI)[k]? = some (encI (nth (keyM b) k)) from getmap (by show k < 7; omega))) ?_
      refine d_q rfl rfl (.none rfl) rfl rfl (q_gtr rfl rfl rfl) ?_
      refine d_nil ?_
      refine run_sub (subMk (.cons (s := 4) rfl (.cons (s := 5) rfl (.cons (s := 6) rfl (.cons (s := 7) rfl (.cons (s := 65) rfl .nil))))) .refl) ?_
      refine run_cond rfl (fun g65 => ?_) (fun g65 => ?_)
      · have g65' := g65
        try simp only [decide_eq_true_eq, decide_eq_false_iff_not, beq_iff_eq, beq_eq_false_iff_ne, bne_iff_ne, bne_eq_false_iff_eq, Bool.not_eq_true', Bool.not_eq_false', ne_eq, Int.not_lt, Int.not_le, Decidable.not_not] at g65'
        refine run_seq ?_
        refine run_region ?_
        refine run_q (.none rfl) rfl rfl (q_assign rfl rfl) ?_
        refine run_nil ?_
        refine run_ret ?_
        exact end1 rfl rfl (vint (bef_1 hE hk7 g65'))
      · have g65' := g65
        try simp only [decide_eq_true_eq, decide_eq_false_iff_not, beq_iff_eq, beq_eq_false_iff_ne, bne_iff_ne, bne_eq_false_iff_eq, Bool.not_eq_true', Bool.not_eq_false', ne_eq, Int.not_lt, Int.not_le, Decidable.not_not] at g65'
        refine run_skip ?_
        refine run_blk ?_
        refine run_region ?_
        refine run_q (.none rfl) rfl rfl (q_move rfl rfl) ?_
        refine run_q (.none rfl) rfl rfl (q_add rfl rfl rfl (by omega)) ?_
        refine run_q (.none rfl) rfl rfl (q_assign rfl rfl) ?_
        refine run_nil ?_
        refine run_sub (subMk (.cons (s := 4) rfl (.cons (s := 5) rfl (.cons (s := 6) rfl (.cons (s := 7) rfl .nil)))) .refl) ?_
        exact run_again (k + 1) (by (try dsimp only); exact ⟨by omega, bef_n hE hk7 (by omega) (by omega)⟩) (by (try dsimp only); omega) (subMk (.cons' (s := 7) rfl (vint (by omega)) (.cons (s := 4) rfl (.cons (s := 5) rfl (.cons (s := 6) rfl .nil)))) (.cons Sel.here .refl (.cons Sel.here .refl (.cons Sel.here .refl (.cons Sel.here .refl .nil)))))
  · have g45' := g45
    try simp only [decide_eq_true_eq, decide_eq_false_iff_not, beq_iff_eq, beq_eq_false_iff_ne, bne_iff_ne, bne_eq_false_iff_eq, Bool.not_eq_true', Bool.not_eq_false', ne_eq, Int.not_lt, Int.not_le, Decidable.not_not] at g45'
    refine run_exit rfl ?_
    refine run_sub (subMk (.cons (s := 4) rfl .nil) .refl) ?_
    refine run_seq ?_
    refine run_region ?_
    refine run_q (.none rfl) rfl rfl (q_assign rfl rfl) ?_
    refine run_nil ?_
    refine run_ret ?_
    exact end1 rfl rfl (vint (bef_0 hE (by omega)))

set_option maxHeartbeats 1000000 in
set_option maxRecDepth 100000 in
theorem reforder_ret (l : List Req) (A : Option Addr) (ca : Nat) (W : World) (hr : Rd W A 13 (l.map Req.enc)) (hl : l.length ≤ 20) : Calls Try.prog 31 #[.slice A l.length ca] W (Ret W nX (fun v m => ∃ O co, v = .slice O l.length co ∧ m = [.own 25 13 O l.length co ((ordM l).map Req.enc)])) := by
  refine enterA (X := nX) (vs := [.slice A l.length ca]) Try.func31 Try.ntmps31 rfl rfl Mem.nil ?_
  refine run_seq ?_
  refine run_region ?_
  refine run_q (.none rfl) rfl rfl (q_assign rfl rfl) ?_
  refine run_nil ?_
  refine run_seq ?_
  refine run_region ?_
  refine run_q (.none rfl) rfl rfl (q_assign rfl rfl) ?_
  refine run_nil ?_
  refine run_seq ?_
  refine run_seq ?_
  refine run_region ?_
  refine run_q (.none rfl) rfl rfl (q_assign rfl rfl) ?_
  refine run_nil ?_
  refine run_block ?_
  refine run_sub (subMk .refl (MemSub.nilOwn 25 13)) ?_
  refine run_sub (subMk (.cons (s := 4) rfl (.cons (s := 3) rfl (.cons (s := 0) rfl (.cons (s := 2) rfl .nil)))) (.cons Sel.here .refl .nil)) ?_
  refine run_loopC2M1 (ι := Nat × (Option Addr) × Nat) (fun gg => gg.1 ≤ l.length) (fun gg => .int .i64 (gg.1 : Int)) (fun gg => .slice gg.2.1 gg.1 gg.2.2) (fun gg => .own 25 13 gg.2.1 gg.1 gg.2.2 ((Srt.sort (Ky.ltK keyM) l gg.1).map Req.enc)) (fun gg => l.length - gg.1) (0, none, 0) (by (try dsimp only); exact (by omega)) rfl rfl (.own rfl rfl rfl rfl) ?_
  rintro ⟨i, O, co⟩ hi
  (try dsimp only at hi)
  show Run _ _ _ _ _ _ _ ⟨(4, .int .i64 (i : Int)) :: (3, .slice O i co) :: _, .own 25 13 O i co ((Srt.sort (Ky.ltK keyM) l i).map Req.enc) :: _⟩
  refine run_seq ?_
  refine run_seq ?_
  refine run_region ?_
  refine run_q (.none rfl) rfl rfl (q_move rfl rfl) ?_
  refine run_q (.none rfl) rfl rfl (q_move rfl rfl) ?_
  refine run_q (.none rfl) rfl rfl (q_len rfl Try.underlying37 rfl) ?_
  refine run_q (.none rfl) rfl rfl (q_lss rfl rfl rfl) ?_
  refine run_nil ?_
  refine run_sub (subMk (.cons (s := 0) rfl (.cons (s := 2) rfl (.cons (s := 3) rfl (.cons (s := 4) rfl (.cons (s := 9) rfl .nil))))) .refl) ?_
  refine run_cond rfl (fun g9 => ?_) (fun g9 => ?_)
  · have g9' := g9
    try simp only [decide_eq_true_eq, decide_eq_false_iff_not, beq_iff_eq, beq_eq_false_iff_ne, bne_iff_ne, bne_eq_false_iff_eq, Bool.not_eq_true', Bool.not_eq_false', ne_eq, Int.not_lt, Int.not_le, Decidable.not_not] at g9'
    refine run_skip ?_
    refine run_seq ?_
    refine run_block ?_
    refine run_seq ?_
    refine run_region ?_
    refine run_q (.none rfl) rfl rfl (q_move rfl rfl) ?_
    refine run_q (.none rfl) rfl rfl (q_len rfl Try.underlying37 rfl) ?_
    refine run_q (.none rfl) rfl rfl (q_assign rfl rfl) ?_
    refine run_nil ?_
    refine run_sub (subMk (.cons (s := 0) rfl (.cons (s := 2) rfl (.cons (s := 3) rfl (.cons (s := 4) rfl (.cons (s := 5) rfl .nil))))) .refl) ?_
    refine run_seq ?_
    refine run_block ?_
    refine run_sub (subMk (.cons (s := 5) rfl (.cons (s := 0) rfl (.cons (s := 2) rfl (.cons (s := 3) rfl (.cons (s := 4) rfl .nil))))) (.cons Sel.here .refl .nil)) ?_
    refine run_loopC1M0 (ι := Nat) (fun j => j ≤ i ∧ Srt.pos (Ky.ltK keyM) (Srt.sort (Ky.ltK keyM) l i) (nth l i) i = Srt.pos (Ky.ltK keyM) (Srt.sort (Ky.ltK keyM) l i) (nth l i) j) (fun j => .int .i64 (j : Int))  (fun j => j) i (by (try dsimp only); exact ⟨by omega, rfl⟩) rfl  ?_
    rintro j hq
    (try dsimp only at hq)
    obtain ⟨hj, hpos⟩ := hq
    show Run _ _ _ _ _ _ _ ⟨(5, .int .i64 (j : Int)) :: _, _⟩
    refine run_seq ?_
    refine run_seq ?_
    refine run_draw [(0, 0), (1, 0), (2, 0), (3, 0), (4, 0), (5, 0), (6, 0), (7, 0), (8, 0), (9, 0), (10, 0), (11, 0), (12, 0), (13, 0), (14, 0)] mixed (by kernel_rfl) .refl ?_
    refine d_q rfl rfl (.none rfl) rfl rfl (q_move rfl rfl) ?_
    refine d_q rfl rfl (.none rfl) rfl rfl (q_gtr rfl rfl rfl) ?_
    refine d_q rfl rfl (.none rfl) rfl rfl (q_move rfl rfl) ?_
    refine d_split 16 rfl (fun g16 => ?_) (fun g16 => ?_)
    · have g16' := g16
      try simp only [decide_eq_true_eq, decide_eq_false_iff_not, beq_iff_eq, beq_eq_false_iff_ne, bne_iff_ne, bne_eq_false_iff_eq, Bool.not_eq_true', Bool.not_eq_false', ne_eq, Int.not_lt, Int.not_le, Decidable.not_not] at g16'
      refine d_q rfl rfl (.on rfl rfl rfl g16) rfl rfl (q_move rfl rfl) ?_
      refine d_q rfl rfl (.on rfl rfl rfl g16) rfl rfl (q_move rfl rfl) ?_
      refine d_q rfl rfl (.on rfl rfl rfl g16) rfl rfl (q_sub rfl rfl rfl (by omega)) ?_
      refine d_q rfl rfl (.on rfl rfl rfl g16) rfl rfl (q_indexS (q := (j - 1)) rfl Try.underlying37 sz25 rfl rfl (.own Sel.here) (by rw [List.length_map, Srt.sort_len]) (by omega) (by omega)) ?_
      refine d_q rfl rfl (.on rfl rfl rfl g16) rfl rfl (q_loadE rfl agg25 rfl (.own Sel.here) (getmap (by rw [Srt.sort_len]; omega)) rfl) ?_
      refine d_q rfl rfl (.on rfl rfl rfl g16) rfl rfl (q_move rfl rfl) ?_
      refine d_q rfl rfl (.on rfl rfl rfl g16) rfl rfl (q_move rfl rfl) ?_
      refine d_q rfl rfl (.on rfl rfl rfl g16) rfl rfl (q_indexS (q := i) rfl Try.underlying37 sz25 rfl rfl (.inp hr .no) (by simp <;> omega) rfl (by omega)) ?_
      refine d_q rfl rfl (.on rfl rfl rfl g16) rfl rfl (q_loadE rfl agg25 rfl (.inp hr .no) (getmap (by omega)) rfl) ?_
      refine d_q rfl rfl (.on rfl rfl rfl g16) rfl rfl (q_call rfl call54 (.cons rfl (.cons rfl Evs.nil)) (fun w hk hm => before_just (nth (Srt.sort (Ky.ltK keyM) l i) (j - 1)) (nth l i) w)) ?_
      refine d_q rfl rfl (.on rfl rfl rfl g16) rfl rfl (q_gtr rfl rfl rfl) ?_
      refine d_q rfl rfl (.none rfl) rfl rfl (q_pickT rfl rfl g16 rfl) ?_
      refine d_nil ?_
      refine run_sub (subMk (.cons (s := 0) rfl (.cons (s := 2) rfl (.cons (s := 3) rfl (.cons (s := 4) rfl (.cons (s := 5) rfl (.cons (s := 28) rfl .nil)))))) .refl) ?_
      refine run_cond rfl (fun g28 => ?_) (fun g28 => ?_)
      · have g28' := g28
        try simp only [decide_eq_true_eq, decide_eq_false_iff_not, beq_iff_eq, beq_eq_false_iff_ne, bne_iff_ne, bne_eq_false_iff_eq, Bool.not_eq_true', Bool.not_eq_false', ne_eq, Int.not_lt, Int.not_le, Decidable.not_not] at g28'
        refine run_skip ?_
        refine run_block ?_
        refine run_region ?_
        refine run_q (.none rfl) rfl rfl (q_move rfl rfl) ?_
        refine run_q (.none rfl) rfl rfl (q_sub rfl rfl rfl (by omega)) ?_
        refine run_q (.none rfl) rfl rfl (q_assign rfl rfl) ?_
        refine run_nil ?_
        refine run_sub (subMk (.cons (s := 0) rfl (.cons (s := 2) rfl (.cons (s := 3) rfl (.cons (s := 4) rfl (.cons (s := 5) rfl .nil))))) .refl) ?_
        refine run_blk ?_
        exact run_again (j - 1) (by (try dsimp only); exact ⟨by omega, by rw [hpos, Srt.pos_skip' (by omega) (gt_lt (by omega))]⟩) (by (try dsimp only); omega) (subMk (.cons' (s := 5) rfl (vint (by omega)) (.cons (s := 0) rfl (.cons (s := 2) rfl (.cons (s := 3) rfl (.cons (s := 4) rfl .nil))))) (.cons Sel.here .refl .nil))
      · have g28' := g28
        try simp only [decide_eq_true_eq, decide_eq_false_iff_not, beq_iff_eq, beq_eq_false_iff_ne, bne_iff_ne, bne_eq_false_iff_eq, Bool.not_eq_true', Bool.not_eq_false', ne_eq, Int.not_lt, Int.not_le, Decidable.not_not] at g28'
        have hpe : Srt.pos (Ky.ltK keyM) (Srt.sort (Ky.ltK keyM) l i) (nth l i) i = j := by rw [hpos, Srt.pos_stop' (by omega) (le_lt (by omega))]
        refine run_exit rfl ?_
        refine run_ownLe Sel.here (fun hle => ?_)
        refine run_fork mixed (by kernel_rfl) .refl ?_
        refine b_q (i := 1) rfl (by kernel_rfl) (.none rfl) rfl rfl (q_move rfl rfl) ?_
        refine b_q (i := 2) rfl (by kernel_rfl) (.none rfl) rfl rfl (q_move rfl rfl) ?_
        refine b_q (i := 3) rfl (by kernel_rfl) (.none rfl) rfl rfl (q_sliceH rfl Try.underlying37 sz25 rfl rfl (by omega)) ?_
        refine b_q (i := 5) rfl (by kernel_rfl) (.none rfl) rfl rfl (q_move rfl rfl) ?_
        refine b_q (i := 6) rfl (by kernel_rfl) (.none rfl) rfl rfl (q_move rfl rfl) ?_
        refine b_q (i := 7) rfl (by kernel_rfl) (.none rfl) rfl rfl (q_indexS (q := i) rfl Try.underlying37 sz25 rfl rfl (.inp hr .no) (by simp <;> omega) rfl (by omega)) ?_
        refine b_q (i := 8) rfl (by kernel_rfl) (.none rfl) rfl rfl (q_loadE rfl agg25 rfl (.inp hr .no) (getmap (by omega)) rfl) ?_
        refine b_q (i := 11) rfl (by kernel_rfl) (.none rfl) rfl rfl (q_move rfl rfl) ?_
        refine b_q (i := 12) rfl (by kernel_rfl) (.none rfl) rfl rfl (q_move rfl rfl) ?_
        refine b_q (i := 13) rfl (by kernel_rfl) (.none rfl) rfl rfl (q_sliceL rfl Try.underlying37 sz25 rfl rfl (by omega)) ?_
        refine b_two 0 9 (by kernel_rfl) ?_ ?_
        · refine b_h rfl (.none rfl) (h_buildSlice rfl rfl rfl Try.underlying37 info25 Parts.nil rfl (by omega)) (fun _ _ => (.sub (by repeat (first | exact List.Sublist.refl _ | apply List.Sublist.cons)))) ?_
          rintro b31 -
          refine b_two 4 9 (by kernel_rfl) ?_ ?_
          · refine b_h rfl (.none rfl) (h_append rfl rfl rfl Try.underlying37 info25 rfl rfl Sel.here rfl ((RdS.own (.there Sel.here)).take j) (by simp [Srt.sort_len]; omega) (fun z hz => Req_len (List.mem_of_mem_take hz)) (fun z hz => Req_all (List.mem_of_mem_take hz)) (by omega) (by omega)) (fun _ _ => (.sub (by repeat (first | exact List.Sublist.refl _ | apply List.Sublist.cons)))) ?_
            rintro ⟨A35, c35⟩ -
            refine b_one 9 (by kernel_rfl) ?_
            refine b_h rfl (.none rfl) (h_buildSlice rfl rfl rfl Try.underlying37 info25 (.cons rfl rfl rfl rfl Parts.nil) rfl (by omega)) (fun _ _ => (.sub (by repeat (first | exact List.Sublist.refl _ | apply List.Sublist.cons)))) ?_
            rintro b40 -
            refine b_one 10 (by kernel_rfl) ?_
            refine b_h rfl (.none rfl) (h_append rfl rfl rfl Try.underlying37 info25 rfl rfl (.there Sel.here) rfl (.own Sel.here) rfl (all1 rfl) (all1 rfl) (by omega) (by omega)) (fun _ _ => (.sub (by repeat (first | exact List.Sublist.refl _ | apply List.Sublist.cons)))) ?_
            rintro ⟨A41, c41⟩ -
            refine b_one 14 (by kernel_rfl) ?_
            refine b_h rfl (.none rfl) (h_append rfl rfl rfl Try.underlying37 info25 rfl rfl Sel.here rfl ((RdS.own (.there (.there Sel.here))).cut (l := j) (c := co) (by rw [List.length_map, Srt.sort_len]; exact hle)) (by simp [Srt.sort_len]) (fun z hz => Req_len (List.mem_of_mem_drop hz)) (fun z hz => Req_all (List.mem_of_mem_drop hz)) (by omega) (by omega)) (fun _ _ => (.sub (by repeat (first | exact List.Sublist.refl _ | apply List.Sublist.cons)))) ?_
            rintro ⟨A45, c45⟩ -
            refine b_q (i := 15) rfl (by kernel_rfl) (.none rfl) rfl rfl (q_assign rfl rfl) ?_
            refine b_nil (by kernel_rfl) ?_
            refine run_sub (subMk (.cons (s := 0) rfl (.cons (s := 2) rfl (.cons (s := 3) rfl (.cons (s := 4) rfl .nil)))) .refl) ?_
            refine run_blk ?_
            refine run_region ?_
            refine run_q (.none rfl) rfl rfl (q_move rfl rfl) ?_
            refine run_q (.none rfl) rfl rfl (q_add rfl rfl rfl (by omega)) ?_
            refine run_q (.none rfl) rfl rfl (q_assign rfl rfl) ?_
            refine run_nil ?_
            exact run_again (i + 1, A45, c45) (by (try dsimp only); exact (by omega)) (by (try dsimp only); omega) (subMk (.cons' (s := 4) rfl (vint (by omega)) (.cons' (s := 3) rfl (by congr 1; omega) (.cons (s := 0) rfl (.cons (s := 2) rfl .nil)))) (.cons Sel.here (.own rfl (by omega) rfl (by rw [Srt.sort, Srt.ins, Srt.sort_len, hpe]; simp [List.map_take, List.map_drop, vlist, Req.enc])) .nil))
          · refine b_h rfl (.none rfl) (h_buildSlice rfl rfl rfl Try.underlying37 info25 (.cons rfl rfl rfl rfl Parts.nil) rfl (by omega)) (fun _ _ => (.sub (by repeat (first | exact List.Sublist.refl _ | apply List.Sublist.cons)))) ?_
            rintro b40 -
            refine b_one 4 (by kernel_rfl) ?_
            refine b_h rfl (.none rfl) (h_append rfl rfl rfl Try.underlying37 info25 rfl rfl (.there Sel.here) rfl ((RdS.own (.there (.there Sel.here))).take j) (by simp [Srt.sort_len]; omega) (fun z hz => Req_len (List.mem_of_mem_take hz)) (fun z hz => Req_all (List.mem_of_mem_take hz)) (by omega) (by omega)) (fun _ _ => (.sub (by repeat (first | exact List.Sublist.refl _ | apply List.Sublist.cons)))) ?_
            rintro ⟨A35, c35⟩ -
            refine b_one 10 (by kernel_rfl) ?_
            refine b_h rfl (.none rfl) (h_append rfl rfl rfl Try.underlying37 info25 rfl rfl Sel.here rfl (.own (.there Sel.here)) rfl (all1 rfl) (all1 rfl) (by omega) (by omega)) (fun _ _ => (.sub (by repeat (first | exact List.Sublist.refl _ | apply List.Sublist.cons)))) ?_
            rintro ⟨A41, c41⟩ -
            refine b_one 14 (by kernel_rfl) ?_
            refine b_h rfl (.none rfl) (h_append rfl rfl rfl Try.underlying37 info25 rfl rfl Sel.here rfl ((RdS.own (.there (.there Sel.here))).cut (l := j) (c := co) (by rw [List.length_map, Srt.sort_len]; exact hle)) (by simp [Srt.sort_len]) (fun z hz => Req_len (List.mem_of_mem_drop hz)) (fun z hz => Req_all (List.mem_of_mem_drop hz)) (by omega) (by omega)) (fun _ _ => (.sub (by repeat (first | exact List.Sublist.refl _ | apply List.Sublist.cons)))) ?_
            rintro ⟨A45, c45⟩ -
            refine b_q (i := 15) rfl (by kernel_rfl) (.none rfl) rfl rfl (q_assign rfl rfl) ?_
            refine b_nil (by kernel_rfl) ?_
            refine run_sub (subMk (.cons (s := 0) rfl (.cons (s := 2) rfl (.cons (s := 3) rfl (.cons (s := 4) rfl .nil)))) .refl) ?_
            refine run_blk ?_
            refine run_region ?_
            refine run_q (.none rfl) rfl rfl (q_move rfl rfl) ?_
            refine run_q (.none rfl) rfl rfl (q_add rfl rfl rfl (by omega)) ?_
            refine run_q (.none rfl) rfl rfl (q_assign rfl rfl) ?_
            refine run_nil ?_
            exact run_again (i + 1, A45, c45) (by (try dsimp only); exact (by omega)) (by (try dsimp only); omega) (subMk (.cons' (s := 4) rfl (vint (by omega)) (.cons' (s := 3) rfl (by congr 1; omega) (.cons (s := 0) rfl (.cons (s := 2) rfl .nil)))) (.cons Sel.here (.own rfl (by omega) rfl (by rw [Srt.sort, Srt.ins, Srt.sort_len, hpe]; simp [List.map_take, List.map_drop, vlist, Req.enc])) .nil))
        · refine b_h rfl (.none rfl) (h_buildSlice rfl rfl rfl Try.underlying37 info25 (.cons rfl rfl rfl rfl Parts.nil) rfl (by omega)) (fun _ _ => (.sub (by repeat (first | exact List.Sublist.refl _ | apply List.Sublist.cons)))) ?_
          rintro b40 -
          refine b_one 0 (by kernel_rfl) ?_
          refine b_h rfl (.none rfl) (h_buildSlice rfl rfl rfl Try.underlying37 info25 Parts.nil rfl (by omega)) (fun _ _ => (.sub (by repeat (first | exact List.Sublist.refl _ | apply List.Sublist.cons)))) ?_
          rintro b31 -
          refine b_one 4 (by kernel_rfl) ?_
          refine b_h rfl (.none rfl) (h_append rfl rfl rfl Try.underlying37 info25 rfl rfl Sel.here rfl ((RdS.own (.there (.there Sel.here))).take j) (by simp [Srt.sort_len]; omega) (fun z hz => Req_len (List.mem_of_mem_take hz)) (fun z hz => Req_all (List.mem_of_mem_take hz)) (by omega) (by omega)) (fun _ _ => (.sub (by repeat (first | exact List.Sublist.refl _ | apply List.Sublist.cons)))) ?_
          rintro ⟨A35, c35⟩ -
          refine b_one 10 (by kernel_rfl) ?_
          refine b_h rfl (.none rfl) (h_append rfl rfl rfl Try.underlying37 info25 rfl rfl Sel.here rfl (.own (.there Sel.here)) rfl (all1 rfl) (all1 rfl) (by omega) (by omega)) (fun _ _ => (.sub (by repeat (first | exact List.Sublist.refl _ | apply List.Sublist.cons)))) ?_
          rintro ⟨A41, c41⟩ -
          refine b_one 14 (by kernel_rfl) ?_
          refine b_h rfl (.none rfl) (h_append rfl rfl rfl Try.underlying37 info25 rfl rfl Sel.here rfl ((RdS.own (.there (.there Sel.here))).cut (l := j) (c := co) (by rw [List.length_map, Srt.sort_len]; exact hle)) (by simp [Srt.sort_len]) (fun z hz => Req_len (List.mem_of_mem_drop hz)) (fun z hz => Req_all (List.mem_of_mem_drop hz)) (by omega) (by omega)) (fun _ _ => (.sub (by repeat (first | exact List.Sublist.refl _ | apply List.Sublist.cons)))) ?_
          rintro ⟨A45, c45⟩ -
          refine b_q (i := 15) rfl (by kernel_rfl) (.none rfl) rfl rfl (q_assign rfl rfl) ?_
          refine b_nil (by kernel_rfl) ?_
          refine run_sub (subMk (.cons (s := 0) rfl (.cons (s := 2) rfl (.cons (s := 3) rfl (.cons (s := 4) rfl .nil)))) .refl) ?_
          refine run_blk ?_
          refine run_region ?_
          refine run_q (.none rfl) rfl rfl (q_move rfl rfl) ?_
          refine run_q (.none rfl) rfl rfl (q_add rfl rfl rfl (by omega)) ?_
          refine run_q (.none rfl) rfl rfl (q_assign rfl rfl) ?_
          refine run_nil ?_
          exact run_again (i + 1, A45, c45) (by (try dsimp only); exact (by omega)) (by (try dsimp only); omega) (subMk (.cons' (s := 4) rfl (vint (by omega)) (.cons' (s := 3) rfl (by congr 1; omega) (.cons (s := 0) rfl (.cons (s := 2) rfl .nil)))) (.cons Sel.here (.own rfl (by omega) rfl (by rw [Srt.sort, Srt.ins, Srt.sort_len, hpe]; simp [List.map_take, List.map_drop, vlist, Req.enc])) .nil))
    · have g16' := g16
      try simp only [decide_eq_true_eq, decide_eq_false_iff_not, beq_iff_eq, beq_eq_false_iff_ne, bne_iff_ne, bne_eq_false_iff_eq, Bool.not_eq_true', Bool.not_eq_false', ne_eq, Int.not_lt, Int.not_le, Decidable.not_not] at g16'
      have hpe : Srt.pos (Ky.ltK keyM) (Srt.sort (Ky.ltK keyM) l i) (nth l i) i = j := by rw [hpos, show j = 0 from by omega]; rfl
      refine d_off rfl rfl (.no rfl rfl rfl g16) rfl rfl ?_
      refine d_off rfl rfl (.no rfl rfl rfl g16) rfl rfl ?_
      refine d_off rfl rfl (.no rfl rfl rfl g16) rfl rfl ?_
      refine d_off rfl rfl (.no rfl rfl rfl g16) rfl rfl ?_
      refine d_off rfl rfl (.no rfl rfl rfl g16) rfl rfl ?_
      refine d_off rfl rfl (.no rfl rfl rfl g16) rfl rfl ?_
      refine d_off rfl rfl (.no rfl rfl rfl g16) rfl rfl ?_
      refine d_off rfl rfl (.no rfl rfl rfl g16) rfl rfl ?_
      refine d_off rfl rfl (.no rfl rfl rfl g16) rfl rfl ?_
      refine d_off rfl rfl (.no rfl rfl rfl g16) rfl rfl ?_
      refine d_off rfl rfl (.no rfl rfl rfl g16) rfl rfl ?_
      refine d_q rfl rfl (.none rfl) rfl rfl (q_pickF rfl rfl g16 rfl) ?_
      refine d_nil ?_
      refine run_sub (subMk (.cons (s := 0) rfl (.cons (s := 2) rfl (.cons (s := 3) rfl (.cons (s := 4) rfl (.cons (s := 5) rfl (.cons (s := 28) rfl .nil)))))) .refl) ?_
      refine run_condF rfl rfl ?_
      refine run_exit rfl ?_
      refine run_ownLe Sel.here (fun hle => ?_)
      refine run_fork mixed (by kernel_rfl) .refl ?_
      refine b_q (i := 1) rfl (by kernel_rfl) (.none rfl) rfl rfl (q_move rfl rfl) ?_
      refine b_q (i := 2) rfl (by kernel_rfl) (.none rfl) rfl rfl (q_move rfl rfl) ?_
      refine b_q (i := 3) rfl (by kernel_rfl) (.none rfl) rfl rfl (q_sliceH rfl Try.underlying37 sz25 rfl rfl (by omega)) ?_
      refine b_q (i := 5) rfl (by kernel_rfl) (.none rfl) rfl rfl (q_move rfl rfl) ?_
      refine b_q (i := 6) rfl (by kernel_rfl) (.none rfl) rfl rfl (q_move rfl rfl) ?_
      refine b_q (i := 7) rfl (by kernel_rfl) (.none rfl) rfl rfl (q_indexS (q := i) rfl Try.underlying37 sz25 rfl rfl (.inp hr .no) (by simp <;> omega) rfl (by omega)) ?_
      refine b_q (i := 8) rfl (by kernel_rfl) (.none rfl) rfl rfl (q_loadE rfl agg25 rfl (.inp hr .no) (getmap (by omega)) rfl) ?_
      refine b_q (i := 11) rfl (by kernel_rfl) (.none rfl) rfl rfl (q_move rfl rfl) ?_
      refine b_q (i := 12) rfl (by kernel_rfl) (.none rfl) rfl rfl (q_move rfl rfl) ?_
      refine b_q (i := 13) rfl (by kernel_rfl) (.none rfl) rfl rfl (q_sliceL rfl Try.underlying37 sz25 rfl rfl (by omega)) ?_
      refine b_two 0 9 (by kernel_rfl) ?_ ?_
      · refine b_h rfl (.none rfl) (h_buildSlice rfl rfl rfl Try.underlying37 info25 Parts.nil rfl (by omega)) (fun _ _ => (.sub (by repeat (first | exact List.Sublist.refl _ | apply List.Sublist.cons)))) ?_
        rintro b31 -
        refine b_two 4 9 (by kernel_rfl) ?_ ?_
        · refine b_h rfl (.none rfl) (h_append rfl rfl rfl Try.underlying37 info25 rfl rfl Sel.here rfl ((RdS.own (.there Sel.here)).take j) (by simp [Srt.sort_len]; omega) (fun z hz => Req_len (List.mem_of_mem_take hz)) (fun z hz => Req_all (List.mem_of_mem_take hz)) (by omega) (by omega)) (fun _ _ => (.sub (by repeat (first | exact List.Sublist.refl _ | apply List.Sublist.cons)))) ?_
          rintro ⟨A35, c35⟩ -
          refine b_one 9 (by kernel_rfl) ?_
          refine b_h rfl (.none rfl) (h_buildSlice rfl rfl rfl Try.underlying37 info25 (.cons rfl rfl rfl rfl Parts.nil) rfl (by omega)) (fun _ _ => (.sub (by repeat (first | exact List.Sublist.refl _ | apply List.Sublist.cons)))) ?_
          rintro b40 -
          refine b_one 10 (by kernel_rfl) ?_
          refine b_h rfl (.none rfl) (h_append rfl rfl rfl Try.underlying37 info25 rfl rfl (.there Sel.here) rfl (.own Sel.here) rfl (all1 rfl) (all1 rfl) (by omega) (by omega)) (fun _ _ => (.sub (by repeat (first | exact List.Sublist.refl _ | apply List.Sublist.cons)))) ?_
          rintro ⟨A41, c41⟩ -
          refine b_one 14 (by kernel_rfl) ?_
          refine b_h rfl (.none rfl) (h_append rfl rfl rfl Try.underlying37 info25 rfl rfl Sel.here rfl ((RdS.own (.there (.there Sel.here))).cut (l := j) (c := co) (by rw [List.length_map, Srt.sort_len]; exact hle)) (by simp [Srt.sort_len]) (fun z hz => Req_len (List.mem_of_mem_drop hz)) (fun z hz => Req_all (List.mem_of_mem_drop hz)) (by omega) (by omega)) (fun _ _ => (.sub (by repeat (first | exact List.Sublist.refl _ | apply List.Sublist.cons)))) ?_
          rintro ⟨A45, c45⟩ -
          refine b_q (i := 15) rfl (by kernel_rfl) (.none rfl) rfl rfl (q_assign rfl rfl) ?_
          refine b_nil (by kernel_rfl) ?_
          refine run_sub (subMk (.cons (s := 0) rfl (.cons (s := 2) rfl (.cons (s := 3) rfl (.cons (s := 4) rfl .nil)))) .refl) ?_
          refine run_blk ?_
          refine run_region ?_
          refine run_q (.none rfl) rfl rfl (q_move rfl rfl) ?_
          refine run_q (.none rfl) rfl rfl (q_add rfl rfl rfl (by omega)) ?_
          refine run_q (.none rfl) rfl rfl (q_assign rfl rfl) ?_
          refine run_nil ?_
          exact run_again (i + 1, A45, c45) (by (try dsimp only); exact (by omega)) (by (try dsimp only); omega) (subMk (.cons' (s := 4) rfl (vint (by omega)) (.cons' (s := 3) rfl (by congr 1; omega) (.cons (s := 0) rfl (.cons (s := 2) rfl .nil)))) (.cons Sel.here (.own rfl (by omega) rfl (by rw [Srt.sort, Srt.ins, Srt.sort_len, hpe]; simp [List.map_take, List.map_drop, vlist, Req.enc])) .nil))
        · refine b_h rfl (.none rfl) (h_buildSlice rfl rfl rfl Try.underlying37 info25 (.cons rfl rfl rfl rfl Parts.nil) rfl (by omega)) (fun _ _ => (.sub (by repeat (first | exact List.Sublist.refl _ | apply List.Sublist.cons)))) ?_
          rintro b40 -
          refine b_one 4 (by kernel_rfl) ?_
          refine b_h rfl (.none rfl) (h_append rfl rfl rfl Try.underlying37 info25 rfl rfl (.there Sel.here) rfl ((RdS.own (.there (.there Sel.here))).take j) (by simp [Srt.sort_len]; omega) (fun z hz => Req_len (List.mem_of_mem_take hz)) (fun z hz => Req_all (List.mem_of_mem_take hz)) (by omega) (by omega)) (fun _ _ => (.sub (by repeat (first | exact List.Sublist.refl _ | apply List.Sublist.cons)))) ?_
          rintro ⟨A35, c35⟩ -
          refine b_one 10 (by kernel_rfl) ?_
          refine b_h rfl (.none rfl) (h_append rfl rfl rfl Try.underlying37 info25 rfl rfl Sel.here rfl (.own (.there Sel.here)) rfl (all1 rfl) (all1 rfl) (by omega) (by omega)) (fun _ _ => (.sub (by repeat (first | exact List.Sublist.refl _ | apply List.Sublist.cons)))) ?_
          rintro ⟨A41, c41⟩ -
          refine b_one 14 (by kernel_rfl) ?_
          refine b_h rfl (.none rfl) (h_append rfl rfl rfl Try.underlying37 info25 rfl rfl Sel.here rfl ((RdS.own (.there (.there Sel.here))).cut (l := j) (c := co) (by rw [List.length_map, Srt.sort_len]; exact hle)) (by simp [Srt.sort_len]) (fun z hz => Req_len (List.mem_of_mem_drop hz)) (fun z hz => Req_all (List.mem_of_mem_drop hz)) (by omega) (by omega)) (fun _ _ => (.sub (by repeat (first | exact List.Sublist.refl _ | apply List.Sublist.cons)))) ?_
          rintro ⟨A45, c45⟩ -
          refine b_q (i := 15) rfl (by kernel_rfl) (.none rfl) rfl rfl (q_assign rfl rfl) ?_
          refine b_nil (by kernel_rfl) ?_
          refine run_sub (subMk (.cons (s := 0) rfl (.cons (s := 2) rfl (.cons (s := 3) rfl (.cons (s := 4) rfl .nil)))) .refl) ?_
          refine run_blk ?_
          refine run_region ?_
          refine run_q (.none rfl) rfl rfl (q_move rfl rfl) ?_
          refine run_q (.none rfl) rfl rfl (q_add rfl rfl rfl (by omega)) ?_
          refine run_q (.none rfl) rfl rfl (q_assign rfl rfl) ?_
          refine run_nil ?_
          exact run_again (i + 1, A45, c45) (by (try dsimp only); exact (by omega)) (by (try dsimp only); omega) (subMk (.cons' (s := 4) rfl (vint (by omega)) (.cons' (s := 3) rfl (by congr 1; omega) (.cons (s := 0) rfl (.cons (s := 2) rfl .nil)))) (.cons Sel.here (.own rfl (by omega) rfl (by rw [Srt.sort, Srt.ins, Srt.sort_len, hpe]; simp [List.map_take, List.map_drop, vlist, Req.enc])) .nil))
      · refine b_h rfl (.none rfl) (h_buildSlice rfl rfl rfl Try.underlying37 info25 (.cons rfl rfl rfl rfl Parts.nil) rfl (by omega)) (fun _ _ => (.sub (by repeat (first | exact List.Sublist.refl _ | apply List.Sublist.cons)))) ?_
        rintro b40 -
        refine b_one 0 (by kernel_rfl) ?_
        refine b_h rfl (.none rfl) (h_buildSlice rfl rfl rfl Try.underlying37 info25 Parts.nil rfl (by omega)) (fun _ _ => (.sub (by repeat (first | exact List.Sublist.refl _ | apply List.Sublist.cons)))) ?_
        rintro b31 -
        refine b_one 4 (by kernel_rfl) ?_
        refine b_h rfl (.none rfl) (h_append rfl rfl rfl Try.underlying37 info25 rfl rfl Sel.here rfl ((RdS.own (.there (.there Sel.here))).take j) (by simp [Srt.sort_len]; omega) (fun z hz => Req_len (List.mem_of_mem_take hz)) (fun z hz => Req_all (List.mem_of_mem_take hz)) (by omega) (by omega)) (fun _ _ => (.sub (by repeat (first | exact List.Sublist.refl _ | apply List.Sublist.cons)))) ?_
        rintro ⟨A35, c35⟩ -
        refine b_one 10 (by kernel_rfl) ?_
        refine b_h rfl (.none rfl) (h_append rfl rfl rfl Try.underlying37 info25 rfl rfl Sel.here rfl (.own (.there Sel.here)) rfl (all1 rfl) (all1 rfl) (by omega) (by omega)) (fun _ _ => (.sub (by repeat (first | exact List.Sublist.refl _ | apply List.Sublist.cons)))) ?_
        rintro ⟨A41, c41⟩ -
        refine b_one 14 (by kernel_rfl) ?_
        refine b_h rfl (.none rfl) (h_append rfl rfl rfl Try.underlying37 info25 rfl rfl Sel.here rfl ((RdS.own (.there (.there Sel.here))).cut (l := j) (c := co) (by rw [List.length_map, Srt.sort_len]; exact hle)) (by simp [Srt.sort_len]) (fun z hz => Req_len (List.mem_of_mem_drop hz)) (fun z hz => Req_all (List.mem_of_mem_drop hz)) (by omega) (by omega)) (fun _ _ => (.sub (by repeat (first | exact List.Sublist.refl _ | apply List.Sublist.cons)))) ?_
        rintro ⟨A45, c45⟩ -
        refine b_q (i := 15) rfl (by kernel_rfl) (.none rfl) rfl rfl (q_assign rfl rfl) ?_
        refine b_nil (by kernel_rfl) ?_
        refine run_sub (subMk (.cons (s := 0) rfl (.cons (s := 2) rfl (.cons (s := 3) rfl (.cons (s := 4) rfl .nil)))) .refl) ?_
        refine run_blk ?_
        refine run_region ?_
        refine run_q (.none rfl) rfl rfl (q_move rfl rfl) ?_
        refine run_q (.none rfl) rfl rfl (q_add rfl rfl rfl (by omega)) ?_
        refine run_q (.none rfl) rfl rfl (q_assign rfl rfl) ?_
        refine run_nil ?_
        exact run_again (i + 1, A45, c45) (by (try dsimp only); exact (by omega)) (by (try dsimp only); omega) (subMk (.cons' (s := 4) rfl (vint (by omega)) (.cons' (s := 3) rfl (by congr 1; omega) (.cons (s := 0) rfl (.cons (s := 2) rfl .nil)))) (.cons Sel.here (.own rfl (by omega) rfl (by rw [Srt.sort, Srt.ins, Srt.sort_len, hpe]; simp [List.map_take, List.map_drop, vlist, Req.enc])) .nil))
  · have g9' := g9
    try simp only [decide_eq_true_eq, decide_eq_false_iff_not, beq_iff_eq, beq_eq_false_iff_ne, bne_iff_ne, bne_eq_false_iff_eq, Bool.not_eq_true', Bool.not_eq_false', ne_eq, Int.not_lt, Int.not_le, Decidable.not_not] at g9'
    refine run_exit rfl ?_
    refine run_sub (subMk (.cons (s := 2) rfl (.cons (s := 3) rfl .nil)) .refl) ?_
    refine run_seq ?_
    refine run_region ?_
    refine run_q (.none rfl) rfl rfl (q_move rfl rfl) ?_
    refine run_q (.none rfl) rfl rfl (q_assign rfl rfl) ?_
    refine run_nil ?_
    refine run_ret ?_
    refine run_sub (subMk .refl (.cons Sel.here (.own (m' := l.length) (xs' := (ordM l).map Req.enc) rfl (by omega) rfl (by rw [ordM, show l.length = i from by omega])) .nil)) ?_
    exact end1 rfl rfl ⟨O, co, by rw [show i = l.length from by omega], rfl⟩

set_option maxHeartbeats 1000000 in
set_option maxRecDepth 100000 in
theorem same_just (l : List Req) (A B : Option Addr) (n ca cb : Nat) (W : World) (ha : Rd W A 13 (l.map Req.enc)) (hb : Rd W B 13 (l.map Req.enc)) (hn : l.length = n) (hnb : n ≤ 1000000) : Calls Try.prog 29 #[.slice A n ca, .slice B n cb] W (Hr.Just W (.bool true)) := by
  refine Just.of_ret ?_
  refine enterA (X := nX) (vs := [.slice A n ca, .slice B n cb]) Try.func29 Try.ntmps29 rfl rfl Mem.nil ?_
  refine run_seq ?_
  refine run_region ?_
  refine run_q (.none rfl) rfl rfl (q_assign rfl rfl) ?_
  refine run_nil ?_
  refine run_seq ?_
  refine run_seq ?_
  refine run_region ?_
  refine run_q (.none rfl) rfl rfl (q_move rfl rfl) ?_
  refine run_q (.none rfl) rfl rfl (q_len rfl Try.underlying37 rfl) ?_
  refine run_q (.none rfl) rfl rfl (q_move rfl rfl) ?_
  refine run_q (.none rfl) rfl rfl (q_len rfl Try.underlying37 rfl) ?_
  refine run_q (.none rfl) rfl rfl (q_neq rfl rfl rfl) ?_
  refine run_nil ?_
  refine run_sub (subMk (.cons (s := 0) rfl (.cons (s := 1) rfl (.cons (s := 4) rfl (.cons (s := 10) rfl .nil)))) .refl) ?_
  refine run_condF rfl (by simp) ?_
  refine run_skip ?_
  refine run_seq ?_
  refine run_seq ?_
  refine run_region ?_
  refine run_q (.none rfl) rfl rfl (q_assign rfl rfl) ?_
  refine run_nil ?_
  refine run_block ?_
  refine run_sub (subMk (.cons (s := 5) rfl (.cons (s := 0) rfl (.cons (s := 1) rfl (.cons (s := 4) rfl .nil)))) .nil) ?_
  refine run_loopC1M0 (ι := Nat) (fun k => k ≤ n) (fun k => .int .i64 (k : Int))  (fun k => n - k) 0 (by (try dsimp only); exact (by omega)) rfl  ?_
  rintro k hk
  (try dsimp only at hk)
  show Run _ _ _ _ _ _ _ ⟨(5, .int .i64 (k : Int)) :: _, _⟩
  refine run_seq ?_
  refine run_seq ?_
  refine run_region ?_
  refine run_q (.none rfl) rfl rfl (q_move rfl rfl) ?_
  refine run_q (.none rfl) rfl rfl (q_move rfl rfl) ?_
  refine run_q (.none rfl) rfl rfl (q_len rfl Try.underlying37 rfl) ?_
  refine run_q (.none rfl) rfl rfl (q_lss rfl rfl rfl) ?_
  refine run_nil ?_
  refine run_sub (subMk (.cons (s := 0) rfl (.cons (s := 1) rfl (.cons (s := 4) rfl (.cons (s := 5) rfl (.cons (s := 14) rfl .nil))))) .refl) ?_
  refine run_cond rfl (fun g14 => ?_) (fun g14 => ?_)
  · have g14' := g14
    try simp only [decide_eq_true_eq, decide_eq_false_iff_not, beq_iff_eq, beq_eq_false_iff_ne, bne_iff_ne, bne_eq_false_iff_eq, Bool.not_eq_true', Bool.not_eq_false', ne_eq, Int.not_lt, Int.not_le, Decidable.not_not] at g14'
    refine run_skip ?_
    refine run_seq ?_
    refine run_block ?_
    refine run_seq ?_
    refine run_draw [(0, 0), (1, 0), (2, 0), (3, 0), (4, 0), (5, 0), (6, 0), (7, 0), (8, 0)] mixed (by kernel_rfl) .refl ?_
    refine d_q rfl rfl (.none rfl) rfl rfl (q_move rfl rfl) ?_
    refine d_q rfl rfl (.none rfl) rfl rfl (q_move rfl rfl) ?_
    refine d_q rfl rfl (.none rfl) rfl rfl (q_indexS (q := k) rfl Try.underlying37 sz25 rfl rfl (.inp ha .no) (by rw [List.length_map, hn]) rfl (by omega)) ?_
    refine d_q rfl rfl (.none rfl) rfl rfl (q_loadE rfl agg25 rfl (.inp ha .no) (getmap (by omega)) rfl) ?_
    refine d_q rfl rfl (.none rfl) rfl rfl (q_move rfl rfl) ?_
    refine d_q rfl rfl (.none rfl) rfl rfl (q_move rfl rfl) ?_
    refine d_q rfl rfl (.none rfl) rfl rfl (q_indexS (q := k) rfl Try.underlying37 sz25 rfl rfl (.inp hb .no) (by rw [List.length_map, hn]) rfl (by omega)) ?_
    refine d_q rfl rfl (.none rfl) rfl rfl (q_loadE rfl agg25 rfl (.inp hb .no) (getmap (by omega)) rfl) ?_
    refine d_q rfl rfl (.none rfl) rfl rfl (q_neqS rfl rfl rfl eqg25 (fun w => eqs25 _ _ _ _ _ _ _ _ _ _ _ _ _ _ _ _ _ _ _ _ _ _ _ _ _ _ w)) ?_
    refine d_nil ?_
    refine run_sub (subMk (.cons (s := 0) rfl (.cons (s := 1) rfl (.cons (s := 4) rfl (.cons (s := 5) rfl (.cons (s := 25) rfl .nil))))) .refl) ?_
    refine run_condF rfl (by simp) ?_
    refine run_skip ?_
    refine run_blk ?_
    refine run_region ?_
    refine run_q (.none rfl) rfl rfl (q_move rfl rfl) ?_
    refine run_q (.none rfl) rfl rfl (q_add rfl rfl rfl (by omega)) ?_
    refine run_q (.none rfl) rfl rfl (q_assign rfl rfl) ?_
    refine run_nil ?_
    refine run_sub (subMk (.cons (s := 0) rfl (.cons (s := 1) rfl (.cons (s := 4) rfl (.cons (s := 5) rfl .nil)))) .refl) ?_
    exact run_again (k + 1) (by (try dsimp only); exact (by omega)) (by (try dsimp only); omega) (subMk (.cons' (s := 5) rfl (vint (by omega)) (.cons (s := 0) rfl (.cons (s := 1) rfl (.cons (s := 4) rfl .nil)))) .nil)
  · have g14' := g14
    try simp only [decide_eq_true_eq, decide_eq_false_iff_not, beq_iff_eq, beq_eq_false_iff_ne, bne_iff_ne, bne_eq_false_iff_eq, Bool.not_eq_true', Bool.not_eq_false', ne_eq, Int.not_lt, Int.not_le, Decidable.not_not] at g14'
    refine run_exit rfl ?_
    refine run_sub (subMk (.cons (s := 4) rfl .nil) .refl) ?_
    refine run_seq ?_
    refine run_region ?_
    refine run_q (.none rfl) rfl rfl (q_assign rfl rfl) ?_
    refine run_nil ?_
    refine run_ret ?_
    exact end1 rfl rfl rfl

set_option maxHeartbeats 1000000 in
set_option maxRecDepth 100000 in
theorem law11_just (l : List Req) (X : Option Addr) (cx : Nat) (W : World) (hr : Rd W X 13 (l.map Req.enc)) (hcx : l.length ≤ cx) : Calls Try.prog 11 #[.slice X l.length cx] W (Hr.Just W (.bool true)) := by
  obtain ⟨xs, hxs⟩ : ∃ xs, xs = l.take 20 := ⟨_, rfl⟩
  have hx := rd_take hr hxs
  have hxl : xs.length = min 20 l.length := by rw [hxs, List.length_take]
  refine Just.of_ret ?_
  refine enterA (X := nX) (vs := [.slice X l.length cx]) Try.func11 Try.ntmps11 rfl rfl Mem.nil ?_
  refine run_seq ?_
  refine run_region ?_
  refine run_q (.none rfl) rfl rfl (q_assign rfl rfl) ?_
  refine run_nil ?_
  refine run_seq ?_
  refine run_region ?_
  refine run_q (.none rfl) rfl rfl (q_move rfl rfl) ?_
  refine run_q (.none rfl) rfl rfl (q_move rfl rfl) ?_
  refine run_q (.none rfl) rfl rfl (q_len rfl Try.underlying37 rfl) ?_
  refine run_q (.none rfl) rfl rfl (q_min2 rfl rfl rfl) ?_
  refine run_q (.none rfl) rfl rfl (q_sliceH rfl Try.underlying37 sz25 rfl rfl (by omega)) ?_
  refine run_q (.none rfl) rfl rfl (q_assign rfl rfl) ?_
  refine run_nil ?_
  refine run_sub (subMk (.cons (s := 0) rfl (.cons (s := 2) rfl .nil)) .refl) ?_
  refine run_seq ?_
  refine run_sub (subMk (.cons' (s := 0) (v' := .slice X xs.length cx) rfl (by rw [hxl]; congr 1; omega) (.cons (s := 2) rfl .nil)) .refl) ?_
  refine run_region ?_
  refine run_q (.none rfl) rfl rfl (q_call rfl call13 Evs.nil (fun w hk hm => known_just w)) ?_
  refine run_q (.none rfl) rfl rfl (q_move rfl rfl) ?_
  refine run_q (.on rfl rfl rfl rfl) rfl rfl (q_move rfl rfl) ?_
  refine run_h (.on rfl rfl rfl rfl) (h_call rfl rfl rfl call30 (.cons rfl Evs.nil) (fun w hk hm => order_ret xs X cx w (hx.kept0 hk) (by omega))) ?_
  rintro ⟨v, m⟩ ⟨O, co, rfl, rfl⟩
  show Run _ _ _ _ _ _ _ ⟨(11, .slice O xs.length co) :: _, _ :: _⟩
  refine run_q (.on rfl rfl rfl rfl) rfl rfl (q_move rfl rfl) ?_
  refine run_h (.on rfl rfl rfl rfl) (h_call rfl rfl rfl call31 (.cons rfl Evs.nil) (fun w hk hm => reforder_ret xs X cx w (hx.kept0 hk) (by omega))) ?_
  rintro ⟨v, m⟩ ⟨O2, co2, rfl, rfl⟩
  show Run _ _ _ _ _ _ _ ⟨(13, .slice O2 xs.length co2) :: _, _ :: _⟩
  refine run_q (.on rfl rfl rfl rfl) rfl rfl (q_call rfl call29 (.cons rfl (.cons rfl Evs.nil)) (fun w hk hm => same_just (ordM xs) O O2 xs.length co co2 w (own_rd ((Sel.there Sel.here).holds hm)) (own_rd (Sel.here.holds hm)) ordM_len (by omega))) ?_
  refine run_q (.none rfl) rfl rfl (q_pickT rfl rfl rfl rfl) ?_
  refine run_q (.none rfl) rfl rfl (q_assign rfl rfl) ?_
  refine run_nil ?_
  refine run_sub (subMk (.cons (s := 2) rfl .nil) .refl) ?_
  refine run_ret ?_
  exact end1 rfl rfl rfl

end Go.Proofs.YtgphmbipakdggaaR
