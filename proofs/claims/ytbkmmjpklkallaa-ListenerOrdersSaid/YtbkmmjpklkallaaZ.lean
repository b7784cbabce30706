/- The law on order, in the program. -/
import Derived.Test.YtbkmmjpklkallaaY4
import Derived.Test.YtbkmmjpklkallaaEqs
set_option linter.unusedSimpArgs false
set_option linter.unusedVariables false
namespace Go.Proofs.Ytbkmmjpklkallaa
open Go Go.RowKit Hr

theorem call52 : Hr.Callable Try.prog 52 := fun args w => by kernel_rfl
theorem call33 : Hr.Callable Try.prog 33 := fun args w => by kernel_rfl
theorem call34 : Hr.Callable Try.prog 34 := fun args w => by kernel_rfl
theorem eqg47 : Try.prog.eqGuardType Try.prog.depth 47 = false := by kernel_rfl
theorem stood47 : Try.prog.stoodInHeld 47 = false := by kernel_rfl
theorem stood45 : Try.prog.stoodInHeld 45 = false := by kernel_rfl
set_option maxRecDepth 100000 in
theorem eqs45d9999 (a0 a1 b0 b1 : Int) (w : World) : (Op.equalIn 9999 45 (.agg #[.int .i64 a0, .int .i64 a1]) (.agg #[.int .i64 b0, .int .i64 b1])).run Try.prog w = .ok (a0 == b0 && (a1 == b1)) w := by
  rw [run_equalIn_struct w 9998 45 _ _ (by simp only [Program.fieldsOf, Try.underlying45]) stood45]
  simp only [Program.fieldsOf, Try.underlying45]
  exact Eq.trans (eqF_cons (by decide) (part_one one3 rfl) (part_one one3 rfl) (run_equalIn_int w 9997 3 .i64 .i64 a0 b0 Try.underlying3) (eqF_cons (by decide) (part_one one3 rfl) (part_one one3 rfl) (run_equalIn_int w 9997 3 .i64 .i64 a1 b1 Try.underlying3) eqF_nil)) (by simp only [Bool.and_true, Bool.and_assoc])
theorem agg45 : Hr.Agg Try.prog 45 2 := ⟨fun w => by simp [isAgg, run_underlying Try.underlying45], Hr.Sz.of (by kernel_rfl)⟩
set_option maxRecDepth 100000 in
theorem eqs47 (a0 a1 a2 a3 a4 a5 a6 b0 b1 b2 b3 b4 b5 b6 : Int) (w : World) : (Op.equalIn 10000 47 (.agg #[.int .i64 a0, .int .i64 a1, .int .i64 a2, .int .i64 a3, .int .i64 a4, .int .i64 a5, .int .i64 a6]) (.agg #[.int .i64 b0, .int .i64 b1, .int .i64 b2, .int .i64 b3, .int .i64 b4, .int .i64 b5, .int .i64 b6])).run Try.prog w = .ok (a0 == b0 && (a1 == b1 && (a2 == b2 && (a3 == b3 && (a4 == b4 && (a5 == b5 && (a6 == b6))))))) w := by
  rw [run_equalIn_struct w 9999 47 _ _ (by simp only [Program.fieldsOf, Try.underlying47]) stood47]
  simp only [Program.fieldsOf, Try.underlying47]
  exact Eq.trans (eqF_cons (by decide) (part_one one3 rfl) (part_one one3 rfl) (run_equalIn_int w 9998 3 .i64 .i64 a0 b0 Try.underlying3) (eqF_cons (by decide) (part_one one3 rfl) (part_one one3 rfl) (run_equalIn_int w 9998 3 .i64 .i64 a1 b1 Try.underlying3) (eqF_cons (by decide) (part_one one3 rfl) (part_one one3 rfl) (run_equalIn_int w 9998 3 .i64 .i64 a2 b2 Try.underlying3) (eqF_cons (by decide) (part_one one3 rfl) (part_one one3 rfl) (run_equalIn_int w 9998 3 .i64 .i64 a3 b3 Try.underlying3) (eqF_cons (by decide) (part_one one3 rfl) (part_one one3 rfl) (run_equalIn_int w 9998 3 .i64 .i64 a4 b4 Try.underlying3) (eqF_cons (by decide) (part_agg agg45 rfl) (part_agg agg45 rfl) (eqs45d9999 a5 a6 b5 b6 w) eqF_nil)))))) (by simp only [Bool.and_true, Bool.and_assoc])

set_option maxRecDepth 100000 in
theorem order_ret (l : List Note) (A : Option Addr) (ca : Nat) (W : World) (hr : Rd W A 7 (l.map Note.enc)) (hl : l.length < 40) : Calls Try.prog 33 #[.slice A l.length ca] W (Ret W nX (fun v m => ∃ O co d, d.Perm l ∧ Srt.Sorted (Ky.ltK keyN) d ∧ v = .slice O l.length co ∧ m = [.own 47 7 O l.length co ((d).map Note.enc)])) := by
  refine enterA (X := nX) (vs := [.slice A l.length ca]) Try.func33 Try.ntmps33 rfl rfl Mem.nil ?_
  refine run_seq ?_
  refine run_region ?_
  refine run_q (.none rfl) rfl rfl (q_assign rfl rfl) ?_
  refine run_nil ?_
  refine run_seq ?_
  refine run_region ?_
  refine run_q (.none rfl) rfl rfl (q_move rfl rfl) ?_
  refine run_h (.none rfl) (h_call rfl rfl rfl call44 (.cons rfl Evs.nil) (fun w hk hm => cloneN_ret l A ca w (hr.kept0 hk) (by omega))) ?_
  rintro ⟨v, m⟩ ⟨O, co, rfl, rfl⟩
  show Run _ _ _ _ _ _ _ ⟨(5, .slice O l.length co) :: _, _ :: _⟩
  refine run_q (.none rfl) rfl rfl (q_assign rfl rfl) ?_
  refine run_nil ?_
  refine run_sub (subMk (.cons (s := 2) rfl (.cons (s := 3) rfl .nil)) .refl) ?_
  refine run_seq ?_
  refine run_region ?_
  refine run_q (.none rfl) rfl rfl (q_move rfl rfl) ?_
  refine run_h (.none rfl) (h_callX [_] _ rfl rfl rfl call52 (.cons rfl (.cons rfl Evs.nil)) (Sel.perm Sel.here) (Y := fun _ => atAny [_]) (fun _ _ h => h) (fun w hk hm => sN_sortP l O co w ((hm.perm (Sel.perm Sel.here)).give (rs := [_])) hl)) ?_
  rintro ⟨v, m⟩ ⟨d, hd, hds, rfl, rfl⟩
  show Run _ _ _ _ _ _ _ ⟨(7, .tuple #[]) :: _, _ :: _⟩
  refine run_nil ?_
  refine run_seq ?_
  refine run_region ?_
  refine run_q (.none rfl) rfl rfl (q_move rfl rfl) ?_
  refine run_q (.none rfl) rfl rfl (q_assign rfl rfl) ?_
  refine run_nil ?_
  refine run_sub (subMk (.cons (s := 2) rfl .nil) .refl) ?_
  refine run_ret ?_
  refine run_sub (subMk .refl (.cons Sel.here .refl .nil)) ?_
  exact end1 rfl rfl ⟨O, co, d, hd, hds, rfl, rfl⟩

set_option maxHeartbeats 1000000 in
set_option maxRecDepth 100000 in
theorem before_just (a b : Note) (W : World)  : Calls Try.prog 34 #[a.val, b.val] W (Hr.Just W (.bool (Ky.ltK keyN a b))) := by
  refine Just.of_ret ?_
  refine enterA (X := nX) (vs := [a.val, b.val]) Try.func34 Try.ntmps34 rfl rfl Mem.nil ?_
  refine run_seq ?_
  refine run_region ?_
  refine run_h (.none rfl) (h_box rfl rfl rfl rfl rfl) ?_
  rintro b2 -
  refine run_h (.none rfl) (h_box rfl rfl rfl rfl rfl) ?_
  rintro b3 -
  refine run_q (.none rfl) rfl rfl (q_assign rfl rfl) ?_
  refine run_nil ?_
  refine run_seq ?_
  refine run_region ?_
  refine run_q (.none rfl) rfl rfl (q_fieldB (d := 0) rfl Try.underlying47 rfl rfl sz3 rfl) ?_
  refine run_q (.none rfl) rfl rfl (q_loadB rfl one3 rfl (.there Sel.here) rfl) ?_
  refine run_q (.none rfl) rfl rfl (q_fieldB (d := 2) rfl Try.underlying47 rfl rfl sz3 rfl) ?_
  refine run_q (.none rfl) rfl rfl (q_loadB rfl one3 rfl (.there Sel.here) rfl) ?_
  refine run_q (.none rfl) rfl rfl (q_fieldB (d := 4) rfl Try.underlying47 rfl rfl sz3 rfl) ?_
  refine run_q (.none rfl) rfl rfl (q_loadB rfl one3 rfl (.there Sel.here) rfl) ?_
  refine run_q (.none rfl) rfl rfl (q_fieldB (d := 1) rfl Try.underlying47 rfl rfl sz3 rfl) ?_
  refine run_q (.none rfl) rfl rfl (q_loadB rfl one3 rfl (.there Sel.here) rfl) ?_
  refine run_q (.none rfl) rfl rfl (q_fieldB (d := 3) rfl Try.underlying47 rfl rfl sz3 rfl) ?_
  refine run_q (.none rfl) rfl rfl (q_loadB rfl one3 rfl (.there Sel.here) rfl) ?_
  refine run_q (.none rfl) rfl rfl (q_fieldB (d := 5) rfl Try.underlying47 rfl rfl sz45 rfl) ?_
  refine run_q (.none rfl) rfl rfl (q_fieldB (d := 5) rfl Try.underlying45 rfl rfl sz3 rfl) ?_
  refine run_q (.none rfl) rfl rfl (q_loadB rfl one3 rfl (.there Sel.here) rfl) ?_
  refine run_q (.none rfl) rfl rfl (q_fieldB (d := 5) rfl Try.underlying47 rfl rfl sz45 rfl) ?_
  refine run_q (.none rfl) rfl rfl (q_fieldB (d := 6) rfl Try.underlying45 rfl rfl sz3 rfl) ?_
  refine run_q (.none rfl) rfl rfl (q_loadB rfl one3 rfl (.there Sel.here) rfl) ?_
  refine run_h (.none rfl) (h_buildSlice rfl rfl rfl Try.underlying72 info3 (.cons rfl rfl rfl rfl (.cons rfl rfl rfl rfl (.cons rfl rfl rfl rfl (.cons rfl rfl rfl rfl (.cons rfl rfl rfl rfl (.cons rfl rfl rfl rfl (.cons rfl rfl rfl rfl Parts.nil))))))) rfl (by omega)) ?_
  rintro b24 -
  refine run_q (.none rfl) rfl rfl (q_assign rfl rfl) ?_
  refine run_nil ?_
  refine run_sub (subMk (.cons (s := 3) rfl (.cons (s := 4) rfl (.cons (s := 5) rfl .nil))) .refl) ?_
  refine run_seq ?_
  refine run_region ?_
  refine run_q (.none rfl) rfl rfl (q_fieldB (d := 0) rfl Try.underlying47 rfl rfl sz3 rfl) ?_
  refine run_q (.none rfl) rfl rfl (q_loadB rfl one3 rfl (.there Sel.here) rfl) ?_
  refine run_q (.none rfl) rfl rfl (q_fieldB (d := 2) rfl Try.underlying47 rfl rfl sz3 rfl) ?_
  refine run_q (.none rfl) rfl rfl (q_loadB rfl one3 rfl (.there Sel.here) rfl) ?_
  refine run_q (.none rfl) rfl rfl (q_fieldB (d := 4) rfl Try.underlying47 rfl rfl sz3 rfl) ?_
  refine run_q (.none rfl) rfl rfl (q_loadB rfl one3 rfl (.there Sel.here) rfl) ?_
  refine run_q (.none rfl) rfl rfl (q_fieldB (d := 1) rfl Try.underlying47 rfl rfl sz3 rfl) ?_
  refine run_q (.none rfl) rfl rfl (q_loadB rfl one3 rfl (.there Sel.here) rfl) ?_
  refine run_q (.none rfl) rfl rfl (q_fieldB (d := 3) rfl Try.underlying47 rfl rfl sz3 rfl) ?_
  refine run_q (.none rfl) rfl rfl (q_loadB rfl one3 rfl (.there Sel.here) rfl) ?_
  refine run_q (.none rfl) rfl rfl (q_fieldB (d := 5) rfl Try.underlying47 rfl rfl sz45 rfl) ?_
  refine run_q (.none rfl) rfl rfl (q_fieldB (d := 5) rfl Try.underlying45 rfl rfl sz3 rfl) ?_
  refine run_q (.none rfl) rfl rfl (q_loadB rfl one3 rfl (.there Sel.here) rfl) ?_
  refine run_q (.none rfl) rfl rfl (q_fieldB (d := 5) rfl Try.underlying47 rfl rfl sz45 rfl) ?_
  refine run_q (.none rfl) rfl rfl (q_fieldB (d := 6) rfl Try.underlying45 rfl rfl sz3 rfl) ?_
  refine run_q (.none rfl) rfl rfl (q_loadB rfl one3 rfl (.there Sel.here) rfl) ?_
  refine run_h (.none rfl) (h_buildSlice rfl rfl rfl Try.underlying72 info3 (.cons rfl rfl rfl rfl (.cons rfl rfl rfl rfl (.cons rfl rfl rfl rfl (.cons rfl rfl rfl rfl (.cons rfl rfl rfl rfl (.cons rfl rfl rfl rfl (.cons rfl rfl rfl rfl Parts.nil))))))) rfl (by omega)) ?_
  rintro b41 -
  refine run_q (.none rfl) rfl rfl (q_assign rfl rfl) ?_
  refine run_nil ?_
  refine run_sub (subMk (.cons (s := 4) rfl (.cons (s := 5) rfl (.cons (s := 6) rfl .nil))) .refl) ?_
  refine run_seq ?_
  refine run_seq ?_
  refine run_region ?_
  refine run_q (.none rfl) rfl rfl (q_assign rfl rfl) ?_
  refine run_nil ?_
  refine run_block ?_
  refine run_sub (subMk (.cons (s := 7) rfl (.cons (s := 4) rfl (.cons (s := 5) rfl (.cons (s := 6) rfl .nil)))) (.cons Sel.here .refl (.cons Sel.here .refl (.cons Sel.here .refl (.cons Sel.here .refl .nil))))) ?_
  refine run_loopC1M0 (ι := Nat) (fun k => k ≤ 7 ∧ Ky.lex (keyN a) (keyN b) = Ky.lex ((keyN a).drop k) ((keyN b).drop k)) (fun k => .int .i64 (k : Int))  (fun k => 7 - k) 0 (by (try dsimp only); exact ⟨by omega, rfl⟩) rfl  ?_
  rintro k hq
  (try dsimp only at hq)
  obtain ⟨hk, hE⟩ := hq
  show Run _ _ _ _ _ _ _ ⟨(7, .int .i64 (k : Int)) :: _, _⟩
  refine run_seq ?_
  refine run_seq ?_
  refine run_region ?_
  refine run_q (.none rfl) rfl rfl (q_move rfl rfl) ?_
  refine run_q (.none rfl) rfl rfl (q_move rfl rfl) ?_
  refine run_q (.none rfl) rfl rfl (q_len rfl Try.underlying72 rfl) ?_
  refine run_q (.none rfl) rfl rfl (q_lss rfl rfl rfl) ?_
  refine run_nil ?_
  refine run_sub (subMk (.cons (s := 4) rfl (.cons (s := 5) rfl (.cons (s := 6) rfl (.cons (s := 7) rfl (.cons (s := 45) rfl .nil))))) .refl) ?_
  refine run_cond rfl (fun g45 => ?_) (fun g45 => ?_)
  · have g45' := g45
    try simp only [decide_eq_true_eq, decide_eq_false_iff_not, beq_iff_eq, beq_eq_false_iff_ne, bne_iff_ne, bne_eq_false_iff_eq, Bool.not_eq_true', Bool.not_eq_false', ne_eq, Int.not_lt, Int.not_le, Decidable.not_not] at g45'
    have hk7 : k < 7 := by omega
    refine run_skip ?_
    refine run_seq ?_
    refine run_block ?_
    refine run_seq ?_
    refine run_draw [(0, 0), (1, 0), (2, 0), (3, 0), (4, 0), (5, 0), (6, 0), (7, 0), (8, 0)] mixed (by kernel_rfl) .refl ?_
    refine d_q rfl rfl (.none rfl) rfl rfl (q_move rfl rfl) ?_
    refine d_q rfl rfl (.none rfl) rfl rfl (q_move rfl rfl) ?_
    refine d_q rfl rfl (.none rfl) rfl rfl (q_indexS (q := k) rfl Try.underlying72 sz3 rfl rfl (.own (.there Sel.here)) (by simp <;> omega) rfl (by omega)) ?_
    refine d_q rfl rfl (.none rfl) rfl rfl (q_loadC rfl one3 rfl (.own (.there Sel.here)) (show ((keyN a).map encI)[k]? = some (encI (nth (keyN a) k)) from getmap (by show k < 7; omega))) ?_
    refine d_q rfl rfl (.none rfl) rfl rfl (q_move rfl rfl) ?_
    refine d_q rfl rfl (.none rfl) rfl rfl (q_move rfl rfl) ?_
    refine d_q rfl rfl (.none rfl) rfl rfl (q_indexS (q := k) rfl Try.underlying72 sz3 rfl rfl (.own Sel.here) (by simp <;> omega) rfl (by omega)) ?_
    refine d_q rfl rfl (.none rfl) rfl rfl (q_loadC rfl one3 rfl (.own Sel.here) (show ((keyN b).map encI)[k]? = some (encI (nth (keyN b) k)) from getmap (by show k < 7; omega))) ?_
    refine d_q rfl rfl (.none rfl) rfl rfl (q_neq rfl rfl rfl) ?_
    refine d_nil ?_
    refine run_sub (subMk (.cons (s := 4) rfl (.cons (s := 5) rfl (.cons (s := 6) rfl (.cons (s := 7) rfl (.cons (s := 56) rfl .nil))))) .refl) ?_
    refine run_cond rfl (fun g56 => ?_) (fun g56 => ?_)
    · have g56' := g56
      try simp only [decide_eq_true_eq, decide_eq_false_iff_not, beq_iff_eq, beq_eq_false_iff_ne, bne_iff_ne, bne_eq_false_iff_eq, Bool.not_eq_true', Bool.not_eq_false', ne_eq, Int.not_lt, Int.not_le, Decidable.not_not] at g56'
      refine run_seq ?_
      refine run_draw [(0, 0), (1, 0), (2, 0), (3, 0), (4, 0), (5, 0), (6, 0), (7, 0), (8, 0), (9, 0)] mixed (by kernel_rfl) .refl ?_
      refine d_q rfl rfl (.none rfl) rfl rfl (q_move rfl rfl) ?_
      refine d_q rfl rfl (.none rfl) rfl rfl (q_move rfl rfl) ?_
      refine d_q rfl rfl (.none rfl) rfl rfl (q_indexS (q := k) rfl Try.underlying72 sz3 rfl rfl (.own (.there Sel.here)) (by simp <;> omega) rfl (by omega)) ?_
      refine d_q rfl rfl (.none rfl) rfl rfl (q_loadC rfl one3 rfl (.own (.there Sel.here)) (show ((keyN a).map encI)[k]? = some (encI (nth (keyN a) k)) from getmap (by show k < 7; omega))) ?_
      refine d_q rfl rfl (.none rfl) rfl rfl (q_move rfl rfl) ?_
      refine d_q rfl rfl (.none rfl) rfl rfl (q_move rfl rfl) ?_
      refine d_q rfl rfl (.none rfl) rfl rfl (q_indexS (q := k) rfl Try.underlying72 sz3 rfl rfl (.own Sel.here) (by simp <;> omega) rfl (by omega)) ?_
      refine d_q rfl rfl (.none rfl) rfl rfl (q_loadC rfl one3 rfl (.own Sel.here) (show ((keyN b).map encI)[k]? = some (encI (nth (keyN b) k)) from getmap (by show k < 7; omega))) ?_
      refine d_q rfl rfl (.none rfl) rfl rfl (q_lss rfl rfl rfl) ?_
      refine d_q rfl rfl (.none rfl) rfl rfl (q_assign rfl rfl) ?_
      refine d_nil ?_
      refine run_sub (subMk (.cons (s := 4) rfl (.cons (s := 5) rfl (.cons (s := 6) rfl (.cons (s := 7) rfl .nil)))) .refl) ?_
      refine run_ret ?_
      exact end1 rfl rfl (congrArg Value.bool (bef_end hE hk7 g56'))
    · have g56' := g56
      try simp only [decide_eq_true_eq, decide_eq_false_iff_not, beq_iff_eq, beq_eq_false_iff_ne, bne_iff_ne, bne_eq_false_iff_eq, Bool.not_eq_true', Bool.not_eq_false', ne_eq, Int.not_lt, Int.not_le, Decidable.not_not] at g56'
      refine run_skip ?_
      refine run_blk ?_
      refine run_region ?_
      refine run_q (.none rfl) rfl rfl (q_move rfl rfl) ?_
      refine run_q (.none rfl) rfl rfl (q_add rfl rfl rfl (by omega)) ?_
      refine run_q (.none rfl) rfl rfl (q_assign rfl rfl) ?_
      refine run_nil ?_
      refine run_sub (subMk (.cons (s := 4) rfl (.cons (s := 5) rfl (.cons (s := 6) rfl (.cons (s := 7) rfl .nil)))) .refl) ?_
      exact run_again (k + 1) (by (try dsimp only); exact ⟨by omega, by rw [hE, Ky.lex_eq (show k < (keyN a).length from hk7) (show k < (keyN b).length from hk7) g56']⟩) (by (try dsimp only); omega) (subMk (.cons' (s := 7) rfl (vint (by omega)) (.cons (s := 4) rfl (.cons (s := 5) rfl (.cons (s := 6) rfl .nil)))) (.cons Sel.here .refl (.cons Sel.here .refl (.cons Sel.here .refl (.cons Sel.here .refl .nil)))))
  · have g45' := g45
    try simp only [decide_eq_true_eq, decide_eq_false_iff_not, beq_iff_eq, beq_eq_false_iff_ne, bne_iff_ne, bne_eq_false_iff_eq, Bool.not_eq_true', Bool.not_eq_false', ne_eq, Int.not_lt, Int.not_le, Decidable.not_not] at g45'
    refine run_exit rfl ?_
    refine run_sub (subMk (.cons (s := 4) rfl .nil) .refl) ?_
    refine run_seq ?_
    refine run_region ?_
    refine run_q (.none rfl) rfl rfl (q_assign rfl rfl) ?_
    refine run_nil ?_
    refine run_ret ?_
    exact end1 rfl rfl (congrArg Value.bool (bef_eq hE (by omega)))

set_option maxHeartbeats 2000000 in
set_option maxRecDepth 100000 in
theorem law11_just (l : List Note) (A : Option Addr) (ca : Nat) (W : World) (hr : Rd W A 7 (l.map Note.enc)) (hca : l.length ≤ ca) : Calls Try.prog 11 #[.slice A l.length ca] W (Hr.Just W (.bool true)) := by
  obtain ⟨a, ha⟩ : ∃ a, a = l.take 24 := ⟨_, rfl⟩
  have hra := rd_take hr ha
  have hla : a.length ≤ 24 := by rw [ha]; simp; omega
  refine Just.of_ret ?_
  refine enterA (X := nX) (vs := [.slice A l.length ca]) Try.func11 Try.ntmps11 rfl rfl Mem.nil ?_
  refine run_seq ?_
  refine run_region ?_
  refine run_q (.none rfl) rfl rfl (q_assign rfl rfl) ?_
  refine run_nil ?_
  refine run_seq ?_
  refine run_region ?_
  refine run_q (.none rfl) rfl rfl (q_move rfl rfl) ?_
  refine run_q (.none rfl) rfl rfl (q_call rfl call12 (.cons rfl Evs.nil) (fun w hk hm => cut_take ha A ca hca w)) ?_
  refine run_q (.none rfl) rfl rfl (q_assign rfl rfl) ?_
  refine run_nil ?_
  refine run_seq ?_
  refine run_region ?_
  refine run_q (.none rfl) rfl rfl (q_move rfl rfl) ?_
  refine run_h (.none rfl) (h_call rfl rfl rfl call33 (.cons rfl Evs.nil) (fun w hk hm => order_ret a A ca w (hra.kept0 hk) (by omega))) ?_
  rintro ⟨v, m⟩ ⟨O, co, d, hd, hds, rfl, rfl⟩
  show Run _ _ _ _ _ _ _ ⟨(11, .slice O a.length co) :: _, _ :: _⟩
  refine run_q (.none rfl) rfl rfl (q_assign rfl rfl) ?_
  refine run_nil ?_
  refine run_sub (subMk (.cons (s := 0) rfl (.cons (s := 2) rfl (.cons (s := 3) rfl .nil))) .refl) ?_
  refine run_seq ?_
  refine run_seq ?_
  refine run_region ?_
  refine run_q (.none rfl) rfl rfl (q_call rfl call14 Evs.nil (fun w hk hm => known_just w)) ?_
  refine run_q (.none rfl) rfl rfl (q_not rfl rfl) ?_
  refine run_q (.none rfl) rfl rfl (q_move rfl rfl) ?_
  refine run_q (.on rfl rfl rfl rfl) rfl rfl (q_move rfl rfl) ?_
  refine run_q (.on rfl rfl rfl rfl) rfl rfl (q_len rfl Try.underlying22 rfl) ?_
  refine run_q (.on rfl rfl rfl rfl) rfl rfl (q_move rfl rfl) ?_
  refine run_q (.on rfl rfl rfl rfl) rfl rfl (q_len rfl Try.underlying22 rfl) ?_
  refine run_q (.on rfl rfl rfl rfl) rfl rfl (q_neq rfl rfl rfl) ?_
  refine run_q (.none rfl) rfl rfl (q_pickF rfl rfl rfl rfl) ?_
  refine run_nil ?_
  refine run_sub (subMk (.cons (s := 0) rfl (.cons (s := 2) rfl (.cons (s := 3) rfl (.cons (s := 20) rfl .nil)))) .refl) ?_
  refine run_condF rfl (by simp) ?_
  refine run_skip ?_
  refine run_seq ?_
  refine run_seq ?_
  have hdl := hd.length_eq
  refine run_region ?_
  refine run_q (.none rfl) rfl rfl (q_assign rfl rfl) ?_
  refine run_nil ?_
  refine run_block ?_
  refine run_sub (subMk (.cons (s := 4) rfl (.cons (s := 0) rfl (.cons (s := 2) rfl (.cons (s := 3) rfl .nil)))) (.cons Sel.here .refl .nil)) ?_
  refine run_loopC1M0 (ι := Nat) (fun i => 1 ≤ i ∧ i ≤ a.length + 1) (fun i => .int .i64 (i : Int))  (fun i => a.length + 1 - i) 1 (by (try dsimp only); exact (by omega)) rfl  ?_
  rintro i hi
  (try dsimp only at hi)
  show Run _ _ _ _ _ _ _ ⟨(4, .int .i64 (i : Int)) :: _, _⟩
  refine run_seq ?_
  refine run_seq ?_
  refine run_region ?_
  refine run_q (.none rfl) rfl rfl (q_move rfl rfl) ?_
  refine run_q (.none rfl) rfl rfl (q_move rfl rfl) ?_
  refine run_q (.none rfl) rfl rfl (q_len rfl Try.underlying22 rfl) ?_
  refine run_q (.none rfl) rfl rfl (q_lss rfl rfl rfl) ?_
  refine run_nil ?_
  refine run_sub (subMk (.cons (s := 0) rfl (.cons (s := 2) rfl (.cons (s := 3) rfl (.cons (s := 4) rfl (.cons (s := 24) rfl .nil))))) .refl) ?_
  refine run_cond rfl (fun g24 => ?_) (fun g24 => ?_)
  · have g24' := g24
    try simp only [decide_eq_true_eq, decide_eq_false_iff_not, beq_iff_eq, beq_eq_false_iff_ne, bne_iff_ne, bne_eq_false_iff_eq, Bool.not_eq_true', Bool.not_eq_false', ne_eq, Int.not_lt, Int.not_le, Decidable.not_not] at g24'
    refine run_skip ?_
    refine run_seq ?_
    refine run_block ?_
    refine run_seq ?_
    refine run_draw [(0, 0), (1, 0), (2, 0), (3, 0), (4, 0), (5, 0), (6, 0), (7, 0), (8, 0), (9, 0)] mixed (by kernel_rfl) .refl ?_
    refine d_q rfl rfl (.none rfl) rfl rfl (q_move rfl rfl) ?_
    refine d_q rfl rfl (.none rfl) rfl rfl (q_move rfl rfl) ?_
    refine d_q rfl rfl (.none rfl) rfl rfl (q_indexS (q := i) rfl Try.underlying22 sz47 rfl rfl (.own Sel.here) (by rw [List.length_map]; omega) rfl (by omega)) ?_
    refine d_q rfl rfl (.none rfl) rfl rfl (q_loadE rfl agg47 rfl (.own Sel.here) (getmap (by omega)) rfl) ?_
    refine d_q rfl rfl (.none rfl) rfl rfl (q_move rfl rfl) ?_
    refine d_q rfl rfl (.none rfl) rfl rfl (q_move rfl rfl) ?_
    refine d_q rfl rfl (.none rfl) rfl rfl (q_sub rfl rfl rfl (by omega)) ?_
    refine d_q rfl rfl (.none rfl) rfl rfl (q_indexS (q := (i - 1)) rfl Try.underlying22 sz47 rfl rfl (.own Sel.here) (by rw [List.length_map]; omega) (by omega) (by omega)) ?_
    refine d_q rfl rfl (.none rfl) rfl rfl (q_loadE rfl agg47 rfl (.own Sel.here) (getmap (by omega)) rfl) ?_
    refine d_q rfl rfl (.none rfl) rfl rfl (q_call rfl call34 (.cons rfl (.cons rfl Evs.nil)) (fun w hk hm => before_just (nth d i) (nth d (i - 1)) w)) ?_
    refine d_nil ?_
    refine run_sub (subMk (.cons (s := 0) rfl (.cons (s := 2) rfl (.cons (s := 3) rfl (.cons (s := 4) rfl (.cons (s := 36) rfl .nil))))) .refl) ?_
    refine run_condF rfl (hds.nth (by omega) (by omega)) ?_
    refine run_skip ?_
    refine run_blk ?_
    refine run_region ?_
    refine run_q (.none rfl) rfl rfl (q_move rfl rfl) ?_
    refine run_q (.none rfl) rfl rfl (q_add rfl rfl rfl (by omega)) ?_
    refine run_q (.none rfl) rfl rfl (q_assign rfl rfl) ?_
    refine run_nil ?_
    refine run_sub (subMk (.cons (s := 0) rfl (.cons (s := 2) rfl (.cons (s := 3) rfl (.cons (s := 4) rfl .nil)))) .refl) ?_
    exact run_again (i + 1) (by (try dsimp only); exact (by omega)) (by (try dsimp only); omega) (subMk (.cons' (s := 4) rfl (vint (by omega)) (.cons (s := 0) rfl (.cons (s := 2) rfl (.cons (s := 3) rfl .nil)))) (.cons Sel.here .refl .nil))
  · have g24' := g24
    try simp only [decide_eq_true_eq, decide_eq_false_iff_not, beq_iff_eq, beq_eq_false_iff_ne, bne_iff_ne, bne_eq_false_iff_eq, Bool.not_eq_true', Bool.not_eq_false', ne_eq, Int.not_lt, Int.not_le, Decidable.not_not] at g24'
    refine run_exit rfl ?_
    refine run_seq ?_
    refine run_seq ?_
    refine run_region ?_
    refine run_q (.none rfl) rfl rfl (q_assign rfl rfl) ?_
    refine run_nil ?_
    refine run_block ?_
    refine run_sub (subMk (.cons (s := 5) rfl (.cons (s := 0) rfl (.cons (s := 2) rfl (.cons (s := 3) rfl .nil)))) (.cons Sel.here .refl .nil)) ?_
    refine run_loopC1M0 (ι := Nat) (fun i => i ≤ a.length) (fun i => .int .i64 (i : Int))  (fun i => a.length - i) 0 (by (try dsimp only); exact (by omega)) rfl  ?_
    rintro i hi
    (try dsimp only at hi)
    show Run _ _ _ _ _ _ _ ⟨(5, .int .i64 (i : Int)) :: _, _⟩
    refine run_seq ?_
    refine run_seq ?_
    refine run_region ?_
    refine run_q (.none rfl) rfl rfl (q_move rfl rfl) ?_
    refine run_q (.none rfl) rfl rfl (q_move rfl rfl) ?_
    refine run_q (.none rfl) rfl rfl (q_len rfl Try.underlying22 rfl) ?_
    refine run_q (.none rfl) rfl rfl (q_lss rfl rfl rfl) ?_
    refine run_nil ?_
    refine run_sub (subMk (.cons (s := 0) rfl (.cons (s := 2) rfl (.cons (s := 3) rfl (.cons (s := 5) rfl (.cons (s := 40) rfl .nil))))) .refl) ?_
    refine run_cond rfl (fun g40 => ?_) (fun g40 => ?_)
    · have g40' := g40
      try simp only [decide_eq_true_eq, decide_eq_false_iff_not, beq_iff_eq, beq_eq_false_iff_ne, bne_iff_ne, bne_eq_false_iff_eq, Bool.not_eq_true', Bool.not_eq_false', ne_eq, Int.not_lt, Int.not_le, Decidable.not_not] at g40'
      refine run_skip ?_
      refine run_seq ?_
      refine run_block ?_
      refine run_seq ?_
      refine run_region ?_
      refine run_q (.none rfl) rfl rfl (q_assign rfl rfl) ?_
      refine run_nil ?_
      refine run_seq ?_
      refine run_seq ?_
      refine run_region ?_
      refine run_q (.none rfl) rfl rfl (q_assign rfl rfl) ?_
      refine run_nil ?_
      refine run_block ?_
      refine run_sub (subMk (.cons (s := 7) rfl (.cons (s := 6) rfl (.cons (s := 0) rfl (.cons (s := 2) rfl (.cons (s := 3) rfl (.cons (s := 5) rfl .nil)))))) (.cons Sel.here .refl .nil)) ?_
      refine run_loopC2M0 (ι := Nat) (fun k => k ≤ a.length) (fun k => .int .i64 (k : Int)) (fun k => .int .i64 (cntN a (nth a i) k - cntN d (nth a i) k))  (fun k => a.length - k) 0 (by (try dsimp only); exact (by omega)) rfl (vint (by rw [cntN_zero, cntN_zero] <;> rfl))  ?_
      rintro k hk
      (try dsimp only at hk)
      show Run _ _ _ _ _ _ _ ⟨(7, .int .i64 (k : Int)) :: (6, .int .i64 (cntN a (nth a i) k - cntN d (nth a i) k)) :: _, _⟩
      refine run_seq ?_
      refine run_seq ?_
      refine run_region ?_
      refine run_q (.none rfl) rfl rfl (q_move rfl rfl) ?_
      refine run_q (.none rfl) rfl rfl (q_move rfl rfl) ?_
      refine run_q (.none rfl) rfl rfl (q_len rfl Try.underlying22 rfl) ?_
      refine run_q (.none rfl) rfl rfl (q_lss rfl rfl rfl) ?_
      refine run_nil ?_
      refine run_sub (subMk (.cons (s := 0) rfl (.cons (s := 2) rfl (.cons (s := 3) rfl (.cons (s := 5) rfl (.cons (s := 6) rfl (.cons (s := 7) rfl (.cons (s := 46) rfl .nil))))))) .refl) ?_
      refine run_cond rfl (fun g46 => ?_) (fun g46 => ?_)
      · have g46' := g46
        try simp only [decide_eq_true_eq, decide_eq_false_iff_not, beq_iff_eq, beq_eq_false_iff_ne, bne_iff_ne, bne_eq_false_iff_eq, Bool.not_eq_true', Bool.not_eq_false', ne_eq, Int.not_lt, Int.not_le, Decidable.not_not] at g46'
        refine run_skip ?_
        refine run_seq ?_
        refine run_block ?_
        refine run_seq ?_
        refine run_seq ?_
        have hb1 := cntN_bd (l := a) (x := nth a i) (k := k) (by omega)
        have hb2 := cntN_bd (l := d) (x := nth a i) (k := k) (by omega)
        refine run_draw [(0, 0), (1, 0), (2, 0), (3, 0), (4, 0), (5, 0), (6, 0), (7, 0), (8, 0)] mixed (by kernel_rfl) .refl ?_
        refine d_q rfl rfl (.none rfl) rfl rfl (q_move rfl rfl) ?_
        refine d_q rfl rfl (.none rfl) rfl rfl (q_move rfl rfl) ?_
        refine d_q rfl rfl (.none rfl) rfl rfl (q_indexS (q := k) rfl Try.underlying22 sz47 rfl rfl (.inp hra .no) (by simp <;> omega) rfl (by omega)) ?_
        refine d_q rfl rfl (.none rfl) rfl rfl (q_loadE rfl agg47 rfl (.inp hra .no) (getmap (by omega)) rfl) ?_
        refine d_q rfl rfl (.none rfl) rfl rfl (q_move rfl rfl) ?_
        refine d_q rfl rfl (.none rfl) rfl rfl (q_move rfl rfl) ?_
        refine d_q rfl rfl (.none rfl) rfl rfl (q_indexS (q := i) rfl Try.underlying22 sz47 rfl rfl (.inp hra .no) (by simp <;> omega) rfl (by omega)) ?_
        refine d_q rfl rfl (.none rfl) rfl rfl (q_loadE rfl agg47 rfl (.inp hra .no) (getmap (by omega)) rfl) ?_
        refine d_q rfl rfl (.none rfl) rfl rfl (q_eqlS rfl rfl rfl eqg47 (fun w => eqs47 _ _ _ _ _ _ _ _ _ _ _ _ _ _ w)) ?_
        refine d_nil ?_
        refine run_sub (subMk (.cons (s := 0) rfl (.cons (s := 2) rfl (.cons (s := 3) rfl (.cons (s := 5) rfl (.cons (s := 6) rfl (.cons (s := 7) rfl (.cons (s := 57) rfl .nil))))))) .refl) ?_
        refine run_cond rfl (fun g57 => ?_) (fun g57 => ?_)
        · have g57' := g57
          try simp only [decide_eq_true_eq, decide_eq_false_iff_not, beq_iff_eq, beq_eq_false_iff_ne, bne_iff_ne, bne_eq_false_iff_eq, Bool.not_eq_true', Bool.not_eq_false', ne_eq, Int.not_lt, Int.not_le, Decidable.not_not] at g57'
          refine run_region ?_
          refine run_q (.none rfl) rfl rfl (q_move rfl rfl) ?_
          refine run_q (.none rfl) rfl rfl (q_add rfl rfl rfl (by omega)) ?_
          refine run_q (.none rfl) rfl rfl (q_assign rfl rfl) ?_
          refine run_nil ?_
          refine run_sub (subMk (.cons (s := 0) rfl (.cons (s := 2) rfl (.cons (s := 3) rfl (.cons (s := 5) rfl (.cons (s := 6) rfl (.cons (s := 7) rfl .nil)))))) .refl) ?_
          refine run_seq ?_
          refine run_draw [(0, 0), (1, 0), (2, 0), (3, 0), (4, 0), (5, 0), (6, 0), (7, 0), (8, 0)] mixed (by kernel_rfl) .refl ?_
          refine d_q rfl rfl (.none rfl) rfl rfl (q_move rfl rfl) ?_
          refine d_q rfl rfl (.none rfl) rfl rfl (q_move rfl rfl) ?_
          refine d_q rfl rfl (.none rfl) rfl rfl (q_indexS (q := k) rfl Try.underlying22 sz47 rfl rfl (.own Sel.here) (by rw [List.length_map]; omega) rfl (by omega)) ?_
          refine d_q rfl rfl (.none rfl) rfl rfl (q_loadE rfl agg47 rfl (.own Sel.here) (getmap (by omega)) rfl) ?_
          refine d_q rfl rfl (.none rfl) rfl rfl (q_move rfl rfl) ?_
          refine d_q rfl rfl (.none rfl) rfl rfl (q_move rfl rfl) ?_
          refine d_q rfl rfl (.none rfl) rfl rfl (q_indexS (q := i) rfl Try.underlying22 sz47 rfl rfl (.inp hra .no) (by simp <;> omega) rfl (by omega)) ?_
          refine d_q rfl rfl (.none rfl) rfl rfl (q_loadE rfl agg47 rfl (.inp hra .no) (getmap (by omega)) rfl) ?_
          refine d_q rfl rfl (.none rfl) rfl rfl (q_eqlS rfl rfl rfl eqg47 (fun w => eqs47 _ _ _ _ _ _ _ _ _ _ _ _ _ _ w)) ?_
          refine d_nil ?_
          refine run_sub (subMk (.cons (s := 0) rfl (.cons (s := 2) rfl (.cons (s := 3) rfl (.cons (s := 5) rfl (.cons (s := 6) rfl (.cons (s := 7) rfl (.cons (s := 68) rfl .nil))))))) .refl) ?_
          refine run_cond rfl (fun g68 => ?_) (fun g68 => ?_)
          · have g68' := g68
            try simp only [decide_eq_true_eq, decide_eq_false_iff_not, beq_iff_eq, beq_eq_false_iff_ne, bne_iff_ne, bne_eq_false_iff_eq, Bool.not_eq_true', Bool.not_eq_false', ne_eq, Int.not_lt, Int.not_le, Decidable.not_not] at g68'
            refine run_region ?_
            refine run_q (.none rfl) rfl rfl (q_move rfl rfl) ?_
            refine run_q (.none rfl) rfl rfl (q_sub rfl rfl rfl (by omega)) ?_
            refine run_q (.none rfl) rfl rfl (q_assign rfl rfl) ?_
            refine run_nil ?_
            refine run_sub (subMk (.cons (s := 0) rfl (.cons (s := 2) rfl (.cons (s := 3) rfl (.cons (s := 5) rfl (.cons (s := 6) rfl (.cons (s := 7) rfl .nil)))))) .refl) ?_
            refine run_blk ?_
            refine run_region ?_
            refine run_q (.none rfl) rfl rfl (q_move rfl rfl) ?_
            refine run_q (.none rfl) rfl rfl (q_add rfl rfl rfl (by omega)) ?_
            refine run_q (.none rfl) rfl rfl (q_assign rfl rfl) ?_
            refine run_nil ?_
            exact run_again (k + 1) (by (try dsimp only); exact (by omega)) (by (try dsimp only); omega) (subMk (.cons' (s := 7) rfl (vint (by omega)) (.cons' (s := 6) rfl (vint (by rw [cntN_1 (by omega) (show nEq (nth a k) (nth a i) = true from g57), cntN_1 (by omega) (show nEq (nth d k) (nth a i) = true from g68)] <;> omega)) (.cons (s := 0) rfl (.cons (s := 2) rfl (.cons (s := 3) rfl (.cons (s := 5) rfl .nil)))))) (.cons Sel.here .refl .nil))
          · have g68' := g68
            try simp only [decide_eq_true_eq, decide_eq_false_iff_not, beq_iff_eq, beq_eq_false_iff_ne, bne_iff_ne, bne_eq_false_iff_eq, Bool.not_eq_true', Bool.not_eq_false', ne_eq, Int.not_lt, Int.not_le, Decidable.not_not] at g68'
            refine run_skip ?_
            refine run_blk ?_
            refine run_region ?_
            refine run_q (.none rfl) rfl rfl (q_move rfl rfl) ?_
            refine run_q (.none rfl) rfl rfl (q_add rfl rfl rfl (by omega)) ?_
            refine run_q (.none rfl) rfl rfl (q_assign rfl rfl) ?_
            refine run_nil ?_
            refine run_sub (subMk (.cons (s := 0) rfl (.cons (s := 2) rfl (.cons (s := 3) rfl (.cons (s := 5) rfl (.cons (s := 6) rfl (.cons (s := 7) rfl .nil)))))) .refl) ?_
            exact run_again (k + 1) (by (try dsimp only); exact (by omega)) (by (try dsimp only); omega) (subMk (.cons' (s := 7) rfl (vint (by omega)) (.cons' (s := 6) rfl (vint (by rw [cntN_1 (by omega) (show nEq (nth a k) (nth a i) = true from g57), cntN_0 (by omega) (show nEq (nth d k) (nth a i) = false from g68)] <;> omega)) (.cons (s := 0) rfl (.cons (s := 2) rfl (.cons (s := 3) rfl (.cons (s := 5) rfl .nil)))))) (.cons Sel.here .refl .nil))
        · have g57' := g57
          try simp only [decide_eq_true_eq, decide_eq_false_iff_not, beq_iff_eq, beq_eq_false_iff_ne, bne_iff_ne, bne_eq_false_iff_eq, Bool.not_eq_true', Bool.not_eq_false', ne_eq, Int.not_lt, Int.not_le, Decidable.not_not] at g57'
          refine run_skip ?_
          refine run_seq ?_
          refine run_draw [(0, 0), (1, 0), (2, 0), (3, 0), (4, 0), (5, 0), (6, 0), (7, 0), (8, 0)] mixed (by kernel_rfl) .refl ?_
          refine d_q rfl rfl (.none rfl) rfl rfl (q_move rfl rfl) ?_
          refine d_q rfl rfl (.none rfl) rfl rfl (q_move rfl rfl) ?_
          refine d_q rfl rfl (.none rfl) rfl rfl (q_indexS (q := k) rfl Try.underlying22 sz47 rfl rfl (.own Sel.here) (by rw [List.length_map]; omega) rfl (by omega)) ?_
          refine d_q rfl rfl (.none rfl) rfl rfl (q_loadE rfl agg47 rfl (.own Sel.here) (getmap (by omega)) rfl) ?_
          refine d_q rfl rfl (.none rfl) rfl rfl (q_move rfl rfl) ?_
          refine d_q rfl rfl (.none rfl) rfl rfl (q_move rfl rfl) ?_
          refine d_q rfl rfl (.none rfl) rfl rfl (q_indexS (q := i) rfl Try.underlying22 sz47 rfl rfl (.inp hra .no) (by simp <;> omega) rfl (by omega)) ?_
          refine d_q rfl rfl (.none rfl) rfl rfl (q_loadE rfl agg47 rfl (.inp hra .no) (getmap (by omega)) rfl) ?_
          refine d_q rfl rfl (.none rfl) rfl rfl (q_eqlS rfl rfl rfl eqg47 (fun w => eqs47 _ _ _ _ _ _ _ _ _ _ _ _ _ _ w)) ?_
          refine d_nil ?_
          refine run_sub (subMk (.cons (s := 0) rfl (.cons (s := 2) rfl (.cons (s := 3) rfl (.cons (s := 5) rfl (.cons (s := 6) rfl (.cons (s := 7) rfl (.cons (s := 68) rfl .nil))))))) .refl) ?_
          refine run_cond rfl (fun g68 => ?_) (fun g68 => ?_)
          · have g68' := g68
            try simp only [decide_eq_true_eq, decide_eq_false_iff_not, beq_iff_eq, beq_eq_false_iff_ne, bne_iff_ne, bne_eq_false_iff_eq, Bool.not_eq_true', Bool.not_eq_false', ne_eq, Int.not_lt, Int.not_le, Decidable.not_not] at g68'
            refine run_region ?_
            refine run_q (.none rfl) rfl rfl (q_move rfl rfl) ?_
            refine run_q (.none rfl) rfl rfl (q_sub rfl rfl rfl (by omega)) ?_
            refine run_q (.none rfl) rfl rfl (q_assign rfl rfl) ?_
            refine run_nil ?_
            refine run_sub (subMk (.cons (s := 0) rfl (.cons (s := 2) rfl (.cons (s := 3) rfl (.cons (s := 5) rfl (.cons (s := 6) rfl (.cons (s := 7) rfl .nil)))))) .refl) ?_
            refine run_blk ?_
            refine run_region ?_
            refine run_q (.none rfl) rfl rfl (q_move rfl rfl) ?_
            refine run_q (.none rfl) rfl rfl (q_add rfl rfl rfl (by omega)) ?_
            refine run_q (.none rfl) rfl rfl (q_assign rfl rfl) ?_
            refine run_nil ?_
            exact run_again (k + 1) (by (try dsimp only); exact (by omega)) (by (try dsimp only); omega) (subMk (.cons' (s := 7) rfl (vint (by omega)) (.cons' (s := 6) rfl (vint (by rw [cntN_0 (by omega) (show nEq (nth a k) (nth a i) = false from g57), cntN_1 (by omega) (show nEq (nth d k) (nth a i) = true from g68)] <;> omega)) (.cons (s := 0) rfl (.cons (s := 2) rfl (.cons (s := 3) rfl (.cons (s := 5) rfl .nil)))))) (.cons Sel.here .refl .nil))
          · have g68' := g68
            try simp only [decide_eq_true_eq, decide_eq_false_iff_not, beq_iff_eq, beq_eq_false_iff_ne, bne_iff_ne, bne_eq_false_iff_eq, Bool.not_eq_true', Bool.not_eq_false', ne_eq, Int.not_lt, Int.not_le, Decidable.not_not] at g68'
            refine run_skip ?_
            refine run_blk ?_
            refine run_region ?_
            refine run_q (.none rfl) rfl rfl (q_move rfl rfl) ?_
            refine run_q (.none rfl) rfl rfl (q_add rfl rfl rfl (by omega)) ?_
            refine run_q (.none rfl) rfl rfl (q_assign rfl rfl) ?_
            refine run_nil ?_
            refine run_sub (subMk (.cons (s := 0) rfl (.cons (s := 2) rfl (.cons (s := 3) rfl (.cons (s := 5) rfl (.cons (s := 6) rfl (.cons (s := 7) rfl .nil)))))) .refl) ?_
            exact run_again (k + 1) (by (try dsimp only); exact (by omega)) (by (try dsimp only); omega) (subMk (.cons' (s := 7) rfl (vint (by omega)) (.cons' (s := 6) rfl (vint (by rw [cntN_0 (by omega) (show nEq (nth a k) (nth a i) = false from g57), cntN_0 (by omega) (show nEq (nth d k) (nth a i) = false from g68)] <;> omega)) (.cons (s := 0) rfl (.cons (s := 2) rfl (.cons (s := 3) rfl (.cons (s := 5) rfl .nil)))))) (.cons Sel.here .refl .nil))
      · have g46' := g46
        try simp only [decide_eq_true_eq, decide_eq_false_iff_not, beq_iff_eq, beq_eq_false_iff_ne, bne_iff_ne, bne_eq_false_iff_eq, Bool.not_eq_true', Bool.not_eq_false', ne_eq, Int.not_lt, Int.not_le, Decidable.not_not] at g46'
        refine run_exit rfl ?_
        refine run_seq ?_
        refine run_region ?_
        refine run_q (.none rfl) rfl rfl (q_move rfl rfl) ?_
        refine run_q (.none rfl) rfl rfl (q_neq rfl rfl rfl) ?_
        refine run_nil ?_
        refine run_sub (subMk (.cons (s := 0) rfl (.cons (s := 2) rfl (.cons (s := 3) rfl (.cons (s := 5) rfl (.cons (s := 72) rfl .nil))))) .refl) ?_
        refine run_condF rfl (by rw [cntN_perm (x := nth a i) hd.symm (show a.length ≤ k by omega)]; simp) ?_
        refine run_skip ?_
        refine run_blk ?_
        refine run_region ?_
        refine run_q (.none rfl) rfl rfl (q_move rfl rfl) ?_
        refine run_q (.none rfl) rfl rfl (q_add rfl rfl rfl (by omega)) ?_
        refine run_q (.none rfl) rfl rfl (q_assign rfl rfl) ?_
        refine run_nil ?_
        refine run_sub (subMk (.cons (s := 0) rfl (.cons (s := 2) rfl (.cons (s := 3) rfl (.cons (s := 5) rfl .nil)))) .refl) ?_
        exact run_again (i + 1) (by (try dsimp only); exact (by omega)) (by (try dsimp only); omega) (subMk (.cons' (s := 5) rfl (vint (by omega)) (.cons (s := 0) rfl (.cons (s := 2) rfl (.cons (s := 3) rfl .nil)))) (.cons Sel.here .refl .nil))
    · have g40' := g40
      try simp only [decide_eq_true_eq, decide_eq_false_iff_not, beq_iff_eq, beq_eq_false_iff_ne, bne_iff_ne, bne_eq_false_iff_eq, Bool.not_eq_true', Bool.not_eq_false', ne_eq, Int.not_lt, Int.not_le, Decidable.not_not] at g40'
      refine run_exit rfl ?_
      refine run_sub (subMk (.cons (s := 2) rfl .nil) .refl) ?_
      refine run_seq ?_
      refine run_region ?_
      refine run_q (.none rfl) rfl rfl (q_assign rfl rfl) ?_
      refine run_nil ?_
      refine run_ret ?_
      exact end1 rfl rfl rfl

end Go.Proofs.Ytbkmmjpklkallaa
