/- Skylines of a ground, and what compares. -/
import Derived.Test.YtgphmbipakdggaaRI
set_option linter.unusedSimpArgs false
set_option linter.unusedVariables false
namespace Go.Proofs.YtgphmbipakdggaaR
open Go Go.RowKit Hr

theorem call37 : Hr.Callable Try.prog 37 := fun args w => by kernel_rfl
theorem call46 : Hr.Callable Try.prog 46 := fun args w => by kernel_rfl
theorem eqg50 : Try.prog.eqGuardType Try.prog.depth 50 = false := by kernel_rfl
theorem stood50 : Try.prog.stoodInHeld 50 = false := by kernel_rfl
theorem stood48 : Try.prog.stoodInHeld 48 = false := by kernel_rfl
set_option maxRecDepth 100000 in
theorem eqs48d9999 (a0 a1 a2 a3 b0 b1 b2 b3 : Int) (w : World) : (Op.equalIn 9999 48 (.agg #[.int .i64 a0, .int .i64 a1, .int .i64 a2, .int .i64 a3]) (.agg #[.int .i64 b0, .int .i64 b1, .int .i64 b2, .int .i64 b3])).run Try.prog w = .ok (a0 == b0 && (a1 == b1 && (a2 == b2 && (a3 == b3)))) w := by
  rw [run_equalIn_struct w 9998 48 _ _ (by simp only [Program.fieldsOf, Try.underlying48]) stood48]
  simp only [Program.fieldsOf, Try.underlying48]
  exact Eq.trans (eqF_cons (by decide) (part_one one3 rfl) (part_one one3 rfl) (run_equalIn_int w 9997 3 .i64 .i64 a0 b0 Try.underlying3) (eqF_cons (by decide) (part_one one3 rfl) (part_one one3 rfl) (run_equalIn_int w 9997 3 .i64 .i64 a1 b1 Try.underlying3) (eqF_cons (by decide) (part_one one3 rfl) (part_one one3 rfl) (run_equalIn_int w 9997 3 .i64 .i64 a2 b2 Try.underlying3) (eqF_cons (by decide) (part_one one3 rfl) (part_one one3 rfl) (run_equalIn_int w 9997 3 .i64 .i64 a3 b3 Try.underlying3) eqF_nil)))) (by simp only [Bool.and_true, Bool.and_assoc])
theorem agg48 : Hr.Agg Try.prog 48 4 := ⟨fun w => by simp [isAgg, run_underlying Try.underlying48], Hr.Sz.of (by kernel_rfl)⟩
set_option maxRecDepth 100000 in
theorem eqs50 (a0 a1 a2 a3 a4 a5 a6 a7 a8 a9 a10 a11 b0 b1 b2 b3 b4 b5 b6 b7 b8 b9 b10 b11 : Int) (w : World) : (Op.equalIn 10000 50 (.agg #[.int .i64 a0, .int .i64 a1, .int .i64 a2, .int .i64 a3, .int .i64 a4, .int .i64 a5, .int .i64 a6, .int .i64 a7, .int .i64 a8, .int .i64 a9, .int .i64 a10, .int .i64 a11]) (.agg #[.int .i64 b0, .int .i64 b1, .int .i64 b2, .int .i64 b3, .int .i64 b4, .int .i64 b5, .int .i64 b6, .int .i64 b7, .int .i64 b8, .int .i64 b9, .int .i64 b10, .int .i64 b11])).run Try.prog w = .ok (a0 == b0 && (a1 == b1 && (a2 == b2 && (a3 == b3 && (a4 == b4 && (a5 == b5 && (a6 == b6 && (a7 == b7 && (a8 == b8 && (a9 == b9 && (a10 == b10 && (a11 == b11)))))))))))) w := by
  rw [run_equalIn_struct w 9999 50 _ _ (by simp only [Program.fieldsOf, Try.underlying50]) stood50]
  simp only [Program.fieldsOf, Try.underlying50]
  exact Eq.trans (eqF_cons (by decide) (part_one one3 rfl) (part_one one3 rfl) (run_equalIn_int w 9998 3 .i64 .i64 a0 b0 Try.underlying3) (eqF_cons (by decide) (part_one one3 rfl) (part_one one3 rfl) (run_equalIn_int w 9998 3 .i64 .i64 a1 b1 Try.underlying3) (eqF_cons (by decide) (part_one one3 rfl) (part_one one3 rfl) (run_equalIn_int w 9998 3 .i64 .i64 a2 b2 Try.underlying3) (eqF_cons (by decide) (part_one one3 rfl) (part_one one3 rfl) (run_equalIn_int w 9998 3 .i64 .i64 a3 b3 Try.underlying3) (eqF_cons (by decide) (part_one one3 rfl) (part_one one3 rfl) (run_equalIn_int w 9998 3 .i64 .i64 a4 b4 Try.underlying3) (eqF_cons (by decide) (part_one one3 rfl) (part_one one3 rfl) (run_equalIn_int w 9998 3 .i64 .i64 a5 b5 Try.underlying3) (eqF_cons (by decide) (part_agg agg23 rfl) (part_agg agg23 rfl) (eqs23d9999 a6 a7 b6 b7 w) (eqF_cons (by decide) (part_agg agg48 rfl) (part_agg agg48 rfl) (eqs48d9999 a8 a9 a10 a11 b8 b9 b10 b11 w) eqF_nil)))))))) (by simp only [Bool.and_true, Bool.and_assoc])

set_option maxHeartbeats 2000000 in
set_option maxRecDepth 100000 in
theorem skylines_ret (ha hb : List Int) (n : Nat) (P Q : Option Addr) (cp cq : Nat) (W : World) (hP : Rd W P 1 (ha.map encI)) (hQ : Rd W Q 1 ((negL hb).map encI)) (hla : ha.length = n) (hlb : hb.length = n) (hn : 1 ≤ n ∧ n ≤ 65536) (hA : ∀ i, 0 ≤ nth ha i ∧ nth ha i ≤ 599) (hB : ∀ i, 0 ≤ nth hb i ∧ nth hb i ≤ 599) : Calls Try.prog 18 #[.slice P n cp, .slice Q n cq] W (Ret W nX (fun v m => ∃ (pa pb : Nat) (A B : Option Addr) (ca cb : Nat), v = .tuple #[.pointer (some ⟨pa, 0, none⟩), .pointer (some ⟨pb, 0, none⟩), .bool true] ∧ n ≤ ca ∧ n ≤ cb ∧ m = [.blk pa 105 [(0, .int .i64 1), (1, .slice A n ca)], .own 3 1 A n ca ((ha).map encI), .blk pb 105 [(0, .int .i64 (-1)), (1, .slice B n cb)], .own 3 1 B n cb ((hb).map encI)])) := by
  refine enterA (X := nX) (vs := [.slice P n cp, .slice Q n cq]) Try.func18 Try.ntmps18 rfl rfl Mem.nil ?_
  refine run_seq ?_
  refine run_region ?_
  refine run_q (.none rfl) rfl rfl (q_assign rfl rfl) ?_
  refine run_q (.none rfl) rfl rfl (q_assign rfl rfl) ?_
  refine run_q (.none rfl) rfl rfl (q_assign rfl rfl) ?_
  refine run_nil ?_
  refine run_seq ?_
  refine run_region ?_
  refine run_q (.none rfl) rfl rfl (q_move rfl rfl) ?_
  refine run_q (.none rfl) rfl rfl (q_len rfl Try.underlying38 rfl) ?_
  refine run_h (.none rfl) (h_call rfl rfl rfl call26 (.cons rfl (.cons rfl (.cons rfl Evs.nil))) (fun w hk hm => new_ret 1 0 n w (.inl rfl) hn (by decide))) ?_
  rintro ⟨v, m⟩ ⟨pa, A, ca, rfl, hca, rfl⟩
  show Run _ _ _ _ _ _ _ ⟨(15, .tuple #[.pointer (some ⟨pa, 0, none⟩), .int .i64 0]) :: _, _ :: _ :: _⟩
  refine run_q (.none rfl) rfl rfl (q_move rfl rfl) ?_
  refine run_q (.none rfl) rfl rfl (q_extract rfl rfl rfl) ?_
  refine run_q (.none rfl) rfl rfl (q_extract rfl rfl rfl) ?_
  refine run_q (.none rfl) rfl rfl (q_assign rfl rfl) ?_
  refine run_q (.none rfl) rfl rfl (q_assign rfl rfl) ?_
  refine run_nil ?_
  refine run_sub (subMk (.cons (s := 0) rfl (.cons (s := 1) rfl (.cons (s := 4) rfl (.cons (s := 5) rfl (.cons (s := 6) rfl (.cons (s := 7) rfl (.cons (s := 8) rfl .nil))))))) .refl) ?_
  refine run_seq ?_
  refine run_region ?_
  refine run_q (.none rfl) rfl rfl (q_move rfl rfl) ?_
  refine run_q (.none rfl) rfl rfl (q_len rfl Try.underlying38 rfl) ?_
  refine run_h (.none rfl) (h_call rfl rfl rfl call26 (.cons rfl (.cons rfl (.cons rfl Evs.nil))) (fun w hk hm => new_ret (-1) 0 n w (.inr rfl) hn (by decide))) ?_
  rintro ⟨v, m⟩ ⟨pb, B, cb, rfl, hcb, rfl⟩
  show Run _ _ _ _ _ _ _ ⟨(21, .tuple #[.pointer (some ⟨pb, 0, none⟩), .int .i64 0]) :: _, _ :: _ :: _⟩
  refine run_q (.none rfl) rfl rfl (q_move rfl rfl) ?_
  refine run_q (.none rfl) rfl rfl (q_extract rfl rfl rfl) ?_
  refine run_q (.none rfl) rfl rfl (q_extract rfl rfl rfl) ?_
  refine run_q (.none rfl) rfl rfl (q_assign rfl rfl) ?_
  refine run_q (.none rfl) rfl rfl (q_assign rfl rfl) ?_
  refine run_nil ?_
  refine run_sub (subMk (.cons (s := 0) rfl (.cons (s := 1) rfl (.cons (s := 4) rfl (.cons (s := 5) rfl (.cons (s := 6) rfl (.cons (s := 7) rfl (.cons (s := 8) rfl (.cons (s := 9) rfl (.cons (s := 10) rfl .nil))))))))) .refl) ?_
  refine run_seq ?_
  refine run_seq ?_
  refine run_region ?_
  refine run_q (.none rfl) rfl rfl (q_move rfl rfl) ?_
  refine run_q (.none rfl) rfl rfl (q_neq rfl rfl rfl) ?_
  refine run_q (.none rfl) rfl rfl (q_move rfl rfl) ?_
  refine run_q (.on rfl rfl rfl rfl) rfl rfl (q_move rfl rfl) ?_
  refine run_q (.on rfl rfl rfl rfl) rfl rfl (q_neq rfl rfl rfl) ?_
  refine run_q (.none rfl) rfl rfl (q_pickF rfl rfl rfl rfl) ?_
  refine run_q (.none rfl) rfl rfl (q_move rfl rfl) ?_
  refine run_q (.on rfl rfl rfl rfl) rfl rfl (q_move rfl rfl) ?_
  refine run_q (.on rfl rfl rfl rfl) rfl rfl (q_eqlPtr rfl rfl rfl Try.underlying41) ?_
  refine run_q (.none rfl) rfl rfl (q_pickF rfl rfl rfl rfl) ?_
  refine run_q (.none rfl) rfl rfl (q_move rfl rfl) ?_
  refine run_q (.on rfl rfl rfl rfl) rfl rfl (q_move rfl rfl) ?_
  refine run_q (.on rfl rfl rfl rfl) rfl rfl (q_eqlPtr rfl rfl rfl Try.underlying41) ?_
  refine run_q (.none rfl) rfl rfl (q_pickF rfl rfl rfl rfl) ?_
  refine run_nil ?_
  refine run_sub (subMk (.cons (s := 0) rfl (.cons (s := 1) rfl (.cons (s := 4) rfl (.cons (s := 5) rfl (.cons (s := 6) rfl (.cons (s := 7) rfl (.cons (s := 9) rfl (.cons (s := 37) rfl .nil)))))))) .refl) ?_
  refine run_condF rfl rfl ?_
  refine run_skip ?_
  refine run_seq ?_
  refine run_seq ?_
  refine run_region ?_
  refine run_q (.none rfl) rfl rfl (q_assign rfl rfl) ?_
  refine run_nil ?_
  refine run_block ?_
  refine run_sub (subMk (.cons (s := 11) rfl (.cons (s := 0) rfl (.cons (s := 1) rfl (.cons (s := 4) rfl (.cons (s := 5) rfl (.cons (s := 6) rfl (.cons (s := 7) rfl (.cons (s := 9) rfl .nil)))))))) (.cons (.there (.there (.there Sel.here))) .refl (.cons (.there Sel.here) .refl (.cons Sel.here .refl (.cons Sel.here .refl .nil))))) ?_
  refine run_loopC1M2 (ι := Nat) (fun i => i ≤ n) (fun i => .int .i64 (i : Int)) (fun i => .own 3 1 A n ca ((mixG ha n i).map encI)) (fun i => .own 3 1 B n cb ((mixG hb n i).map encI)) (fun i => n - i) 0 (by (try dsimp only); exact (by omega)) rfl (.own rfl rfl rfl (by rw [mixG_zero (h := ha) (by decide)])) (.own rfl rfl rfl (by rw [mixG_zero (h := hb) (by decide)])) ?_
  rintro i hi
  (try dsimp only at hi)
  show Run _ _ _ _ _ _ _ ⟨(11, .int .i64 (i : Int)) :: _, .own 3 1 A n ca ((mixG ha n i).map encI) :: .own 3 1 B n cb ((mixG hb n i).map encI) :: _⟩
  refine run_seq ?_
  refine run_seq ?_
  refine run_region ?_
  refine run_q (.none rfl) rfl rfl (q_move rfl rfl) ?_
  refine run_q (.none rfl) rfl rfl (q_move rfl rfl) ?_
  refine run_q (.none rfl) rfl rfl (q_len rfl Try.underlying38 rfl) ?_
  refine run_q (.none rfl) rfl rfl (q_lss rfl rfl rfl) ?_
  refine run_nil ?_
  refine run_sub (subMk (.cons (s := 0) rfl (.cons (s := 1) rfl (.cons (s := 4) rfl (.cons (s := 5) rfl (.cons (s := 6) rfl (.cons (s := 7) rfl (.cons (s := 9) rfl (.cons (s := 11) rfl (.cons (s := 41) rfl .nil))))))))) .refl) ?_
  refine run_cond rfl (fun g41 => ?_) (fun g41 => ?_)
  · have g41' := g41
    try simp only [decide_eq_true_eq, decide_eq_false_iff_not, beq_iff_eq, beq_eq_false_iff_ne, bne_iff_ne, bne_eq_false_iff_eq, Bool.not_eq_true', Bool.not_eq_false', ne_eq, Int.not_lt, Int.not_le, Decidable.not_not] at g41'
    have hAi := hA i
    have hBi := hB i
    refine run_skip ?_
    refine run_seq ?_
    refine run_block ?_
    refine run_seq ?_
    refine run_region ?_
    refine run_q (.none rfl) rfl rfl (q_move rfl rfl) ?_
    refine run_q (.none rfl) rfl rfl (q_move rfl rfl) ?_
    refine run_q (.none rfl) rfl rfl (q_move rfl rfl) ?_
    refine run_q (.none rfl) rfl rfl (q_move rfl rfl) ?_
    refine run_q (.none rfl) rfl rfl (q_move rfl rfl) ?_
    refine run_q (.none rfl) rfl rfl (q_indexS (q := i) rfl Try.underlying38 sz3 rfl rfl (.inp hP .no) (by rw [List.length_map, hla]) rfl (by omega)) ?_
    refine run_q (.none rfl) rfl rfl (q_loadC rfl one3 rfl (.inp hP .no) (getmap (by omega))) ?_
    refine run_h (.none rfl) (h_callX [_, _] _ rfl rfl rfl call37 (.cons rfl (.cons rfl (.cons rfl (.cons rfl Evs.nil)))) ((Sel.perm (.there (.there (.there Sel.here)))).trans (.cons _ (Sel.perm Sel.here))) (Y := fun _ => atAny [_, _]) (fun _ _ h => h) (fun w hk hm => Raise_ret (mixG ha n i) pa A ca 1 n (i : Int) (i : Int) (nth ha i) w mixG_len ((hm.perm ((Sel.perm (.there (.there (.there Sel.here)))).trans (.cons _ (Sel.perm Sel.here)))).give (rs := [_, _])) ⟨by omega, Int.le_refl _, by rw [mixG_len]; omega⟩ (by rw [mixG_len]; omega) (.inl rfl) (by omega))) ?_
    rintro ⟨v, m⟩ ⟨rfl, rfl⟩
    show Run _ _ _ _ _ _ _ ⟨(51, .int .i64 0) :: _, _ :: _ :: _⟩
    refine run_q (.none rfl) rfl rfl (q_neq rfl rfl rfl) ?_
    refine run_q (.none rfl) rfl rfl (q_move rfl rfl) ?_
    refine run_q (.on rfl rfl rfl rfl) rfl rfl (q_move rfl rfl) ?_
    refine run_q (.on rfl rfl rfl rfl) rfl rfl (q_move rfl rfl) ?_
    refine run_q (.on rfl rfl rfl rfl) rfl rfl (q_move rfl rfl) ?_
    refine run_q (.on rfl rfl rfl rfl) rfl rfl (q_move rfl rfl) ?_
    refine run_q (.on rfl rfl rfl rfl) rfl rfl (q_move rfl rfl) ?_
    refine run_q (.on rfl rfl rfl rfl) rfl rfl (q_indexS (q := i) rfl Try.underlying38 sz3 rfl rfl (.inp hQ .no) (by rw [List.length_map, negL_len, hlb]) rfl (by omega)) ?_
    refine run_q (.on rfl rfl rfl rfl) rfl rfl (q_loadC rfl one3 rfl (.inp hQ .no) (getmap (by rw [negL_len]; omega))) ?_
    refine run_h (.on rfl rfl rfl rfl) (h_callX [_, _] _ rfl rfl rfl call37 (.cons rfl (.cons rfl (.cons rfl (.cons rfl Evs.nil)))) ((Sel.perm (.there (.there (.there Sel.here)))).trans (.cons _ (Sel.perm (.there (.there Sel.here))))) (Y := fun _ => atAny [_, _]) (fun _ _ h => h) (fun w hk hm => Raise_ret (mixG hb n i) pb B cb (-1) n (i : Int) (i : Int) (nth (negL hb) i) w mixG_len ((hm.perm ((Sel.perm (.there (.there (.there Sel.here)))).trans (.cons _ (Sel.perm (.there (.there Sel.here)))))).give (rs := [_, _])) ⟨by omega, Int.le_refl _, by rw [mixG_len]; omega⟩ (by rw [mixG_len]; omega) (.inr rfl) (by rw [negL_nth]; omega))) ?_
    rintro ⟨v, m⟩ ⟨rfl, rfl⟩
    show Run _ _ _ _ _ _ _ ⟨(61, .int .i64 0) :: _, _ :: _ :: _⟩
    refine run_q (.on rfl rfl rfl rfl) rfl rfl (q_neq rfl rfl rfl) ?_
    refine run_q (.none rfl) rfl rfl (q_pickF rfl rfl rfl rfl) ?_
    refine run_nil ?_
    refine run_sub (subMk (.cons (s := 0) rfl (.cons (s := 1) rfl (.cons (s := 4) rfl (.cons (s := 5) rfl (.cons (s := 6) rfl (.cons (s := 7) rfl (.cons (s := 9) rfl (.cons (s := 11) rfl (.cons (s := 63) rfl .nil))))))))) .refl) ?_
    refine run_condF rfl rfl ?_
    refine run_skip ?_
    refine run_blk ?_
    refine run_region ?_
    refine run_q (.none rfl) rfl rfl (q_move rfl rfl) ?_
    refine run_q (.none rfl) rfl rfl (q_add rfl rfl rfl (by omega)) ?_
    refine run_q (.none rfl) rfl rfl (q_assign rfl rfl) ?_
    refine run_nil ?_
    refine run_sub (subMk (.cons (s := 0) rfl (.cons (s := 1) rfl (.cons (s := 4) rfl (.cons (s := 5) rfl (.cons (s := 6) rfl (.cons (s := 7) rfl (.cons (s := 9) rfl (.cons (s := 11) rfl .nil)))))))) .refl) ?_
    exact run_again (i + 1) (by (try dsimp only); exact (by omega)) (by (try dsimp only); omega) (subMk (.cons' (s := 11) rfl (vint (by omega)) (.cons (s := 0) rfl (.cons (s := 1) rfl (.cons (s := 4) rfl (.cons (s := 5) rfl (.cons (s := 6) rfl (.cons (s := 7) rfl (.cons (s := 9) rfl .nil)))))))) (.cons (.there (.there (.there Sel.here))) (.own rfl rfl rfl (by rw [mixG_step (by omega) hAi.1 (by omega)])) (.cons (.there Sel.here) (.own rfl rfl rfl (by rw [mixG_step (by omega) hBi.1 (by rw [negL_nth]; omega)])) (.cons Sel.here .refl (.cons Sel.here .refl .nil)))))
  · have g41' := g41
    try simp only [decide_eq_true_eq, decide_eq_false_iff_not, beq_iff_eq, beq_eq_false_iff_ne, bne_iff_ne, bne_eq_false_iff_eq, Bool.not_eq_true', Bool.not_eq_false', ne_eq, Int.not_lt, Int.not_le, Decidable.not_not] at g41'
    refine run_exit rfl ?_
    refine run_sub (subMk (.cons (s := 4) rfl (.cons (s := 5) rfl (.cons (s := 6) rfl (.cons (s := 7) rfl (.cons (s := 9) rfl .nil))))) .refl) ?_
    refine run_seq ?_
    refine run_region ?_
    refine run_q (.none rfl) rfl rfl (q_move rfl rfl) ?_
    refine run_q (.none rfl) rfl rfl (q_move rfl rfl) ?_
    refine run_q (.none rfl) rfl rfl (q_assign rfl rfl) ?_
    refine run_q (.none rfl) rfl rfl (q_assign rfl rfl) ?_
    refine run_q (.none rfl) rfl rfl (q_assign rfl rfl) ?_
    refine run_nil ?_
    refine run_sub (subMk (.cons (s := 4) rfl (.cons (s := 5) rfl (.cons (s := 6) rfl .nil))) .refl) ?_
    refine run_ret ?_
    refine run_sub (subMk .refl (.cons (.there (.there (.there Sel.here))) (.blk (.cons (s := 0) rfl (.cons (s := 1) rfl (.nil)))) (.cons Sel.here (.own (xs' := ha.map encI) rfl rfl rfl (by rw [mixG_all hla (by omega)])) (.cons (.there Sel.here) (.blk (.cons (s := 0) rfl (.cons (s := 1) rfl (.nil)))) (.cons Sel.here (.own (xs' := hb.map encI) rfl rfl rfl (by rw [mixG_all hlb (by omega)])) .nil))))) ?_
    exact end3 rfl rfl rfl rfl ⟨pa, pb, A, B, ca, cb, rfl, hca, hcb, rfl⟩

set_option maxHeartbeats 1000000 in
set_option maxRecDepth 100000 in
theorem equal_just (o : List Int) (p : Nat) (A : Option Addr) (c : Nat) (t : Int) (n : Nat) (Q : Option Addr) (cq : Nat) (W : World) (hon : o.length = n) (hb : Rd W (some ⟨p, 0, none⟩) 2 [[.int .i64 t, .slice A n c]]) (hr : Rd W A 1 (o.map encI)) (hq : Rd W Q 1 ((sgL t o).map encI)) (hc : o.length ≤ c) (hl6 : o.length ≤ 65536) (hbd : Bd o) (ht : t = 1 ∨ t = -1) : Calls Try.prog 22 #[.pointer (some ((adr (some ⟨p, 0, none⟩)).add (0 * 2))), .slice Q n cq] W (Hr.Just W (.bool true)) := by
  refine Just.of_ret ?_
  refine enterA (X := nX) (vs := [.pointer (some ((adr (some ⟨p, 0, none⟩)).add (0 * 2))), .slice Q n cq]) Try.func22 Try.ntmps22 rfl rfl Mem.nil ?_
  refine run_seq ?_
  refine run_region ?_
  refine run_q (.none rfl) rfl rfl (q_assign rfl rfl) ?_
  refine run_nil ?_
  refine run_seq ?_
  refine run_seq ?_
  refine run_region ?_
  refine run_q (.none rfl) rfl rfl (q_move rfl rfl) ?_
  refine run_q (.none rfl) rfl rfl (q_call rfl call39 (.cons rfl Evs.nil) (fun w hk hm => cols_just o p A c t n w hon (hb.kept0 hk))) ?_
  refine run_q (.none rfl) rfl rfl (q_move rfl rfl) ?_
  refine run_q (.none rfl) rfl rfl (q_len rfl Try.underlying38 rfl) ?_
  refine run_q (.none rfl) rfl rfl (q_neq rfl rfl rfl) ?_
  refine run_nil ?_
  refine run_sub (subMk (.cons (s := 0) rfl (.cons (s := 1) rfl (.cons (s := 4) rfl (.cons (s := 12) rfl .nil)))) .refl) ?_
  refine run_condF rfl (by simp) ?_
  refine run_skip ?_
  refine run_seq ?_
  refine run_seq ?_
  refine run_region ?_
  refine run_q (.none rfl) rfl rfl (q_assign rfl rfl) ?_
  refine run_nil ?_
  refine run_block ?_
  refine run_sub (subMk (.cons (s := 5) rfl (.cons (s := 0) rfl (.cons (s := 1) rfl (.cons (s := 4) rfl .nil)))) .nil) ?_
  refine run_loopC1M0 (ι := Nat) (fun k => k ≤ n) (fun k => .int .i64 (k : Int))  (fun k => n - k) 0 (by (try dsimp only); exact (by omega)) rfl  ?_
  rintro k hk
  (try dsimp only at hk)
  show Run _ _ _ _ _ _ _ ⟨(5, .int .i64 (k : Int)) :: _, _⟩
  refine run_seq ?_
  refine run_seq ?_
  refine run_region ?_
  refine run_q (.none rfl) rfl rfl (q_move rfl rfl) ?_
  refine run_q (.none rfl) rfl rfl (q_move rfl rfl) ?_
  refine run_q (.none rfl) rfl rfl (q_len rfl Try.underlying38 rfl) ?_
  refine run_q (.none rfl) rfl rfl (q_lss rfl rfl rfl) ?_
  refine run_nil ?_
  refine run_sub (subMk (.cons (s := 0) rfl (.cons (s := 1) rfl (.cons (s := 4) rfl (.cons (s := 5) rfl (.cons (s := 16) rfl .nil))))) .refl) ?_
  refine run_cond rfl (fun g16 => ?_) (fun g16 => ?_)
  · have g16' := g16
    try simp only [decide_eq_true_eq, decide_eq_false_iff_not, beq_iff_eq, beq_eq_false_iff_ne, bne_iff_ne, bne_eq_false_iff_eq, Bool.not_eq_true', Bool.not_eq_false', ne_eq, Int.not_lt, Int.not_le, Decidable.not_not] at g16'
    refine run_skip ?_
    refine run_seq ?_
    refine run_block ?_
    refine run_seq ?_
    refine run_region ?_
    refine run_q (.none rfl) rfl rfl (q_move rfl rfl) ?_
    refine run_q (.none rfl) rfl rfl (q_move rfl rfl) ?_
    refine run_q (.none rfl) rfl rfl (q_call rfl call46 (.cons rfl (.cons rfl Evs.nil)) (fun w hk hm => at_just o p A c t n (k : Int) w hon (hb.kept0 hk) (hr.kept0 hk) ⟨by omega, by omega⟩ hc hl6 hbd ht)) ?_
    refine run_q (.none rfl) rfl rfl (q_move rfl rfl) ?_
    refine run_q (.none rfl) rfl rfl (q_extract rfl rfl rfl) ?_
    refine run_q (.none rfl) rfl rfl (q_extract rfl rfl rfl) ?_
    refine run_q (.none rfl) rfl rfl (q_assign rfl rfl) ?_
    refine run_q (.none rfl) rfl rfl (q_assign rfl rfl) ?_
    refine run_nil ?_
    refine run_sub (subMk (.cons (s := 0) rfl (.cons (s := 1) rfl (.cons (s := 4) rfl (.cons (s := 5) rfl (.cons (s := 6) rfl (.cons (s := 7) rfl .nil)))))) .refl) ?_
    refine run_seq ?_
    refine run_region ?_
    refine run_q (.none rfl) rfl rfl (q_move rfl rfl) ?_
    refine run_q (.none rfl) rfl rfl (q_neq rfl rfl rfl) ?_
    refine run_q (.none rfl) rfl rfl (q_move rfl rfl) ?_
    refine run_q (.on rfl rfl rfl rfl) rfl rfl (q_move rfl rfl) ?_
    refine run_q (.on rfl rfl rfl rfl) rfl rfl (q_move rfl rfl) ?_
    refine run_q (.on rfl rfl rfl rfl) rfl rfl (q_move rfl rfl) ?_
    refine run_q (.on rfl rfl rfl rfl) rfl rfl (q_indexS (q := k) rfl Try.underlying38 sz3 rfl rfl (.inp hq .no) (by rw [List.length_map, sgL_len, hon]) rfl (by omega)) ?_
    refine run_q (.on rfl rfl rfl rfl) rfl rfl (q_loadC rfl one3 rfl (.inp hq .no) (getmap (by rw [sgL_len]; omega))) ?_
    refine run_q (.on rfl rfl rfl rfl) rfl rfl (q_neq rfl rfl rfl) ?_
    refine run_q (.none rfl) rfl rfl (q_pickF rfl rfl rfl rfl) ?_
    refine run_nil ?_
    refine run_sub (subMk (.cons (s := 0) rfl (.cons (s := 1) rfl (.cons (s := 4) rfl (.cons (s := 5) rfl (.cons (s := 34) rfl .nil))))) .refl) ?_
    refine run_condF rfl (by rw [sgL_nth]; simp) ?_
    refine run_skip ?_
    refine run_blk ?_
    refine run_region ?_
    refine run_q (.none rfl) rfl rfl (q_move rfl rfl) ?_
    refine run_q (.none rfl) rfl rfl (q_add rfl rfl rfl (by omega)) ?_
    refine run_q (.none rfl) rfl rfl (q_assign rfl rfl) ?_
    refine run_nil ?_
    refine run_sub (subMk (.cons (s := 0) rfl (.cons (s := 1) rfl (.cons (s := 4) rfl (.cons (s := 5) rfl .nil)))) .refl) ?_
    exact run_again (k + 1) (by (try dsimp only); exact (by omega)) (by (try dsimp only); omega) (subMk (.cons' (s := 5) rfl (vint (by omega)) (.cons (s := 0) rfl (.cons (s := 1) rfl (.cons (s := 4) rfl .nil)))) .nil)
  · have g16' := g16
    try simp only [decide_eq_true_eq, decide_eq_false_iff_not, beq_iff_eq, beq_eq_false_iff_ne, bne_iff_ne, bne_eq_false_iff_eq, Bool.not_eq_true', Bool.not_eq_false', ne_eq, Int.not_lt, Int.not_le, Decidable.not_not] at g16'
    refine run_exit rfl ?_
    refine run_sub (subMk (.cons (s := 4) rfl .nil) .refl) ?_
    refine run_seq ?_
    refine run_region ?_
    refine run_q (.none rfl) rfl rfl (q_assign rfl rfl) ?_
    refine run_nil ?_
    refine run_ret ?_
    exact end1 rfl rfl rfl

set_option maxRecDepth 100000 in
theorem sameMarks_just (l : List Mk) (A B : Option Addr) (ca cb : Nat) (W : World) (hA : Rd W A 12 (l.map Mk.enc)) (hB : Rd W B 12 (l.map Mk.enc)) (hl : l.length ≤ 1000000) : Calls Try.prog 21 #[.slice A l.length ca, .slice B l.length cb] W (Hr.Just W (.bool true)) := by
  refine Just.of_ret ?_
  refine enterA (X := nX) (vs := [.slice A l.length ca, .slice B l.length cb]) Try.func21 Try.ntmps21 rfl rfl Mem.nil ?_
  refine run_seq ?_
  refine run_region ?_
  refine run_q (.none rfl) rfl rfl (q_assign rfl rfl) ?_
  refine run_nil ?_
  refine run_seq ?_
  refine run_seq ?_
  refine run_region ?_
  refine run_q (.none rfl) rfl rfl (q_move rfl rfl) ?_
  refine run_q (.none rfl) rfl rfl (q_len rfl Try.underlying44 rfl) ?_
  refine run_q (.none rfl) rfl rfl (q_move rfl rfl) ?_
  refine run_q (.none rfl) rfl rfl (q_len rfl Try.underlying44 rfl) ?_
  refine run_q (.none rfl) rfl rfl (q_neq rfl rfl rfl) ?_
  refine run_nil ?_
  refine run_sub (subMk (.cons (s := 0) rfl (.cons (s := 1) rfl (.cons (s := 4) rfl (.cons (s := 10) rfl .nil)))) .refl) ?_
  refine run_condF rfl (by simp) ?_
  refine run_skip ?_
  refine run_seq ?_
  refine run_seq ?_
  refine run_region ?_
  refine run_q (.none rfl) rfl rfl (q_assign rfl rfl) ?_
  refine run_nil ?_
  refine run_block ?_
  refine run_sub (subMk (.cons (s := 5) rfl (.cons (s := 0) rfl (.cons (s := 1) rfl (.cons (s := 4) rfl .nil)))) .nil) ?_
  refine run_loopC1M0 (ι := Nat) (fun k => k ≤ l.length) (fun k => .int .i64 (k : Int))  (fun k => l.length - k) 0 (by (try dsimp only); exact (by omega)) rfl  ?_
  rintro k hk
  (try dsimp only at hk)
  show Run _ _ _ _ _ _ _ ⟨(5, .int .i64 (k : Int)) :: _, _⟩
  refine run_seq ?_
  refine run_seq ?_
  refine run_region ?_
  refine run_q (.none rfl) rfl rfl (q_move rfl rfl) ?_
  refine run_q (.none rfl) rfl rfl (q_move rfl rfl) ?_
  refine run_q (.none rfl) rfl rfl (q_len rfl Try.underlying44 rfl) ?_
  refine run_q (.none rfl) rfl rfl (q_lss rfl rfl rfl) ?_
  refine run_nil ?_
  refine run_sub (subMk (.cons (s := 0) rfl (.cons (s := 1) rfl (.cons (s := 4) rfl (.cons (s := 5) rfl (.cons (s := 14) rfl .nil))))) .refl) ?_
  refine run_cond rfl (fun g14 => ?_) (fun g14 => ?_)
  · have g14' := g14
    try simp only [decide_eq_true_eq, decide_eq_false_iff_not, beq_iff_eq, beq_eq_false_iff_ne, bne_iff_ne, bne_eq_false_iff_eq, Bool.not_eq_true', Bool.not_eq_false', ne_eq, Int.not_lt, Int.not_le, Decidable.not_not] at g14'
    refine run_skip ?_
    refine run_seq ?_
    refine run_block ?_
    refine run_seq ?_
    refine run_draw [(0, 0), (1, 0), (2, 0), (3, 0), (4, 0), (5, 0), (6, 0), (7, 0), (8, 0)] mixed (by kernel_rfl) .refl ?_
    refine d_q rfl rfl (.none rfl) rfl rfl (q_move rfl rfl) ?_
    refine d_q rfl rfl (.none rfl) rfl rfl (q_move rfl rfl) ?_
    refine d_q rfl rfl (.none rfl) rfl rfl (q_indexS (q := k) rfl Try.underlying44 sz50 rfl rfl (.inp hA .no) (by simp <;> omega) rfl (by omega)) ?_
    refine d_q rfl rfl (.none rfl) rfl rfl (q_loadE rfl agg50 rfl (.inp hA .no) (getmap (by omega)) rfl) ?_
    refine d_q rfl rfl (.none rfl) rfl rfl (q_move rfl rfl) ?_
    refine d_q rfl rfl (.none rfl) rfl rfl (q_move rfl rfl) ?_
    refine d_q rfl rfl (.none rfl) rfl rfl (q_indexS (q := k) rfl Try.underlying44 sz50 rfl rfl (.inp hB .no) (by simp <;> omega) rfl (by omega)) ?_
    refine d_q rfl rfl (.none rfl) rfl rfl (q_loadE rfl agg50 rfl (.inp hB .no) (getmap (by omega)) rfl) ?_
    refine d_q rfl rfl (.none rfl) rfl rfl (q_neqS rfl rfl rfl eqg50 (fun w => eqs50 _ _ _ _ _ _ _ _ _ _ _ _ _ _ _ _ _ _ _ _ _ _ _ _ w)) ?_
    refine d_nil ?_
    refine run_sub (subMk (.cons (s := 0) rfl (.cons (s := 1) rfl (.cons (s := 4) rfl (.cons (s := 5) rfl (.cons (s := 25) rfl .nil))))) .refl) ?_
    refine run_condF rfl (by simp) ?_
    refine run_skip ?_
    refine run_blk ?_
    refine run_region ?_
    refine run_q (.none rfl) rfl rfl (q_move rfl rfl) ?_
    refine run_q (.none rfl) rfl rfl (q_add rfl rfl rfl (by omega)) ?_
    refine run_q (.none rfl) rfl rfl (q_assign rfl rfl) ?_
    refine run_nil ?_
    refine run_sub (subMk (.cons (s := 0) rfl (.cons (s := 1) rfl (.cons (s := 4) rfl (.cons (s := 5) rfl .nil)))) .refl) ?_
    exact run_again (k + 1) (by (try dsimp only); exact (by omega)) (by (try dsimp only); omega) (subMk (.cons' (s := 5) rfl (vint (by omega)) (.cons (s := 0) rfl (.cons (s := 1) rfl (.cons (s := 4) rfl .nil)))) .nil)
  · have g14' := g14
    try simp only [decide_eq_true_eq, decide_eq_false_iff_not, beq_iff_eq, beq_eq_false_iff_ne, bne_iff_ne, bne_eq_false_iff_eq, Bool.not_eq_true', Bool.not_eq_false', ne_eq, Int.not_lt, Int.not_le, Decidable.not_not] at g14'
    refine run_exit rfl ?_
    refine run_sub (subMk (.cons (s := 4) rfl .nil) .refl) ?_
    refine run_seq ?_
    refine run_region ?_
    refine run_q (.none rfl) rfl rfl (q_assign rfl rfl) ?_
    refine run_nil ?_
    refine run_ret ?_
    exact end1 rfl rfl rfl

end Go.Proofs.YtgphmbipakdggaaR
