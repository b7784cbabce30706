/- The ground laid. -/
import Derived.Test.YtomhegnaojejnaaP
import Derived.Test.YtomhegnaojejnaaLay
import Derived.Test.YtomhegnaojejnaaLate
set_option linter.unusedSimpArgs false
set_option linter.unusedVariables false
namespace Go.Proofs.Ytomhegnaojejnaa
open Go Go.RowKit Hr

theorem call29 : Hr.Callable Try.prog 29 := fun args w => by kernel_rfl
theorem call28 : Hr.Callable Try.prog 28 := fun args w => by kernel_rfl
theorem info40 : Hr.Info Try.prog 40 [.int .i64 0, .slice none 0 0] 2 32 := Hr.Info.of (by kernel_rfl)
theorem sz34 : Hr.Sz Try.prog 34 1 := Hr.Sz.of (by kernel_rfl)
theorem one34 : Hr.One Try.prog 34 := ⟨fun w => by simp [isAgg, run_underlying Try.underlying34], Hr.Sz.of (by kernel_rfl)⟩
theorem built40p0 (x0y : Int) : Try.prog.built 40 [(0, .int .i64 x0y)] = some #[.int .i64 x0y, .slice none 0 0] := by kernel_rfl
theorem sz40 : Hr.Sz Try.prog 40 2 := Hr.Sz.of (by kernel_rfl)
theorem sz85 : Hr.Sz Try.prog 85 1 := Hr.Sz.of (by kernel_rfl)
theorem one85 : Hr.One Try.prog 85 := ⟨fun w => by simp [isAgg, run_underlying Try.underlying85], Hr.Sz.of (by kernel_rfl)⟩
theorem agg40 : Hr.Agg Try.prog 40 2 := ⟨fun w => by simp [isAgg, run_underlying Try.underlying40], Hr.Sz.of (by kernel_rfl)⟩

set_option maxHeartbeats 4000000 in
set_option maxRecDepth 100000 in
theorem lay_ret (la lb : List Int) (LA LB : Option Addr) (ca0 cb0 : Nat) (W : World) (hla : Rd W LA 1 (la.map encH)) (hlb : Rd W LB 1 (lb.map encH)) (hbA : ∀ x ∈ la, -32768 ≤ x ∧ x ≤ 32767) (hbB : ∀ x ∈ lb, -32768 ≤ x ∧ x ≤ 32767) (hca : la.length ≤ 9223372036854775807) (hcb : lb.length ≤ 9223372036854775807) : Calls Try.prog 19 #[.agg #[.slice LA la.length ca0, .slice LB lb.length cb0]] W (Ret W nX (fun v m => ∃ (pa pb : Nat) (A B : Option Addr) (ca cb : Nat) (P : Option Addr) (cp : Nat) (Q : Option Addr) (cq : Nat), v = .tuple #[.pointer (some ⟨pa, 0, none⟩), .pointer (some ⟨pb, 0, none⟩), .agg #[.int .i64 1, .slice P (gN la) cp], .agg #[.int .i64 (-1), .slice Q (gN la) cq]] ∧ (gN la) ≤ ca ∧ (gN la) ≤ cb ∧ m = [.blk pa 94 [(0, .int .i64 1), (1, .slice A (gN la) ca)], .own 3 1 A (gN la) ca (((gs la (gN la))).map encI), .blk pb 94 [(0, .int .i64 (-1)), (1, .slice B (gN la) cb)], .own 3 1 B (gN la) cb (((negL (gs lb (gN la)))).map encI), .own 3 1 P (gN la) cp ((gs la (gN la)).map encI), .own 3 1 Q (gN la) cq ((gs lb (gN la)).map encI)])) := by
  have hgn : ((gN la) : Int) = max 1 (min 30 (la.length : Int)) := by unfold gN; omega
  refine enterA (X := nX) (vs := [.agg #[.slice LA la.length ca0, .slice LB lb.length cb0]]) Try.func19 Try.ntmps19 rfl rfl Mem.nil ?_
  refine run_seq ?_
  refine run_region ?_
  refine run_h (.none rfl) (h_box rfl rfl rfl rfl rfl) ?_
  rintro b1 -
  refine run_q (.none rfl) rfl rfl (q_assign rfl rfl) ?_
  refine run_q (.none rfl) rfl rfl (q_assign rfl rfl) ?_
  refine run_h (.none rfl) (h_alloc rfl rfl rfl info40) ?_
  rintro b4 -
  refine run_h (.none rfl) (h_alloc rfl rfl rfl info40) ?_
  rintro b5 -
  refine run_nil ?_
  refine run_seq ?_
  refine run_region ?_
  refine run_q (.none rfl) rfl rfl (q_fieldB (d := 0) rfl Try.underlying36 rfl rfl sz34 rfl) ?_
  refine run_q (.none rfl) rfl rfl (q_loadB rfl one34 rfl (.there (.there Sel.here)) rfl) ?_
  refine run_q (.none rfl) rfl rfl (q_len rfl Try.underlying34 rfl) ?_
  refine run_q (.none rfl) rfl rfl (q_min2 rfl rfl rfl) ?_
  refine run_q (.none rfl) rfl rfl (q_max2 rfl rfl rfl) ?_
  refine run_q (.none rfl) rfl rfl (q_assign rfl rfl) ?_
  refine run_nil ?_
  refine run_sub (subMk (.cons (s := 1) rfl (.cons (s := 2) rfl (.cons (s := 3) rfl (.cons (s := 4) rfl (.cons (s := 5) rfl (.cons (s := 6) rfl .nil)))))) .refl) ?_
  refine run_seq ?_
  refine run_sub (subMk (.cons (s := 1) rfl (.cons (s := 2) rfl (.cons (s := 3) rfl (.cons (s := 4) rfl (.cons (s := 5) rfl (.cons' (s := 6) (v' := .int .i64 ((gN la) : Int)) rfl (vint (by omega)) .nil)))))) .refl) ?_
  refine run_region ?_
  refine run_q (.none rfl) rfl rfl (q_move rfl rfl) ?_
  refine run_h (.none rfl) (h_call rfl rfl rfl call21 (.cons rfl (.cons rfl (.cons rfl Evs.nil))) (fun w hk hm => new_ret 1 (-524288) (gN la) w (.inl rfl) ⟨by omega, by omega⟩ (by decide))) ?_
  rintro ⟨v, m⟩ ⟨pa, A, ca, rfl, hca, rfl⟩
  show Run _ _ _ _ _ _ _ ⟨(17, .tuple #[.pointer (some ⟨pa, 0, none⟩), .int .i64 0]) :: _, _ :: _ :: _⟩
  refine run_q (.none rfl) rfl rfl (q_move rfl rfl) ?_
  refine run_q (.none rfl) rfl rfl (q_extract rfl rfl rfl) ?_
  refine run_q (.none rfl) rfl rfl (q_extract rfl rfl rfl) ?_
  refine run_q (.none rfl) rfl rfl (q_assign rfl rfl) ?_
  refine run_nil ?_
  refine run_sub (subMk (.cons (s := 1) rfl (.cons (s := 2) rfl (.cons (s := 3) rfl (.cons (s := 4) rfl (.cons (s := 5) rfl (.cons (s := 6) rfl .nil)))))) .refl) ?_
  refine run_seq ?_
  refine run_region ?_
  refine run_q (.none rfl) rfl rfl (q_move rfl rfl) ?_
  refine run_h (.none rfl) (h_call rfl rfl rfl call21 (.cons rfl (.cons rfl (.cons rfl Evs.nil))) (fun w hk hm => new_ret (-1) 524288 (gN la) w (.inr rfl) ⟨by omega, by omega⟩ (by decide))) ?_
  rintro ⟨v, m⟩ ⟨pb, B, cb, rfl, hcb, rfl⟩
  show Run _ _ _ _ _ _ _ ⟨(22, .tuple #[.pointer (some ⟨pb, 0, none⟩), .int .i64 0]) :: _, _ :: _ :: _⟩
  refine run_q (.none rfl) rfl rfl (q_move rfl rfl) ?_
  refine run_q (.none rfl) rfl rfl (q_extract rfl rfl rfl) ?_
  refine run_q (.none rfl) rfl rfl (q_extract rfl rfl rfl) ?_
  refine run_q (.none rfl) rfl rfl (q_assign rfl rfl) ?_
  refine run_nil ?_
  refine run_sub (subMk (.cons (s := 1) rfl (.cons (s := 2) rfl (.cons (s := 3) rfl (.cons (s := 4) rfl (.cons (s := 5) rfl (.cons (s := 6) rfl .nil)))))) .refl) ?_
  refine run_seq ?_
  refine run_region ?_
  refine run_q (.none rfl) rfl rfl (q_build rfl (.cons rfl PV.nil) (built40p0 _)) ?_
  refine run_q (.none rfl) rfl rfl (q_build rfl (.cons rfl PV.nil) (built40p0 _)) ?_
  refine run_h (.none rfl) (h_storeB rfl rfl sz40 rfl rfl rfl rfl rfl (.there (.there (.there (.there (.there Sel.here))))) rfl) ?_
  rintro - -
  refine run_h (.none rfl) (h_storeB rfl rfl sz40 rfl rfl rfl rfl rfl (.there (.there (.there (.there (.there Sel.here))))) rfl) ?_
  rintro - -
  refine run_nil ?_
  refine run_seq ?_
  refine run_seq ?_
  refine run_region ?_
  refine run_q (.none rfl) rfl rfl (q_assign rfl rfl) ?_
  refine run_nil ?_
  refine run_block ?_
  refine run_sub (subMk .refl (MemSub.nilOwn 3 1)) ?_
  refine run_sub (subMk .refl (MemSub.nilOwn 3 1)) ?_
  refine run_sub (subMk (.cons (s := 7) rfl (.cons (s := 1) rfl (.cons (s := 2) rfl (.cons (s := 3) rfl (.cons (s := 4) rfl (.cons (s := 5) rfl (.cons (s := 6) rfl .nil))))))) (.cons (.there (.there (.there Sel.here))) .refl (.cons (.there (.there Sel.here)) .refl (.cons (.there Sel.here) .refl (.cons Sel.here .refl (.cons (.there (.there (.there Sel.here))) .refl (.cons (.there Sel.here) .refl (.cons Sel.here .refl (.cons Sel.here .refl (.cons Sel.here .refl .nil)))))))))) ?_
  refine run_loopC1M6 (ι := Nat × (Option Addr) × Nat × (Option Addr) × Nat) (fun gg => gg.1 ≤ (gN la) ∧ (gN la) ≤ 30) (fun gg => .int .i64 (gg.1 : Int)) (fun gg => .blk b4 40 [(0, .int .i64 1), (1, .slice gg.2.1 gg.1 gg.2.2.1)]) (fun gg => .blk b5 40 [(0, .int .i64 (-1)), (1, .slice gg.2.2.2.1 gg.1 gg.2.2.2.2)]) (fun gg => .own 3 1 gg.2.1 gg.1 gg.2.2.1 ((gs la gg.1).map encI)) (fun gg => .own 3 1 gg.2.2.2.1 gg.1 gg.2.2.2.2 ((gs lb gg.1).map encI)) (fun gg => .own 3 1 A (gN la) ca ((mixG (gs la (gN la)) (gN la) gg.1).map encI)) (fun gg => .own 3 1 B (gN la) cb ((mixG (negL (gs lb (gN la))) (gN la) gg.1).map encI)) (fun gg => (gN la) - gg.1) (0, none, 0, none, 0) (by (try dsimp only); exact ⟨by omega, by omega⟩) rfl (.blk (.cons (s := 0) rfl (.cons (s := 1) rfl (.nil)))) (.blk (.cons (s := 0) rfl (.cons (s := 1) rfl (.nil)))) (.own rfl rfl rfl rfl) (.own rfl rfl rfl rfl) (.own rfl rfl rfl (by rw [mixG_zero (h := (gs la (gN la))) (by decide)])) (.own rfl rfl rfl (by rw [mixG_zero (h := negL (gs lb (gN la))) (by decide)])) ?_
  rintro ⟨i, P, cp, Q, cq⟩ hq
  (try dsimp only at hq)
  obtain ⟨hi, h30⟩ := hq
  show Run _ _ _ _ _ _ _ ⟨(7, .int .i64 (i : Int)) :: _, .blk b4 40 [(0, .int .i64 1), (1, .slice P i cp)] :: .blk b5 40 [(0, .int .i64 (-1)), (1, .slice Q i cq)] :: .own 3 1 P i cp ((gs la i).map encI) :: .own 3 1 Q i cq ((gs lb i).map encI) :: .own 3 1 A (gN la) ca ((mixG (gs la (gN la)) (gN la) i).map encI) :: .own 3 1 B (gN la) cb ((mixG (negL (gs lb (gN la))) (gN la) i).map encI) :: _⟩
  refine run_seq ?_
  refine run_seq ?_
  refine run_region ?_
  refine run_q (.none rfl) rfl rfl (q_move rfl rfl) ?_
  refine run_q (.none rfl) rfl rfl (q_move rfl rfl) ?_
  refine run_q (.none rfl) rfl rfl (q_lss rfl rfl rfl) ?_
  refine run_nil ?_
  refine run_cond rfl (fun g29 => ?_) (fun g29 => ?_)
  · have g29' := g29
    try simp only [decide_eq_true_eq, decide_eq_false_iff_not, beq_iff_eq, beq_eq_false_iff_ne, bne_iff_ne, bne_eq_false_iff_eq, Bool.not_eq_true', Bool.not_eq_false', ne_eq, Int.not_lt, Int.not_le, Decidable.not_not] at g29'
    have hVa := gV_bd hbA i
    have hVb := gV_bd hbB i
    refine run_skip ?_
    refine run_seq ?_
    refine run_block ?_
    refine run_seq ?_
    refine run_region ?_
    refine run_q (.none rfl) rfl rfl (q_assign rfl rfl) ?_
    refine run_q (.none rfl) rfl rfl (q_assign rfl rfl) ?_
    refine run_nil ?_
    refine run_sub (subMk (.cons (s := 1) rfl (.cons (s := 2) rfl (.cons (s := 3) rfl (.cons (s := 4) rfl (.cons (s := 5) rfl (.cons (s := 6) rfl (.cons (s := 7) rfl (.cons (s := 8) rfl (.cons (s := 9) rfl .nil))))))))) .refl) ?_
    refine run_seq ?_
    refine run_seq ?_
    refine run_region ?_
    refine run_q (.none rfl) rfl rfl (q_move rfl rfl) ?_
    refine run_q (.none rfl) rfl rfl (q_fieldB (d := 0) rfl Try.underlying36 rfl rfl sz34 rfl) ?_
    refine run_q (.none rfl) rfl rfl (q_loadB rfl one34 rfl (.there (.there (.there (.there (.there (.there (.there (.there Sel.here)))))))) rfl) ?_
    refine run_q (.none rfl) rfl rfl (q_len rfl Try.underlying34 rfl) ?_
    refine run_q (.none rfl) rfl rfl (q_lss rfl rfl rfl) ?_
    refine run_nil ?_
    refine run_sub (subMk (.cons (s := 1) rfl (.cons (s := 2) rfl (.cons (s := 3) rfl (.cons (s := 4) rfl (.cons (s := 5) rfl (.cons (s := 6) rfl (.cons (s := 7) rfl (.cons (s := 8) rfl (.cons (s := 9) rfl (.cons (s := 36) rfl .nil)))))))))) .refl) ?_
    refine run_cond rfl (fun g36 => ?_) (fun g36 => ?_)
    · have g36' := g36
      try simp only [decide_eq_true_eq, decide_eq_false_iff_not, beq_iff_eq, beq_eq_false_iff_ne, bne_iff_ne, bne_eq_false_iff_eq, Bool.not_eq_true', Bool.not_eq_false', ne_eq, Int.not_lt, Int.not_le, Decidable.not_not] at g36'
      have hpa := hbA _ (nth_mem (l := la) (q := i) (by omega))
      refine run_region ?_
      refine run_q (.none rfl) rfl rfl (q_fieldB (d := 0) rfl Try.underlying36 rfl rfl sz34 rfl) ?_
      refine run_q (.none rfl) rfl rfl (q_loadB rfl one34 rfl (.there (.there (.there (.there (.there (.there (.there (.there Sel.here)))))))) rfl) ?_
      refine run_q (.none rfl) rfl rfl (q_move rfl rfl) ?_
      refine run_q (.none rfl) rfl rfl (q_indexS (q := i) rfl Try.underlying34 sz85 rfl rfl (.inp hla .no) (by simp <;> omega) rfl (by omega)) ?_
      refine run_q (.none rfl) rfl rfl (q_loadC rfl one85 rfl (.inp hla .no) (getmap (by omega))) ?_
      refine run_q (.none rfl) rfl rfl (q_convert' rfl rfl Try.underlying85 Try.underlying3 (by rw [IntKind.wrap_i64]; omega)) ?_
      refine run_q (.none rfl) rfl rfl (q_assign rfl rfl) ?_
      refine run_nil ?_
      refine run_sub (subMk (.cons (s := 1) rfl (.cons (s := 2) rfl (.cons (s := 3) rfl (.cons (s := 4) rfl (.cons (s := 5) rfl (.cons (s := 6) rfl (.cons (s := 7) rfl (.cons (s := 8) rfl (.cons (s := 9) rfl .nil))))))))) .refl) ?_
      refine run_seq ?_
      refine run_seq ?_
      refine run_region ?_
      refine run_q (.none rfl) rfl rfl (q_move rfl rfl) ?_
      refine run_q (.none rfl) rfl rfl (q_fieldB (d := 1) rfl Try.underlying36 rfl rfl sz34 rfl) ?_
      refine run_q (.none rfl) rfl rfl (q_loadB rfl one34 rfl (.there (.there (.there (.there (.there (.there (.there (.there Sel.here)))))))) rfl) ?_
      refine run_q (.none rfl) rfl rfl (q_len rfl Try.underlying34 rfl) ?_
      refine run_q (.none rfl) rfl rfl (q_lss rfl rfl rfl) ?_
      refine run_nil ?_
      refine run_sub (subMk (.cons (s := 1) rfl (.cons (s := 2) rfl (.cons (s := 3) rfl (.cons (s := 4) rfl (.cons (s := 5) rfl (.cons (s := 6) rfl (.cons (s := 7) rfl (.cons (s := 8) rfl (.cons (s := 9) rfl (.cons (s := 47) rfl .nil)))))))))) .refl) ?_
      refine run_cond rfl (fun g47 => ?_) (fun g47 => ?_)
      · have g47' := g47
        try simp only [decide_eq_true_eq, decide_eq_false_iff_not, beq_iff_eq, beq_eq_false_iff_ne, bne_iff_ne, bne_eq_false_iff_eq, Bool.not_eq_true', Bool.not_eq_false', ne_eq, Int.not_lt, Int.not_le, Decidable.not_not] at g47'
        have hpb := hbB _ (nth_mem (l := lb) (q := i) (by omega))
        refine run_region ?_
        refine run_q (.none rfl) rfl rfl (q_fieldB (d := 1) rfl Try.underlying36 rfl rfl sz34 rfl) ?_
        refine run_q (.none rfl) rfl rfl (q_loadB rfl one34 rfl (.there (.there (.there (.there (.there (.there (.there (.there Sel.here)))))))) rfl) ?_
        refine run_q (.none rfl) rfl rfl (q_move rfl rfl) ?_
        refine run_q (.none rfl) rfl rfl (q_indexS (q := i) rfl Try.underlying34 sz85 rfl rfl (.inp hlb .no) (by simp <;> omega) rfl (by omega)) ?_
        refine run_q (.none rfl) rfl rfl (q_loadC rfl one85 rfl (.inp hlb .no) (getmap (by omega))) ?_
        refine run_q (.none rfl) rfl rfl (q_convert' rfl rfl Try.underlying85 Try.underlying3 (by rw [IntKind.wrap_i64]; omega)) ?_
        refine run_q (.none rfl) rfl rfl (q_assign rfl rfl) ?_
        refine run_nil ?_
        refine run_sub (subMk (.cons (s := 1) rfl (.cons (s := 2) rfl (.cons (s := 3) rfl (.cons (s := 4) rfl (.cons (s := 5) rfl (.cons (s := 6) rfl (.cons (s := 7) rfl (.cons (s := 8) rfl (.cons (s := 9) rfl .nil))))))))) .refl) ?_
        refine run_seq ?_
        refine run_sub (subMk (.cons (s := 1) rfl (.cons (s := 2) rfl (.cons (s := 3) rfl (.cons (s := 4) rfl (.cons (s := 5) rfl (.cons (s := 6) rfl (.cons (s := 7) rfl (.cons' (s := 8) (v' := .int .i64 (gV la i)) rfl (vint (by first | rw [gV_yes (by omega)] | rw [gV_no (by omega)])) (.cons' (s := 9) (v' := .int .i64 (gV lb i)) rfl (vint (by first | rw [gV_yes (by omega)] | rw [gV_no (by omega)])) .nil))))))))) .refl) ?_
        refine run_region ?_
        refine run_q (.none rfl) rfl rfl (q_move rfl rfl) ?_
        refine run_q (.none rfl) rfl rfl (q_move rfl rfl) ?_
        refine run_q (.none rfl) rfl rfl (q_move rfl rfl) ?_
        refine run_q (.none rfl) rfl rfl (q_move rfl rfl) ?_
        refine run_h (.none rfl) (h_callX [_, _] _ rfl rfl rfl call42 (.cons rfl (.cons rfl (.cons rfl (.cons rfl Evs.nil)))) ((Sel.perm (.there (.there (.there (.there (.there (.there (.there Sel.here)))))))).trans (.cons _ (Sel.perm (.there (.there (.there (.there Sel.here))))))) (Y := fun _ => atAny [_, _]) (fun _ _ h => h) (fun w hk hm => Raise_ret (mixG (gs la (gN la)) (gN la) i) pa A ca 1 (gN la) (i : Int) (i : Int) (gV la i) w mixG_len ((hm.perm ((Sel.perm (.there (.there (.there (.there (.there (.there (.there Sel.here)))))))).trans (.cons _ (Sel.perm (.there (.there (.there (.there Sel.here)))))))).give (rs := [_, _])) ⟨by omega, Int.le_refl _, by rw [mixG_len]; omega⟩ (by rw [mixG_len]; omega) (.inl rfl) (by omega))) ?_
        rintro ⟨v, m⟩ ⟨rfl, rfl⟩
        show Run _ _ _ _ _ _ _ ⟨(58, .int .i64 0) :: _, _ :: _ :: _⟩
        refine run_nil ?_
        refine run_sub (subMk (.cons (s := 1) rfl (.cons (s := 2) rfl (.cons (s := 3) rfl (.cons (s := 4) rfl (.cons (s := 5) rfl (.cons (s := 6) rfl (.cons (s := 7) rfl (.cons (s := 8) rfl (.cons (s := 9) rfl .nil))))))))) .refl) ?_
        refine run_seq ?_
        refine run_region ?_
        refine run_q (.none rfl) rfl rfl (q_move rfl rfl) ?_
        refine run_q (.none rfl) rfl rfl (q_move rfl rfl) ?_
        refine run_q (.none rfl) rfl rfl (q_move rfl rfl) ?_
        refine run_q (.none rfl) rfl rfl (q_move rfl rfl) ?_
        refine run_h (.none rfl) (h_callX [_, _] _ rfl rfl rfl call42 (.cons rfl (.cons rfl (.cons rfl (.cons rfl Evs.nil)))) ((Sel.perm (.there (.there (.there (.there (.there (.there (.there Sel.here)))))))).trans (.cons _ (Sel.perm (.there (.there (.there (.there (.there (.there Sel.here))))))))) (Y := fun _ => atAny [_, _]) (fun _ _ h => h) (fun w hk hm => Raise_ret (mixG (negL (gs lb (gN la))) (gN la) i) pb B cb (-1) (gN la) (i : Int) (i : Int) (gV lb i) w mixG_len ((hm.perm ((Sel.perm (.there (.there (.there (.there (.there (.there (.there Sel.here)))))))).trans (.cons _ (Sel.perm (.there (.there (.there (.there (.there (.there Sel.here)))))))))).give (rs := [_, _])) ⟨by omega, Int.le_refl _, by rw [mixG_len]; omega⟩ (by rw [mixG_len]; omega) (.inr rfl) (by omega))) ?_
        rintro ⟨v, m⟩ ⟨rfl, rfl⟩
        show Run _ _ _ _ _ _ _ ⟨(63, .int .i64 0) :: _, _ :: _ :: _⟩
        refine run_nil ?_
        refine run_sub (subMk (.cons (s := 1) rfl (.cons (s := 2) rfl (.cons (s := 3) rfl (.cons (s := 4) rfl (.cons (s := 5) rfl (.cons (s := 6) rfl (.cons (s := 7) rfl (.cons (s := 8) rfl (.cons (s := 9) rfl .nil))))))))) .refl) ?_
        refine l_fork [11, 12, 13] mixed (by kernel_rfl) ((Sel.rest (.there (.there (.there (.there (.there (.there Sel.here))))))).trans (Sel.rest (.there (.there (.there (.there (.there (.there Sel.here)))))))) ?_
        refine l_q (i := 0) rfl (by kernel_rfl) (.none rfl) rfl rfl (q_fieldB (d := 1) rfl Try.underlying40 rfl rfl sz38 rfl) ?_
        refine l_q (i := 1) rfl (by kernel_rfl) (.none rfl) rfl rfl (q_loadB rfl one38 rfl (.there (.there (.there (.there Sel.here)))) rfl) ?_
        refine l_q (i := 2) rfl (by kernel_rfl) (.none rfl) rfl rfl (q_move rfl rfl) ?_
        refine l_q (i := 5) rfl (by kernel_rfl) (.none rfl) rfl rfl (q_fieldB (d := 1) rfl Try.underlying40 rfl rfl sz38 rfl) ?_
        refine l_q (i := 6) rfl (by kernel_rfl) (.none rfl) rfl rfl (q_loadB rfl one38 rfl (.there (.there (.there (.there (.there Sel.here))))) rfl) ?_
        refine l_q (i := 7) rfl (by kernel_rfl) (.none rfl) rfl rfl (q_move rfl rfl) ?_
        refine l_two 3 8 (by kernel_rfl) ?_ ?_
        · refine l_h rfl (.none rfl) (h_buildSlice rfl rfl rfl Try.underlying38 info3 (.cons rfl rfl rfl rfl Parts.nil) rfl (by omega)) (fun _ _ => (.sub (.cons _ (.cons_cons _ (.cons_cons _ (.cons_cons _ (.cons_cons _ (.cons_cons _ (.cons_cons _ (.cons _ (.cons _ (.cons_cons _ .slnil)))))))))))) ?_
          rintro b67 -
          refine l_two 4 8 (by kernel_rfl) ?_ ?_
          · refine l_h rfl (.none rfl) (h_append rfl rfl rfl Try.underlying38 info3 rfl rfl (.there (.there (.there (.there (.there (.there (.there Sel.here))))))) rfl (.own Sel.here) rfl (all1 rfl) (all1 rfl) (by omega) (by omega)) (fun _ _ => (.sub (.cons _ (.cons _ (.cons_cons _ (.cons_cons _ (.cons_cons _ (.cons_cons _ (.cons_cons _ (.cons_cons _ (.cons _ (.cons_cons _ .slnil)))))))))))) ?_
            rintro ⟨A68, c68⟩ -
            refine l_q (i := 10) rfl (by kernel_rfl) (.none rfl) rfl rfl (q_fieldB (d := 1) rfl Try.underlying40 rfl rfl sz38 rfl) ?_
            refine l_one 8 (by kernel_rfl) ?_
            refine l_h rfl (.none rfl) (h_buildSlice rfl rfl rfl Try.underlying38 info3 (.cons rfl rfl rfl rfl Parts.nil) rfl (by omega)) (fun _ _ => (.sub (.cons _ (.cons _ (.cons _ (.cons_cons _ (.cons_cons _ (.cons_cons _ (.cons_cons _ (.cons_cons _ (.cons_cons _ (.cons _ (.cons_cons _ .slnil))))))))))))) ?_
            rintro b72 -
            refine l_one 9 (by kernel_rfl) ?_
            refine l_h rfl (.none rfl) (h_append rfl rfl rfl Try.underlying38 info3 rfl rfl (.there (.there (.there (.there (.there (.there (.there (.there (.there Sel.here))))))))) rfl (.own Sel.here) rfl (all1 rfl) (all1 rfl) (by omega) (by omega)) (fun _ _ => (.sub (.cons _ (.cons _ (.cons _ (.cons _ (.cons_cons _ (.cons_cons _ (.cons_cons _ (.cons_cons _ (.cons_cons _ (.cons_cons _ (.cons_cons _ .slnil))))))))))))) ?_
            rintro ⟨A73, c73⟩ -
            refine l_one 11 (by kernel_rfl) ?_
            refine l_late rfl rfl (.none rfl) (h_storeB rfl rfl sz38 rfl rfl rfl rfl rfl (.there (.there (.there (.there (.there (.there (.there (.there Sel.here)))))))) rfl) ?_
            rintro - -
            refine l_one 12 (by kernel_rfl) ?_
            refine l_late rfl rfl (.none rfl) (.of_q rfl rfl (q_fieldB (d := 1) rfl Try.underlying40 rfl rfl sz38 rfl)) ?_
            rintro - -
            refine l_one 13 (by kernel_rfl) ?_
            refine l_late rfl rfl (.none rfl) (h_storeB rfl rfl sz38 rfl rfl rfl rfl rfl (.there (.there (.there (.there (.there (.there (.there (.there (.there Sel.here))))))))) rfl) ?_
            rintro - -
            refine l_nil (by kernel_rfl) ?_
            refine run_sub (subMk (.cons (s := 1) rfl (.cons (s := 2) rfl (.cons (s := 3) rfl (.cons (s := 4) rfl (.cons (s := 5) rfl (.cons (s := 6) rfl (.cons (s := 7) rfl .nil))))))) .refl) ?_
            refine run_blk ?_
            refine run_region ?_
            refine run_q (.none rfl) rfl rfl (q_move rfl rfl) ?_
            refine run_q (.none rfl) rfl rfl (q_add rfl rfl rfl (by omega)) ?_
            refine run_q (.none rfl) rfl rfl (q_assign rfl rfl) ?_
            refine run_nil ?_
            exact run_again (i + 1, A68, c68, A73, c73) (by (try dsimp only); exact ⟨by omega, by omega⟩) (by (try dsimp only); omega) (subMk (.cons' (s := 7) rfl (vint (by omega)) (.cons (s := 1) rfl (.cons (s := 2) rfl (.cons (s := 3) rfl (.cons (s := 4) rfl (.cons (s := 5) rfl (.cons (s := 6) rfl .nil))))))) (.cons (.there Sel.here) (.blk (.cons (s := 0) rfl (.cons (s := 1) rfl (.nil)))) (.cons Sel.here (.blk (.cons (s := 0) rfl (.cons (s := 1) rfl (.nil)))) (.cons (.there (.there Sel.here)) (.own rfl rfl rfl (by rw [gs_succ, List.map_append]; rfl)) (.cons Sel.here (.own rfl rfl rfl (by rw [gs_succ, List.map_append]; rfl)) (.cons (.there (.there (.there (.there (.there Sel.here))))) (.own rfl rfl rfl (by rw [mixG_step (by omega) (by rw [gs_at (by omega)]; omega) (by rw [gs_at (by omega)]; omega)])) (.cons (.there (.there (.there Sel.here))) (.own rfl rfl rfl (by rw [mixG_step (by omega) (by rw [negL_nth, gs_at (by omega)]; omega) (by rw [negL_nth, gs_at (by omega)]; omega)])) (.cons (.there (.there Sel.here)) .refl (.cons (.there (.there Sel.here)) .refl (.cons (.there (.there Sel.here)) .refl .nil))))))))))
          · refine l_h rfl (.none rfl) (h_buildSlice rfl rfl rfl Try.underlying38 info3 (.cons rfl rfl rfl rfl Parts.nil) rfl (by omega)) (fun _ _ => (.sub (.cons _ (.cons _ (.cons_cons _ (.cons_cons _ (.cons_cons _ (.cons_cons _ (.cons_cons _ (.cons_cons _ (.cons _ (.cons _ (.cons_cons _ .slnil))))))))))))) ?_
            rintro b72 -
            refine l_one 4 (by kernel_rfl) ?_
            refine l_h rfl (.none rfl) (h_append rfl rfl rfl Try.underlying38 info3 rfl rfl (.there (.there (.there (.there (.there (.there (.there (.there Sel.here)))))))) rfl (.own (.there Sel.here)) rfl (all1 rfl) (all1 rfl) (by omega) (by omega)) (fun _ _ => (.sub (.cons _ (.cons _ (.cons _ (.cons_cons _ (.cons_cons _ (.cons_cons _ (.cons_cons _ (.cons_cons _ (.cons_cons _ (.cons _ (.cons_cons _ .slnil))))))))))))) ?_
            rintro ⟨A68, c68⟩ -
            refine l_q (i := 10) rfl (by kernel_rfl) (.none rfl) rfl rfl (q_fieldB (d := 1) rfl Try.underlying40 rfl rfl sz38 rfl) ?_
            refine l_one 9 (by kernel_rfl) ?_
            refine l_h rfl (.none rfl) (h_append rfl rfl rfl Try.underlying38 info3 rfl rfl (.there (.there (.there (.there (.there (.there (.there (.there (.there Sel.here))))))))) rfl (.own (.there Sel.here)) rfl (all1 rfl) (all1 rfl) (by omega) (by omega)) (fun _ _ => (.sub (.cons _ (.cons _ (.cons _ (.cons _ (.cons_cons _ (.cons_cons _ (.cons_cons _ (.cons_cons _ (.cons_cons _ (.cons_cons _ (.cons_cons _ .slnil))))))))))))) ?_
            rintro ⟨A73, c73⟩ -
            refine l_one 11 (by kernel_rfl) ?_
            refine l_late rfl rfl (.none rfl) (h_storeB rfl rfl sz38 rfl rfl rfl rfl rfl (.there (.there (.there (.there (.there (.there (.there (.there Sel.here)))))))) rfl) ?_
            rintro - -
            refine l_one 12 (by kernel_rfl) ?_
            refine l_late rfl rfl (.none rfl) (.of_q rfl rfl (q_fieldB (d := 1) rfl Try.underlying40 rfl rfl sz38 rfl)) ?_
            rintro - -
            refine l_one 13 (by kernel_rfl) ?_
            refine l_late rfl rfl (.none rfl) (h_storeB rfl rfl sz38 rfl rfl rfl rfl rfl (.there (.there (.there (.there (.there (.there (.there (.there (.there Sel.here))))))))) rfl) ?_
            rintro - -
            refine l_nil (by kernel_rfl) ?_
            refine run_sub (subMk (.cons (s := 1) rfl (.cons (s := 2) rfl (.cons (s := 3) rfl (.cons (s := 4) rfl (.cons (s := 5) rfl (.cons (s := 6) rfl (.cons (s := 7) rfl .nil))))))) .refl) ?_
            refine run_blk ?_
            refine run_region ?_
            refine run_q (.none rfl) rfl rfl (q_move rfl rfl) ?_
            refine run_q (.none rfl) rfl rfl (q_add rfl rfl rfl (by omega)) ?_
            refine run_q (.none rfl) rfl rfl (q_assign rfl rfl) ?_
            refine run_nil ?_
            exact run_again (i + 1, A68, c68, A73, c73) (by (try dsimp only); exact ⟨by omega, by omega⟩) (by (try dsimp only); omega) (subMk (.cons' (s := 7) rfl (vint (by omega)) (.cons (s := 1) rfl (.cons (s := 2) rfl (.cons (s := 3) rfl (.cons (s := 4) rfl (.cons (s := 5) rfl (.cons (s := 6) rfl .nil))))))) (.cons (.there Sel.here) (.blk (.cons (s := 0) rfl (.cons (s := 1) rfl (.nil)))) (.cons Sel.here (.blk (.cons (s := 0) rfl (.cons (s := 1) rfl (.nil)))) (.cons (.there Sel.here) (.own rfl rfl rfl (by rw [gs_succ, List.map_append]; rfl)) (.cons Sel.here (.own rfl rfl rfl (by rw [gs_succ, List.map_append]; rfl)) (.cons (.there (.there (.there (.there (.there Sel.here))))) (.own rfl rfl rfl (by rw [mixG_step (by omega) (by rw [gs_at (by omega)]; omega) (by rw [gs_at (by omega)]; omega)])) (.cons (.there (.there (.there Sel.here))) (.own rfl rfl rfl (by rw [mixG_step (by omega) (by rw [negL_nth, gs_at (by omega)]; omega) (by rw [negL_nth, gs_at (by omega)]; omega)])) (.cons (.there (.there Sel.here)) .refl (.cons (.there (.there Sel.here)) .refl (.cons (.there (.there Sel.here)) .refl .nil))))))))))
        · refine l_h rfl (.none rfl) (h_buildSlice rfl rfl rfl Try.underlying38 info3 (.cons rfl rfl rfl rfl Parts.nil) rfl (by omega)) (fun _ _ => (.sub (.cons _ (.cons_cons _ (.cons_cons _ (.cons_cons _ (.cons_cons _ (.cons_cons _ (.cons_cons _ (.cons _ (.cons _ (.cons_cons _ .slnil)))))))))))) ?_
          rintro b72 -
          refine l_one 3 (by kernel_rfl) ?_
          refine l_h rfl (.none rfl) (h_buildSlice rfl rfl rfl Try.underlying38 info3 (.cons rfl rfl rfl rfl Parts.nil) rfl (by omega)) (fun _ _ => (.sub (.cons _ (.cons _ (.cons_cons _ (.cons_cons _ (.cons_cons _ (.cons_cons _ (.cons_cons _ (.cons_cons _ (.cons _ (.cons _ (.cons_cons _ .slnil))))))))))))) ?_
          rintro b67 -
          refine l_one 4 (by kernel_rfl) ?_
          refine l_h rfl (.none rfl) (h_append rfl rfl rfl Try.underlying38 info3 rfl rfl (.there (.there (.there (.there (.there (.there (.there (.there Sel.here)))))))) rfl (.own Sel.here) rfl (all1 rfl) (all1 rfl) (by omega) (by omega)) (fun _ _ => (.sub (.cons _ (.cons _ (.cons _ (.cons_cons _ (.cons_cons _ (.cons_cons _ (.cons_cons _ (.cons_cons _ (.cons_cons _ (.cons _ (.cons_cons _ .slnil))))))))))))) ?_
          rintro ⟨A68, c68⟩ -
          refine l_q (i := 10) rfl (by kernel_rfl) (.none rfl) rfl rfl (q_fieldB (d := 1) rfl Try.underlying40 rfl rfl sz38 rfl) ?_
          refine l_one 9 (by kernel_rfl) ?_
          refine l_h rfl (.none rfl) (h_append rfl rfl rfl Try.underlying38 info3 rfl rfl (.there (.there (.there (.there (.there (.there (.there (.there (.there Sel.here))))))))) rfl (.own (.there (.there Sel.here))) rfl (all1 rfl) (all1 rfl) (by omega) (by omega)) (fun _ _ => (.sub (.cons _ (.cons _ (.cons _ (.cons _ (.cons_cons _ (.cons_cons _ (.cons_cons _ (.cons_cons _ (.cons_cons _ (.cons_cons _ (.cons_cons _ .slnil))))))))))))) ?_
          rintro ⟨A73, c73⟩ -
          refine l_one 11 (by kernel_rfl) ?_
          refine l_late rfl rfl (.none rfl) (h_storeB rfl rfl sz38 rfl rfl rfl rfl rfl (.there (.there (.there (.there (.there (.there (.there (.there Sel.here)))))))) rfl) ?_
          rintro - -
          refine l_one 12 (by kernel_rfl) ?_
          refine l_late rfl rfl (.none rfl) (.of_q rfl rfl (q_fieldB (d := 1) rfl Try.underlying40 rfl rfl sz38 rfl)) ?_
          rintro - -
          refine l_one 13 (by kernel_rfl) ?_
          refine l_late rfl rfl (.none rfl) (h_storeB rfl rfl sz38 rfl rfl rfl rfl rfl (.there (.there (.there (.there (.there (.there (.there (.there (.there Sel.here))))))))) rfl) ?_
          rintro - -
          refine l_nil (by kernel_rfl) ?_
          refine run_sub (subMk (.cons (s := 1) rfl (.cons (s := 2) rfl (.cons (s := 3) rfl (.cons (s := 4) rfl (.cons (s := 5) rfl (.cons (s := 6) rfl (.cons (s := 7) rfl .nil))))))) .refl) ?_
          refine run_blk ?_
          refine run_region ?_
          refine run_q (.none rfl) rfl rfl (q_move rfl rfl) ?_
          refine run_q (.none rfl) rfl rfl (q_add rfl rfl rfl (by omega)) ?_
          refine run_q (.none rfl) rfl rfl (q_assign rfl rfl) ?_
          refine run_nil ?_
          exact run_again (i + 1, A68, c68, A73, c73) (by (try dsimp only); exact ⟨by omega, by omega⟩) (by (try dsimp only); omega) (subMk (.cons' (s := 7) rfl (vint (by omega)) (.cons (s := 1) rfl (.cons (s := 2) rfl (.cons (s := 3) rfl (.cons (s := 4) rfl (.cons (s := 5) rfl (.cons (s := 6) rfl .nil))))))) (.cons (.there Sel.here) (.blk (.cons (s := 0) rfl (.cons (s := 1) rfl (.nil)))) (.cons Sel.here (.blk (.cons (s := 0) rfl (.cons (s := 1) rfl (.nil)))) (.cons (.there Sel.here) (.own rfl rfl rfl (by rw [gs_succ, List.map_append]; rfl)) (.cons Sel.here (.own rfl rfl rfl (by rw [gs_succ, List.map_append]; rfl)) (.cons (.there (.there (.there (.there (.there Sel.here))))) (.own rfl rfl rfl (by rw [mixG_step (by omega) (by rw [gs_at (by omega)]; omega) (by rw [gs_at (by omega)]; omega)])) (.cons (.there (.there (.there Sel.here))) (.own rfl rfl rfl (by rw [mixG_step (by omega) (by rw [negL_nth, gs_at (by omega)]; omega) (by rw [negL_nth, gs_at (by omega)]; omega)])) (.cons (.there (.there Sel.here)) .refl (.cons (.there (.there Sel.here)) .refl (.cons (.there (.there Sel.here)) .refl .nil))))))))))
      · have g47' := g47
        try simp only [decide_eq_true_eq, decide_eq_false_iff_not, beq_iff_eq, beq_eq_false_iff_ne, bne_iff_ne, bne_eq_false_iff_eq, Bool.not_eq_true', Bool.not_eq_false', ne_eq, Int.not_lt, Int.not_le, Decidable.not_not] at g47'
        refine run_skip ?_
        refine run_seq ?_
        refine run_sub (subMk (.cons (s := 1) rfl (.cons (s := 2) rfl (.cons (s := 3) rfl (.cons (s := 4) rfl (.cons (s := 5) rfl (.cons (s := 6) rfl (.cons (s := 7) rfl (.cons' (s := 8) (v' := .int .i64 (gV la i)) rfl (vint (by first | rw [gV_yes (by omega)] | rw [gV_no (by omega)])) (.cons' (s := 9) (v' := .int .i64 (gV lb i)) rfl (vint (by first | rw [gV_yes (by omega)] | rw [gV_no (by omega)])) (.cons (s := 47) rfl .nil)))))))))) .refl) ?_
        refine run_region ?_
        refine run_q (.none rfl) rfl rfl (q_move rfl rfl) ?_
        refine run_q (.none rfl) rfl rfl (q_move rfl rfl) ?_
        refine run_q (.none rfl) rfl rfl (q_move rfl rfl) ?_
        refine run_q (.none rfl) rfl rfl (q_move rfl rfl) ?_
        refine run_h (.none rfl) (h_callX [_, _] _ rfl rfl rfl call42 (.cons rfl (.cons rfl (.cons rfl (.cons rfl Evs.nil)))) ((Sel.perm (.there (.there (.there (.there (.there (.there (.there Sel.here)))))))).trans (.cons _ (Sel.perm (.there (.there (.there (.there Sel.here))))))) (Y := fun _ => atAny [_, _]) (fun _ _ h => h) (fun w hk hm => Raise_ret (mixG (gs la (gN la)) (gN la) i) pa A ca 1 (gN la) (i : Int) (i : Int) (gV la i) w mixG_len ((hm.perm ((Sel.perm (.there (.there (.there (.there (.there (.there (.there Sel.here)))))))).trans (.cons _ (Sel.perm (.there (.there (.there (.there Sel.here)))))))).give (rs := [_, _])) ⟨by omega, Int.le_refl _, by rw [mixG_len]; omega⟩ (by rw [mixG_len]; omega) (.inl rfl) (by omega))) ?_
        rintro ⟨v, m⟩ ⟨rfl, rfl⟩
        show Run _ _ _ _ _ _ _ ⟨(58, .int .i64 0) :: _, _ :: _ :: _⟩
        refine run_nil ?_
        refine run_sub (subMk (.cons (s := 1) rfl (.cons (s := 2) rfl (.cons (s := 3) rfl (.cons (s := 4) rfl (.cons (s := 5) rfl (.cons (s := 6) rfl (.cons (s := 7) rfl (.cons (s := 8) rfl (.cons (s := 9) rfl .nil))))))))) .refl) ?_
        refine run_seq ?_
        refine run_region ?_
        refine run_q (.none rfl) rfl rfl (q_move rfl rfl) ?_
        refine run_q (.none rfl) rfl rfl (q_move rfl rfl) ?_
        refine run_q (.none rfl) rfl rfl (q_move rfl rfl) ?_
        refine run_q (.none rfl) rfl rfl (q_move rfl rfl) ?_
        refine run_h (.none rfl) (h_callX [_, _] _ rfl rfl rfl call42 (.cons rfl (.cons rfl (.cons rfl (.cons rfl Evs.nil)))) ((Sel.perm (.there (.there (.there (.there (.there (.there (.there Sel.here)))))))).trans (.cons _ (Sel.perm (.there (.there (.there (.there (.there (.there Sel.here))))))))) (Y := fun _ => atAny [_, _]) (fun _ _ h => h) (fun w hk hm => Raise_ret (mixG (negL (gs lb (gN la))) (gN la) i) pb B cb (-1) (gN la) (i : Int) (i : Int) (gV lb i) w mixG_len ((hm.perm ((Sel.perm (.there (.there (.there (.there (.there (.there (.there Sel.here)))))))).trans (.cons _ (Sel.perm (.there (.there (.there (.there (.there (.there Sel.here)))))))))).give (rs := [_, _])) ⟨by omega, Int.le_refl _, by rw [mixG_len]; omega⟩ (by rw [mixG_len]; omega) (.inr rfl) (by omega))) ?_
        rintro ⟨v, m⟩ ⟨rfl, rfl⟩
        show Run _ _ _ _ _ _ _ ⟨(63, .int .i64 0) :: _, _ :: _ :: _⟩
        refine run_nil ?_
        refine run_sub (subMk (.cons (s := 1) rfl (.cons (s := 2) rfl (.cons (s := 3) rfl (.cons (s := 4) rfl (.cons (s := 5) rfl (.cons (s := 6) rfl (.cons (s := 7) rfl (.cons (s := 8) rfl (.cons (s := 9) rfl .nil))))))))) .refl) ?_
        refine l_fork [11, 12, 13] mixed (by kernel_rfl) ((Sel.rest (.there (.there (.there (.there (.there (.there Sel.here))))))).trans (Sel.rest (.there (.there (.there (.there (.there (.there Sel.here)))))))) ?_
        refine l_q (i := 0) rfl (by kernel_rfl) (.none rfl) rfl rfl (q_fieldB (d := 1) rfl Try.underlying40 rfl rfl sz38 rfl) ?_
        refine l_q (i := 1) rfl (by kernel_rfl) (.none rfl) rfl rfl (q_loadB rfl one38 rfl (.there (.there (.there (.there Sel.here)))) rfl) ?_
        refine l_q (i := 2) rfl (by kernel_rfl) (.none rfl) rfl rfl (q_move rfl rfl) ?_
        refine l_q (i := 5) rfl (by kernel_rfl) (.none rfl) rfl rfl (q_fieldB (d := 1) rfl Try.underlying40 rfl rfl sz38 rfl) ?_
        refine l_q (i := 6) rfl (by kernel_rfl) (.none rfl) rfl rfl (q_loadB rfl one38 rfl (.there (.there (.there (.there (.there Sel.here))))) rfl) ?_
        refine l_q (i := 7) rfl (by kernel_rfl) (.none rfl) rfl rfl (q_move rfl rfl) ?_
        refine l_two 3 8 (by kernel_rfl) ?_ ?_
        · refine l_h rfl (.none rfl) (h_buildSlice rfl rfl rfl Try.underlying38 info3 (.cons rfl rfl rfl rfl Parts.nil) rfl (by omega)) (fun _ _ => (.sub (.cons _ (.cons_cons _ (.cons_cons _ (.cons_cons _ (.cons_cons _ (.cons_cons _ (.cons_cons _ (.cons _ (.cons _ (.cons_cons _ .slnil)))))))))))) ?_
          rintro b67 -
          refine l_two 4 8 (by kernel_rfl) ?_ ?_
          · refine l_h rfl (.none rfl) (h_append rfl rfl rfl Try.underlying38 info3 rfl rfl (.there (.there (.there (.there (.there (.there (.there Sel.here))))))) rfl (.own Sel.here) rfl (all1 rfl) (all1 rfl) (by omega) (by omega)) (fun _ _ => (.sub (.cons _ (.cons _ (.cons_cons _ (.cons_cons _ (.cons_cons _ (.cons_cons _ (.cons_cons _ (.cons_cons _ (.cons _ (.cons_cons _ .slnil)))))))))))) ?_
            rintro ⟨A68, c68⟩ -
            refine l_q (i := 10) rfl (by kernel_rfl) (.none rfl) rfl rfl (q_fieldB (d := 1) rfl Try.underlying40 rfl rfl sz38 rfl) ?_
            refine l_one 8 (by kernel_rfl) ?_
            refine l_h rfl (.none rfl) (h_buildSlice rfl rfl rfl Try.underlying38 info3 (.cons rfl rfl rfl rfl Parts.nil) rfl (by omega)) (fun _ _ => (.sub (.cons _ (.cons _ (.cons _ (.cons_cons _ (.cons_cons _ (.cons_cons _ (.cons_cons _ (.cons_cons _ (.cons_cons _ (.cons _ (.cons_cons _ .slnil))))))))))))) ?_
            rintro b72 -
            refine l_one 9 (by kernel_rfl) ?_
            refine l_h rfl (.none rfl) (h_append rfl rfl rfl Try.underlying38 info3 rfl rfl (.there (.there (.there (.there (.there (.there (.there (.there (.there Sel.here))))))))) rfl (.own Sel.here) rfl (all1 rfl) (all1 rfl) (by omega) (by omega)) (fun _ _ => (.sub (.cons _ (.cons _ (.cons _ (.cons _ (.cons_cons _ (.cons_cons _ (.cons_cons _ (.cons_cons _ (.cons_cons _ (.cons_cons _ (.cons_cons _ .slnil))))))))))))) ?_
            rintro ⟨A73, c73⟩ -
            refine l_one 11 (by kernel_rfl) ?_
            refine l_late rfl rfl (.none rfl) (h_storeB rfl rfl sz38 rfl rfl rfl rfl rfl (.there (.there (.there (.there (.there (.there (.there (.there Sel.here)))))))) rfl) ?_
            rintro - -
            refine l_one 12 (by kernel_rfl) ?_
            refine l_late rfl rfl (.none rfl) (.of_q rfl rfl (q_fieldB (d := 1) rfl Try.underlying40 rfl rfl sz38 rfl)) ?_
            rintro - -
            refine l_one 13 (by kernel_rfl) ?_
            refine l_late rfl rfl (.none rfl) (h_storeB rfl rfl sz38 rfl rfl rfl rfl rfl (.there (.there (.there (.there (.there (.there (.there (.there (.there Sel.here))))))))) rfl) ?_
            rintro - -
            refine l_nil (by kernel_rfl) ?_
            refine run_sub (subMk (.cons (s := 1) rfl (.cons (s := 2) rfl (.cons (s := 3) rfl (.cons (s := 4) rfl (.cons (s := 5) rfl (.cons (s := 6) rfl (.cons (s := 7) rfl .nil))))))) .refl) ?_
            refine run_blk ?_
            refine run_region ?_
            refine run_q (.none rfl) rfl rfl (q_move rfl rfl) ?_
            refine run_q (.none rfl) rfl rfl (q_add rfl rfl rfl (by omega)) ?_
            refine run_q (.none rfl) rfl rfl (q_assign rfl rfl) ?_
            refine run_nil ?_
            exact run_again (i + 1, A68, c68, A73, c73) (by (try dsimp only); exact ⟨by omega, by omega⟩) (by (try dsimp only); omega) (subMk (.cons' (s := 7) rfl (vint (by omega)) (.cons (s := 1) rfl (.cons (s := 2) rfl (.cons (s := 3) rfl (.cons (s := 4) rfl (.cons (s := 5) rfl (.cons (s := 6) rfl .nil))))))) (.cons (.there Sel.here) (.blk (.cons (s := 0) rfl (.cons (s := 1) rfl (.nil)))) (.cons Sel.here (.blk (.cons (s := 0) rfl (.cons (s := 1) rfl (.nil)))) (.cons (.there (.there Sel.here)) (.own rfl rfl rfl (by rw [gs_succ, List.map_append]; rfl)) (.cons Sel.here (.own rfl rfl rfl (by rw [gs_succ, List.map_append]; rfl)) (.cons (.there (.there (.there (.there (.there Sel.here))))) (.own rfl rfl rfl (by rw [mixG_step (by omega) (by rw [gs_at (by omega)]; omega) (by rw [gs_at (by omega)]; omega)])) (.cons (.there (.there (.there Sel.here))) (.own rfl rfl rfl (by rw [mixG_step (by omega) (by rw [negL_nth, gs_at (by omega)]; omega) (by rw [negL_nth, gs_at (by omega)]; omega)])) (.cons (.there (.there Sel.here)) .refl (.cons (.there (.there Sel.here)) .refl (.cons (.there (.there Sel.here)) .refl .nil))))))))))
          · refine l_h rfl (.none rfl) (h_buildSlice rfl rfl rfl Try.underlying38 info3 (.cons rfl rfl rfl rfl Parts.nil) rfl (by omega)) (fun _ _ => (.sub (.cons _ (.cons _ (.cons_cons _ (.cons_cons _ (.cons_cons _ (.cons_cons _ (.cons_cons _ (.cons_cons _ (.cons _ (.cons _ (.cons_cons _ .slnil))))))))))))) ?_
            rintro b72 -
            refine l_one 4 (by kernel_rfl) ?_
            refine l_h rfl (.none rfl) (h_append rfl rfl rfl Try.underlying38 info3 rfl rfl (.there (.there (.there (.there (.there (.there (.there (.there Sel.here)))))))) rfl (.own (.there Sel.here)) rfl (all1 rfl) (all1 rfl) (by omega) (by omega)) (fun _ _ => (.sub (.cons _ (.cons _ (.cons _ (.cons_cons _ (.cons_cons _ (.cons_cons _ (.cons_cons _ (.cons_cons _ (.cons_cons _ (.cons _ (.cons_cons _ .slnil))))))))))))) ?_
            rintro ⟨A68, c68⟩ -
            refine l_q (i := 10) rfl (by kernel_rfl) (.none rfl) rfl rfl (q_fieldB (d := 1) rfl Try.underlying40 rfl rfl sz38 rfl) ?_
            refine l_one 9 (by kernel_rfl) ?_
            refine l_h rfl (.none rfl) (h_append rfl rfl rfl Try.underlying38 info3 rfl rfl (.there (.there (.there (.there (.there (.there (.there (.there (.there Sel.here))))))))) rfl (.own (.there Sel.here)) rfl (all1 rfl) (all1 rfl) (by omega) (by omega)) (fun _ _ => (.sub (.cons _ (.cons _ (.cons _ (.cons _ (.cons_cons _ (.cons_cons _ (.cons_cons _ (.cons_cons _ (.cons_cons _ (.cons_cons _ (.cons_cons _ .slnil))))))))))))) ?_
            rintro ⟨A73, c73⟩ -
            refine l_one 11 (by kernel_rfl) ?_
            refine l_late rfl rfl (.none rfl) (h_storeB rfl rfl sz38 rfl rfl rfl rfl rfl (.there (.there (.there (.there (.there (.there (.there (.there Sel.here)))))))) rfl) ?_
            rintro - -
            refine l_one 12 (by kernel_rfl) ?_
            refine l_late rfl rfl (.none rfl) (.of_q rfl rfl (q_fieldB (d := 1) rfl Try.underlying40 rfl rfl sz38 rfl)) ?_
            rintro - -
            refine l_one 13 (by kernel_rfl) ?_
            refine l_late rfl rfl (.none rfl) (h_storeB rfl rfl sz38 rfl rfl rfl rfl rfl (.there (.there (.there (.there (.there (.there (.there (.there (.there Sel.here))))))))) rfl) ?_
            rintro - -
            refine l_nil (by kernel_rfl) ?_
            refine run_sub (subMk (.cons (s := 1) rfl (.cons (s := 2) rfl (.cons (s := 3) rfl (.cons (s := 4) rfl (.cons (s := 5) rfl (.cons (s := 6) rfl (.cons (s := 7) rfl .nil))))))) .refl) ?_
            refine run_blk ?_
            refine run_region ?_
            refine run_q (.none rfl) rfl rfl (q_move rfl rfl) ?_
            refine run_q (.none rfl) rfl rfl (q_add rfl rfl rfl (by omega)) ?_
            refine run_q (.none rfl) rfl rfl (q_assign rfl rfl) ?_
            refine run_nil ?_
            exact run_again (i + 1, A68, c68, A73, c73) (by (try dsimp only); exact ⟨by omega, by omega⟩) (by (try dsimp only); omega) (subMk (.cons' (s := 7) rfl (vint (by omega)) (.cons (s := 1) rfl (.cons (s := 2) rfl (.cons (s := 3) rfl (.cons (s := 4) rfl (.cons (s := 5) rfl (.cons (s := 6) rfl .nil))))))) (.cons (.there Sel.here) (.blk (.cons (s := 0) rfl (.cons (s := 1) rfl (.nil)))) (.cons Sel.here (.blk (.cons (s := 0) rfl (.cons (s := 1) rfl (.nil)))) (.cons (.there Sel.here) (.own rfl rfl rfl (by rw [gs_succ, List.map_append]; rfl)) (.cons Sel.here (.own rfl rfl rfl (by rw [gs_succ, List.map_append]; rfl)) (.cons (.there (.there (.there (.there (.there Sel.here))))) (.own rfl rfl rfl (by rw [mixG_step (by omega) (by rw [gs_at (by omega)]; omega) (by rw [gs_at (by omega)]; omega)])) (.cons (.there (.there (.there Sel.here))) (.own rfl rfl rfl (by rw [mixG_step (by omega) (by rw [negL_nth, gs_at (by omega)]; omega) (by rw [negL_nth, gs_at (by omega)]; omega)])) (.cons (.there (.there Sel.here)) .refl (.cons (.there (.there Sel.here)) .refl (.cons (.there (.there Sel.here)) .refl .nil))))))))))
        · refine l_h rfl (.none rfl) (h_buildSlice rfl rfl rfl Try.underlying38 info3 (.cons rfl rfl rfl rfl Parts.nil) rfl (by omega)) (fun _ _ => (.sub (.cons _ (.cons_cons _ (.cons_cons _ (.cons_cons _ (.cons_cons _ (.cons_cons _ (.cons_cons _ (.cons _ (.cons _ (.cons_cons _ .slnil)))))))))))) ?_
          rintro b72 -
          refine l_one 3 (by kernel_rfl) ?_
          refine l_h rfl (.none rfl) (h_buildSlice rfl rfl rfl Try.underlying38 info3 (.cons rfl rfl rfl rfl Parts.nil) rfl (by omega)) (fun _ _ => (.sub (.cons _ (.cons _ (.cons_cons _ (.cons_cons _ (.cons_cons _ (.cons_cons _ (.cons_cons _ (.cons_cons _ (.cons _ (.cons _ (.cons_cons _ .slnil))))))))))))) ?_
          rintro b67 -
          refine l_one 4 (by kernel_rfl) ?_
          refine l_h rfl (.none rfl) (h_append rfl rfl rfl Try.underlying38 info3 rfl rfl (.there (.there (.there (.there (.there (.there (.there (.there Sel.here)))))))) rfl (.own Sel.here) rfl (all1 rfl) (all1 rfl) (by omega) (by omega)) (fun _ _ => (.sub (.cons _ (.cons _ (.cons _ (.cons_cons _ (.cons_cons _ (.cons_cons _ (.cons_cons _ (.cons_cons _ (.cons_cons _ (.cons _ (.cons_cons _ .slnil))))))))))))) ?_
          rintro ⟨A68, c68⟩ -
          refine l_q (i := 10) rfl (by kernel_rfl) (.none rfl) rfl rfl (q_fieldB (d := 1) rfl Try.underlying40 rfl rfl sz38 rfl) ?_
          refine l_one 9 (by kernel_rfl) ?_
          refine l_h rfl (.none rfl) (h_append rfl rfl rfl Try.underlying38 info3 rfl rfl (.there (.there (.there (.there (.there (.there (.there (.there (.there Sel.here))))))))) rfl (.own (.there (.there Sel.here))) rfl (all1 rfl) (all1 rfl) (by omega) (by omega)) (fun _ _ => (.sub (.cons _ (.cons _ (.cons _ (.cons _ (.cons_cons _ (.cons_cons _ (.cons_cons _ (.cons_cons _ (.cons_cons _ (.cons_cons _ (.cons_cons _ .slnil))))))))))))) ?_
          rintro ⟨A73, c73⟩ -
          refine l_one 11 (by kernel_rfl) ?_
          refine l_late rfl rfl (.none rfl) (h_storeB rfl rfl sz38 rfl rfl rfl rfl rfl (.there (.there (.there (.there (.there (.there (.there (.there Sel.here)))))))) rfl) ?_
          rintro - -
          refine l_one 12 (by kernel_rfl) ?_
          refine l_late rfl rfl (.none rfl) (.of_q rfl rfl (q_fieldB (d := 1) rfl Try.underlying40 rfl rfl sz38 rfl)) ?_
          rintro - -
          refine l_one 13 (by kernel_rfl) ?_
          refine l_late rfl rfl (.none rfl) (h_storeB rfl rfl sz38 rfl rfl rfl rfl rfl (.there (.there (.there (.there (.there (.there (.there (.there (.there Sel.here))))))))) rfl) ?_
          rintro - -
          refine l_nil (by kernel_rfl) ?_
          refine run_sub (subMk (.cons (s := 1) rfl (.cons (s := 2) rfl (.cons (s := 3) rfl (.cons (s := 4) rfl (.cons (s := 5) rfl (.cons (s := 6) rfl (.cons (s := 7) rfl .nil))))))) .refl) ?_
          refine run_blk ?_
          refine run_region ?_
          refine run_q (.none rfl) rfl rfl (q_move rfl rfl) ?_
          refine run_q (.none rfl) rfl rfl (q_add rfl rfl rfl (by omega)) ?_
          refine run_q (.none rfl) rfl rfl (q_assign rfl rfl) ?_
          refine run_nil ?_
          exact run_again (i + 1, A68, c68, A73, c73) (by (try dsimp only); exact ⟨by omega, by omega⟩) (by (try dsimp only); omega) (subMk (.cons' (s := 7) rfl (vint (by omega)) (.cons (s := 1) rfl (.cons (s := 2) rfl (.cons (s := 3) rfl (.cons (s := 4) rfl (.cons (s := 5) rfl (.cons (s := 6) rfl .nil))))))) (.cons (.there Sel.here) (.blk (.cons (s := 0) rfl (.cons (s := 1) rfl (.nil)))) (.cons Sel.here (.blk (.cons (s := 0) rfl (.cons (s := 1) rfl (.nil)))) (.cons (.there Sel.here) (.own rfl rfl rfl (by rw [gs_succ, List.map_append]; rfl)) (.cons Sel.here (.own rfl rfl rfl (by rw [gs_succ, List.map_append]; rfl)) (.cons (.there (.there (.there (.there (.there Sel.here))))) (.own rfl rfl rfl (by rw [mixG_step (by omega) (by rw [gs_at (by omega)]; omega) (by rw [gs_at (by omega)]; omega)])) (.cons (.there (.there (.there Sel.here))) (.own rfl rfl rfl (by rw [mixG_step (by omega) (by rw [negL_nth, gs_at (by omega)]; omega) (by rw [negL_nth, gs_at (by omega)]; omega)])) (.cons (.there (.there Sel.here)) .refl (.cons (.there (.there Sel.here)) .refl (.cons (.there (.there Sel.here)) .refl .nil))))))))))
    · have g36' := g36
      try simp only [decide_eq_true_eq, decide_eq_false_iff_not, beq_iff_eq, beq_eq_false_iff_ne, bne_iff_ne, bne_eq_false_iff_eq, Bool.not_eq_true', Bool.not_eq_false', ne_eq, Int.not_lt, Int.not_le, Decidable.not_not] at g36'
      refine run_skip ?_
      refine run_seq ?_
      refine run_seq ?_
      refine run_region ?_
      refine run_q (.none rfl) rfl rfl (q_move rfl rfl) ?_
      refine run_q (.none rfl) rfl rfl (q_fieldB (d := 1) rfl Try.underlying36 rfl rfl sz34 rfl) ?_
      refine run_q (.none rfl) rfl rfl (q_loadB rfl one34 rfl (.there (.there (.there (.there (.there (.there (.there (.there Sel.here)))))))) rfl) ?_
      refine run_q (.none rfl) rfl rfl (q_len rfl Try.underlying34 rfl) ?_
      refine run_q (.none rfl) rfl rfl (q_lss rfl rfl rfl) ?_
      refine run_nil ?_
      refine run_sub (subMk (.cons (s := 1) rfl (.cons (s := 2) rfl (.cons (s := 3) rfl (.cons (s := 4) rfl (.cons (s := 5) rfl (.cons (s := 6) rfl (.cons (s := 7) rfl (.cons (s := 8) rfl (.cons (s := 9) rfl (.cons (s := 47) rfl .nil)))))))))) .refl) ?_
      refine run_cond rfl (fun g47 => ?_) (fun g47 => ?_)
      · have g47' := g47
        try simp only [decide_eq_true_eq, decide_eq_false_iff_not, beq_iff_eq, beq_eq_false_iff_ne, bne_iff_ne, bne_eq_false_iff_eq, Bool.not_eq_true', Bool.not_eq_false', ne_eq, Int.not_lt, Int.not_le, Decidable.not_not] at g47'
        have hpb := hbB _ (nth_mem (l := lb) (q := i) (by omega))
        refine run_region ?_
        refine run_q (.none rfl) rfl rfl (q_fieldB (d := 1) rfl Try.underlying36 rfl rfl sz34 rfl) ?_
        refine run_q (.none rfl) rfl rfl (q_loadB rfl one34 rfl (.there (.there (.there (.there (.there (.there (.there (.there Sel.here)))))))) rfl) ?_
        refine run_q (.none rfl) rfl rfl (q_move rfl rfl) ?_
        refine run_q (.none rfl) rfl rfl (q_indexS (q := i) rfl Try.underlying34 sz85 rfl rfl (.inp hlb .no) (by simp <;> omega) rfl (by omega)) ?_
        refine run_q (.none rfl) rfl rfl (q_loadC rfl one85 rfl (.inp hlb .no) (getmap (by omega))) ?_
        refine run_q (.none rfl) rfl rfl (q_convert' rfl rfl Try.underlying85 Try.underlying3 (by rw [IntKind.wrap_i64]; omega)) ?_
        refine run_q (.none rfl) rfl rfl (q_assign rfl rfl) ?_
        refine run_nil ?_
        refine run_sub (subMk (.cons (s := 1) rfl (.cons (s := 2) rfl (.cons (s := 3) rfl (.cons (s := 4) rfl (.cons (s := 5) rfl (.cons (s := 6) rfl (.cons (s := 7) rfl (.cons (s := 8) rfl (.cons (s := 9) rfl .nil))))))))) .refl) ?_
        refine run_seq ?_
        refine run_sub (subMk (.cons (s := 1) rfl (.cons (s := 2) rfl (.cons (s := 3) rfl (.cons (s := 4) rfl (.cons (s := 5) rfl (.cons (s := 6) rfl (.cons (s := 7) rfl (.cons' (s := 8) (v' := .int .i64 (gV la i)) rfl (vint (by first | rw [gV_yes (by omega)] | rw [gV_no (by omega)])) (.cons' (s := 9) (v' := .int .i64 (gV lb i)) rfl (vint (by first | rw [gV_yes (by omega)] | rw [gV_no (by omega)])) .nil))))))))) .refl) ?_
        refine run_region ?_
        refine run_q (.none rfl) rfl rfl (q_move rfl rfl) ?_
        refine run_q (.none rfl) rfl rfl (q_move rfl rfl) ?_
        refine run_q (.none rfl) rfl rfl (q_move rfl rfl) ?_
        refine run_q (.none rfl) rfl rfl (q_move rfl rfl) ?_
        refine run_h (.none rfl) (h_callX [_, _] _ rfl rfl rfl call42 (.cons rfl (.cons rfl (.cons rfl (.cons rfl Evs.nil)))) ((Sel.perm (.there (.there (.there (.there (.there (.there (.there Sel.here)))))))).trans (.cons _ (Sel.perm (.there (.there (.there (.there Sel.here))))))) (Y := fun _ => atAny [_, _]) (fun _ _ h => h) (fun w hk hm => Raise_ret (mixG (gs la (gN la)) (gN la) i) pa A ca 1 (gN la) (i : Int) (i : Int) (gV la i) w mixG_len ((hm.perm ((Sel.perm (.there (.there (.there (.there (.there (.there (.there Sel.here)))))))).trans (.cons _ (Sel.perm (.there (.there (.there (.there Sel.here)))))))).give (rs := [_, _])) ⟨by omega, Int.le_refl _, by rw [mixG_len]; omega⟩ (by rw [mixG_len]; omega) (.inl rfl) (by omega))) ?_
        rintro ⟨v, m⟩ ⟨rfl, rfl⟩
        show Run _ _ _ _ _ _ _ ⟨(58, .int .i64 0) :: _, _ :: _ :: _⟩
        refine run_nil ?_
        refine run_sub (subMk (.cons (s := 1) rfl (.cons (s := 2) rfl (.cons (s := 3) rfl (.cons (s := 4) rfl (.cons (s := 5) rfl (.cons (s := 6) rfl (.cons (s := 7) rfl (.cons (s := 8) rfl (.cons (s := 9) rfl .nil))))))))) .refl) ?_
        refine run_seq ?_
        refine run_region ?_
        refine run_q (.none rfl) rfl rfl (q_move rfl rfl) ?_
        refine run_q (.none rfl) rfl rfl (q_move rfl rfl) ?_
        refine run_q (.none rfl) rfl rfl (q_move rfl rfl) ?_
        refine run_q (.none rfl) rfl rfl (q_move rfl rfl) ?_
        refine run_h (.none rfl) (h_callX [_, _] _ rfl rfl rfl call42 (.cons rfl (.cons rfl (.cons rfl (.cons rfl Evs.nil)))) ((Sel.perm (.there (.there (.there (.there (.there (.there (.there Sel.here)))))))).trans (.cons _ (Sel.perm (.there (.there (.there (.there (.there (.there Sel.here))))))))) (Y := fun _ => atAny [_, _]) (fun _ _ h => h) (fun w hk hm => Raise_ret (mixG (negL (gs lb (gN la))) (gN la) i) pb B cb (-1) (gN la) (i : Int) (i : Int) (gV lb i) w mixG_len ((hm.perm ((Sel.perm (.there (.there (.there (.there (.there (.there (.there Sel.here)))))))).trans (.cons _ (Sel.perm (.there (.there (.there (.there (.there (.there Sel.here)))))))))).give (rs := [_, _])) ⟨by omega, Int.le_refl _, by rw [mixG_len]; omega⟩ (by rw [mixG_len]; omega) (.inr rfl) (by omega))) ?_
        rintro ⟨v, m⟩ ⟨rfl, rfl⟩
        show Run _ _ _ _ _ _ _ ⟨(63, .int .i64 0) :: _, _ :: _ :: _⟩
        refine run_nil ?_
        refine run_sub (subMk (.cons (s := 1) rfl (.cons (s := 2) rfl (.cons (s := 3) rfl (.cons (s := 4) rfl (.cons (s := 5) rfl (.cons (s := 6) rfl (.cons (s := 7) rfl (.cons (s := 8) rfl (.cons (s := 9) rfl .nil))))))))) .refl) ?_
        refine l_fork [11, 12, 13] mixed (by kernel_rfl) ((Sel.rest (.there (.there (.there (.there (.there (.there Sel.here))))))).trans (Sel.rest (.there (.there (.there (.there (.there (.there Sel.here)))))))) ?_
        refine l_q (i := 0) rfl (by kernel_rfl) (.none rfl) rfl rfl (q_fieldB (d := 1) rfl Try.underlying40 rfl rfl sz38 rfl) ?_
        refine l_q (i := 1) rfl (by kernel_rfl) (.none rfl) rfl rfl (q_loadB rfl one38 rfl (.there (.there (.there (.there Sel.here)))) rfl) ?_
        refine l_q (i := 2) rfl (by kernel_rfl) (.none rfl) rfl rfl (q_move rfl rfl) ?_
        refine l_q (i := 5) rfl (by kernel_rfl) (.none rfl) rfl rfl (q_fieldB (d := 1) rfl Try.underlying40 rfl rfl sz38 rfl) ?_
        refine l_q (i := 6) rfl (by kernel_rfl) (.none rfl) rfl rfl (q_loadB rfl one38 rfl (.there (.there (.there (.there (.there Sel.here))))) rfl) ?_
        refine l_q (i := 7) rfl (by kernel_rfl) (.none rfl) rfl rfl (q_move rfl rfl) ?_
        refine l_two 3 8 (by kernel_rfl) ?_ ?_
        · refine l_h rfl (.none rfl) (h_buildSlice rfl rfl rfl Try.underlying38 info3 (.cons rfl rfl rfl rfl Parts.nil) rfl (by omega)) (fun _ _ => (.sub (.cons _ (.cons_cons _ (.cons_cons _ (.cons_cons _ (.cons_cons _ (.cons_cons _ (.cons_cons _ (.cons _ (.cons _ (.cons_cons _ .slnil)))))))))))) ?_
          rintro b67 -
          refine l_two 4 8 (by kernel_rfl) ?_ ?_
          · refine l_h rfl (.none rfl) (h_append rfl rfl rfl Try.underlying38 info3 rfl rfl (.there (.there (.there (.there (.there (.there (.there Sel.here))))))) rfl (.own Sel.here) rfl (all1 rfl) (all1 rfl) (by omega) (by omega)) (fun _ _ => (.sub (.cons _ (.cons _ (.cons_cons _ (.cons_cons _ (.cons_cons _ (.cons_cons _ (.cons_cons _ (.cons_cons _ (.cons _ (.cons_cons _ .slnil)))))))))))) ?_
            rintro ⟨A68, c68⟩ -
            refine l_q (i := 10) rfl (by kernel_rfl) (.none rfl) rfl rfl (q_fieldB (d := 1) rfl Try.underlying40 rfl rfl sz38 rfl) ?_
            refine l_one 8 (by kernel_rfl) ?_
            refine l_h rfl (.none rfl) (h_buildSlice rfl rfl rfl Try.underlying38 info3 (.cons rfl rfl rfl rfl Parts.nil) rfl (by omega)) (fun _ _ => (.sub (.cons _ (.cons _ (.cons _ (.cons_cons _ (.cons_cons _ (.cons_cons _ (.cons_cons _ (.cons_cons _ (.cons_cons _ (.cons _ (.cons_cons _ .slnil))))))))))))) ?_
            rintro b72 -
            refine l_one 9 (by kernel_rfl) ?_
            refine l_h rfl (.none rfl) (h_append rfl rfl rfl Try.underlying38 info3 rfl rfl (.there (.there (.there (.there (.there (.there (.there (.there (.there Sel.here))))))))) rfl (.own Sel.here) rfl (all1 rfl) (all1 rfl) (by omega) (by omega)) (fun _ _ => (.sub (.cons _ (.cons _ (.cons _ (.cons _ (.cons_cons _ (.cons_cons _ (.cons_cons _ (.cons_cons _ (.cons_cons _ (.cons_cons _ (.cons_cons _ .slnil))))))))))))) ?_
            rintro ⟨A73, c73⟩ -
            refine l_one 11 (by kernel_rfl) ?_
            refine l_late rfl rfl (.none rfl) (h_storeB rfl rfl sz38 rfl rfl rfl rfl rfl (.there (.there (.there (.there (.there (.there (.there (.there Sel.here)))))))) rfl) ?_
            rintro - -
            refine l_one 12 (by kernel_rfl) ?_
            refine l_late rfl rfl (.none rfl) (.of_q rfl rfl (q_fieldB (d := 1) rfl Try.underlying40 rfl rfl sz38 rfl)) ?_
            rintro - -
            refine l_one 13 (by kernel_rfl) ?_
            refine l_late rfl rfl (.none rfl) (h_storeB rfl rfl sz38 rfl rfl rfl rfl rfl (.there (.there (.there (.there (.there (.there (.there (.there (.there Sel.here))))))))) rfl) ?_
            rintro - -
            refine l_nil (by kernel_rfl) ?_
            refine run_sub (subMk (.cons (s := 1) rfl (.cons (s := 2) rfl (.cons (s := 3) rfl (.cons (s := 4) rfl (.cons (s := 5) rfl (.cons (s := 6) rfl (.cons (s := 7) rfl .nil))))))) .refl) ?_
            refine run_blk ?_
            refine run_region ?_
            refine run_q (.none rfl) rfl rfl (q_move rfl rfl) ?_
            refine run_q (.none rfl) rfl rfl (q_add rfl rfl rfl (by omega)) ?_
            refine run_q (.none rfl) rfl rfl (q_assign rfl rfl) ?_
            refine run_nil ?_
            exact run_again (i + 1, A68, c68, A73, c73) (by (try dsimp only); exact ⟨by omega, by omega⟩) (by (try dsimp only); omega) (subMk (.cons' (s := 7) rfl (vint (by omega)) (.cons (s := 1) rfl (.cons (s := 2) rfl (.cons (s := 3) rfl (.cons (s := 4) rfl (.cons (s := 5) rfl (.cons (s := 6) rfl .nil))))))) (.cons (.there Sel.here) (.blk (.cons (s := 0) rfl (.cons (s := 1) rfl (.nil)))) (.cons Sel.here (.blk (.cons (s := 0) rfl (.cons (s := 1) rfl (.nil)))) (.cons (.there (.there Sel.here)) (.own rfl rfl rfl (by rw [gs_succ, List.map_append]; rfl)) (.cons Sel.here (.own rfl rfl rfl (by rw [gs_succ, List.map_append]; rfl)) (.cons (.there (.there (.there (.there (.there Sel.here))))) (.own rfl rfl rfl (by rw [mixG_step (by omega) (by rw [gs_at (by omega)]; omega) (by rw [gs_at (by omega)]; omega)])) (.cons (.there (.there (.there Sel.here))) (.own rfl rfl rfl (by rw [mixG_step (by omega) (by rw [negL_nth, gs_at (by omega)]; omega) (by rw [negL_nth, gs_at (by omega)]; omega)])) (.cons (.there (.there Sel.here)) .refl (.cons (.there (.there Sel.here)) .refl (.cons (.there (.there Sel.here)) .refl .nil))))))))))
          · refine l_h rfl (.none rfl) (h_buildSlice rfl rfl rfl Try.underlying38 info3 (.cons rfl rfl rfl rfl Parts.nil) rfl (by omega)) (fun _ _ => (.sub (.cons _ (.cons _ (.cons_cons _ (.cons_cons _ (.cons_cons _ (.cons_cons _ (.cons_cons _ (.cons_cons _ (.cons _ (.cons _ (.cons_cons _ .slnil))))))))))))) ?_
            rintro b72 -
            refine l_one 4 (by kernel_rfl) ?_
            refine l_h rfl (.none rfl) (h_append rfl rfl rfl Try.underlying38 info3 rfl rfl (.there (.there (.there (.there (.there (.there (.there (.there Sel.here)))))))) rfl (.own (.there Sel.here)) rfl (all1 rfl) (all1 rfl) (by omega) (by omega)) (fun _ _ => (.sub (.cons _ (.cons _ (.cons _ (.cons_cons _ (.cons_cons _ (.cons_cons _ (.cons_cons _ (.cons_cons _ (.cons_cons _ (.cons _ (.cons_cons _ .slnil))))))))))))) ?_
            rintro ⟨A68, c68⟩ -
            refine l_q (i := 10) rfl (by kernel_rfl) (.none rfl) rfl rfl (q_fieldB (d := 1) rfl Try.underlying40 rfl rfl sz38 rfl) ?_
            refine l_one 9 (by kernel_rfl) ?_
            refine l_h rfl (.none rfl) (h_append rfl rfl rfl Try.underlying38 info3 rfl rfl (.there (.there (.there (.there (.there (.there (.there (.there (.there Sel.here))))))))) rfl (.own (.there Sel.here)) rfl (all1 rfl) (all1 rfl) (by omega) (by omega)) (fun _ _ => (.sub (.cons _ (.cons _ (.cons _ (.cons _ (.cons_cons _ (.cons_cons _ (.cons_cons _ (.cons_cons _ (.cons_cons _ (.cons_cons _ (.cons_cons _ .slnil))))))))))))) ?_
            rintro ⟨A73, c73⟩ -
            refine l_one 11 (by kernel_rfl) ?_
            refine l_late rfl rfl (.none rfl) (h_storeB rfl rfl sz38 rfl rfl rfl rfl rfl (.there (.there (.there (.there (.there (.there (.there (.there Sel.here)))))))) rfl) ?_
            rintro - -
            refine l_one 12 (by kernel_rfl) ?_
            refine l_late rfl rfl (.none rfl) (.of_q rfl rfl (q_fieldB (d := 1) rfl Try.underlying40 rfl rfl sz38 rfl)) ?_
            rintro - -
            refine l_one 13 (by kernel_rfl) ?_
            refine l_late rfl rfl (.none rfl) (h_storeB rfl rfl sz38 rfl rfl rfl rfl rfl (.there (.there (.there (.there (.there (.there (.there (.there (.there Sel.here))))))))) rfl) ?_
            rintro - -
            refine l_nil (by kernel_rfl) ?_
            refine run_sub (subMk (.cons (s := 1) rfl (.cons (s := 2) rfl (.cons (s := 3) rfl (.cons (s := 4) rfl (.cons (s := 5) rfl (.cons (s := 6) rfl (.cons (s := 7) rfl .nil))))))) .refl) ?_
            refine run_blk ?_
            refine run_region ?_
            refine run_q (.none rfl) rfl rfl (q_move rfl rfl) ?_
            refine run_q (.none rfl) rfl rfl (q_add rfl rfl rfl (by omega)) ?_
            refine run_q (.none rfl) rfl rfl (q_assign rfl rfl) ?_
            refine run_nil ?_
            exact run_again (i + 1, A68, c68, A73, c73) (by (try dsimp only); exact ⟨by omega, by omega⟩) (by (try dsimp only); omega) (subMk (.cons' (s := 7) rfl (vint (by omega)) (.cons (s := 1) rfl (.cons (s := 2) rfl (.cons (s := 3) rfl (.cons (s := 4) rfl (.cons (s := 5) rfl (.cons (s := 6) rfl .nil))))))) (.cons (.there Sel.here) (.blk (.cons (s := 0) rfl (.cons (s := 1) rfl (.nil)))) (.cons Sel.here (.blk (.cons (s := 0) rfl (.cons (s := 1) rfl (.nil)))) (.cons (.there Sel.here) (.own rfl rfl rfl (by rw [gs_succ, List.map_append]; rfl)) (.cons Sel.here (.own rfl rfl rfl (by rw [gs_succ, List.map_append]; rfl)) (.cons (.there (.there (.there (.there (.there Sel.here))))) (.own rfl rfl rfl (by rw [mixG_step (by omega) (by rw [gs_at (by omega)]; omega) (by rw [gs_at (by omega)]; omega)])) (.cons (.there (.there (.there Sel.here))) (.own rfl rfl rfl (by rw [mixG_step (by omega) (by rw [negL_nth, gs_at (by omega)]; omega) (by rw [negL_nth, gs_at (by omega)]; omega)])) (.cons (.there (.there Sel.here)) .refl (.cons (.there (.there Sel.here)) .refl (.cons (.there (.there Sel.here)) .refl .nil))))))))))
        · refine l_h rfl (.none rfl) (h_buildSlice rfl rfl rfl Try.underlying38 info3 (.cons rfl rfl rfl rfl Parts.nil) rfl (by omega)) (fun _ _ => (.sub (.cons _ (.cons_cons _ (.cons_cons _ (.cons_cons _ (.cons_cons _ (.cons_cons _ (.cons_cons _ (.cons _ (.cons _ (.cons_cons _ .slnil)))))))))))) ?_
          rintro b72 -
          refine l_one 3 (by kernel_rfl) ?_
          refine l_h rfl (.none rfl) (h_buildSlice rfl rfl rfl Try.underlying38 info3 (.cons rfl rfl rfl rfl Parts.nil) rfl (by omega)) (fun _ _ => (.sub (.cons _ (.cons _ (.cons_cons _ (.cons_cons _ (.cons_cons _ (.cons_cons _ (.cons_cons _ (.cons_cons _ (.cons _ (.cons _ (.cons_cons _ .slnil))))))))))))) ?_
          rintro b67 -
          refine l_one 4 (by kernel_rfl) ?_
          refine l_h rfl (.none rfl) (h_append rfl rfl rfl Try.underlying38 info3 rfl rfl (.there (.there (.there (.there (.there (.there (.there (.there Sel.here)))))))) rfl (.own Sel.here) rfl (all1 rfl) (all1 rfl) (by omega) (by omega)) (fun _ _ => (.sub (.cons _ (.cons _ (.cons _ (.cons_cons _ (.cons_cons _ (.cons_cons _ (.cons_cons _ (.cons_cons _ (.cons_cons _ (.cons _ (.cons_cons _ .slnil))))))))))))) ?_
          rintro ⟨A68, c68⟩ -
          refine l_q (i := 10) rfl (by kernel_rfl) (.none rfl) rfl rfl (q_fieldB (d := 1) rfl Try.underlying40 rfl rfl sz38 rfl) ?_
          refine l_one 9 (by kernel_rfl) ?_
          refine l_h rfl (.none rfl) (h_append rfl rfl rfl Try.underlying38 info3 rfl rfl (.there (.there (.there (.there (.there (.there (.there (.there (.there Sel.here))))))))) rfl (.own (.there (.there Sel.here))) rfl (all1 rfl) (all1 rfl) (by omega) (by omega)) (fun _ _ => (.sub (.cons _ (.cons _ (.cons _ (.cons _ (.cons_cons _ (.cons_cons _ (.cons_cons _ (.cons_cons _ (.cons_cons _ (.cons_cons _ (.cons_cons _ .slnil))))))))))))) ?_
          rintro ⟨A73, c73⟩ -
          refine l_one 11 (by kernel_rfl) ?_
          refine l_late rfl rfl (.none rfl) (h_storeB rfl rfl sz38 rfl rfl rfl rfl rfl (.there (.there (.there (.there (.there (.there (.there (.there Sel.here)))))))) rfl) ?_
          rintro - -
          refine l_one 12 (by kernel_rfl) ?_
          refine l_late rfl rfl (.none rfl) (.of_q rfl rfl (q_fieldB (d := 1) rfl Try.underlying40 rfl rfl sz38 rfl)) ?_
          rintro - -
          refine l_one 13 (by kernel_rfl) ?_
          refine l_late rfl rfl (.none rfl) (h_storeB rfl rfl sz38 rfl rfl rfl rfl rfl (.there (.there (.there (.there (.there (.there (.there (.there (.there Sel.here))))))))) rfl) ?_
          rintro - -
          refine l_nil (by kernel_rfl) ?_
          refine run_sub (subMk (.cons (s := 1) rfl (.cons (s := 2) rfl (.cons (s := 3) rfl (.cons (s := 4) rfl (.cons (s := 5) rfl (.cons (s := 6) rfl (.cons (s := 7) rfl .nil))))))) .refl) ?_
          refine run_blk ?_
          refine run_region ?_
          refine run_q (.none rfl) rfl rfl (q_move rfl rfl) ?_
          refine run_q (.none rfl) rfl rfl (q_add rfl rfl rfl (by omega)) ?_
          refine run_q (.none rfl) rfl rfl (q_assign rfl rfl) ?_
          refine run_nil ?_
          exact run_again (i + 1, A68, c68, A73, c73) (by (try dsimp only); exact ⟨by omega, by omega⟩) (by (try dsimp only); omega) (subMk (.cons' (s := 7) rfl (vint (by omega)) (.cons (s := 1) rfl (.cons (s := 2) rfl (.cons (s := 3) rfl (.cons (s := 4) rfl (.cons (s := 5) rfl (.cons (s := 6) rfl .nil))))))) (.cons (.there Sel.here) (.blk (.cons (s := 0) rfl (.cons (s := 1) rfl (.nil)))) (.cons Sel.here (.blk (.cons (s := 0) rfl (.cons (s := 1) rfl (.nil)))) (.cons (.there Sel.here) (.own rfl rfl rfl (by rw [gs_succ, List.map_append]; rfl)) (.cons Sel.here (.own rfl rfl rfl (by rw [gs_succ, List.map_append]; rfl)) (.cons (.there (.there (.there (.there (.there Sel.here))))) (.own rfl rfl rfl (by rw [mixG_step (by omega) (by rw [gs_at (by omega)]; omega) (by rw [gs_at (by omega)]; omega)])) (.cons (.there (.there (.there Sel.here))) (.own rfl rfl rfl (by rw [mixG_step (by omega) (by rw [negL_nth, gs_at (by omega)]; omega) (by rw [negL_nth, gs_at (by omega)]; omega)])) (.cons (.there (.there Sel.here)) .refl (.cons (.there (.there Sel.here)) .refl (.cons (.there (.there Sel.here)) .refl .nil))))))))))
      · have g47' := g47
        try simp only [decide_eq_true_eq, decide_eq_false_iff_not, beq_iff_eq, beq_eq_false_iff_ne, bne_iff_ne, bne_eq_false_iff_eq, Bool.not_eq_true', Bool.not_eq_false', ne_eq, Int.not_lt, Int.not_le, Decidable.not_not] at g47'
        refine run_skip ?_
        refine run_seq ?_
        refine run_sub (subMk (.cons (s := 1) rfl (.cons (s := 2) rfl (.cons (s := 3) rfl (.cons (s := 4) rfl (.cons (s := 5) rfl (.cons (s := 6) rfl (.cons (s := 7) rfl (.cons' (s := 8) (v' := .int .i64 (gV la i)) rfl (vint (by first | rw [gV_yes (by omega)] | rw [gV_no (by omega)])) (.cons' (s := 9) (v' := .int .i64 (gV lb i)) rfl (vint (by first | rw [gV_yes (by omega)] | rw [gV_no (by omega)])) (.cons (s := 47) rfl .nil)))))))))) .refl) ?_
        refine run_region ?_
        refine run_q (.none rfl) rfl rfl (q_move rfl rfl) ?_
        refine run_q (.none rfl) rfl rfl (q_move rfl rfl) ?_
        refine run_q (.none rfl) rfl rfl (q_move rfl rfl) ?_
        refine run_q (.none rfl) rfl rfl (q_move rfl rfl) ?_
        refine run_h (.none rfl) (h_callX [_, _] _ rfl rfl rfl call42 (.cons rfl (.cons rfl (.cons rfl (.cons rfl Evs.nil)))) ((Sel.perm (.there (.there (.there (.there (.there (.there (.there Sel.here)))))))).trans (.cons _ (Sel.perm (.there (.there (.there (.there Sel.here))))))) (Y := fun _ => atAny [_, _]) (fun _ _ h => h) (fun w hk hm => Raise_ret (mixG (gs la (gN la)) (gN la) i) pa A ca 1 (gN la) (i : Int) (i : Int) (gV la i) w mixG_len ((hm.perm ((Sel.perm (.there (.there (.there (.there (.there (.there (.there Sel.here)))))))).trans (.cons _ (Sel.perm (.there (.there (.there (.there Sel.here)))))))).give (rs := [_, _])) ⟨by omega, Int.le_refl _, by rw [mixG_len]; omega⟩ (by rw [mixG_len]; omega) (.inl rfl) (by omega))) ?_
        rintro ⟨v, m⟩ ⟨rfl, rfl⟩
        show Run _ _ _ _ _ _ _ ⟨(58, .int .i64 0) :: _, _ :: _ :: _⟩
        refine run_nil ?_
        refine run_sub (subMk (.cons (s := 1) rfl (.cons (s := 2) rfl (.cons (s := 3) rfl (.cons (s := 4) rfl (.cons (s := 5) rfl (.cons (s := 6) rfl (.cons (s := 7) rfl (.cons (s := 8) rfl (.cons (s := 9) rfl .nil))))))))) .refl) ?_
        refine run_seq ?_
        refine run_region ?_
        refine run_q (.none rfl) rfl rfl (q_move rfl rfl) ?_
        refine run_q (.none rfl) rfl rfl (q_move rfl rfl) ?_
        refine run_q (.none rfl) rfl rfl (q_move rfl rfl) ?_
        refine run_q (.none rfl) rfl rfl (q_move rfl rfl) ?_
        refine run_h (.none rfl) (h_callX [_, _] _ rfl rfl rfl call42 (.cons rfl (.cons rfl (.cons rfl (.cons rfl Evs.nil)))) ((Sel.perm (.there (.there (.there (.there (.there (.there (.there Sel.here)))))))).trans (.cons _ (Sel.perm (.there (.there (.there (.there (.there (.there Sel.here))))))))) (Y := fun _ => atAny [_, _]) (fun _ _ h => h) (fun w hk hm => Raise_ret (mixG (negL (gs lb (gN la))) (gN la) i) pb B cb (-1) (gN la) (i : Int) (i : Int) (gV lb i) w mixG_len ((hm.perm ((Sel.perm (.there (.there (.there (.there (.there (.there (.there Sel.here)))))))).trans (.cons _ (Sel.perm (.there (.there (.there (.there (.there (.there Sel.here)))))))))).give (rs := [_, _])) ⟨by omega, Int.le_refl _, by rw [mixG_len]; omega⟩ (by rw [mixG_len]; omega) (.inr rfl) (by omega))) ?_
        rintro ⟨v, m⟩ ⟨rfl, rfl⟩
        show Run _ _ _ _ _ _ _ ⟨(63, .int .i64 0) :: _, _ :: _ :: _⟩
        refine run_nil ?_
        refine run_sub (subMk (.cons (s := 1) rfl (.cons (s := 2) rfl (.cons (s := 3) rfl (.cons (s := 4) rfl (.cons (s := 5) rfl (.cons (s := 6) rfl (.cons (s := 7) rfl (.cons (s := 8) rfl (.cons (s := 9) rfl .nil))))))))) .refl) ?_
        refine l_fork [11, 12, 13] mixed (by kernel_rfl) ((Sel.rest (.there (.there (.there (.there (.there (.there Sel.here))))))).trans (Sel.rest (.there (.there (.there (.there (.there (.there Sel.here)))))))) ?_
        refine l_q (i := 0) rfl (by kernel_rfl) (.none rfl) rfl rfl (q_fieldB (d := 1) rfl Try.underlying40 rfl rfl sz38 rfl) ?_
        refine l_q (i := 1) rfl (by kernel_rfl) (.none rfl) rfl rfl (q_loadB rfl one38 rfl (.there (.there (.there (.there Sel.here)))) rfl) ?_
        refine l_q (i := 2) rfl (by kernel_rfl) (.none rfl) rfl rfl (q_move rfl rfl) ?_
        refine l_q (i := 5) rfl (by kernel_rfl) (.none rfl) rfl rfl (q_fieldB (d := 1) rfl Try.underlying40 rfl rfl sz38 rfl) ?_
        refine l_q (i := 6) rfl (by kernel_rfl) (.none rfl) rfl rfl (q_loadB rfl one38 rfl (.there (.there (.there (.there (.there Sel.here))))) rfl) ?_
        refine l_q (i := 7) rfl (by kernel_rfl) (.none rfl) rfl rfl (q_move rfl rfl) ?_
        refine l_two 3 8 (by kernel_rfl) ?_ ?_
        · refine l_h rfl (.none rfl) (h_buildSlice rfl rfl rfl Try.underlying38 info3 (.cons rfl rfl rfl rfl Parts.nil) rfl (by omega)) (fun _ _ => (.sub (.cons _ (.cons_cons _ (.cons_cons _ (.cons_cons _ (.cons_cons _ (.cons_cons _ (.cons_cons _ (.cons _ (.cons _ (.cons_cons _ .slnil)))))))))))) ?_
          rintro b67 -
          refine l_two 4 8 (by kernel_rfl) ?_ ?_
          · refine l_h rfl (.none rfl) (h_append rfl rfl rfl Try.underlying38 info3 rfl rfl (.there (.there (.there (.there (.there (.there (.there Sel.here))))))) rfl (.own Sel.here) rfl (all1 rfl) (all1 rfl) (by omega) (by omega)) (fun _ _ => (.sub (.cons _ (.cons _ (.cons_cons _ (.cons_cons _ (.cons_cons _ (.cons_cons _ (.cons_cons _ (.cons_cons _ (.cons _ (.cons_cons _ .slnil)))))))))))) ?_
            rintro ⟨A68, c68⟩ -
            refine l_q (i := 10) rfl (by kernel_rfl) (.none rfl) rfl rfl (q_fieldB (d := 1) rfl Try.underlying40 rfl rfl sz38 rfl) ?_
            refine l_one 8 (by kernel_rfl) ?_
            refine l_h rfl (.none rfl) (h_buildSlice rfl rfl rfl Try.underlying38 info3 (.cons rfl rfl rfl rfl Parts.nil) rfl (by omega)) (fun _ _ => (.sub (.cons _ (.cons _ (.cons _ (.cons_cons _ (.cons_cons _ (.cons_cons _ (.cons_cons _ (.cons_cons _ (.cons_cons _ (.cons _ (.cons_cons _ .slnil))))))))))))) ?_
            rintro b72 -
            refine l_one 9 (by kernel_rfl) ?_
            refine l_h rfl (.none rfl) (h_append rfl rfl rfl Try.underlying38 info3 rfl rfl (.there (.there (.there (.there (.there (.there (.there (.there (.there Sel.here))))))))) rfl (.own Sel.here) rfl (all1 rfl) (all1 rfl) (by omega) (by omega)) (fun _ _ => (.sub (.cons _ (.cons _ (.cons _ (.cons _ (.cons_cons _ (.cons_cons _ (.cons_cons _ (.cons_cons _ (.cons_cons _ (.cons_cons _ (.cons_cons _ .slnil))))))))))))) ?_
            rintro ⟨A73, c73⟩ -
            refine l_one 11 (by kernel_rfl) ?_
            refine l_late rfl rfl (.none rfl) (h_storeB rfl rfl sz38 rfl rfl rfl rfl rfl (.there (.there (.there (.there (.there (.there (.there (.there Sel.here)))))))) rfl) ?_
            rintro - -
            refine l_one 12 (by kernel_rfl) ?_
            refine l_late rfl rfl (.none rfl) (.of_q rfl rfl (q_fieldB (d := 1) rfl Try.underlying40 rfl rfl sz38 rfl)) ?_
            rintro - -
            refine l_one 13 (by kernel_rfl) ?_
            refine l_late rfl rfl (.none rfl) (h_storeB rfl rfl sz38 rfl rfl rfl rfl rfl (.there (.there (.there (.there (.there (.there (.there (.there (.there Sel.here))))))))) rfl) ?_
            rintro - -
            refine l_nil (by kernel_rfl) ?_
            refine run_sub (subMk (.cons (s := 1) rfl (.cons (s := 2) rfl (.cons (s := 3) rfl (.cons (s := 4) rfl (.cons (s := 5) rfl (.cons (s := 6) rfl (.cons (s := 7) rfl .nil))))))) .refl) ?_
            refine run_blk ?_
            refine run_region ?_
            refine run_q (.none rfl) rfl rfl (q_move rfl rfl) ?_
            refine run_q (.none rfl) rfl rfl (q_add rfl rfl rfl (by omega)) ?_
            refine run_q (.none rfl) rfl rfl (q_assign rfl rfl) ?_
            refine run_nil ?_
            exact run_again (i + 1, A68, c68, A73, c73) (by (try dsimp only); exact ⟨by omega, by omega⟩) (by (try dsimp only); omega) (subMk (.cons' (s := 7) rfl (vint (by omega)) (.cons (s := 1) rfl (.cons (s := 2) rfl (.cons (s := 3) rfl (.cons (s := 4) rfl (.cons (s := 5) rfl (.cons (s := 6) rfl .nil))))))) (.cons (.there Sel.here) (.blk (.cons (s := 0) rfl (.cons (s := 1) rfl (.nil)))) (.cons Sel.here (.blk (.cons (s := 0) rfl (.cons (s := 1) rfl (.nil)))) (.cons (.there (.there Sel.here)) (.own rfl rfl rfl (by rw [gs_succ, List.map_append]; rfl)) (.cons Sel.here (.own rfl rfl rfl (by rw [gs_succ, List.map_append]; rfl)) (.cons (.there (.there (.there (.there (.there Sel.here))))) (.own rfl rfl rfl (by rw [mixG_step (by omega) (by rw [gs_at (by omega)]; omega) (by rw [gs_at (by omega)]; omega)])) (.cons (.there (.there (.there Sel.here))) (.own rfl rfl rfl (by rw [mixG_step (by omega) (by rw [negL_nth, gs_at (by omega)]; omega) (by rw [negL_nth, gs_at (by omega)]; omega)])) (.cons (.there (.there Sel.here)) .refl (.cons (.there (.there Sel.here)) .refl (.cons (.there (.there Sel.here)) .refl .nil))))))))))
          · refine l_h rfl (.none rfl) (h_buildSlice rfl rfl rfl Try.underlying38 info3 (.cons rfl rfl rfl rfl Parts.nil) rfl (by omega)) (fun _ _ => (.sub (.cons _ (.cons _ (.cons_cons _ (.cons_cons _ (.cons_cons _ (.cons_cons _ (.cons_cons _ (.cons_cons _ (.cons _ (.cons _ (.cons_cons _ .slnil))))))))))))) ?_
            rintro b72 -
            refine l_one 4 (by kernel_rfl) ?_
            refine l_h rfl (.none rfl) (h_append rfl rfl rfl Try.underlying38 info3 rfl rfl (.there (.there (.there (.there (.there (.there (.there (.there Sel.here)))))))) rfl (.own (.there Sel.here)) rfl (all1 rfl) (all1 rfl) (by omega) (by omega)) (fun _ _ => (.sub (.cons _ (.cons _ (.cons _ (.cons_cons _ (.cons_cons _ (.cons_cons _ (.cons_cons _ (.cons_cons _ (.cons_cons _ (.cons _ (.cons_cons _ .slnil))))))))))))) ?_
            rintro ⟨A68, c68⟩ -
            refine l_q (i := 10) rfl (by kernel_rfl) (.none rfl) rfl rfl (q_fieldB (d := 1) rfl Try.underlying40 rfl rfl sz38 rfl) ?_
            refine l_one 9 (by kernel_rfl) ?_
            refine l_h rfl (.none rfl) (h_append rfl rfl rfl Try.underlying38 info3 rfl rfl (.there (.there (.there (.there (.there (.there (.there (.there (.there Sel.here))))))))) rfl (.own (.there Sel.here)) rfl (all1 rfl) (all1 rfl) (by omega) (by omega)) (fun _ _ => (.sub (.cons _ (.cons _ (.cons _ (.cons _ (.cons_cons _ (.cons_cons _ (.cons_cons _ (.cons_cons _ (.cons_cons _ (.cons_cons _ (.cons_cons _ .slnil))))))))))))) ?_
            rintro ⟨A73, c73⟩ -
            refine l_one 11 (by kernel_rfl) ?_
            refine l_late rfl rfl (.none rfl) (h_storeB rfl rfl sz38 rfl rfl rfl rfl rfl (.there (.there (.there (.there (.there (.there (.there (.there Sel.here)))))))) rfl) ?_
            rintro - -
            refine l_one 12 (by kernel_rfl) ?_
            refine l_late rfl rfl (.none rfl) (.of_q rfl rfl (q_fieldB (d := 1) rfl Try.underlying40 rfl rfl sz38 rfl)) ?_
            rintro - -
            refine l_one 13 (by kernel_rfl) ?_
            refine l_late rfl rfl (.none rfl) (h_storeB rfl rfl sz38 rfl rfl rfl rfl rfl (.there (.there (.there (.there (.there (.there (.there (.there (.there Sel.here))))))))) rfl) ?_
            rintro - -
            refine l_nil (by kernel_rfl) ?_
            refine run_sub (subMk (.cons (s := 1) rfl (.cons (s := 2) rfl (.cons (s := 3) rfl (.cons (s := 4) rfl (.cons (s := 5) rfl (.cons (s := 6) rfl (.cons (s := 7) rfl .nil))))))) .refl) ?_
            refine run_blk ?_
            refine run_region ?_
            refine run_q (.none rfl) rfl rfl (q_move rfl rfl) ?_
            refine run_q (.none rfl) rfl rfl (q_add rfl rfl rfl (by omega)) ?_
            refine run_q (.none rfl) rfl rfl (q_assign rfl rfl) ?_
            refine run_nil ?_
            exact run_again (i + 1, A68, c68, A73, c73) (by (try dsimp only); exact ⟨by omega, by omega⟩) (by (try dsimp only); omega) (subMk (.cons' (s := 7) rfl (vint (by omega)) (.cons (s := 1) rfl (.cons (s := 2) rfl (.cons (s := 3) rfl (.cons (s := 4) rfl (.cons (s := 5) rfl (.cons (s := 6) rfl .nil))))))) (.cons (.there Sel.here) (.blk (.cons (s := 0) rfl (.cons (s := 1) rfl (.nil)))) (.cons Sel.here (.blk (.cons (s := 0) rfl (.cons (s := 1) rfl (.nil)))) (.cons (.there Sel.here) (.own rfl rfl rfl (by rw [gs_succ, List.map_append]; rfl)) (.cons Sel.here (.own rfl rfl rfl (by rw [gs_succ, List.map_append]; rfl)) (.cons (.there (.there (.there (.there (.there Sel.here))))) (.own rfl rfl rfl (by rw [mixG_step (by omega) (by rw [gs_at (by omega)]; omega) (by rw [gs_at (by omega)]; omega)])) (.cons (.there (.there (.there Sel.here))) (.own rfl rfl rfl (by rw [mixG_step (by omega) (by rw [negL_nth, gs_at (by omega)]; omega) (by rw [negL_nth, gs_at (by omega)]; omega)])) (.cons (.there (.there Sel.here)) .refl (.cons (.there (.there Sel.here)) .refl (.cons (.there (.there Sel.here)) .refl .nil))))))))))
        · refine l_h rfl (.none rfl) (h_buildSlice rfl rfl rfl Try.underlying38 info3 (.cons rfl rfl rfl rfl Parts.nil) rfl (by omega)) (fun _ _ => (.sub (.cons _ (.cons_cons _ (.cons_cons _ (.cons_cons _ (.cons_cons _ (.cons_cons _ (.cons_cons _ (.cons _ (.cons _ (.cons_cons _ .slnil)))))))))))) ?_
          rintro b72 -
          refine l_one 3 (by kernel_rfl) ?_
          refine l_h rfl (.none rfl) (h_buildSlice rfl rfl rfl Try.underlying38 info3 (.cons rfl rfl rfl rfl Parts.nil) rfl (by omega)) (fun _ _ => (.sub (.cons _ (.cons _ (.cons_cons _ (.cons_cons _ (.cons_cons _ (.cons_cons _ (.cons_cons _ (.cons_cons _ (.cons _ (.cons _ (.cons_cons _ .slnil))))))))))))) ?_
          rintro b67 -
          refine l_one 4 (by kernel_rfl) ?_
          refine l_h rfl (.none rfl) (h_append rfl rfl rfl Try.underlying38 info3 rfl rfl (.there (.there (.there (.there (.there (.there (.there (.there Sel.here)))))))) rfl (.own Sel.here) rfl (all1 rfl) (all1 rfl) (by omega) (by omega)) (fun _ _ => (.sub (.cons _ (.cons _ (.cons _ (.cons_cons _ (.cons_cons _ (.cons_cons _ (.cons_cons _ (.cons_cons _ (.cons_cons _ (.cons _ (.cons_cons _ .slnil))))))))))))) ?_
          rintro ⟨A68, c68⟩ -
          refine l_q (i := 10) rfl (by kernel_rfl) (.none rfl) rfl rfl (q_fieldB (d := 1) rfl Try.underlying40 rfl rfl sz38 rfl) ?_
          refine l_one 9 (by kernel_rfl) ?_
          refine l_h rfl (.none rfl) (h_append rfl rfl rfl Try.underlying38 info3 rfl rfl (.there (.there (.there (.there (.there (.there (.there (.there (.there Sel.here))))))))) rfl (.own (.there (.there Sel.here))) rfl (all1 rfl) (all1 rfl) (by omega) (by omega)) (fun _ _ => (.sub (.cons _ (.cons _ (.cons _ (.cons _ (.cons_cons _ (.cons_cons _ (.cons_cons _ (.cons_cons _ (.cons_cons _ (.cons_cons _ (.cons_cons _ .slnil))))))))))))) ?_
          rintro ⟨A73, c73⟩ -
          refine l_one 11 (by kernel_rfl) ?_
          refine l_late rfl rfl (.none rfl) (h_storeB rfl rfl sz38 rfl rfl rfl rfl rfl (.there (.there (.there (.there (.there (.there (.there (.there Sel.here)))))))) rfl) ?_
          rintro - -
          refine l_one 12 (by kernel_rfl) ?_
          refine l_late rfl rfl (.none rfl) (.of_q rfl rfl (q_fieldB (d := 1) rfl Try.underlying40 rfl rfl sz38 rfl)) ?_
          rintro - -
          refine l_one 13 (by kernel_rfl) ?_
          refine l_late rfl rfl (.none rfl) (h_storeB rfl rfl sz38 rfl rfl rfl rfl rfl (.there (.there (.there (.there (.there (.there (.there (.there (.there Sel.here))))))))) rfl) ?_
          rintro - -
          refine l_nil (by kernel_rfl) ?_
          refine run_sub (subMk (.cons (s := 1) rfl (.cons (s := 2) rfl (.cons (s := 3) rfl (.cons (s := 4) rfl (.cons (s := 5) rfl (.cons (s := 6) rfl (.cons (s := 7) rfl .nil))))))) .refl) ?_
          refine run_blk ?_
          refine run_region ?_
          refine run_q (.none rfl) rfl rfl (q_move rfl rfl) ?_
          refine run_q (.none rfl) rfl rfl (q_add rfl rfl rfl (by omega)) ?_
          refine run_q (.none rfl) rfl rfl (q_assign rfl rfl) ?_
          refine run_nil ?_
          exact run_again (i + 1, A68, c68, A73, c73) (by (try dsimp only); exact ⟨by omega, by omega⟩) (by (try dsimp only); omega) (subMk (.cons' (s := 7) rfl (vint (by omega)) (.cons (s := 1) rfl (.cons (s := 2) rfl (.cons (s := 3) rfl (.cons (s := 4) rfl (.cons (s := 5) rfl (.cons (s := 6) rfl .nil))))))) (.cons (.there Sel.here) (.blk (.cons (s := 0) rfl (.cons (s := 1) rfl (.nil)))) (.cons Sel.here (.blk (.cons (s := 0) rfl (.cons (s := 1) rfl (.nil)))) (.cons (.there Sel.here) (.own rfl rfl rfl (by rw [gs_succ, List.map_append]; rfl)) (.cons Sel.here (.own rfl rfl rfl (by rw [gs_succ, List.map_append]; rfl)) (.cons (.there (.there (.there (.there (.there Sel.here))))) (.own rfl rfl rfl (by rw [mixG_step (by omega) (by rw [gs_at (by omega)]; omega) (by rw [gs_at (by omega)]; omega)])) (.cons (.there (.there (.there Sel.here))) (.own rfl rfl rfl (by rw [mixG_step (by omega) (by rw [negL_nth, gs_at (by omega)]; omega) (by rw [negL_nth, gs_at (by omega)]; omega)])) (.cons (.there (.there Sel.here)) .refl (.cons (.there (.there Sel.here)) .refl (.cons (.there (.there Sel.here)) .refl .nil))))))))))
  · have g29' := g29
    try simp only [decide_eq_true_eq, decide_eq_false_iff_not, beq_iff_eq, beq_eq_false_iff_ne, bne_iff_ne, bne_eq_false_iff_eq, Bool.not_eq_true', Bool.not_eq_false', ne_eq, Int.not_lt, Int.not_le, Decidable.not_not] at g29'
    refine run_exit rfl ?_
    refine run_sub (subMk (.cons (s := 2) rfl (.cons (s := 3) rfl (.cons (s := 4) rfl (.cons (s := 5) rfl .nil)))) .refl) ?_
    refine run_seq ?_
    refine run_sub (subMk .refl (.cons Sel.here (.blk (.cons (s := 0) rfl (.cons' (s := 1) (v' := .slice P (gN la) cp) rfl (by rw [show i = (gN la) from by omega]) (.nil)))) (.cons Sel.here (.blk (.cons (s := 0) rfl (.cons' (s := 1) (v' := .slice Q (gN la) cq) rfl (by rw [show i = (gN la) from by omega]) (.nil)))) (.cons Sel.here (.own (m' := (gN la)) (xs' := (gs la (gN la)).map encI) rfl (by omega) rfl (by rw [show i = (gN la) from by omega])) (.cons Sel.here (.own (m' := (gN la)) (xs' := (gs lb (gN la)).map encI) rfl (by omega) rfl (by rw [show i = (gN la) from by omega])) (.cons Sel.here (.own (xs' := (gs la (gN la)).map encI) rfl rfl rfl (by rw [mixG_all gs_len (by omega)])) (.cons Sel.here (.own (xs' := (negL (gs lb (gN la))).map encI) rfl rfl rfl (by rw [mixG_all (by rw [negL_len, gs_len]) (by omega)])) (.cons Sel.here .refl (.cons Sel.here .refl (.cons Sel.here .refl .nil)))))))))) ?_
    refine run_fork mixed (by kernel_rfl) ((Sel.rest Sel.here).trans (Sel.rest Sel.here)) ?_
    refine b_q (i := 0) rfl (by kernel_rfl) (.none rfl) rfl rfl (q_move rfl rfl) ?_
    refine b_q (i := 1) rfl (by kernel_rfl) (.none rfl) rfl rfl (q_move rfl rfl) ?_
    refine b_q (i := 4) rfl (by kernel_rfl) (.none rfl) rfl rfl (q_assign rfl rfl) ?_
    refine b_q (i := 5) rfl (by kernel_rfl) (.none rfl) rfl rfl (q_assign rfl rfl) ?_
    refine b_two 2 3 (by kernel_rfl) ?_ ?_
    · refine b_h rfl (.none rfl) (.of_q rfl rfl (q_loadBN rfl agg40 rfl Sel.here (.cons rfl (.cons rfl CellsAt.nil)) rfl)) (fun _ _ => (.sub (.cons _ (.cons _ (.cons_cons _ (.cons_cons _ (.cons_cons _ (.cons_cons _ (.cons_cons _ (.cons_cons _ (.cons_cons _ .slnil))))))))))) ?_
      rintro - -
      refine b_two 3 6 (by kernel_rfl) ?_ ?_
      · refine b_h rfl (.none rfl) (.of_q rfl rfl (q_loadBN rfl agg40 rfl (.there Sel.here) (.cons rfl (.cons rfl CellsAt.nil)) rfl)) (fun _ _ => (.sub (.cons _ (.cons _ (.cons_cons _ (.cons_cons _ (.cons_cons _ (.cons_cons _ (.cons_cons _ (.cons_cons _ (.cons_cons _ .slnil))))))))))) ?_
        rintro - -
        refine b_one 6 (by kernel_rfl) ?_
        refine b_h rfl (.none rfl) (h_storeB rfl rfl sz40 rfl rfl rfl rfl rfl Sel.here rfl) (fun _ _ => (.sub (.cons _ (.cons _ (.cons_cons _ (.cons_cons _ (.cons_cons _ (.cons_cons _ (.cons_cons _ (.cons_cons _ (.cons_cons _ .slnil))))))))))) ?_
        rintro - -
        refine b_one 7 (by kernel_rfl) ?_
        refine b_h rfl (.none rfl) (h_storeB rfl rfl sz40 rfl rfl rfl rfl rfl (.there Sel.here) rfl) (fun _ _ => (.sub (.cons _ (.cons _ (.cons_cons _ (.cons_cons _ (.cons_cons _ (.cons_cons _ (.cons_cons _ (.cons_cons _ (.cons_cons _ .slnil))))))))))) ?_
        rintro - -
        refine b_nil (by kernel_rfl) ?_
        refine run_sub (subMk (.cons (s := 2) rfl (.cons (s := 3) rfl (.cons (s := 4) rfl (.cons (s := 5) rfl .nil)))) .refl) ?_
        refine run_ret ?_
        exact endG rfl (.tmp rfl (.tmp rfl (.cellN rfl agg40 (.there Sel.here) (.cons rfl (.cons rfl CellsAt.nil)) rfl (.cellN rfl agg40 Sel.here (.cons rfl (.cons rfl CellsAt.nil)) rfl Outs.nil)))) _ (.cons (.there (.there (.there (.there (.there (.there (.there Sel.here))))))) .refl (.cons (.there (.there (.there (.there Sel.here)))) .refl (.cons (.there (.there (.there (.there (.there Sel.here))))) .refl (.cons (.there (.there (.there (.there Sel.here)))) .refl (.cons (.there (.there Sel.here)) .refl (.cons (.there (.there Sel.here)) .refl .nil)))))) ⟨pa, pb, A, B, ca, cb, P, cp, Q, cq, rfl, hca, hcb, rfl⟩
      · refine b_h rfl (.none rfl) (h_storeB rfl rfl sz40 rfl rfl rfl rfl rfl Sel.here rfl) (fun _ _ => (.sub (.cons _ (.cons _ (.cons_cons _ (.cons_cons _ (.cons_cons _ (.cons_cons _ (.cons_cons _ (.cons_cons _ (.cons_cons _ .slnil))))))))))) ?_
        rintro - -
        refine b_one 3 (by kernel_rfl) ?_
        refine b_h rfl (.none rfl) (.of_q rfl rfl (q_loadBN rfl agg40 rfl (.there Sel.here) (.cons rfl (.cons rfl CellsAt.nil)) rfl)) (fun _ _ => (.sub (.cons _ (.cons _ (.cons_cons _ (.cons_cons _ (.cons_cons _ (.cons_cons _ (.cons_cons _ (.cons_cons _ (.cons_cons _ .slnil))))))))))) ?_
        rintro - -
        refine b_one 7 (by kernel_rfl) ?_
        refine b_h rfl (.none rfl) (h_storeB rfl rfl sz40 rfl rfl rfl rfl rfl (.there Sel.here) rfl) (fun _ _ => (.sub (.cons _ (.cons _ (.cons_cons _ (.cons_cons _ (.cons_cons _ (.cons_cons _ (.cons_cons _ (.cons_cons _ (.cons_cons _ .slnil))))))))))) ?_
        rintro - -
        refine b_nil (by kernel_rfl) ?_
        refine run_sub (subMk (.cons (s := 2) rfl (.cons (s := 3) rfl (.cons (s := 4) rfl (.cons (s := 5) rfl .nil)))) .refl) ?_
        refine run_ret ?_
        exact endG rfl (.tmp rfl (.tmp rfl (.cellN rfl agg40 (.there Sel.here) (.cons rfl (.cons rfl CellsAt.nil)) rfl (.cellN rfl agg40 Sel.here (.cons rfl (.cons rfl CellsAt.nil)) rfl Outs.nil)))) _ (.cons (.there (.there (.there (.there (.there (.there (.there Sel.here))))))) .refl (.cons (.there (.there (.there (.there Sel.here)))) .refl (.cons (.there (.there (.there (.there (.there Sel.here))))) .refl (.cons (.there (.there (.there (.there Sel.here)))) .refl (.cons (.there (.there Sel.here)) .refl (.cons (.there (.there Sel.here)) .refl .nil)))))) ⟨pa, pb, A, B, ca, cb, P, cp, Q, cq, rfl, hca, hcb, rfl⟩
    · refine b_h rfl (.none rfl) (.of_q rfl rfl (q_loadBN rfl agg40 rfl (.there Sel.here) (.cons rfl (.cons rfl CellsAt.nil)) rfl)) (fun _ _ => (.sub (.cons _ (.cons _ (.cons_cons _ (.cons_cons _ (.cons_cons _ (.cons_cons _ (.cons_cons _ (.cons_cons _ (.cons_cons _ .slnil))))))))))) ?_
      rintro - -
      refine b_one 2 (by kernel_rfl) ?_
      refine b_h rfl (.none rfl) (.of_q rfl rfl (q_loadBN rfl agg40 rfl Sel.here (.cons rfl (.cons rfl CellsAt.nil)) rfl)) (fun _ _ => (.sub (.cons _ (.cons _ (.cons_cons _ (.cons_cons _ (.cons_cons _ (.cons_cons _ (.cons_cons _ (.cons_cons _ (.cons_cons _ .slnil))))))))))) ?_
      rintro - -
      refine b_one 6 (by kernel_rfl) ?_
      refine b_h rfl (.none rfl) (h_storeB rfl rfl sz40 rfl rfl rfl rfl rfl Sel.here rfl) (fun _ _ => (.sub (.cons _ (.cons _ (.cons_cons _ (.cons_cons _ (.cons_cons _ (.cons_cons _ (.cons_cons _ (.cons_cons _ (.cons_cons _ .slnil))))))))))) ?_
      rintro - -
      refine b_one 7 (by kernel_rfl) ?_
      refine b_h rfl (.none rfl) (h_storeB rfl rfl sz40 rfl rfl rfl rfl rfl (.there Sel.here) rfl) (fun _ _ => (.sub (.cons _ (.cons _ (.cons_cons _ (.cons_cons _ (.cons_cons _ (.cons_cons _ (.cons_cons _ (.cons_cons _ (.cons_cons _ .slnil))))))))))) ?_
      rintro - -
      refine b_nil (by kernel_rfl) ?_
      refine run_sub (subMk (.cons (s := 2) rfl (.cons (s := 3) rfl (.cons (s := 4) rfl (.cons (s := 5) rfl .nil)))) .refl) ?_
      refine run_ret ?_
      exact endG rfl (.tmp rfl (.tmp rfl (.cellN rfl agg40 (.there Sel.here) (.cons rfl (.cons rfl CellsAt.nil)) rfl (.cellN rfl agg40 Sel.here (.cons rfl (.cons rfl CellsAt.nil)) rfl Outs.nil)))) _ (.cons (.there (.there (.there (.there (.there (.there (.there Sel.here))))))) .refl (.cons (.there (.there (.there (.there Sel.here)))) .refl (.cons (.there (.there (.there (.there (.there Sel.here))))) .refl (.cons (.there (.there (.there (.there Sel.here)))) .refl (.cons (.there (.there Sel.here)) .refl (.cons (.there (.there Sel.here)) .refl .nil)))))) ⟨pa, pb, A, B, ca, cb, P, cp, Q, cq, rfl, hca, hcb, rfl⟩

end Go.Proofs.Ytomhegnaojejnaa
