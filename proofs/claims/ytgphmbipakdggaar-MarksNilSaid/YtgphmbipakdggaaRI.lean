/- The heights of a ground. -/
import Derived.Test.YtgphmbipakdggaaRG
import Derived.Test.YtgphmbipakdggaaRGnd
set_option linter.unusedSimpArgs false
set_option linter.unusedVariables false
namespace Go.Proofs.YtgphmbipakdggaaR
open Go Go.RowKit Hr

theorem sz34 : Hr.Sz Try.prog 34 1 := Hr.Sz.of (by kernel_rfl)
theorem one34 : Hr.One Try.prog 34 := ⟨fun w => by simp [isAgg, run_underlying Try.underlying34], Hr.Sz.of (by kernel_rfl)⟩
theorem sz90 : Hr.Sz Try.prog 90 1 := Hr.Sz.of (by kernel_rfl)
theorem one90 : Hr.One Try.prog 90 := ⟨fun w => by simp [isAgg, run_underlying Try.underlying90], Hr.Sz.of (by kernel_rfl)⟩

set_option maxHeartbeats 2000000 in
set_option maxRecDepth 100000 in
theorem heights_ret (la lb : List Int) (LA LB : Option Addr) (ca cb : Nat) (W : World) (hla : Rd W LA 1 (la.map encW)) (hlb : Rd W LB 1 (lb.map encW)) (hbA : ∀ x ∈ la, 0 ≤ x ∧ x ≤ 65535) (hbB : ∀ x ∈ lb, 0 ≤ x ∧ x ≤ 65535) (hca : la.length ≤ 9223372036854775807) (hcb : lb.length ≤ 9223372036854775807) : Calls Try.prog 17 #[.agg #[.slice LA la.length ca, .slice LB lb.length cb]] W (Ret W nX (fun v m => ∃ P cp Q cq, v = .tuple #[.slice P (gN la lb) cp, .slice Q (gN la lb) cq] ∧ m = [.own 3 1 P (gN la lb) cp ((gs la lb la (gN la lb)).map encI), .own 3 1 Q (gN la lb) cq ((negL (gs la lb lb (gN la lb))).map encI)])) := by
  have hgn : (gN la lb : Int) = max 1 (min (min (la.length : Int) (lb.length : Int)) 12) := by unfold gN; omega
  refine enterA (X := nX) (vs := [.agg #[.slice LA la.length ca, .slice LB lb.length cb]]) Try.func17 Try.ntmps17 rfl rfl Mem.nil ?_
  refine run_seq ?_
  refine run_region ?_
  refine run_h (.none rfl) (h_box rfl rfl rfl rfl rfl) ?_
  rintro b1 -
  refine run_q (.none rfl) rfl rfl (q_assign rfl rfl) ?_
  refine run_q (.none rfl) rfl rfl (q_assign rfl rfl) ?_
  refine run_nil ?_
  refine run_seq ?_
  refine run_region ?_
  refine run_q (.none rfl) rfl rfl (q_fieldB (d := 0) rfl Try.underlying36 rfl rfl sz34 rfl) ?_
  refine run_q (.none rfl) rfl rfl (q_loadB rfl one34 rfl Sel.here rfl) ?_
  refine run_q (.none rfl) rfl rfl (q_len rfl Try.underlying34 rfl) ?_
  refine run_q (.none rfl) rfl rfl (q_fieldB (d := 1) rfl Try.underlying36 rfl rfl sz34 rfl) ?_
  refine run_q (.none rfl) rfl rfl (q_loadB rfl one34 rfl Sel.here rfl) ?_
  refine run_q (.none rfl) rfl rfl (q_len rfl Try.underlying34 rfl) ?_
  refine run_q (.none rfl) rfl rfl (q_min2 rfl rfl rfl) ?_
  refine run_q (.none rfl) rfl rfl (q_min2 rfl rfl rfl) ?_
  refine run_q (.none rfl) rfl rfl (q_max2 rfl rfl rfl) ?_
  refine run_q (.none rfl) rfl rfl (q_assign rfl rfl) ?_
  refine run_nil ?_
  refine run_sub (subMk (.cons (s := 1) rfl (.cons (s := 2) rfl (.cons (s := 3) rfl (.cons (s := 4) rfl .nil)))) .refl) ?_
  refine run_seq ?_
  refine run_seq ?_
  refine run_sub (subMk (.cons (s := 1) rfl (.cons (s := 2) rfl (.cons (s := 3) rfl (.cons' (s := 4) (v' := .int .i64 (gN la lb : Int)) rfl (vint (by omega)) .nil)))) .refl) ?_
  refine run_region ?_
  refine run_q (.none rfl) rfl rfl (q_assign rfl rfl) ?_
  refine run_nil ?_
  refine run_block ?_
  refine run_sub (subMk .refl (MemSub.nilOwn 3 1)) ?_
  refine run_sub (subMk .refl (MemSub.nilOwn 3 1)) ?_
  refine run_sub (subMk (.cons (s := 5) rfl (.cons (s := 2) rfl (.cons (s := 3) rfl (.cons (s := 1) rfl (.cons (s := 4) rfl .nil))))) (.cons (.there Sel.here) .refl (.cons Sel.here .refl (.cons Sel.here .refl .nil)))) ?_
  refine run_loopC3M2 (ι := Nat × (Option Addr) × Nat × (Option Addr) × Nat) (fun gg => gg.1 ≤ gN la lb ∧ gg.1 ≤ 12) (fun gg => .int .i64 (gg.1 : Int)) (fun gg => .slice gg.2.1 gg.1 gg.2.2.1) (fun gg => .slice gg.2.2.2.1 gg.1 gg.2.2.2.2) (fun gg => .own 3 1 gg.2.1 gg.1 gg.2.2.1 ((gs la lb la gg.1).map encI)) (fun gg => .own 3 1 gg.2.2.2.1 gg.1 gg.2.2.2.2 ((negL (gs la lb lb gg.1)).map encI)) (fun gg => gN la lb - gg.1) (0, none, 0, none, 0) (by (try dsimp only); exact ⟨by omega, by omega⟩) rfl rfl rfl (.own rfl rfl rfl rfl) (.own rfl rfl rfl rfl) ?_
  rintro ⟨k, P, cp, Q, cq⟩ hq
  (try dsimp only at hq)
  obtain ⟨hk1, hk2⟩ := hq
  show Run _ _ _ _ _ _ _ ⟨(5, .int .i64 (k : Int)) :: (2, .slice P k cp) :: (3, .slice Q k cq) :: _, .own 3 1 P k cp ((gs la lb la k).map encI) :: .own 3 1 Q k cq ((negL (gs la lb lb k)).map encI) :: _⟩
  refine run_seq ?_
  refine run_seq ?_
  refine run_region ?_
  refine run_q (.none rfl) rfl rfl (q_move rfl rfl) ?_
  refine run_q (.none rfl) rfl rfl (q_move rfl rfl) ?_
  refine run_q (.none rfl) rfl rfl (q_lss rfl rfl rfl) ?_
  refine run_nil ?_
  refine run_cond rfl (fun g19 => ?_) (fun g19 => ?_)
  · have g19' := g19
    try simp only [decide_eq_true_eq, decide_eq_false_iff_not, beq_iff_eq, beq_eq_false_iff_ne, bne_iff_ne, bne_eq_false_iff_eq, Bool.not_eq_true', Bool.not_eq_false', ne_eq, Int.not_lt, Int.not_le, Decidable.not_not] at g19'
    refine run_skip ?_
    refine run_seq ?_
    refine run_block ?_
    refine run_seq ?_
    refine run_region ?_
    refine run_q (.none rfl) rfl rfl (q_assign rfl rfl) ?_
    refine run_q (.none rfl) rfl rfl (q_assign rfl rfl) ?_
    refine run_nil ?_
    refine run_sub (subMk (.cons (s := 1) rfl (.cons (s := 2) rfl (.cons (s := 3) rfl (.cons (s := 4) rfl (.cons (s := 5) rfl (.cons (s := 6) rfl (.cons (s := 7) rfl .nil))))))) .refl) ?_
    refine run_seq ?_
    refine run_seq ?_
    refine run_region ?_
    refine run_q (.none rfl) rfl rfl (q_move rfl rfl) ?_
    refine run_q (.none rfl) rfl rfl (q_fieldB (d := 0) rfl Try.underlying36 rfl rfl sz34 rfl) ?_
    refine run_q (.none rfl) rfl rfl (q_loadB rfl one34 rfl (.there (.there Sel.here)) rfl) ?_
    refine run_q (.none rfl) rfl rfl (q_len rfl Try.underlying34 rfl) ?_
    refine run_q (.none rfl) rfl rfl (q_lss rfl rfl rfl) ?_
    refine run_q (.none rfl) rfl rfl (q_move rfl rfl) ?_
    refine run_split 27 rfl (fun g27 => ?_) (fun g27 => ?_)
    · have g27' := g27
      try simp only [decide_eq_true_eq, decide_eq_false_iff_not, beq_iff_eq, beq_eq_false_iff_ne, bne_iff_ne, bne_eq_false_iff_eq, Bool.not_eq_true', Bool.not_eq_false', ne_eq, Int.not_lt, Int.not_le, Decidable.not_not] at g27'
      refine run_q (.on rfl rfl rfl g27) rfl rfl (q_move rfl rfl) ?_
      refine run_q (.on rfl rfl rfl g27) rfl rfl (q_fieldB (d := 1) rfl Try.underlying36 rfl rfl sz34 rfl) ?_
      refine run_q (.on rfl rfl rfl g27) rfl rfl (q_loadB rfl one34 rfl (.there (.there Sel.here)) rfl) ?_
      refine run_q (.on rfl rfl rfl g27) rfl rfl (q_len rfl Try.underlying34 rfl) ?_
      refine run_q (.on rfl rfl rfl g27) rfl rfl (q_lss rfl rfl rfl) ?_
      refine run_q (.none rfl) rfl rfl (q_pickT rfl rfl g27 rfl) ?_
      refine run_nil ?_
      refine run_sub (subMk (.cons (s := 1) rfl (.cons (s := 2) rfl (.cons (s := 3) rfl (.cons (s := 4) rfl (.cons (s := 5) rfl (.cons (s := 6) rfl (.cons (s := 7) rfl (.cons (s := 33) rfl .nil)))))))) .refl) ?_
      refine run_cond rfl (fun g33 => ?_) (fun g33 => ?_)
      · have g33' := g33
        try simp only [decide_eq_true_eq, decide_eq_false_iff_not, beq_iff_eq, beq_eq_false_iff_ne, bne_iff_ne, bne_eq_false_iff_eq, Bool.not_eq_true', Bool.not_eq_false', ne_eq, Int.not_lt, Int.not_le, Decidable.not_not] at g33'
        have h6a := Int.emod_nonneg (nth la k) (show (600 : Int) ≠ 0 by decide)
        have h6b := Int.emod_nonneg (nth lb k) (show (600 : Int) ≠ 0 by decide)
        have h6c := Int.emod_lt_of_pos (nth la k) (show (0 : Int) < 600 by decide)
        have h6d := Int.emod_lt_of_pos (nth lb k) (show (0 : Int) < 600 by decide)
        have hpa := hbA _ (nth_mem (l := la) (q := k) (by omega))
        have hpb := hbB _ (nth_mem (l := lb) (q := k) (by omega))
        refine run_draw [(0, 0), (1, 0), (2, 0), (3, 0), (4, 0), (5, 0), (6, 0), (7, 0), (8, 0), (9, 0), (10, 0), (11, 0), (12, 0), (13, 0), (14, 0), (15, 0), (16, 0)] mixed (by kernel_rfl) .refl ?_
        refine d_q rfl rfl (.none rfl) rfl rfl (q_fieldB (d := 0) rfl Try.underlying36 rfl rfl sz34 rfl) ?_
        refine d_q rfl rfl (.none rfl) rfl rfl (q_loadB rfl one34 rfl (.there (.there Sel.here)) rfl) ?_
        refine d_q rfl rfl (.none rfl) rfl rfl (q_move rfl rfl) ?_
        refine d_q rfl rfl (.none rfl) rfl rfl (q_indexS (q := k) rfl Try.underlying34 sz90 rfl rfl (.inp hla .no) (by simp <;> omega) rfl (by omega)) ?_
        refine d_q rfl rfl (.none rfl) rfl rfl (q_loadC rfl one90 rfl (.inp hla .no) (getmap (by omega))) ?_
        refine d_q rfl rfl (.none rfl) rfl rfl (q_rem rfl rfl rfl (by omega)) ?_
        refine d_q rfl rfl (.none rfl) rfl rfl (q_convert' rfl rfl Try.underlying90 Try.underlying3 (by rw [IntKind.wrap_i64]; omega)) ?_
        refine d_q rfl rfl (.none rfl) rfl rfl (q_fieldB (d := 1) rfl Try.underlying36 rfl rfl sz34 rfl) ?_
        refine d_q rfl rfl (.none rfl) rfl rfl (q_loadB rfl one34 rfl (.there (.there Sel.here)) rfl) ?_
        refine d_q rfl rfl (.none rfl) rfl rfl (q_move rfl rfl) ?_
        refine d_q rfl rfl (.none rfl) rfl rfl (q_indexS (q := k) rfl Try.underlying34 sz90 rfl rfl (.inp hlb .no) (by simp <;> omega) rfl (by omega)) ?_
        refine d_q rfl rfl (.none rfl) rfl rfl (q_loadC rfl one90 rfl (.inp hlb .no) (getmap (by omega))) ?_
        refine d_q rfl rfl (.none rfl) rfl rfl (q_rem rfl rfl rfl (by omega)) ?_
        refine d_q rfl rfl (.none rfl) rfl rfl (q_convert' rfl rfl Try.underlying90 Try.underlying3 (by rw [IntKind.wrap_i64]; omega)) ?_
        refine d_q rfl rfl (.none rfl) rfl rfl (q_neg rfl rfl (by omega)) ?_
        refine d_q rfl rfl (.none rfl) rfl rfl (q_assign rfl rfl) ?_
        refine d_q rfl rfl (.none rfl) rfl rfl (q_assign rfl rfl) ?_
        refine d_nil ?_
        refine run_sub (subMk (.cons (s := 1) rfl (.cons (s := 2) rfl (.cons (s := 3) rfl (.cons (s := 4) rfl (.cons (s := 5) rfl (.cons (s := 6) rfl (.cons (s := 7) rfl .nil))))))) .refl) ?_
        refine run_region ?_
        refine run_q (.none rfl) rfl rfl (q_move rfl rfl) ?_
        refine run_q (.none rfl) rfl rfl (q_move rfl rfl) ?_
        refine run_h (.none rfl) (h_buildSlice rfl rfl rfl Try.underlying38 info3 (.cons rfl rfl rfl rfl Parts.nil) rfl (by omega)) ?_
        rintro b51 -
        refine run_h (.none rfl) (h_append rfl rfl rfl Try.underlying38 info3 rfl rfl (.there Sel.here) rfl (.own Sel.here) rfl (all1 rfl) (all1 rfl) (by omega) (by omega)) ?_
        rintro ⟨A52, c52⟩ -
        refine run_q (.none rfl) rfl rfl (q_move rfl rfl) ?_
        refine run_q (.none rfl) rfl rfl (q_move rfl rfl) ?_
        refine run_h (.none rfl) (h_buildSlice rfl rfl rfl Try.underlying38 info3 (.cons rfl rfl rfl rfl Parts.nil) rfl (by omega)) ?_
        rintro b55 -
        refine run_h (.none rfl) (h_append rfl rfl rfl Try.underlying38 info3 rfl rfl (.there (.there (.there Sel.here))) rfl (.own Sel.here) rfl (all1 rfl) (all1 rfl) (by omega) (by omega)) ?_
        rintro ⟨A56, c56⟩ -
        refine run_q (.none rfl) rfl rfl (q_assign rfl rfl) ?_
        refine run_q (.none rfl) rfl rfl (q_assign rfl rfl) ?_
        refine run_nil ?_
        refine run_sub (subMk (.cons (s := 1) rfl (.cons (s := 2) rfl (.cons (s := 3) rfl (.cons (s := 4) rfl (.cons (s := 5) rfl .nil))))) .refl) ?_
        refine run_blk ?_
        refine run_region ?_
        refine run_q (.none rfl) rfl rfl (q_move rfl rfl) ?_
        refine run_q (.none rfl) rfl rfl (q_add rfl rfl rfl (by omega)) ?_
        refine run_q (.none rfl) rfl rfl (q_assign rfl rfl) ?_
        refine run_nil ?_
        exact run_again (k + 1, A52, c52, A56, c56) (by (try dsimp only); exact ⟨by omega, by omega⟩) (by (try dsimp only); omega) (subMk (.cons' (s := 5) rfl (vint (by omega)) (.cons' (s := 2) rfl rfl (.cons' (s := 3) rfl rfl (.cons (s := 1) rfl (.cons (s := 4) rfl .nil))))) (.cons (.there (.there Sel.here)) (.own rfl rfl rfl (by rw [gs_succ, gV_yes (by omega) (by omega), List.map_append]; rfl)) (.cons Sel.here (.own rfl rfl rfl (by rw [gs_succ, gV_yes (by omega) (by omega), negL_app, List.map_append]; rfl)) (.cons (.there (.there Sel.here)) .refl .nil))))
      · have g33' := g33
        try simp only [decide_eq_true_eq, decide_eq_false_iff_not, beq_iff_eq, beq_eq_false_iff_ne, bne_iff_ne, bne_eq_false_iff_eq, Bool.not_eq_true', Bool.not_eq_false', ne_eq, Int.not_lt, Int.not_le, Decidable.not_not] at g33'
        refine run_skip ?_
        refine run_region ?_
        refine run_q (.none rfl) rfl rfl (q_move rfl rfl) ?_
        refine run_q (.none rfl) rfl rfl (q_move rfl rfl) ?_
        refine run_h (.none rfl) (h_buildSlice rfl rfl rfl Try.underlying38 info3 (.cons rfl rfl rfl rfl Parts.nil) rfl (by omega)) ?_
        rintro b51 -
        refine run_h (.none rfl) (h_append rfl rfl rfl Try.underlying38 info3 rfl rfl (.there Sel.here) rfl (.own Sel.here) rfl (all1 rfl) (all1 rfl) (by omega) (by omega)) ?_
        rintro ⟨A52, c52⟩ -
        refine run_q (.none rfl) rfl rfl (q_move rfl rfl) ?_
        refine run_q (.none rfl) rfl rfl (q_move rfl rfl) ?_
        refine run_h (.none rfl) (h_buildSlice rfl rfl rfl Try.underlying38 info3 (.cons rfl rfl rfl rfl Parts.nil) rfl (by omega)) ?_
        rintro b55 -
        refine run_h (.none rfl) (h_append rfl rfl rfl Try.underlying38 info3 rfl rfl (.there (.there (.there Sel.here))) rfl (.own Sel.here) rfl (all1 rfl) (all1 rfl) (by omega) (by omega)) ?_
        rintro ⟨A56, c56⟩ -
        refine run_q (.none rfl) rfl rfl (q_assign rfl rfl) ?_
        refine run_q (.none rfl) rfl rfl (q_assign rfl rfl) ?_
        refine run_nil ?_
        refine run_sub (subMk (.cons (s := 1) rfl (.cons (s := 2) rfl (.cons (s := 3) rfl (.cons (s := 4) rfl (.cons (s := 5) rfl .nil))))) .refl) ?_
        refine run_blk ?_
        refine run_region ?_
        refine run_q (.none rfl) rfl rfl (q_move rfl rfl) ?_
        refine run_q (.none rfl) rfl rfl (q_add rfl rfl rfl (by omega)) ?_
        refine run_q (.none rfl) rfl rfl (q_assign rfl rfl) ?_
        refine run_nil ?_
        exact run_again (k + 1, A52, c52, A56, c56) (by (try dsimp only); exact ⟨by omega, by omega⟩) (by (try dsimp only); omega) (subMk (.cons' (s := 5) rfl (vint (by omega)) (.cons' (s := 2) rfl rfl (.cons' (s := 3) rfl rfl (.cons (s := 1) rfl (.cons (s := 4) rfl .nil))))) (.cons (.there (.there Sel.here)) (.own rfl rfl rfl (by rw [gs_succ, gV_no (by omega), List.map_append]; rfl)) (.cons Sel.here (.own rfl rfl rfl (by rw [gs_succ, gV_no (by omega), negL_app, List.map_append]; rfl)) (.cons (.there (.there Sel.here)) .refl .nil))))
    · have g27' := g27
      try simp only [decide_eq_true_eq, decide_eq_false_iff_not, beq_iff_eq, beq_eq_false_iff_ne, bne_iff_ne, bne_eq_false_iff_eq, Bool.not_eq_true', Bool.not_eq_false', ne_eq, Int.not_lt, Int.not_le, Decidable.not_not] at g27'
      refine run_off (.no rfl rfl rfl g27) rfl rfl ?_
      refine run_off (.no rfl rfl rfl g27) rfl rfl ?_
      refine run_off (.no rfl rfl rfl g27) rfl rfl ?_
      refine run_off (.no rfl rfl rfl g27) rfl rfl ?_
      refine run_off (.no rfl rfl rfl g27) rfl rfl ?_
      refine run_q (.none rfl) rfl rfl (q_pickF rfl rfl g27 rfl) ?_
      refine run_nil ?_
      refine run_sub (subMk (.cons (s := 1) rfl (.cons (s := 2) rfl (.cons (s := 3) rfl (.cons (s := 4) rfl (.cons (s := 5) rfl (.cons (s := 6) rfl (.cons (s := 7) rfl (.cons (s := 33) rfl .nil)))))))) .refl) ?_
      refine run_condF rfl rfl ?_
      refine run_skip ?_
      refine run_region ?_
      refine run_q (.none rfl) rfl rfl (q_move rfl rfl) ?_
      refine run_q (.none rfl) rfl rfl (q_move rfl rfl) ?_
      refine run_h (.none rfl) (h_buildSlice rfl rfl rfl Try.underlying38 info3 (.cons rfl rfl rfl rfl Parts.nil) rfl (by omega)) ?_
      rintro b51 -
      refine run_h (.none rfl) (h_append rfl rfl rfl Try.underlying38 info3 rfl rfl (.there Sel.here) rfl (.own Sel.here) rfl (all1 rfl) (all1 rfl) (by omega) (by omega)) ?_
      rintro ⟨A52, c52⟩ -
      refine run_q (.none rfl) rfl rfl (q_move rfl rfl) ?_
      refine run_q (.none rfl) rfl rfl (q_move rfl rfl) ?_
      refine run_h (.none rfl) (h_buildSlice rfl rfl rfl Try.underlying38 info3 (.cons rfl rfl rfl rfl Parts.nil) rfl (by omega)) ?_
      rintro b55 -
      refine run_h (.none rfl) (h_append rfl rfl rfl Try.underlying38 info3 rfl rfl (.there (.there (.there Sel.here))) rfl (.own Sel.here) rfl (all1 rfl) (all1 rfl) (by omega) (by omega)) ?_
      rintro ⟨A56, c56⟩ -
      refine run_q (.none rfl) rfl rfl (q_assign rfl rfl) ?_
      refine run_q (.none rfl) rfl rfl (q_assign rfl rfl) ?_
      refine run_nil ?_
      refine run_sub (subMk (.cons (s := 1) rfl (.cons (s := 2) rfl (.cons (s := 3) rfl (.cons (s := 4) rfl (.cons (s := 5) rfl .nil))))) .refl) ?_
      refine run_blk ?_
      refine run_region ?_
      refine run_q (.none rfl) rfl rfl (q_move rfl rfl) ?_
      refine run_q (.none rfl) rfl rfl (q_add rfl rfl rfl (by omega)) ?_
      refine run_q (.none rfl) rfl rfl (q_assign rfl rfl) ?_
      refine run_nil ?_
      exact run_again (k + 1, A52, c52, A56, c56) (by (try dsimp only); exact ⟨by omega, by omega⟩) (by (try dsimp only); omega) (subMk (.cons' (s := 5) rfl (vint (by omega)) (.cons' (s := 2) rfl rfl (.cons' (s := 3) rfl rfl (.cons (s := 1) rfl (.cons (s := 4) rfl .nil))))) (.cons (.there (.there Sel.here)) (.own rfl rfl rfl (by rw [gs_succ, gV_no (by omega), List.map_append]; rfl)) (.cons Sel.here (.own rfl rfl rfl (by rw [gs_succ, gV_no (by omega), negL_app, List.map_append]; rfl)) (.cons (.there (.there Sel.here)) .refl .nil))))
  · have g19' := g19
    try simp only [decide_eq_true_eq, decide_eq_false_iff_not, beq_iff_eq, beq_eq_false_iff_ne, bne_iff_ne, bne_eq_false_iff_eq, Bool.not_eq_true', Bool.not_eq_false', ne_eq, Int.not_lt, Int.not_le, Decidable.not_not] at g19'
    refine run_exit rfl ?_
    refine run_sub (subMk (.cons (s := 2) rfl (.cons (s := 3) rfl .nil)) .refl) ?_
    refine run_seq ?_
    refine run_region ?_
    refine run_q (.none rfl) rfl rfl (q_move rfl rfl) ?_
    refine run_q (.none rfl) rfl rfl (q_move rfl rfl) ?_
    refine run_q (.none rfl) rfl rfl (q_assign rfl rfl) ?_
    refine run_q (.none rfl) rfl rfl (q_assign rfl rfl) ?_
    refine run_nil ?_
    refine run_ret ?_
    refine run_sub (subMk .refl (.cons Sel.here (.own (m' := gN la lb) (xs' := (gs la lb la (gN la lb)).map encI) rfl (by omega) rfl (by rw [show gN la lb = k from by omega])) (.cons Sel.here (.own (m' := gN la lb) (xs' := (negL (gs la lb lb (gN la lb))).map encI) rfl (by omega) rfl (by rw [show gN la lb = k from by omega])) .nil))) ?_
    exact end2 rfl rfl rfl ⟨P, cp, Q, cq, by rw [show gN la lb = k from by omega], rfl⟩

end Go.Proofs.YtgphmbipakdggaaR
