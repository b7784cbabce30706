/- The law on checks and costs, in the program. -/
import Derived.Test.YtbkmmjpklkallaaI
import Derived.Test.YtbkmmjpklkallaaG
set_option linter.unusedSimpArgs false
set_option linter.unusedVariables false
namespace Go.Proofs.Ytbkmmjpklkallaa
open Go Go.RowKit Hr

theorem call19 : Hr.Callable Try.prog 19 := fun args w => by kernel_rfl
theorem call21 : Hr.Callable Try.prog 21 := fun args w => by kernel_rfl
theorem call20 : Hr.Callable Try.prog 20 := fun args w => by kernel_rfl

theorem law7_err (c : Cost) (l l2 : List Note) (A B : Option Addr) (ca cb : Nat) (lq : List Pair) (Q : Option Addr) (cq : Nat) (W : World) (hr : Rd W A 7 (l.map Note.enc)) (hr2 : Rd W B 7 (l2.map Note.enc)) (hca : l.length ≤ ca) (hcb : l2.length ≤ cb) (hrq : Rd W Q 3 (lq.map Pair.enc)) (hcq : lq.length ≤ cq) (a b : List Note) (ha : a = l.take 24) (hb : b = l2.take 24) (ps : List Pair) (hps : ps = lq.take 60) (he : (firstNZ [checkV a b ps, costB c]) ≠ 0) : Calls Try.prog 7 #[.agg #[.slice A l.length ca, .slice B l2.length cb], c.val, .slice Q lq.length cq] W (Hr.Just W (.bool true)) := by
  have hra := rd_take hr ha
  have hrb := rd_take hr2 hb
  have hla : a.length ≤ 24 := by rw [ha]; simp; omega
  have hlb : b.length ≤ 24 := by rw [hb]; simp; omega
  have hac : a.length ≤ ca := by rw [ha]; simp; omega
  have hbc : b.length ≤ cb := by rw [hb]; simp; omega
  have hrp : Rd W Q 3 (ps.map Pair.enc) := by rw [hps, List.map_take]; exact hrq.take 60
  have hlp : ps.length ≤ 60 := by rw [hps]; simp; omega
  have hpl : ps.length = min lq.length 60 := by rw [hps]; simp [Nat.min_comm]
  refine Just.of_ret ?_
  refine enterA (X := nX) (vs := [.agg #[.slice A l.length ca, .slice B l2.length cb], c.val, .slice Q lq.length cq]) Try.func7 Try.ntmps7 rfl rfl Mem.nil ?_
  refine run_seq ?_
  refine run_region ?_
  refine run_h (.none rfl) (h_box rfl rfl rfl rfl rfl) ?_
  rintro b3 -
  refine run_h (.none rfl) (h_box rfl rfl rfl rfl rfl) ?_
  rintro b4 -
  refine run_q (.none rfl) rfl rfl (q_assign rfl rfl) ?_
  refine run_nil ?_
  refine run_seq ?_
  refine run_draw [(0, 0), (1, 0), (2, 0), (3, 0), (4, 0), (5, 0), (6, 0), (7, 0)] mixed (by kernel_rfl) .refl ?_
  refine d_q rfl rfl (.none rfl) rfl rfl (q_fieldB (d := 0) rfl Try.underlying24 rfl rfl sz22 rfl) ?_
  refine d_q rfl rfl (.none rfl) rfl rfl (q_loadB rfl one22 rfl (.there Sel.here) rfl) ?_
  refine d_q rfl rfl (.none rfl) rfl rfl (q_call rfl call12 (.cons rfl Evs.nil) (fun w hk hm => cut_take ha A ca hca w)) ?_
  refine d_q rfl rfl (.none rfl) rfl rfl (q_fieldB (d := 1) rfl Try.underlying24 rfl rfl sz22 rfl) ?_
  refine d_q rfl rfl (.none rfl) rfl rfl (q_loadB rfl one22 rfl (.there Sel.here) rfl) ?_
  refine d_q rfl rfl (.none rfl) rfl rfl (q_call rfl call12 (.cons rfl Evs.nil) (fun w hk hm => cut_take hb B cb hcb w)) ?_
  refine d_q rfl rfl (.none rfl) rfl rfl (q_assign rfl rfl) ?_
  refine d_q rfl rfl (.none rfl) rfl rfl (q_assign rfl rfl) ?_
  refine d_nil ?_
  refine run_sub (subMk (.cons (s := 2) rfl (.cons (s := 4) rfl (.cons (s := 6) rfl (.cons (s := 7) rfl (.cons (s := 8) rfl .nil))))) .refl) ?_
  refine run_seq ?_
  refine run_region ?_
  refine run_q (.none rfl) rfl rfl (q_move rfl rfl) ?_
  refine run_q (.none rfl) rfl rfl (q_move rfl rfl) ?_
  refine run_q (.none rfl) rfl rfl (q_len rfl Try.underlying28 rfl) ?_
  refine run_q (.none rfl) rfl rfl (q_min2 rfl rfl rfl) ?_
  refine run_q (.none rfl) rfl rfl (q_sliceH rfl Try.underlying28 sz40 rfl rfl (by omega)) ?_
  refine run_q (.none rfl) rfl rfl (q_assign rfl rfl) ?_
  refine run_nil ?_
  refine run_sub (subMk (.cons (s := 2) rfl (.cons (s := 4) rfl (.cons (s := 6) rfl (.cons (s := 7) rfl (.cons (s := 8) rfl .nil))))) .refl) ?_
  refine run_seq ?_
  refine run_sub (subMk (.cons' (s := 2) (v' := .slice Q ps.length cq) rfl (by rw [hpl]; congr 1; omega) (.cons (s := 4) rfl (.cons (s := 6) rfl (.cons (s := 7) rfl (.cons (s := 8) rfl .nil))))) .refl) ?_
  refine run_region ?_
  refine run_q (.none rfl) rfl rfl (q_move rfl rfl) ?_
  refine run_q (.none rfl) rfl rfl (q_move rfl rfl) ?_
  refine run_q (.none rfl) rfl rfl (q_loadBN rfl agg26 rfl Sel.here (.cons rfl (.cons rfl (.cons rfl (.cons rfl (.cons rfl CellsAt.nil))))) rfl) ?_
  refine run_q (.none rfl) rfl rfl (q_move rfl rfl) ?_
  refine run_q (.none rfl) rfl rfl (q_call rfl call19 (.cons rfl (.cons rfl (.cons rfl (.cons rfl Evs.nil)))) (fun w hk hm => costErr_just c a b A B ca cb ps Q cq w (hra.kept0 hk) (hrb.kept0 hk) (hrp.kept0 hk) (by omega) (by omega) (by omega) he)) ?_
  refine run_q (.none rfl) rfl rfl (q_move rfl rfl) ?_
  refine run_q (.none rfl) rfl rfl (q_extract rfl rfl rfl) ?_
  refine run_q (.none rfl) rfl rfl (q_extract rfl rfl rfl) ?_
  refine run_q (.none rfl) rfl rfl (q_assign rfl rfl) ?_
  refine run_q (.none rfl) rfl rfl (q_assign rfl rfl) ?_
  refine run_nil ?_
  refine run_sub (subMk (.cons (s := 2) rfl (.cons (s := 4) rfl (.cons (s := 6) rfl (.cons (s := 7) rfl (.cons (s := 8) rfl (.cons (s := 9) rfl (.cons (s := 10) rfl .nil))))))) .refl) ?_
  refine run_seq ?_
  refine run_region ?_
  refine run_q (.none rfl) rfl rfl (q_move rfl rfl) ?_
  refine run_q (.none rfl) rfl rfl (q_move rfl rfl) ?_
  refine run_q (.none rfl) rfl rfl (q_move rfl rfl) ?_
  refine run_q (.none rfl) rfl rfl (q_call rfl call21 (.cons rfl (.cons rfl (.cons rfl Evs.nil))) (fun w hk hm => checked_just a b A B ca cb ps Q cq w (hra.kept0 hk) (hrb.kept0 hk) (hrp.kept0 hk) (by omega) (by omega) (by omega))) ?_
  refine run_q (.none rfl) rfl rfl (q_assign rfl rfl) ?_
  refine run_nil ?_
  refine run_sub (subMk (.cons (s := 2) rfl (.cons (s := 4) rfl (.cons (s := 6) rfl (.cons (s := 7) rfl (.cons (s := 8) rfl (.cons (s := 9) rfl (.cons (s := 10) rfl (.cons (s := 11) rfl .nil)))))))) .refl) ?_
  refine run_seq ?_
  refine run_seq ?_
  refine run_region ?_
  refine run_q (.none rfl) rfl rfl (q_call rfl call14 Evs.nil (fun w hk hm => known_just w)) ?_
  refine run_q (.none rfl) rfl rfl (q_not rfl rfl) ?_
  refine run_q (.none rfl) rfl rfl (q_move rfl rfl) ?_
  refine run_q (.on rfl rfl rfl rfl) rfl rfl (q_move rfl rfl) ?_
  refine run_q (.on rfl rfl rfl rfl) rfl rfl (q_move rfl rfl) ?_
  refine run_q (.on rfl rfl rfl rfl) rfl rfl (q_move rfl rfl) ?_
  refine run_q (.on rfl rfl rfl rfl) rfl rfl (q_call rfl call22 (.cons rfl (.cons rfl (.cons rfl Evs.nil))) (fun w hk hm => lcheck_just a b A B ca cb ps Q cq w (hra.kept0 hk) (hrb.kept0 hk) (hrp.kept0 hk) (by omega) (by omega) (by omega))) ?_
  refine run_q (.on rfl rfl rfl rfl) rfl rfl (q_move rfl rfl) ?_
  refine run_q (.on rfl rfl rfl rfl) rfl rfl (q_neq rfl rfl rfl) ?_
  refine run_q (.none rfl) rfl rfl (q_pickF rfl rfl rfl rfl) ?_
  refine run_nil ?_
  refine run_sub (subMk (.cons (s := 2) rfl (.cons (s := 4) rfl (.cons (s := 6) rfl (.cons (s := 7) rfl (.cons (s := 8) rfl (.cons (s := 9) rfl (.cons (s := 10) rfl (.cons (s := 11) rfl (.cons (s := 44) rfl .nil))))))))) .refl) ?_
  refine run_condF rfl (by simp) ?_
  refine run_skip ?_
  refine run_seq ?_
  refine run_seq ?_
  refine run_region ?_
  refine run_q (.none rfl) rfl rfl (q_move rfl rfl) ?_
  refine run_q (.none rfl) rfl rfl (q_eql rfl rfl rfl) ?_
  refine run_nil ?_
  refine run_cond rfl (fun g46 => ?_) (fun g46 => ?_)
  · have g46' := g46
    try simp only [decide_eq_true_eq, decide_eq_false_iff_not, beq_iff_eq, beq_eq_false_iff_ne, bne_iff_ne, bne_eq_false_iff_eq, Bool.not_eq_true', Bool.not_eq_false', ne_eq, Int.not_lt, Int.not_le, Decidable.not_not] at g46'
    refine run_region ?_
    refine run_q (.none rfl) rfl rfl (q_loadBN rfl agg26 rfl Sel.here (.cons rfl (.cons rfl (.cons rfl (.cons rfl (.cons rfl CellsAt.nil))))) rfl) ?_
    refine run_q (.none rfl) rfl rfl (q_call rfl call16 (.cons rfl Evs.nil) (fun w hk hm => badCosts_just c w)) ?_
    refine run_q (.none rfl) rfl rfl (q_assign rfl rfl) ?_
    refine run_nil ?_
    refine run_sub (subMk (.cons (s := 2) rfl (.cons (s := 4) rfl (.cons (s := 6) rfl (.cons (s := 7) rfl (.cons (s := 8) rfl (.cons (s := 9) rfl (.cons (s := 10) rfl (.cons (s := 11) rfl .nil)))))))) .refl) ?_
    refine run_seq ?_
    refine run_seq ?_
    refine run_region ?_
    refine run_q (.none rfl) rfl rfl (q_move rfl rfl) ?_
    refine run_q (.none rfl) rfl rfl (q_neq rfl rfl rfl) ?_
    refine run_nil ?_
    refine run_condT rfl (by simp_all [firstNZ]) ?_
    refine run_seq ?_
    refine run_region ?_
    refine run_q (.none rfl) rfl rfl (q_move rfl rfl) ?_
    refine run_q (.none rfl) rfl rfl (q_move rfl rfl) ?_
    refine run_q (.none rfl) rfl rfl (q_eql rfl rfl rfl) ?_
    refine run_q (.none rfl) rfl rfl (q_move rfl rfl) ?_
    refine run_q (.on rfl rfl rfl (by simp_all [firstNZ])) rfl rfl (q_move rfl rfl) ?_
    refine run_q (.on rfl rfl rfl (by simp_all [firstNZ])) rfl rfl (q_eql rfl rfl rfl) ?_
    refine run_q (.none rfl) rfl rfl (q_pickT rfl rfl (by simp_all [firstNZ]) rfl) ?_
    refine run_q (.none rfl) rfl rfl (q_assign rfl rfl) ?_
    refine run_nil ?_
    refine run_sub (subMk (.cons (s := 2) rfl (.cons (s := 4) rfl (.cons (s := 6) rfl (.cons (s := 7) rfl (.cons (s := 8) rfl (.cons (s := 9) rfl (.cons (s := 10) rfl .nil))))))) .refl) ?_
    refine run_ret ?_
    exact end1 rfl rfl rfl
  · have g46' := g46
    try simp only [decide_eq_true_eq, decide_eq_false_iff_not, beq_iff_eq, beq_eq_false_iff_ne, bne_iff_ne, bne_eq_false_iff_eq, Bool.not_eq_true', Bool.not_eq_false', ne_eq, Int.not_lt, Int.not_le, Decidable.not_not] at g46'
    refine run_skip ?_
    refine run_seq ?_
    refine run_seq ?_
    refine run_region ?_
    refine run_q (.none rfl) rfl rfl (q_move rfl rfl) ?_
    refine run_q (.none rfl) rfl rfl (q_neq rfl rfl rfl) ?_
    refine run_nil ?_
    refine run_sub (subMk (.cons (s := 2) rfl (.cons (s := 4) rfl (.cons (s := 6) rfl (.cons (s := 7) rfl (.cons (s := 8) rfl (.cons (s := 9) rfl (.cons (s := 10) rfl (.cons (s := 11) rfl (.cons (s := 50) rfl .nil))))))))) .refl) ?_
    refine run_condT rfl (by simp_all [firstNZ]) ?_
    refine run_seq ?_
    refine run_region ?_
    refine run_q (.none rfl) rfl rfl (q_move rfl rfl) ?_
    refine run_q (.none rfl) rfl rfl (q_move rfl rfl) ?_
    refine run_q (.none rfl) rfl rfl (q_eql rfl rfl rfl) ?_
    refine run_q (.none rfl) rfl rfl (q_move rfl rfl) ?_
    refine run_q (.on rfl rfl rfl (by simp_all [firstNZ])) rfl rfl (q_move rfl rfl) ?_
    refine run_q (.on rfl rfl rfl (by simp_all [firstNZ])) rfl rfl (q_eql rfl rfl rfl) ?_
    refine run_q (.none rfl) rfl rfl (q_pickT rfl rfl (by simp_all [firstNZ]) rfl) ?_
    refine run_q (.none rfl) rfl rfl (q_assign rfl rfl) ?_
    refine run_nil ?_
    refine run_sub (subMk (.cons (s := 2) rfl (.cons (s := 4) rfl (.cons (s := 6) rfl (.cons (s := 7) rfl (.cons (s := 8) rfl (.cons (s := 9) rfl (.cons (s := 10) rfl .nil))))))) .refl) ?_
    refine run_ret ?_
    exact end1 rfl rfl rfl

theorem law7_ok (c : Cost) (l l2 : List Note) (A B : Option Addr) (ca cb : Nat) (lq : List Pair) (Q : Option Addr) (cq : Nat) (W : World) (hr : Rd W A 7 (l.map Note.enc)) (hr2 : Rd W B 7 (l2.map Note.enc)) (hca : l.length ≤ ca) (hcb : l2.length ≤ cb) (hrq : Rd W Q 3 (lq.map Pair.enc)) (hcq : lq.length ≤ cq) (a b : List Note) (ha : a = l.take 24) (hb : b = l2.take 24) (ps : List Pair) (hps : ps = lq.take 60) (hck : checkV a b ps = 0) (hcc : costB c = 0) : Calls Try.prog 7 #[.agg #[.slice A l.length ca, .slice B l2.length cb], c.val, .slice Q lq.length cq] W (Hr.Just W (.bool true)) := by
  have hra := rd_take hr ha
  have hrb := rd_take hr2 hb
  have hla : a.length ≤ 24 := by rw [ha]; simp; omega
  have hlb : b.length ≤ 24 := by rw [hb]; simp; omega
  have hac : a.length ≤ ca := by rw [ha]; simp; omega
  have hbc : b.length ≤ cb := by rw [hb]; simp; omega
  have hrp : Rd W Q 3 (ps.map Pair.enc) := by rw [hps, List.map_take]; exact hrq.take 60
  have hlp : ps.length ≤ 60 := by rw [hps]; simp; omega
  have hpl : ps.length = min lq.length 60 := by rw [hps]; simp [Nat.min_comm]
  refine Just.of_ret ?_
  refine enterA (X := nX) (vs := [.agg #[.slice A l.length ca, .slice B l2.length cb], c.val, .slice Q lq.length cq]) Try.func7 Try.ntmps7 rfl rfl Mem.nil ?_
  refine run_seq ?_
  refine run_region ?_
  refine run_h (.none rfl) (h_box rfl rfl rfl rfl rfl) ?_
  rintro b3 -
  refine run_h (.none rfl) (h_box rfl rfl rfl rfl rfl) ?_
  rintro b4 -
  refine run_q (.none rfl) rfl rfl (q_assign rfl rfl) ?_
  refine run_nil ?_
  refine run_seq ?_
  refine run_draw [(0, 0), (1, 0), (2, 0), (3, 0), (4, 0), (5, 0), (6, 0), (7, 0)] mixed (by kernel_rfl) .refl ?_
  refine d_q rfl rfl (.none rfl) rfl rfl (q_fieldB (d := 0) rfl Try.underlying24 rfl rfl sz22 rfl) ?_
  refine d_q rfl rfl (.none rfl) rfl rfl (q_loadB rfl one22 rfl (.there Sel.here) rfl) ?_
  refine d_q rfl rfl (.none rfl) rfl rfl (q_call rfl call12 (.cons rfl Evs.nil) (fun w hk hm => cut_take ha A ca hca w)) ?_
  refine d_q rfl rfl (.none rfl) rfl rfl (q_fieldB (d := 1) rfl Try.underlying24 rfl rfl sz22 rfl) ?_
  refine d_q rfl rfl (.none rfl) rfl rfl (q_loadB rfl one22 rfl (.there Sel.here) rfl) ?_
  refine d_q rfl rfl (.none rfl) rfl rfl (q_call rfl call12 (.cons rfl Evs.nil) (fun w hk hm => cut_take hb B cb hcb w)) ?_
  refine d_q rfl rfl (.none rfl) rfl rfl (q_assign rfl rfl) ?_
  refine d_q rfl rfl (.none rfl) rfl rfl (q_assign rfl rfl) ?_
  refine d_nil ?_
  refine run_sub (subMk (.cons (s := 2) rfl (.cons (s := 4) rfl (.cons (s := 6) rfl (.cons (s := 7) rfl (.cons (s := 8) rfl .nil))))) .refl) ?_
  refine run_seq ?_
  refine run_region ?_
  refine run_q (.none rfl) rfl rfl (q_move rfl rfl) ?_
  refine run_q (.none rfl) rfl rfl (q_move rfl rfl) ?_
  refine run_q (.none rfl) rfl rfl (q_len rfl Try.underlying28 rfl) ?_
  refine run_q (.none rfl) rfl rfl (q_min2 rfl rfl rfl) ?_
  refine run_q (.none rfl) rfl rfl (q_sliceH rfl Try.underlying28 sz40 rfl rfl (by omega)) ?_
  refine run_q (.none rfl) rfl rfl (q_assign rfl rfl) ?_
  refine run_nil ?_
  refine run_sub (subMk (.cons (s := 2) rfl (.cons (s := 4) rfl (.cons (s := 6) rfl (.cons (s := 7) rfl (.cons (s := 8) rfl .nil))))) .refl) ?_
  refine run_seq ?_
  refine run_sub (subMk (.cons' (s := 2) (v' := .slice Q ps.length cq) rfl (by rw [hpl]; congr 1; omega) (.cons (s := 4) rfl (.cons (s := 6) rfl (.cons (s := 7) rfl (.cons (s := 8) rfl .nil))))) .refl) ?_
  refine run_region ?_
  refine run_q (.none rfl) rfl rfl (q_move rfl rfl) ?_
  refine run_q (.none rfl) rfl rfl (q_move rfl rfl) ?_
  refine run_q (.none rfl) rfl rfl (q_loadBN rfl agg26 rfl Sel.here (.cons rfl (.cons rfl (.cons rfl (.cons rfl (.cons rfl CellsAt.nil))))) rfl) ?_
  refine run_q (.none rfl) rfl rfl (q_move rfl rfl) ?_
  refine run_q (.none rfl) rfl rfl (q_call rfl call19 (.cons rfl (.cons rfl (.cons rfl (.cons rfl Evs.nil)))) (fun w hk hm => costOk_just c a b A B ca cb ps Q cq w (hra.kept0 hk) (hrb.kept0 hk) (hrp.kept0 hk) (by omega) (by omega) (by omega) hck hcc (by omega))) ?_
  refine run_q (.none rfl) rfl rfl (q_move rfl rfl) ?_
  refine run_q (.none rfl) rfl rfl (q_extract rfl rfl rfl) ?_
  refine run_q (.none rfl) rfl rfl (q_extract rfl rfl rfl) ?_
  refine run_q (.none rfl) rfl rfl (q_assign rfl rfl) ?_
  refine run_q (.none rfl) rfl rfl (q_assign rfl rfl) ?_
  refine run_nil ?_
  refine run_sub (subMk (.cons (s := 2) rfl (.cons (s := 4) rfl (.cons (s := 6) rfl (.cons (s := 7) rfl (.cons (s := 8) rfl (.cons (s := 9) rfl (.cons (s := 10) rfl .nil))))))) .refl) ?_
  refine run_seq ?_
  refine run_region ?_
  refine run_q (.none rfl) rfl rfl (q_move rfl rfl) ?_
  refine run_q (.none rfl) rfl rfl (q_move rfl rfl) ?_
  refine run_q (.none rfl) rfl rfl (q_move rfl rfl) ?_
  refine run_q (.none rfl) rfl rfl (q_call rfl call21 (.cons rfl (.cons rfl (.cons rfl Evs.nil))) (fun w hk hm => checked_just a b A B ca cb ps Q cq w (hra.kept0 hk) (hrb.kept0 hk) (hrp.kept0 hk) (by omega) (by omega) (by omega))) ?_
  refine run_q (.none rfl) rfl rfl (q_assign rfl rfl) ?_
  refine run_nil ?_
  refine run_sub (subMk (.cons (s := 2) rfl (.cons (s := 4) rfl (.cons (s := 6) rfl (.cons (s := 7) rfl (.cons (s := 8) rfl (.cons (s := 9) rfl (.cons (s := 10) rfl (.cons (s := 11) rfl .nil)))))))) .refl) ?_
  refine run_seq ?_
  refine run_seq ?_
  refine run_region ?_
  refine run_q (.none rfl) rfl rfl (q_call rfl call14 Evs.nil (fun w hk hm => known_just w)) ?_
  refine run_q (.none rfl) rfl rfl (q_not rfl rfl) ?_
  refine run_q (.none rfl) rfl rfl (q_move rfl rfl) ?_
  refine run_q (.on rfl rfl rfl rfl) rfl rfl (q_move rfl rfl) ?_
  refine run_q (.on rfl rfl rfl rfl) rfl rfl (q_move rfl rfl) ?_
  refine run_q (.on rfl rfl rfl rfl) rfl rfl (q_move rfl rfl) ?_
  refine run_q (.on rfl rfl rfl rfl) rfl rfl (q_call rfl call22 (.cons rfl (.cons rfl (.cons rfl Evs.nil))) (fun w hk hm => lcheck_just a b A B ca cb ps Q cq w (hra.kept0 hk) (hrb.kept0 hk) (hrp.kept0 hk) (by omega) (by omega) (by omega))) ?_
  refine run_q (.on rfl rfl rfl rfl) rfl rfl (q_move rfl rfl) ?_
  refine run_q (.on rfl rfl rfl rfl) rfl rfl (q_neq rfl rfl rfl) ?_
  refine run_q (.none rfl) rfl rfl (q_pickF rfl rfl rfl rfl) ?_
  refine run_nil ?_
  refine run_sub (subMk (.cons (s := 2) rfl (.cons (s := 4) rfl (.cons (s := 6) rfl (.cons (s := 7) rfl (.cons (s := 8) rfl (.cons (s := 9) rfl (.cons (s := 10) rfl (.cons (s := 11) rfl (.cons (s := 44) rfl .nil))))))))) .refl) ?_
  refine run_condF rfl (by simp) ?_
  refine run_skip ?_
  refine run_seq ?_
  refine run_seq ?_
  refine run_region ?_
  refine run_q (.none rfl) rfl rfl (q_move rfl rfl) ?_
  refine run_q (.none rfl) rfl rfl (q_eql rfl rfl rfl) ?_
  refine run_nil ?_
  refine run_condT rfl (by simp [hck]) ?_
  refine run_region ?_
  refine run_q (.none rfl) rfl rfl (q_loadBN rfl agg26 rfl Sel.here (.cons rfl (.cons rfl (.cons rfl (.cons rfl (.cons rfl CellsAt.nil))))) rfl) ?_
  refine run_q (.none rfl) rfl rfl (q_call rfl call16 (.cons rfl Evs.nil) (fun w hk hm => badCosts_just c w)) ?_
  refine run_q (.none rfl) rfl rfl (q_assign rfl rfl) ?_
  refine run_nil ?_
  refine run_sub (subMk (.cons (s := 2) rfl (.cons (s := 4) rfl (.cons (s := 6) rfl (.cons (s := 7) rfl (.cons (s := 8) rfl (.cons (s := 9) rfl (.cons (s := 10) rfl (.cons (s := 11) rfl .nil)))))))) .refl) ?_
  refine run_seq ?_
  refine run_seq ?_
  refine run_region ?_
  refine run_q (.none rfl) rfl rfl (q_move rfl rfl) ?_
  refine run_q (.none rfl) rfl rfl (q_neq rfl rfl rfl) ?_
  refine run_nil ?_
  refine run_condF rfl (by simp [hcc]) ?_
  refine run_skip ?_
  refine run_seq ?_
  refine run_region ?_
  refine run_q (.none rfl) rfl rfl (q_move rfl rfl) ?_
  refine run_q (.none rfl) rfl rfl (q_eql rfl rfl rfl) ?_
  refine run_q (.none rfl) rfl rfl (q_move rfl rfl) ?_
  refine run_q (.on rfl rfl rfl rfl) rfl rfl (q_move rfl rfl) ?_
  refine run_q (.on rfl rfl rfl rfl) rfl rfl (q_move rfl rfl) ?_
  refine run_q (.on rfl rfl rfl rfl) rfl rfl (q_move rfl rfl) ?_
  refine run_q (.on rfl rfl rfl rfl) rfl rfl (q_loadBN rfl agg26 rfl Sel.here (.cons rfl (.cons rfl (.cons rfl (.cons rfl (.cons rfl CellsAt.nil))))) rfl) ?_
  refine run_q (.on rfl rfl rfl rfl) rfl rfl (q_move rfl rfl) ?_
  refine run_q (.on rfl rfl rfl rfl) rfl rfl (q_call rfl call20 (.cons rfl (.cons rfl (.cons rfl (.cons rfl Evs.nil)))) (fun w hk hm => cost_just c a b A B ca cb ps Q cq w (hra.kept0 hk) (hrb.kept0 hk) (hrp.kept0 hk) (by omega) (by omega) (by omega) hck hcc (by omega))) ?_
  refine run_q (.on rfl rfl rfl rfl) rfl rfl (q_eql rfl rfl rfl) ?_
  refine run_q (.none rfl) rfl rfl (q_pickT rfl rfl rfl rfl) ?_
  refine run_q (.none rfl) rfl rfl (q_assign rfl rfl) ?_
  refine run_nil ?_
  refine run_sub (subMk (.cons (s := 6) rfl .nil) .refl) ?_
  refine run_ret ?_
  exact end1 rfl rfl (by simp)

theorem law7_just (c : Cost) (l l2 : List Note) (A B : Option Addr) (ca cb : Nat) (lq : List Pair) (Q : Option Addr) (cq : Nat) (W : World) (hr : Rd W A 7 (l.map Note.enc)) (hr2 : Rd W B 7 (l2.map Note.enc)) (hca : l.length ≤ ca) (hcb : l2.length ≤ cb) (hrq : Rd W Q 3 (lq.map Pair.enc)) (hcq : lq.length ≤ cq) : Calls Try.prog 7 #[.agg #[.slice A l.length ca, .slice B l2.length cb], c.val, .slice Q lq.length cq] W (Just W (.bool true)) := by
  by_cases he : firstNZ [checkV (l.take 24) (l2.take 24) (lq.take 60), costB c] = 0
  · obtain ⟨h1, h2⟩ := firstNZ2 he
    exact law7_ok c l l2 A B ca cb lq Q cq W hr hr2 hca hcb hrq hcq _ _ rfl rfl _ rfl h1 h2
  · exact law7_err c l l2 A B ca cb lq Q cq W hr hr2 hca hcb hrq hcq _ _ rfl rfl _ rfl he

end Go.Proofs.Ytbkmmjpklkallaa
