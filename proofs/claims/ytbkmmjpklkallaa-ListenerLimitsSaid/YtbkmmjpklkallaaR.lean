/- The law on following, in the program. -/
import Derived.Test.YtbkmmjpklkallaaQ
import Derived.Test.YtbkmmjpklkallaaChk
set_option linter.unusedSimpArgs false
set_option linter.unusedVariables false
namespace Go.Proofs.Ytbkmmjpklkallaa
open Go Go.RowKit Hr

theorem call23 : Hr.Callable Try.prog 23 := fun args w => by kernel_rfl
theorem call24 : Hr.Callable Try.prog 24 := fun args w => by kernel_rfl
theorem call26 : Hr.Callable Try.prog 26 := fun args w => by kernel_rfl
theorem call27 : Hr.Callable Try.prog 27 := fun args w => by kernel_rfl
theorem call29 : Hr.Callable Try.prog 29 := fun args w => by kernel_rfl

theorem law8_err (c : Cost) (l l2 : List Note) (A B : Option Addr) (ca cb : Nat) (W : World) (hr : Rd W A 7 (l.map Note.enc)) (hr2 : Rd W B 7 (l2.map Note.enc)) (hca : l.length ≤ ca) (hcb : l2.length ≤ cb) (a b : List Note) (ha : a = l.take 16) (hb : b = l2.take 12) (he : (firstNZ [wrongL a, costB c]) ≠ 0) : Calls Try.prog 8 #[.agg #[.slice A l.length ca, .slice B l2.length cb], c.val] W (Hr.Just W (.bool true)) := by
  have hra := rd_take hr ha
  have hrb := rd_take hr2 hb
  have hla : a.length = min l.length 16 := by rw [ha]; simp [Nat.min_comm]
  have hlb : b.length = min l2.length 12 := by rw [hb]; simp [Nat.min_comm]
  refine Just.of_ret ?_
  refine enterA (X := nX) (vs := [.agg #[.slice A l.length ca, .slice B l2.length cb], c.val]) Try.func8 Try.ntmps8 rfl rfl Mem.nil ?_
  refine run_seq ?_
  refine run_region ?_
  refine run_h (.none rfl) (h_box rfl rfl rfl rfl rfl) ?_
  rintro b2 -
  refine run_h (.none rfl) (h_box rfl rfl rfl rfl rfl) ?_
  rintro b3 -
  refine run_q (.none rfl) rfl rfl (q_assign rfl rfl) ?_
  refine run_nil ?_
  refine run_seq ?_
  refine run_draw [(0, 0), (1, 0), (2, 0), (3, 0), (4, 0), (5, 0), (6, 0), (7, 0), (8, 0), (9, 0), (10, 0), (11, 0), (12, 0), (13, 0), (14, 0), (15, 0)] mixed (by kernel_rfl) .refl ?_
  refine d_q rfl rfl (.none rfl) rfl rfl (q_fieldB (d := 0) rfl Try.underlying24 rfl rfl sz22 rfl) ?_
  refine d_q rfl rfl (.none rfl) rfl rfl (q_loadB rfl one22 rfl (.there Sel.here) rfl) ?_
  refine d_q rfl rfl (.none rfl) rfl rfl (q_fieldB (d := 0) rfl Try.underlying24 rfl rfl sz22 rfl) ?_
  refine d_q rfl rfl (.none rfl) rfl rfl (q_loadB rfl one22 rfl (.there Sel.here) rfl) ?_
  refine d_q rfl rfl (.none rfl) rfl rfl (q_len rfl Try.underlying22 rfl) ?_
  refine d_q rfl rfl (.none rfl) rfl rfl (q_min2 rfl rfl rfl) ?_
  refine d_q rfl rfl (.none rfl) rfl rfl (q_sliceH rfl Try.underlying22 sz47 rfl rfl (by omega)) ?_
  refine d_q rfl rfl (.none rfl) rfl rfl (q_fieldB (d := 1) rfl Try.underlying24 rfl rfl sz22 rfl) ?_
  refine d_q rfl rfl (.none rfl) rfl rfl (q_loadB rfl one22 rfl (.there Sel.here) rfl) ?_
  refine d_q rfl rfl (.none rfl) rfl rfl (q_fieldB (d := 1) rfl Try.underlying24 rfl rfl sz22 rfl) ?_
  refine d_q rfl rfl (.none rfl) rfl rfl (q_loadB rfl one22 rfl (.there Sel.here) rfl) ?_
  refine d_q rfl rfl (.none rfl) rfl rfl (q_len rfl Try.underlying22 rfl) ?_
  refine d_q rfl rfl (.none rfl) rfl rfl (q_min2 rfl rfl rfl) ?_
  refine d_q rfl rfl (.none rfl) rfl rfl (q_sliceH rfl Try.underlying22 sz47 rfl rfl (by omega)) ?_
  refine d_q rfl rfl (.none rfl) rfl rfl (q_assign rfl rfl) ?_
  refine d_q rfl rfl (.none rfl) rfl rfl (q_assign rfl rfl) ?_
  refine d_nil ?_
  refine run_sub (subMk (.cons (s := 3) rfl (.cons (s := 4) rfl (.cons (s := 5) rfl (.cons (s := 6) rfl .nil)))) .refl) ?_
  refine run_seq ?_
  refine run_sub (subMk (.cons (s := 3) rfl (.cons (s := 4) rfl (.cons' (s := 5) (v' := .slice A a.length ca) rfl (by rw [hla]; congr 1; omega) (.cons' (s := 6) (v' := .slice B b.length cb) rfl (by rw [hlb]; congr 1; omega) .nil)))) .refl) ?_
  refine run_region ?_
  refine run_q (.none rfl) rfl rfl (q_move rfl rfl) ?_
  refine run_q (.none rfl) rfl rfl (q_loadBN rfl agg26 rfl Sel.here (.cons rfl (.cons rfl (.cons rfl (.cons rfl (.cons rfl CellsAt.nil))))) rfl) ?_
  refine run_q (.none rfl) rfl rfl (q_call rfl call23 (.cons rfl (.cons rfl Evs.nil)) (fun w hk hm => new_err c a A ca w (hra.kept0 hk) (by omega) he)) ?_
  refine run_q (.none rfl) rfl rfl (q_move rfl rfl) ?_
  refine run_q (.none rfl) rfl rfl (q_extract rfl rfl rfl) ?_
  refine run_q (.none rfl) rfl rfl (q_extract rfl rfl rfl) ?_
  refine run_q (.none rfl) rfl rfl (q_assign rfl rfl) ?_
  refine run_q (.none rfl) rfl rfl (q_assign rfl rfl) ?_
  refine run_nil ?_
  refine run_sub (subMk (.cons (s := 3) rfl (.cons (s := 4) rfl (.cons (s := 5) rfl (.cons (s := 6) rfl (.cons (s := 7) rfl (.cons (s := 8) rfl .nil)))))) .refl) ?_
  refine run_seq ?_
  refine run_seq ?_
  refine run_region ?_
  refine run_q (.none rfl) rfl rfl (q_call rfl call14 Evs.nil (fun w hk hm => known_just w)) ?_
  refine run_q (.none rfl) rfl rfl (q_not rfl rfl) ?_
  refine run_nil ?_
  refine run_condF rfl rfl ?_
  refine run_skip ?_
  refine run_seq ?_
  refine run_region ?_
  refine run_q (.none rfl) rfl rfl (q_move rfl rfl) ?_
  refine run_q (.none rfl) rfl rfl (q_call rfl call15 (.cons rfl Evs.nil) (fun w hk hm => bad_just a A a.length ca w (hra.kept0 hk) rfl (by omega))) ?_
  refine run_q (.none rfl) rfl rfl (q_assign rfl rfl) ?_
  refine run_nil ?_
  refine run_sub (subMk (.cons (s := 3) rfl (.cons (s := 4) rfl (.cons (s := 5) rfl (.cons (s := 6) rfl (.cons (s := 7) rfl (.cons (s := 8) rfl (.cons (s := 9) rfl .nil))))))) .refl) ?_
  refine run_seq ?_
  refine run_seq ?_
  refine run_region ?_
  refine run_q (.none rfl) rfl rfl (q_move rfl rfl) ?_
  refine run_q (.none rfl) rfl rfl (q_eql rfl rfl rfl) ?_
  refine run_nil ?_
  refine run_cond rfl (fun g43 => ?_) (fun g43 => ?_)
  · have g43' := g43
    try simp only [decide_eq_true_eq, decide_eq_false_iff_not, beq_iff_eq, beq_eq_false_iff_ne, bne_iff_ne, bne_eq_false_iff_eq, Bool.not_eq_true', Bool.not_eq_false', ne_eq, Int.not_lt, Int.not_le, Decidable.not_not] at g43'
    refine run_region ?_
    refine run_q (.none rfl) rfl rfl (q_loadBN rfl agg26 rfl Sel.here (.cons rfl (.cons rfl (.cons rfl (.cons rfl (.cons rfl CellsAt.nil))))) rfl) ?_
    refine run_q (.none rfl) rfl rfl (q_call rfl call16 (.cons rfl Evs.nil) (fun w hk hm => badCosts_just c w)) ?_
    refine run_q (.none rfl) rfl rfl (q_assign rfl rfl) ?_
    refine run_nil ?_
    refine run_sub (subMk (.cons (s := 3) rfl (.cons (s := 4) rfl (.cons (s := 5) rfl (.cons (s := 6) rfl (.cons (s := 7) rfl (.cons (s := 8) rfl (.cons (s := 9) rfl .nil))))))) .refl) ?_
    refine run_seq ?_
    refine run_seq ?_
    refine run_region ?_
    refine run_q (.none rfl) rfl rfl (q_move rfl rfl) ?_
    refine run_q (.none rfl) rfl rfl (q_move rfl rfl) ?_
    refine run_q (.none rfl) rfl rfl (q_neq rfl rfl rfl) ?_
    refine run_q (.none rfl) rfl rfl (q_move rfl rfl) ?_
    refine run_split 49 rfl (fun g49 => ?_) (fun g49 => ?_)
    · have g49' := g49
      try simp only [decide_eq_true_eq, decide_eq_false_iff_not, beq_iff_eq, beq_eq_false_iff_ne, bne_iff_ne, bne_eq_false_iff_eq, Bool.not_eq_true', Bool.not_eq_false', ne_eq, Int.not_lt, Int.not_le, Decidable.not_not] at g49'
      refine run_off (.no rfl rfl rfl g49) rfl rfl ?_
      refine run_off (.no rfl rfl rfl g49) rfl rfl ?_
      refine run_q (.none rfl) rfl rfl (q_pickT rfl rfl g49 rfl) ?_
      refine run_nil ?_
      refine run_sub (subMk (.cons (s := 3) rfl (.cons (s := 4) rfl (.cons (s := 5) rfl (.cons (s := 6) rfl (.cons (s := 7) rfl (.cons (s := 8) rfl (.cons (s := 9) rfl (.cons (s := 52) rfl .nil)))))))) .refl) ?_
      refine run_condT rfl rfl ?_
      refine run_seq ?_
      refine run_region ?_
      refine run_q (.none rfl) rfl rfl (q_move rfl rfl) ?_
      refine run_q (.none rfl) rfl rfl (q_move rfl rfl) ?_
      refine run_q (.none rfl) rfl rfl (q_eql rfl rfl rfl) ?_
      refine run_q (.none rfl) rfl rfl (q_move rfl rfl) ?_
      refine run_q (.on rfl rfl rfl (by simp_all [firstNZ])) rfl rfl (q_move rfl rfl) ?_
      refine run_q (.on rfl rfl rfl (by simp_all [firstNZ])) rfl rfl (q_eqlPtr rfl rfl rfl Try.underlying54) ?_
      refine run_q (.none rfl) rfl rfl (q_pickT rfl rfl (by simp_all [firstNZ]) rfl) ?_
      refine run_q (.none rfl) rfl rfl (q_assign rfl rfl) ?_
      refine run_nil ?_
      refine run_sub (subMk (.cons (s := 3) rfl (.cons (s := 4) rfl (.cons (s := 5) rfl (.cons (s := 6) rfl (.cons (s := 7) rfl .nil))))) .refl) ?_
      refine run_ret ?_
      exact end1 rfl rfl (by simp_all [firstNZ])
    · have g49' := g49
      try simp only [decide_eq_true_eq, decide_eq_false_iff_not, beq_iff_eq, beq_eq_false_iff_ne, bne_iff_ne, bne_eq_false_iff_eq, Bool.not_eq_true', Bool.not_eq_false', ne_eq, Int.not_lt, Int.not_le, Decidable.not_not] at g49'
      refine run_q (.on rfl rfl rfl g49) rfl rfl (q_move rfl rfl) ?_
      refine run_q (.on rfl rfl rfl g49) rfl rfl (q_neq rfl rfl rfl) ?_
      refine run_q (.none rfl) rfl rfl (q_pickF rfl rfl g49 rfl) ?_
      refine run_nil ?_
      refine run_sub (subMk (.cons (s := 3) rfl (.cons (s := 4) rfl (.cons (s := 5) rfl (.cons (s := 6) rfl (.cons (s := 7) rfl (.cons (s := 8) rfl (.cons (s := 9) rfl (.cons (s := 52) rfl .nil)))))))) .refl) ?_
      refine run_condT rfl (by simp_all [firstNZ]) ?_
      refine run_seq ?_
      refine run_region ?_
      refine run_q (.none rfl) rfl rfl (q_move rfl rfl) ?_
      refine run_q (.none rfl) rfl rfl (q_move rfl rfl) ?_
      refine run_q (.none rfl) rfl rfl (q_eql rfl rfl rfl) ?_
      refine run_q (.none rfl) rfl rfl (q_move rfl rfl) ?_
      refine run_q (.on rfl rfl rfl (by simp_all [firstNZ])) rfl rfl (q_move rfl rfl) ?_
      refine run_q (.on rfl rfl rfl (by simp_all [firstNZ])) rfl rfl (q_eqlPtr rfl rfl rfl Try.underlying54) ?_
      refine run_q (.none rfl) rfl rfl (q_pickT rfl rfl (by simp_all [firstNZ]) rfl) ?_
      refine run_q (.none rfl) rfl rfl (q_assign rfl rfl) ?_
      refine run_nil ?_
      refine run_sub (subMk (.cons (s := 3) rfl (.cons (s := 4) rfl (.cons (s := 5) rfl (.cons (s := 6) rfl (.cons (s := 7) rfl .nil))))) .refl) ?_
      refine run_ret ?_
      exact end1 rfl rfl (by simp_all [firstNZ])
  · have g43' := g43
    try simp only [decide_eq_true_eq, decide_eq_false_iff_not, beq_iff_eq, beq_eq_false_iff_ne, bne_iff_ne, bne_eq_false_iff_eq, Bool.not_eq_true', Bool.not_eq_false', ne_eq, Int.not_lt, Int.not_le, Decidable.not_not] at g43'
    refine run_skip ?_
    refine run_seq ?_
    refine run_seq ?_
    refine run_region ?_
    refine run_q (.none rfl) rfl rfl (q_move rfl rfl) ?_
    refine run_q (.none rfl) rfl rfl (q_move rfl rfl) ?_
    refine run_q (.none rfl) rfl rfl (q_neq rfl rfl rfl) ?_
    refine run_q (.none rfl) rfl rfl (q_move rfl rfl) ?_
    refine run_split 49 rfl (fun g49 => ?_) (fun g49 => ?_)
    · have g49' := g49
      try simp only [decide_eq_true_eq, decide_eq_false_iff_not, beq_iff_eq, beq_eq_false_iff_ne, bne_iff_ne, bne_eq_false_iff_eq, Bool.not_eq_true', Bool.not_eq_false', ne_eq, Int.not_lt, Int.not_le, Decidable.not_not] at g49'
      refine run_off (.no rfl rfl rfl g49) rfl rfl ?_
      refine run_off (.no rfl rfl rfl g49) rfl rfl ?_
      refine run_q (.none rfl) rfl rfl (q_pickT rfl rfl g49 rfl) ?_
      refine run_nil ?_
      refine run_sub (subMk (.cons (s := 3) rfl (.cons (s := 4) rfl (.cons (s := 5) rfl (.cons (s := 6) rfl (.cons (s := 7) rfl (.cons (s := 8) rfl (.cons (s := 9) rfl (.cons (s := 52) rfl .nil)))))))) .refl) ?_
      refine run_condT rfl rfl ?_
      refine run_seq ?_
      refine run_region ?_
      refine run_q (.none rfl) rfl rfl (q_move rfl rfl) ?_
      refine run_q (.none rfl) rfl rfl (q_move rfl rfl) ?_
      refine run_q (.none rfl) rfl rfl (q_eql rfl rfl rfl) ?_
      refine run_q (.none rfl) rfl rfl (q_move rfl rfl) ?_
      refine run_q (.on rfl rfl rfl (by simp_all [firstNZ])) rfl rfl (q_move rfl rfl) ?_
      refine run_q (.on rfl rfl rfl (by simp_all [firstNZ])) rfl rfl (q_eqlPtr rfl rfl rfl Try.underlying54) ?_
      refine run_q (.none rfl) rfl rfl (q_pickT rfl rfl (by simp_all [firstNZ]) rfl) ?_
      refine run_q (.none rfl) rfl rfl (q_assign rfl rfl) ?_
      refine run_nil ?_
      refine run_sub (subMk (.cons (s := 3) rfl (.cons (s := 4) rfl (.cons (s := 5) rfl (.cons (s := 6) rfl (.cons (s := 7) rfl .nil))))) .refl) ?_
      refine run_ret ?_
      exact end1 rfl rfl (by simp_all [firstNZ])
    · have g49' := g49
      try simp only [decide_eq_true_eq, decide_eq_false_iff_not, beq_iff_eq, beq_eq_false_iff_ne, bne_iff_ne, bne_eq_false_iff_eq, Bool.not_eq_true', Bool.not_eq_false', ne_eq, Int.not_lt, Int.not_le, Decidable.not_not] at g49'
      refine run_q (.on rfl rfl rfl g49) rfl rfl (q_move rfl rfl) ?_
      refine run_q (.on rfl rfl rfl g49) rfl rfl (q_neq rfl rfl rfl) ?_
      refine run_q (.none rfl) rfl rfl (q_pickF rfl rfl g49 rfl) ?_
      refine run_nil ?_
      refine run_sub (subMk (.cons (s := 3) rfl (.cons (s := 4) rfl (.cons (s := 5) rfl (.cons (s := 6) rfl (.cons (s := 7) rfl (.cons (s := 8) rfl (.cons (s := 9) rfl (.cons (s := 52) rfl .nil)))))))) .refl) ?_
      refine run_condT rfl (by simp_all [firstNZ]) ?_
      refine run_seq ?_
      refine run_region ?_
      refine run_q (.none rfl) rfl rfl (q_move rfl rfl) ?_
      refine run_q (.none rfl) rfl rfl (q_move rfl rfl) ?_
      refine run_q (.none rfl) rfl rfl (q_eql rfl rfl rfl) ?_
      refine run_q (.none rfl) rfl rfl (q_move rfl rfl) ?_
      refine run_q (.on rfl rfl rfl (by simp_all [firstNZ])) rfl rfl (q_move rfl rfl) ?_
      refine run_q (.on rfl rfl rfl (by simp_all [firstNZ])) rfl rfl (q_eqlPtr rfl rfl rfl Try.underlying54) ?_
      refine run_q (.none rfl) rfl rfl (q_pickT rfl rfl (by simp_all [firstNZ]) rfl) ?_
      refine run_q (.none rfl) rfl rfl (q_assign rfl rfl) ?_
      refine run_nil ?_
      refine run_sub (subMk (.cons (s := 3) rfl (.cons (s := 4) rfl (.cons (s := 5) rfl (.cons (s := 6) rfl (.cons (s := 7) rfl .nil))))) .refl) ?_
      refine run_ret ?_
      exact end1 rfl rfl (by simp_all [firstNZ])

set_option maxHeartbeats 4000000 in
set_option maxRecDepth 100000 in
theorem law8_ok (c : Cost) (l l2 : List Note) (A B : Option Addr) (ca cb : Nat) (W : World) (hr : Rd W A 7 (l.map Note.enc)) (hr2 : Rd W B 7 (l2.map Note.enc)) (hca : l.length ≤ ca) (hcb : l2.length ≤ cb) (a b : List Note) (ha : a = l.take 16) (hb : b = l2.take 12) (hwa : wrongL a = 0) (hcc : costB c = 0) : Calls Try.prog 8 #[.agg #[.slice A l.length ca, .slice B l2.length cb], c.val] W (Hr.Just W (.bool true)) := by
  have hra := rd_take hr ha
  have hrb := rd_take hr2 hb
  have hla : a.length = min l.length 16 := by rw [ha]; simp [Nat.min_comm]
  have hlb : b.length = min l2.length 12 := by rw [hb]; simp [Nat.min_comm]
  obtain ⟨hna, -⟩ := wrongL_ok hwa
  have hc := costB_ok hcc
  refine Just.of_ret ?_
  refine enterA (X := nX) (vs := [.agg #[.slice A l.length ca, .slice B l2.length cb], c.val]) Try.func8 Try.ntmps8 rfl rfl Mem.nil ?_
  refine run_seq ?_
  refine run_region ?_
  refine run_h (.none rfl) (h_box rfl rfl rfl rfl rfl) ?_
  rintro b2 -
  refine run_h (.none rfl) (h_box rfl rfl rfl rfl rfl) ?_
  rintro b3 -
  refine run_q (.none rfl) rfl rfl (q_assign rfl rfl) ?_
  refine run_nil ?_
  refine run_seq ?_
  refine run_draw [(0, 0), (1, 0), (2, 0), (3, 0), (4, 0), (5, 0), (6, 0), (7, 0), (8, 0), (9, 0), (10, 0), (11, 0), (12, 0), (13, 0), (14, 0), (15, 0)] mixed (by kernel_rfl) .refl ?_
  refine d_q rfl rfl (.none rfl) rfl rfl (q_fieldB (d := 0) rfl Try.underlying24 rfl rfl sz22 rfl) ?_
  refine d_q rfl rfl (.none rfl) rfl rfl (q_loadB rfl one22 rfl (.there Sel.here) rfl) ?_
  refine d_q rfl rfl (.none rfl) rfl rfl (q_fieldB (d := 0) rfl Try.underlying24 rfl rfl sz22 rfl) ?_
  refine d_q rfl rfl (.none rfl) rfl rfl (q_loadB rfl one22 rfl (.there Sel.here) rfl) ?_
  refine d_q rfl rfl (.none rfl) rfl rfl (q_len rfl Try.underlying22 rfl) ?_
  refine d_q rfl rfl (.none rfl) rfl rfl (q_min2 rfl rfl rfl) ?_
  refine d_q rfl rfl (.none rfl) rfl rfl (q_sliceH rfl Try.underlying22 sz47 rfl rfl (by omega)) ?_
  refine d_q rfl rfl (.none rfl) rfl rfl (q_fieldB (d := 1) rfl Try.underlying24 rfl rfl sz22 rfl) ?_
  refine d_q rfl rfl (.none rfl) rfl rfl (q_loadB rfl one22 rfl (.there Sel.here) rfl) ?_
  refine d_q rfl rfl (.none rfl) rfl rfl (q_fieldB (d := 1) rfl Try.underlying24 rfl rfl sz22 rfl) ?_
  refine d_q rfl rfl (.none rfl) rfl rfl (q_loadB rfl one22 rfl (.there Sel.here) rfl) ?_
  refine d_q rfl rfl (.none rfl) rfl rfl (q_len rfl Try.underlying22 rfl) ?_
  refine d_q rfl rfl (.none rfl) rfl rfl (q_min2 rfl rfl rfl) ?_
  refine d_q rfl rfl (.none rfl) rfl rfl (q_sliceH rfl Try.underlying22 sz47 rfl rfl (by omega)) ?_
  refine d_q rfl rfl (.none rfl) rfl rfl (q_assign rfl rfl) ?_
  refine d_q rfl rfl (.none rfl) rfl rfl (q_assign rfl rfl) ?_
  refine d_nil ?_
  refine run_sub (subMk (.cons (s := 3) rfl (.cons (s := 4) rfl (.cons (s := 5) rfl (.cons (s := 6) rfl .nil)))) .refl) ?_
  refine run_seq ?_
  refine run_sub (subMk (.cons (s := 3) rfl (.cons (s := 4) rfl (.cons' (s := 5) (v' := .slice A a.length ca) rfl (by rw [hla]; congr 1; omega) (.cons' (s := 6) (v' := .slice B b.length cb) rfl (by rw [hlb]; congr 1; omega) .nil)))) .refl) ?_
  refine run_region ?_
  refine run_q (.none rfl) rfl rfl (q_move rfl rfl) ?_
  refine run_q (.none rfl) rfl rfl (q_loadBN rfl agg26 rfl Sel.here (.cons rfl (.cons rfl (.cons rfl (.cons rfl (.cons rfl CellsAt.nil))))) rfl) ?_
  refine run_h (.none rfl) (h_call rfl rfl rfl call23 (.cons rfl (.cons rfl Evs.nil)) (fun w hk hm => new_ok c a A ca w (hra.kept0 hk) (by omega) hwa hcc)) ?_
  rintro ⟨v, m⟩ ⟨p, S, cs, R, cr, rfl, hcs, rfl⟩
  show Run _ _ _ _ _ _ _ ⟨(35, .tuple #[.pointer (some ⟨p, 0, none⟩), .int .i64 0]) :: _, _ :: _ :: _ :: _⟩
  refine run_q (.none rfl) rfl rfl (q_move rfl rfl) ?_
  refine run_q (.none rfl) rfl rfl (q_extract rfl rfl rfl) ?_
  refine run_q (.none rfl) rfl rfl (q_extract rfl rfl rfl) ?_
  refine run_q (.none rfl) rfl rfl (q_assign rfl rfl) ?_
  refine run_q (.none rfl) rfl rfl (q_assign rfl rfl) ?_
  refine run_nil ?_
  refine run_sub (subMk (.cons (s := 3) rfl (.cons (s := 4) rfl (.cons (s := 5) rfl (.cons (s := 6) rfl (.cons (s := 7) rfl (.cons (s := 8) rfl .nil)))))) .refl) ?_
  refine run_seq ?_
  refine run_seq ?_
  refine run_region ?_
  refine run_q (.none rfl) rfl rfl (q_call rfl call14 Evs.nil (fun w hk hm => known_just w)) ?_
  refine run_q (.none rfl) rfl rfl (q_not rfl rfl) ?_
  refine run_nil ?_
  refine run_condF rfl rfl ?_
  refine run_skip ?_
  refine run_seq ?_
  refine run_region ?_
  refine run_q (.none rfl) rfl rfl (q_move rfl rfl) ?_
  refine run_q (.none rfl) rfl rfl (q_call rfl call15 (.cons rfl Evs.nil) (fun w hk hm => bad_just a A a.length ca w (hra.kept0 hk) rfl (by omega))) ?_
  refine run_q (.none rfl) rfl rfl (q_assign rfl rfl) ?_
  refine run_nil ?_
  refine run_sub (subMk (.cons (s := 3) rfl (.cons (s := 4) rfl (.cons (s := 5) rfl (.cons (s := 6) rfl (.cons (s := 7) rfl (.cons (s := 8) rfl (.cons (s := 9) rfl .nil))))))) .refl) ?_
  refine run_seq ?_
  refine run_seq ?_
  refine run_region ?_
  refine run_q (.none rfl) rfl rfl (q_move rfl rfl) ?_
  refine run_q (.none rfl) rfl rfl (q_eql rfl rfl rfl) ?_
  refine run_nil ?_
  refine run_condT rfl (by simp [hwa]) ?_
  refine run_region ?_
  refine run_q (.none rfl) rfl rfl (q_loadBN rfl agg26 rfl (.there (.there (.there Sel.here))) (.cons rfl (.cons rfl (.cons rfl (.cons rfl (.cons rfl CellsAt.nil))))) rfl) ?_
  refine run_q (.none rfl) rfl rfl (q_call rfl call16 (.cons rfl Evs.nil) (fun w hk hm => badCosts_just c w)) ?_
  refine run_q (.none rfl) rfl rfl (q_assign rfl rfl) ?_
  refine run_nil ?_
  refine run_sub (subMk (.cons (s := 3) rfl (.cons (s := 4) rfl (.cons (s := 5) rfl (.cons (s := 6) rfl (.cons (s := 7) rfl (.cons (s := 8) rfl (.cons (s := 9) rfl .nil))))))) .refl) ?_
  refine run_seq ?_
  refine run_seq ?_
  refine run_region ?_
  refine run_q (.none rfl) rfl rfl (q_move rfl rfl) ?_
  refine run_q (.none rfl) rfl rfl (q_move rfl rfl) ?_
  refine run_q (.none rfl) rfl rfl (q_neq rfl rfl rfl) ?_
  refine run_q (.none rfl) rfl rfl (q_move rfl rfl) ?_
  refine run_q (.on rfl rfl rfl (by simp [hcc])) rfl rfl (q_move rfl rfl) ?_
  refine run_q (.on rfl rfl rfl (by simp [hcc])) rfl rfl (q_neq rfl rfl rfl) ?_
  refine run_q (.none rfl) rfl rfl (q_pickF rfl rfl (by simp [hcc]) rfl) ?_
  refine run_nil ?_
  refine run_sub (subMk (.cons (s := 3) rfl (.cons (s := 4) rfl (.cons (s := 5) rfl (.cons (s := 6) rfl (.cons (s := 7) rfl (.cons (s := 8) rfl (.cons (s := 9) rfl (.cons (s := 52) rfl .nil)))))))) .refl) ?_
  refine run_condF rfl (by simp [hcc]) ?_
  refine run_skip ?_
  refine run_seq ?_
  refine run_region ?_
  refine run_q (.none rfl) rfl rfl (q_assign rfl rfl) ?_
  refine run_nil ?_
  refine run_sub (subMk (.cons (s := 3) rfl (.cons (s := 4) rfl (.cons (s := 5) rfl (.cons (s := 6) rfl (.cons (s := 7) rfl (.cons (s := 10) rfl .nil)))))) .refl) ?_
  refine run_seq ?_
  refine run_seq ?_
  refine run_region ?_
  refine run_q (.none rfl) rfl rfl (q_move rfl rfl) ?_
  refine run_q (.none rfl) rfl rfl (q_call rfl call24 (.cons rfl Evs.nil) (fun w hk hm => heard_just c a [] p S none R cs 0 cr w (rd_lis (Sel.here.holds hm)))) ?_
  refine run_q (.none rfl) rfl rfl (q_neq rfl rfl rfl) ?_
  refine run_q (.none rfl) rfl rfl (q_move rfl rfl) ?_
  refine run_q (.on rfl rfl rfl rfl) rfl rfl (q_move rfl rfl) ?_
  refine run_q (.on rfl rfl rfl rfl) rfl rfl (q_call rfl call25 (.cons rfl Evs.nil) (fun w hk hm => passed_just c a [] p S none R cs 0 cr w (rd_lis (Sel.here.holds hm)) (own_rd ((Sel.there (Sel.there Sel.here)).holds hm)) (by omega))) ?_
  refine run_q (.on rfl rfl rfl rfl) rfl rfl (q_neq rfl rfl rfl) ?_
  refine run_q (.none rfl) rfl rfl (q_pickF rfl rfl rfl rfl) ?_
  refine run_q (.none rfl) rfl rfl (q_move rfl rfl) ?_
  refine run_q (.on rfl rfl rfl (by rw [passV_nil hc]; rfl)) rfl rfl (q_move rfl rfl) ?_
  refine run_h (.on rfl rfl rfl (by rw [passV_nil hc]; rfl)) (h_call rfl rfl rfl call26 (.cons rfl Evs.nil) (fun w hk hm => pairs_ret c a [] p S none R cs 0 cr w (rd_lis (Sel.here.holds hm)) (own_rd ((Sel.there Sel.here).holds hm)) (.inl rfl) (own_rd ((Sel.there (Sel.there Sel.here)).holds hm)) hc hna (by simp) (by omega) (by simp) hcs)) ?_
  rintro ⟨v, m⟩ ⟨A70, c70, rfl, rfl⟩
  show Run _ _ _ _ _ _ _ ⟨(70, .slice A70 (path c (a.take (passV c a [])) [] 0 0).length c70) :: _, _ :: _⟩
  refine run_q (.on rfl rfl rfl (by rw [passV_nil hc]; rfl)) rfl rfl (q_len rfl Try.underlying28 rfl) ?_
  refine run_q (.on rfl rfl rfl (by rw [passV_nil hc]; rfl)) rfl rfl (q_neq rfl rfl rfl) ?_
  refine run_q (.none rfl) rfl rfl (q_pickF rfl rfl (by rw [passV_nil hc]; rfl) rfl) ?_
  refine run_nil ?_
  refine run_sub (subMk (.cons (s := 3) rfl (.cons (s := 4) rfl (.cons (s := 5) rfl (.cons (s := 6) rfl (.cons (s := 7) rfl (.cons (s := 10) rfl (.cons (s := 73) rfl .nil))))))) .refl) ?_
  refine run_condF rfl (by rw [passV_nil hc, path_nil]; rfl) ?_
  refine run_skip ?_
  refine run_seq ?_
  refine run_seq ?_
  refine run_region ?_
  refine run_q (.none rfl) rfl rfl (q_assign rfl rfl) ?_
  refine run_nil ?_
  refine run_block ?_
  refine run_sub (subMk .refl (MemSub.nilOwn 47 7)) ?_
  refine run_sub (subMk .refl (MemSub.nilOwn 47 7)) ?_
  refine run_sub (subMk (.cons (s := 11) rfl (.cons (s := 10) rfl (.cons (s := 3) rfl (.cons (s := 4) rfl (.cons (s := 5) rfl (.cons (s := 6) rfl (.cons (s := 7) rfl .nil))))))) (.cons (.there (.there (.there Sel.here))) .refl (.cons (.there Sel.here) .refl (.cons (.there (.there (.there Sel.here))) .refl (.cons Sel.here .refl (.cons Sel.here .refl (.cons Sel.here .refl (.cons Sel.here .refl (.cons Sel.here .refl .nil))))))))) ?_
  refine run_loopC2M4 (ι := Nat × (Option Addr) × Nat × (Option Addr) × Nat × (Option Addr) × Nat) (fun gg => gg.1 ≤ b.length) (fun gg => .int .i64 (gg.1 : Int)) (fun gg => .slice gg.2.2.2.2.2.1 (hK b gg.1).length gg.2.2.2.2.2.2) (fun gg => .blk p 79 [(0, .slice S a.length cs), (1, .slice gg.2.1 (hK b gg.1).length gg.2.2.1), (2, .int .i64 c.wrong), (3, .int .i64 c.missing), (4, .int .i64 c.extra), (5, .int .i64 c.time), (6, .int .i64 c.late), (7, .slice gg.2.2.2.1 (a.length + 1) gg.2.2.2.2.1)]) (fun gg => .own 47 7 gg.2.1 (hK b gg.1).length gg.2.2.1 ((hK b gg.1).map Note.enc)) (fun gg => .own 3 1 gg.2.2.2.1 (a.length + 1) gg.2.2.2.2.1 ((colV c a (hK b gg.1)).map encI)) (fun gg => .own 47 7 gg.2.2.2.2.2.1 (hK b gg.1).length gg.2.2.2.2.2.2 ((hK b gg.1).map Note.enc)) (fun gg => b.length - gg.1) (0, none, 0, R, cr, none, 0) (by (try dsimp only); exact (by omega)) rfl rfl (.blk (.cons (s := 0) rfl (.cons (s := 1) rfl (.cons (s := 2) rfl (.cons (s := 3) rfl (.cons (s := 4) rfl (.cons (s := 5) rfl (.cons (s := 6) rfl (.cons (s := 7) rfl (.nil)))))))))) (.own rfl rfl rfl rfl) (.own rfl rfl rfl rfl) (.own rfl rfl rfl rfl) ?_
  rintro ⟨i, H, ch, R2, cr2, Q, cq⟩ hi
  (try dsimp only at hi)
  show Run _ _ _ _ _ _ _ ⟨(11, .int .i64 (i : Int)) :: (10, .slice Q (hK b i).length cq) :: _, .blk p 79 [(0, .slice S a.length cs), (1, .slice H (hK b i).length ch), (2, .int .i64 c.wrong), (3, .int .i64 c.missing), (4, .int .i64 c.extra), (5, .int .i64 c.time), (6, .int .i64 c.late), (7, .slice R2 (a.length + 1) cr2)] :: .own 47 7 H (hK b i).length ch ((hK b i).map Note.enc) :: .own 3 1 R2 (a.length + 1) cr2 ((colV c a (hK b i)).map encI) :: .own 47 7 Q (hK b i).length cq ((hK b i).map Note.enc) :: _⟩
  refine run_seq ?_
  refine run_seq ?_
  refine run_region ?_
  refine run_q (.none rfl) rfl rfl (q_move rfl rfl) ?_
  refine run_q (.none rfl) rfl rfl (q_move rfl rfl) ?_
  refine run_q (.none rfl) rfl rfl (q_len rfl Try.underlying22 rfl) ?_
  refine run_q (.none rfl) rfl rfl (q_lss rfl rfl rfl) ?_
  refine run_nil ?_
  refine run_sub (subMk (.cons (s := 3) rfl (.cons (s := 4) rfl (.cons (s := 5) rfl (.cons (s := 6) rfl (.cons (s := 7) rfl (.cons (s := 10) rfl (.cons (s := 11) rfl (.cons (s := 77) rfl .nil)))))))) .refl) ?_
  refine run_cond rfl (fun g77 => ?_) (fun g77 => ?_)
  · have g77' := g77
    try simp only [decide_eq_true_eq, decide_eq_false_iff_not, beq_iff_eq, beq_eq_false_iff_ne, bne_iff_ne, bne_eq_false_iff_eq, Bool.not_eq_true', Bool.not_eq_false', ne_eq, Int.not_lt, Int.not_le, Decidable.not_not] at g77'
    have hok := hK_ok (b := b) i
    have hlen := hK_len (b := b) i
    refine run_skip ?_
    refine run_seq ?_
    refine run_block ?_
    refine run_seq ?_
    refine run_region ?_
    refine run_q (.none rfl) rfl rfl (q_move rfl rfl) ?_
    refine run_q (.none rfl) rfl rfl (q_move rfl rfl) ?_
    refine run_q (.none rfl) rfl rfl (q_move rfl rfl) ?_
    refine run_q (.none rfl) rfl rfl (q_indexS (q := i) rfl Try.underlying22 sz47 rfl rfl (.inp hrb .no) (by simp <;> omega) rfl (by omega)) ?_
    refine run_q (.none rfl) rfl rfl (q_loadE rfl agg47 rfl (.inp hrb .no) (getmap (by omega)) rfl) ?_
    refine run_h (.none rfl) (h_callX [_, _, _, _] _ rfl rfl rfl call27 (.cons rfl (.cons rfl Evs.nil)) ((Sel.perm Sel.here).trans (.cons _ ((Sel.perm (.there (.there (.there (.there Sel.here))))).trans (.cons _ ((Sel.perm Sel.here).trans (.cons _ (Sel.perm Sel.here))))))) (Y := fun _ => atAny [_, _, _, _]) (fun _ _ h => h) (fun w hk hm => listen_ret c a (hK b i) (nth b i) p S H R2 cs ch cr2 w ((hm.perm ((Sel.perm Sel.here).trans (.cons _ ((Sel.perm (.there (.there (.there (.there Sel.here))))).trans (.cons _ ((Sel.perm Sel.here).trans (.cons _ (Sel.perm Sel.here)))))))).give (rs := [_, _, _, _])) hc hna (by omega) (by omega))) ?_
    rintro ⟨v, m⟩ ⟨H1, ch1, R3, cr3, rfl, rfl⟩
    show Run _ _ _ _ _ _ _ ⟨(86, .tuple #[.int .i64 (lisN c a (hK b i) (nth b i)), .int .i64 (lisE (hK b i) (nth b i))]) :: _, _ :: _ :: _ :: _ :: _⟩
    refine run_q (.none rfl) rfl rfl (q_move rfl rfl) ?_
    refine run_q (.none rfl) rfl rfl (q_extract rfl rfl rfl) ?_
    refine run_q (.none rfl) rfl rfl (q_extract rfl rfl rfl) ?_
    refine run_q (.none rfl) rfl rfl (q_assign rfl rfl) ?_
    refine run_q (.none rfl) rfl rfl (q_assign rfl rfl) ?_
    refine run_nil ?_
    refine run_sub (subMk (.cons (s := 3) rfl (.cons (s := 4) rfl (.cons (s := 5) rfl (.cons (s := 6) rfl (.cons (s := 7) rfl (.cons (s := 10) rfl (.cons (s := 11) rfl (.cons (s := 12) rfl (.cons (s := 13) rfl .nil))))))))) .refl) ?_
    refine run_seq ?_
    refine run_region ?_
    refine run_q (.none rfl) rfl rfl (q_assign rfl rfl) ?_
    refine run_nil ?_
    refine run_seq ?_
    refine run_seq ?_
    refine run_region ?_
    refine run_q (.none rfl) rfl rfl (q_move rfl rfl) ?_
    refine run_q (.none rfl) rfl rfl (q_move rfl rfl) ?_
    refine run_q (.none rfl) rfl rfl (q_indexS (q := i) rfl Try.underlying22 sz47 rfl rfl (.inp hrb .no) (by simp <;> omega) rfl (by omega)) ?_
    refine run_q (.none rfl) rfl rfl (q_loadE rfl agg47 rfl (.inp hrb .no) (getmap (by omega)) rfl) ?_
    refine run_q (.none rfl) rfl rfl (q_call rfl call28 (.cons rfl Evs.nil) (fun w hk hm => properR_just (nth b i) w)) ?_
    refine run_q (.none rfl) rfl rfl (q_not rfl rfl) ?_
    refine run_nil ?_
    refine run_sub (subMk (.cons (s := 3) rfl (.cons (s := 4) rfl (.cons (s := 5) rfl (.cons (s := 6) rfl (.cons (s := 7) rfl (.cons (s := 10) rfl (.cons (s := 11) rfl (.cons (s := 12) rfl (.cons (s := 13) rfl (.cons (s := 14) rfl (.cons (s := 94) rfl .nil))))))))))) .refl) ?_
    refine run_cond rfl (fun g94 => ?_) (fun g94 => ?_)
    · have g94' := g94
      try simp only [decide_eq_true_eq, decide_eq_false_iff_not, beq_iff_eq, beq_eq_false_iff_ne, bne_iff_ne, bne_eq_false_iff_eq, Bool.not_eq_true', Bool.not_eq_false', ne_eq, Int.not_lt, Int.not_le, Decidable.not_not] at g94'
      have hE : lisE (hK b i) (nth b i) = 2 := by rw [lisE, if_pos (by simpa using g94)]
      refine run_region ?_
      refine run_q (.none rfl) rfl rfl (q_assign rfl rfl) ?_
      refine run_nil ?_
      refine run_seq ?_
      refine run_seq ?_
      refine run_region ?_
      refine run_q (.none rfl) rfl rfl (q_move rfl rfl) ?_
      refine run_q (.none rfl) rfl rfl (q_move rfl rfl) ?_
      refine run_q (.none rfl) rfl rfl (q_neq rfl rfl rfl) ?_
      refine run_nil ?_
      refine run_sub (subMk (.cons (s := 3) rfl (.cons (s := 4) rfl (.cons (s := 5) rfl (.cons (s := 6) rfl (.cons (s := 7) rfl (.cons (s := 10) rfl (.cons (s := 11) rfl (.cons (s := 12) rfl (.cons (s := 13) rfl (.cons (s := 115) rfl .nil)))))))))) .refl) ?_
      refine run_condF rfl (by rw [hE]; rfl) ?_
      refine run_skip ?_
      refine run_seq ?_
      refine run_seq ?_
      refine run_region ?_
      refine run_q (.none rfl) rfl rfl (q_move rfl rfl) ?_
      refine run_q (.none rfl) rfl rfl (q_neq rfl rfl rfl) ?_
      refine run_nil ?_
      refine run_sub (subMk (.cons (s := 3) rfl (.cons (s := 4) rfl (.cons (s := 5) rfl (.cons (s := 6) rfl (.cons (s := 7) rfl (.cons (s := 10) rfl (.cons (s := 11) rfl (.cons (s := 12) rfl (.cons (s := 117) rfl .nil))))))))) .refl) ?_
      refine run_condT rfl (by rw [hE]; rfl) ?_
      refine run_seq ?_
      refine run_seq ?_
      refine run_region ?_
      refine run_q (.none rfl) rfl rfl (q_move rfl rfl) ?_
      refine run_q (.none rfl) rfl rfl (q_neq rfl rfl rfl) ?_
      refine run_q (.none rfl) rfl rfl (q_move rfl rfl) ?_
      refine run_q (.on rfl rfl rfl (by rw [lisN_no (by rw [hE]; decide)]; rfl)) rfl rfl (q_move rfl rfl) ?_
      refine run_q (.on rfl rfl rfl (by rw [lisN_no (by rw [hE]; decide)]; rfl)) rfl rfl (q_call rfl call24 (.cons rfl Evs.nil) (fun w hk hm => heard_just c a (hK b (i + 1)) p S H1 R3 cs ch1 cr3 w (rd_lis (Sel.here.holds hm)))) ?_
      refine run_q (.on rfl rfl rfl (by rw [lisN_no (by rw [hE]; decide)]; rfl)) rfl rfl (q_move rfl rfl) ?_
      refine run_q (.on rfl rfl rfl (by rw [lisN_no (by rw [hE]; decide)]; rfl)) rfl rfl (q_len rfl Try.underlying22 rfl) ?_
      refine run_q (.on rfl rfl rfl (by rw [lisN_no (by rw [hE]; decide)]; rfl)) rfl rfl (q_neq rfl rfl rfl) ?_
      refine run_q (.none rfl) rfl rfl (q_pickF rfl rfl (by rw [lisN_no (by rw [hE]; decide)]; rfl) rfl) ?_
      refine run_nil ?_
      refine run_sub (subMk (.cons (s := 3) rfl (.cons (s := 4) rfl (.cons (s := 5) rfl (.cons (s := 6) rfl (.cons (s := 7) rfl (.cons (s := 10) rfl (.cons (s := 11) rfl (.cons (s := 12) rfl (.cons (s := 126) rfl .nil))))))))) .refl) ?_
      refine run_condF rfl (by rw [hK_no (by rw [hE]; decide)]; simp) ?_
      refine run_skip ?_
      refine run_exit rfl ?_
      refine run_region ?_
      refine run_q (.none rfl) rfl rfl (q_move rfl rfl) ?_
      refine run_q (.none rfl) rfl rfl (q_add rfl rfl rfl (by omega)) ?_
      refine run_q (.none rfl) rfl rfl (q_assign rfl rfl) ?_
      refine run_nil ?_
      refine run_sub (subMk (.cons (s := 3) rfl (.cons (s := 4) rfl (.cons (s := 5) rfl (.cons (s := 6) rfl (.cons (s := 7) rfl (.cons (s := 10) rfl (.cons (s := 11) rfl .nil))))))) .refl) ?_
      exact run_again (i + 1, H1, ch1, R3, cr3, Q, cq) (by (try dsimp only); exact (by omega)) (by (try dsimp only); omega) (subMk (.cons' (s := 11) rfl rfl (.cons' (s := 10) rfl (by rw [hK_no (by rw [hE]; decide)]) (.cons (s := 3) rfl (.cons (s := 4) rfl (.cons (s := 5) rfl (.cons (s := 6) rfl (.cons (s := 7) rfl .nil))))))) (.cons Sel.here .refl (.cons (.there Sel.here) .refl (.cons (.there Sel.here) .refl (.cons (.there Sel.here) (.own rfl (by rw [hK_no (by rw [hE]; decide)]) rfl (by rw [hK_no (by rw [hE]; decide)])) (.cons (.there Sel.here) .refl (.cons Sel.here .refl (.cons Sel.here .refl (.cons Sel.here .refl .nil)))))))))
    · have g94' := g94
      try simp only [decide_eq_true_eq, decide_eq_false_iff_not, beq_iff_eq, beq_eq_false_iff_ne, bne_iff_ne, bne_eq_false_iff_eq, Bool.not_eq_true', Bool.not_eq_false', ne_eq, Int.not_lt, Int.not_le, Decidable.not_not] at g94'
      have hpx : properB (nth b i) = true := by simpa using g94
      refine run_seq ?_
      refine run_draw [(0, 0), (1, 0), (2, 0), (3, 0), (4, 0), (5, 0), (6, 0), (7, 0), (8, 0), (9, 0), (10, 0), (11, 0), (12, 0), (13, 0), (14, 0), (15, 0), (16, 0), (17, 0)] mixed (by kernel_rfl) .refl ?_
      refine d_q rfl rfl (.none rfl) rfl rfl (q_move rfl rfl) ?_
      refine d_q rfl rfl (.none rfl) rfl rfl (q_len rfl Try.underlying22 rfl) ?_
      refine d_q rfl rfl (.none rfl) rfl rfl (q_gtr rfl rfl rfl) ?_
      refine d_q rfl rfl (.none rfl) rfl rfl (q_move rfl rfl) ?_
      refine d_split 98 rfl (fun g98 => ?_) (fun g98 => ?_)
      · have g98' := g98
        try simp only [decide_eq_true_eq, decide_eq_false_iff_not, beq_iff_eq, beq_eq_false_iff_ne, bne_iff_ne, bne_eq_false_iff_eq, Bool.not_eq_true', Bool.not_eq_false', ne_eq, Int.not_lt, Int.not_le, Decidable.not_not] at g98'
        refine d_q rfl rfl (.on rfl rfl rfl g98) rfl rfl (q_move rfl rfl) ?_
        refine d_q rfl rfl (.on rfl rfl rfl g98) rfl rfl (q_move rfl rfl) ?_
        refine d_q rfl rfl (.on rfl rfl rfl g98) rfl rfl (q_indexS (q := i) rfl Try.underlying22 sz47 rfl rfl (.inp hrb .no) (by simp <;> omega) rfl (by omega)) ?_
        refine d_q rfl rfl (.on rfl rfl rfl g98) rfl rfl (q_fieldAddr (d := 0) rfl Try.underlying47 rfl rfl sz3 rfl) ?_
        refine d_q rfl rfl (.on rfl rfl rfl g98) rfl rfl (q_loadF rfl one3 rfl (.inp hrb .no) (getmap (by omega)) rfl) ?_
        refine d_q rfl rfl (.on rfl rfl rfl g98) rfl rfl (q_move rfl rfl) ?_
        refine d_q rfl rfl (.on rfl rfl rfl g98) rfl rfl (q_move rfl rfl) ?_
        refine d_q rfl rfl (.on rfl rfl rfl g98) rfl rfl (q_len rfl Try.underlying22 rfl) ?_
        refine d_q rfl rfl (.on rfl rfl rfl g98) rfl rfl (q_sub rfl rfl rfl (by omega)) ?_
        refine d_q rfl rfl (.on rfl rfl rfl g98) rfl rfl (q_indexS (q := ((hK b i).length - 1)) rfl Try.underlying22 sz47 rfl rfl (.own (.there (.there (.there (.there Sel.here))))) (by simp <;> omega) (by omega) (by omega)) ?_
        refine d_q rfl rfl (.on rfl rfl rfl g98) rfl rfl (q_fieldAddr (d := 0) rfl Try.underlying47 rfl rfl sz3 rfl) ?_
        refine d_q rfl rfl (.on rfl rfl rfl g98) rfl rfl (q_loadF rfl one3 rfl (.own (.there (.there (.there (.there Sel.here))))) (getmap (by omega)) rfl) ?_
        refine d_q rfl rfl (.on rfl rfl rfl g98) rfl rfl (q_lss rfl rfl rfl) ?_
        refine d_q rfl rfl (.none rfl) rfl rfl (q_pickT rfl rfl g98 rfl) ?_
        refine d_nil ?_
        refine run_sub (subMk (.cons (s := 3) rfl (.cons (s := 4) rfl (.cons (s := 5) rfl (.cons (s := 6) rfl (.cons (s := 7) rfl (.cons (s := 10) rfl (.cons (s := 11) rfl (.cons (s := 12) rfl (.cons (s := 13) rfl (.cons (s := 14) rfl (.cons (s := 112) rfl .nil))))))))))) .refl) ?_
        refine run_cond rfl (fun g112 => ?_) (fun g112 => ?_)
        · have g112' := g112
          try simp only [decide_eq_true_eq, decide_eq_false_iff_not, beq_iff_eq, beq_eq_false_iff_ne, bne_iff_ne, bne_eq_false_iff_eq, Bool.not_eq_true', Bool.not_eq_false', ne_eq, Int.not_lt, Int.not_le, Decidable.not_not] at g112'
          refine run_region ?_
          refine run_q (.none rfl) rfl rfl (q_assign rfl rfl) ?_
          refine run_nil ?_
          refine run_seq ?_
          refine run_seq ?_
          have hE : lisE (hK b i) (nth b i) = 25 := by rw [lisE, if_neg (by simp [hpx]), if_pos (by omega)]
          refine run_region ?_
          refine run_q (.none rfl) rfl rfl (q_move rfl rfl) ?_
          refine run_q (.none rfl) rfl rfl (q_move rfl rfl) ?_
          refine run_q (.none rfl) rfl rfl (q_neq rfl rfl rfl) ?_
          refine run_nil ?_
          refine run_sub (subMk (.cons (s := 3) rfl (.cons (s := 4) rfl (.cons (s := 5) rfl (.cons (s := 6) rfl (.cons (s := 7) rfl (.cons (s := 10) rfl (.cons (s := 11) rfl (.cons (s := 12) rfl (.cons (s := 13) rfl (.cons (s := 115) rfl .nil)))))))))) .refl) ?_
          refine run_condF rfl (by rw [hE]; rfl) ?_
          refine run_skip ?_
          refine run_seq ?_
          refine run_seq ?_
          refine run_region ?_
          refine run_q (.none rfl) rfl rfl (q_move rfl rfl) ?_
          refine run_q (.none rfl) rfl rfl (q_neq rfl rfl rfl) ?_
          refine run_nil ?_
          refine run_sub (subMk (.cons (s := 3) rfl (.cons (s := 4) rfl (.cons (s := 5) rfl (.cons (s := 6) rfl (.cons (s := 7) rfl (.cons (s := 10) rfl (.cons (s := 11) rfl (.cons (s := 12) rfl (.cons (s := 117) rfl .nil))))))))) .refl) ?_
          refine run_condT rfl (by rw [hE]; rfl) ?_
          refine run_seq ?_
          refine run_seq ?_
          refine run_region ?_
          refine run_q (.none rfl) rfl rfl (q_move rfl rfl) ?_
          refine run_q (.none rfl) rfl rfl (q_neq rfl rfl rfl) ?_
          refine run_q (.none rfl) rfl rfl (q_move rfl rfl) ?_
          refine run_q (.on rfl rfl rfl (by rw [lisN_no (by rw [hE]; decide)]; rfl)) rfl rfl (q_move rfl rfl) ?_
          refine run_q (.on rfl rfl rfl (by rw [lisN_no (by rw [hE]; decide)]; rfl)) rfl rfl (q_call rfl call24 (.cons rfl Evs.nil) (fun w hk hm => heard_just c a (hK b (i + 1)) p S H1 R3 cs ch1 cr3 w (rd_lis (Sel.here.holds hm)))) ?_
          refine run_q (.on rfl rfl rfl (by rw [lisN_no (by rw [hE]; decide)]; rfl)) rfl rfl (q_move rfl rfl) ?_
          refine run_q (.on rfl rfl rfl (by rw [lisN_no (by rw [hE]; decide)]; rfl)) rfl rfl (q_len rfl Try.underlying22 rfl) ?_
          refine run_q (.on rfl rfl rfl (by rw [lisN_no (by rw [hE]; decide)]; rfl)) rfl rfl (q_neq rfl rfl rfl) ?_
          refine run_q (.none rfl) rfl rfl (q_pickF rfl rfl (by rw [lisN_no (by rw [hE]; decide)]; rfl) rfl) ?_
          refine run_nil ?_
          refine run_sub (subMk (.cons (s := 3) rfl (.cons (s := 4) rfl (.cons (s := 5) rfl (.cons (s := 6) rfl (.cons (s := 7) rfl (.cons (s := 10) rfl (.cons (s := 11) rfl (.cons (s := 12) rfl (.cons (s := 126) rfl .nil))))))))) .refl) ?_
          refine run_condF rfl (by rw [hK_no (by rw [hE]; decide)]; simp) ?_
          refine run_skip ?_
          refine run_exit rfl ?_
          refine run_region ?_
          refine run_q (.none rfl) rfl rfl (q_move rfl rfl) ?_
          refine run_q (.none rfl) rfl rfl (q_add rfl rfl rfl (by omega)) ?_
          refine run_q (.none rfl) rfl rfl (q_assign rfl rfl) ?_
          refine run_nil ?_
          refine run_sub (subMk (.cons (s := 3) rfl (.cons (s := 4) rfl (.cons (s := 5) rfl (.cons (s := 6) rfl (.cons (s := 7) rfl (.cons (s := 10) rfl (.cons (s := 11) rfl .nil))))))) .refl) ?_
          exact run_again (i + 1, H1, ch1, R3, cr3, Q, cq) (by (try dsimp only); exact (by omega)) (by (try dsimp only); omega) (subMk (.cons' (s := 11) rfl rfl (.cons' (s := 10) rfl (by rw [hK_no (by rw [hE]; decide)]) (.cons (s := 3) rfl (.cons (s := 4) rfl (.cons (s := 5) rfl (.cons (s := 6) rfl (.cons (s := 7) rfl .nil))))))) (.cons Sel.here .refl (.cons (.there Sel.here) .refl (.cons (.there Sel.here) .refl (.cons (.there Sel.here) (.own rfl (by rw [hK_no (by rw [hE]; decide)]) rfl (by rw [hK_no (by rw [hE]; decide)])) (.cons (.there Sel.here) .refl (.cons Sel.here .refl (.cons Sel.here .refl (.cons Sel.here .refl .nil)))))))))
        · have g112' := g112
          try simp only [decide_eq_true_eq, decide_eq_false_iff_not, beq_iff_eq, beq_eq_false_iff_ne, bne_iff_ne, bne_eq_false_iff_eq, Bool.not_eq_true', Bool.not_eq_false', ne_eq, Int.not_lt, Int.not_le, Decidable.not_not] at g112'
          refine run_skip ?_
          refine run_seq ?_
          refine run_seq ?_
          have hE : lisE (hK b i) (nth b i) = 0 := by rw [lisE, if_neg (by simp [hpx]), if_neg (by omega)]
          refine run_region ?_
          refine run_q (.none rfl) rfl rfl (q_move rfl rfl) ?_
          refine run_q (.none rfl) rfl rfl (q_move rfl rfl) ?_
          refine run_q (.none rfl) rfl rfl (q_neq rfl rfl rfl) ?_
          refine run_nil ?_
          refine run_sub (subMk (.cons (s := 3) rfl (.cons (s := 4) rfl (.cons (s := 5) rfl (.cons (s := 6) rfl (.cons (s := 7) rfl (.cons (s := 10) rfl (.cons (s := 11) rfl (.cons (s := 12) rfl (.cons (s := 13) rfl (.cons (s := 115) rfl .nil)))))))))) .refl) ?_
          refine run_condF rfl (by rw [hE]; rfl) ?_
          refine run_skip ?_
          refine run_seq ?_
          refine run_seq ?_
          refine run_region ?_
          refine run_q (.none rfl) rfl rfl (q_move rfl rfl) ?_
          refine run_q (.none rfl) rfl rfl (q_neq rfl rfl rfl) ?_
          refine run_nil ?_
          refine run_sub (subMk (.cons (s := 3) rfl (.cons (s := 4) rfl (.cons (s := 5) rfl (.cons (s := 6) rfl (.cons (s := 7) rfl (.cons (s := 10) rfl (.cons (s := 11) rfl (.cons (s := 12) rfl (.cons (s := 117) rfl .nil))))))))) .refl) ?_
          refine run_condF rfl (by rw [hE]; rfl) ?_
          refine run_skip ?_
          refine run_seq ?_
          refine run_region ?_
          refine run_q (.none rfl) rfl rfl (q_move rfl rfl) ?_
          refine run_q (.none rfl) rfl rfl (q_move rfl rfl) ?_
          refine run_q (.none rfl) rfl rfl (q_move rfl rfl) ?_
          refine run_q (.none rfl) rfl rfl (q_indexS (q := i) rfl Try.underlying22 sz47 rfl rfl (.inp hrb .no) (by simp <;> omega) rfl (by omega)) ?_
          refine run_q (.none rfl) rfl rfl (q_loadE rfl agg47 rfl (.inp hrb .no) (getmap (by omega)) rfl) ?_
          refine run_h (.none rfl) (h_buildSlice rfl rfl rfl Try.underlying22 info47 (.cons rfl rfl rfl rfl Parts.nil) rfl (by omega)) ?_
          rintro b132 -
          refine run_h (.none rfl) (h_append rfl rfl rfl Try.underlying22 info47 rfl rfl (.there (.there (.there (.there (.there Sel.here))))) rfl (.own Sel.here) rfl (all1 rfl) (all1 rfl) (by omega) (by omega)) ?_
          rintro ⟨A133, c133⟩ -
          refine run_q (.none rfl) rfl rfl (q_assign rfl rfl) ?_
          refine run_nil ?_
          refine run_sub (subMk (.cons (s := 3) rfl (.cons (s := 4) rfl (.cons (s := 5) rfl (.cons (s := 6) rfl (.cons (s := 7) rfl (.cons (s := 10) rfl (.cons (s := 11) rfl (.cons (s := 12) rfl .nil)))))))) .refl) ?_
          refine run_seq ?_
          refine run_sub (subMk .refl (.cons Sel.here (.own (m' := (hK b (i + 1)).length) (xs' := (hK b (i + 1)).map Note.enc) rfl (by rw [hK_yes hE]; simp) rfl (by rw [hK_yes hE, List.map_append]; rfl)) (.cons Sel.here .refl (.cons Sel.here .refl (.cons Sel.here .refl (.cons Sel.here .refl (.cons Sel.here .refl (.cons Sel.here .refl (.cons Sel.here .refl (.cons Sel.here .refl .nil)))))))))) ?_
          have hok1 := hK_ok (b := b) (i + 1)
          have hlen1 := hK_len (b := b) (i + 1)
          refine run_sub (subMk (.cons (s := 3) rfl (.cons (s := 4) rfl (.cons (s := 5) rfl (.cons (s := 6) rfl (.cons (s := 7) rfl (.cons' (s := 10) (v' := .slice A133 (hK b (i + 1)).length c133) rfl (by rw [hK_yes hE]; simp) (.cons (s := 11) rfl (.cons (s := 12) rfl .nil)))))))) .refl) ?_
          refine run_region ?_
          refine run_q (.none rfl) rfl rfl (q_move rfl rfl) ?_
          refine run_q (.none rfl) rfl rfl (q_move rfl rfl) ?_
          refine run_q (.none rfl) rfl rfl (q_loadBN rfl agg26 rfl (.there (.there (.there (.there (.there (.there (.there Sel.here))))))) (.cons rfl (.cons rfl (.cons rfl (.cons rfl (.cons rfl CellsAt.nil))))) rfl) ?_
          refine run_q (.none rfl) rfl rfl (q_call rfl call29 (.cons rfl (.cons rfl (.cons rfl Evs.nil))) (fun w hk hm => passedM_just c a (hK b (i + 1)) A A133 ca c133 w (hra.kept0 hk) (own_rd (Sel.here.holds hm)) hc hna hok1 (by omega) (by omega) (by omega))) ?_
          refine run_q (.none rfl) rfl rfl (q_assign rfl rfl) ?_
          refine run_nil ?_
          refine run_sub (subMk (.cons (s := 3) rfl (.cons (s := 4) rfl (.cons (s := 5) rfl (.cons (s := 6) rfl (.cons (s := 7) rfl (.cons (s := 10) rfl (.cons (s := 11) rfl (.cons (s := 12) rfl (.cons (s := 15) rfl .nil))))))))) .refl) ?_
          refine run_seq ?_
          have hpl := passV_le c a (hK b (i + 1))
          have hst := rd_take hra (rfl : a.take (passV c a (hK b (i + 1))) = a.take (passV c a (hK b (i + 1))))
          have hnt : ∀ p ∈ a.take (passV c a (hK b (i + 1))), NoteOk p := fun p hp => hna p (List.mem_of_mem_take hp)
          refine run_draw [(0, 0), (1, 0), (2, 0), (3, 0), (4, 0), (5, 1), (6, 0), (7, 0), (8, 0), (9, 0), (10, 0)] mixed (by kernel_rfl) .refl ?_
          refine d_q rfl rfl (.none rfl) rfl rfl (q_move rfl rfl) ?_
          refine d_q rfl rfl (.none rfl) rfl rfl (q_move rfl rfl) ?_
          refine d_q rfl rfl (.none rfl) rfl rfl (q_sliceH rfl Try.underlying22 sz47 rfl rfl (by omega)) ?_
          refine d_q rfl rfl (.none rfl) rfl rfl (q_move rfl rfl) ?_
          refine d_q rfl rfl (.none rfl) rfl rfl (q_loadBN rfl agg26 rfl (.there (.there (.there (.there (.there (.there (.there Sel.here))))))) (.cons rfl (.cons rfl (.cons rfl (.cons rfl (.cons rfl CellsAt.nil))))) rfl) ?_
          refine d_h rfl rfl (.none rfl) (h_call rfl rfl rfl call17 (.cons rfl (.cons rfl (.cons rfl Evs.nil))) (fun w hk hm => alignM_take hpl (alignM_ret c (a.take (passV c a (hK b (i + 1)))) (hK b (i + 1)) A A133 ca c133 w (hst.kept0 hk) (own_rd (Sel.here.holds hm)) hc hnt hok1 (by simp; omega) (by omega)))) (fun _ _ => (.sub (List.sublist_append_right _ _))) ?_
          rintro ⟨v, m⟩ ⟨A144, c144, rfl, rfl⟩
          show RunD _ _ _ _ _ _ _ _ _ _ _ ⟨(144, .tuple #[.slice A144 (path c (a.take (passV c a (hK b (i + 1)))) (hK b (i + 1)) 0 0).length c144, .int .i64 (best c (a.take (passV c a (hK b (i + 1)))) (hK b (i + 1)))]) :: _, _ :: _⟩
          refine d_q rfl rfl (.none rfl) rfl rfl (q_move rfl rfl) ?_
          refine d_q rfl rfl (.none rfl) rfl rfl (q_extract rfl rfl rfl) ?_
          refine d_q rfl rfl (.none rfl) rfl rfl (q_extract rfl rfl rfl) ?_
          refine d_q rfl rfl (.none rfl) rfl rfl (q_assign rfl rfl) ?_
          refine d_q rfl rfl (.none rfl) rfl rfl (q_assign rfl rfl) ?_
          refine d_nil ?_
          refine run_sub (subMk (.cons (s := 3) rfl (.cons (s := 4) rfl (.cons (s := 5) rfl (.cons (s := 6) rfl (.cons (s := 7) rfl (.cons (s := 10) rfl (.cons (s := 11) rfl (.cons (s := 12) rfl (.cons (s := 15) rfl (.cons (s := 16) rfl .nil)))))))))) .refl) ?_
          refine run_seq ?_
          refine run_region ?_
          refine run_q (.none rfl) rfl rfl (q_move rfl rfl) ?_
          refine run_q (.none rfl) rfl rfl (q_move rfl rfl) ?_
          refine run_q (.none rfl) rfl rfl (q_neq rfl rfl rfl) ?_
          refine run_q (.none rfl) rfl rfl (q_move rfl rfl) ?_
          refine run_q (.on rfl rfl rfl (by rw [lisN_yes hE, ← hK_yes hE]; simp)) rfl rfl (q_move rfl rfl) ?_
          refine run_q (.on rfl rfl rfl (by rw [lisN_yes hE, ← hK_yes hE]; simp)) rfl rfl (q_call rfl call25 (.cons rfl Evs.nil) (fun w hk hm => passed_just c a (hK b (i + 1)) p S H1 R3 cs ch1 cr3 w (rd_lis ((Sel.there (Sel.there (Sel.there Sel.here))).holds hm)) (own_rd ((Sel.there (Sel.there (Sel.there (Sel.there (Sel.there (Sel.there Sel.here)))))).holds hm)) (by omega))) ?_
          refine run_q (.on rfl rfl rfl (by rw [lisN_yes hE, ← hK_yes hE]; simp)) rfl rfl (q_move rfl rfl) ?_
          refine run_q (.on rfl rfl rfl (by rw [lisN_yes hE, ← hK_yes hE]; simp)) rfl rfl (q_neq rfl rfl rfl) ?_
          refine run_q (.none rfl) rfl rfl (q_pickF rfl rfl (by rw [lisN_yes hE, ← hK_yes hE]; simp) rfl) ?_
          refine run_q (.none rfl) rfl rfl (q_move rfl rfl) ?_
          refine run_q (.on rfl rfl rfl (by simp)) rfl rfl (q_move rfl rfl) ?_
          refine run_q (.on rfl rfl rfl (by simp)) rfl rfl (q_call rfl call24 (.cons rfl Evs.nil) (fun w hk hm => heard_just c a (hK b (i + 1)) p S H1 R3 cs ch1 cr3 w (rd_lis ((Sel.there (Sel.there (Sel.there Sel.here))).holds hm)))) ?_
          refine run_q (.on rfl rfl rfl (by simp)) rfl rfl (q_move rfl rfl) ?_
          refine run_q (.on rfl rfl rfl (by simp)) rfl rfl (q_len rfl Try.underlying22 rfl) ?_
          refine run_q (.on rfl rfl rfl (by simp)) rfl rfl (q_neq rfl rfl rfl) ?_
          refine run_q (.none rfl) rfl rfl (q_pickF rfl rfl (by simp) rfl) ?_
          refine run_q (.none rfl) rfl rfl (q_move rfl rfl) ?_
          refine run_q (.on rfl rfl rfl (by simp)) rfl rfl (q_move rfl rfl) ?_
          refine run_h (.on rfl rfl rfl (by simp)) (h_call rfl rfl rfl call26 (.cons rfl Evs.nil) (fun w hk hm => pairs_ret c a (hK b (i + 1)) p S H1 R3 cs ch1 cr3 w (rd_lis ((Sel.there (Sel.there (Sel.there Sel.here))).holds hm)) (own_rd ((Sel.there (Sel.there (Sel.there (Sel.there Sel.here)))).holds hm)) (own_rd ((Sel.there (Sel.there (Sel.there (Sel.there (Sel.there Sel.here))))).holds hm)) (own_rd ((Sel.there (Sel.there (Sel.there (Sel.there (Sel.there (Sel.there Sel.here)))))).holds hm)) hc hna hok1 (by omega) (by omega) hcs)) ?_
          rintro ⟨v, m⟩ ⟨A165, c165, rfl, rfl⟩
          show Run _ _ _ _ _ _ _ ⟨(165, .slice A165 (path c (a.take (passV c a (hK b (i + 1)))) (hK b (i + 1)) 0 0).length c165) :: _, _ :: _⟩
          refine run_q (.on rfl rfl rfl (by simp)) rfl rfl (q_move rfl rfl) ?_
          refine run_q (.on rfl rfl rfl (by simp)) rfl rfl (q_call rfl call18 (.cons rfl (.cons rfl Evs.nil)) (fun w hk hm => same_just (path c (a.take (passV c a (hK b (i + 1)))) (hK b (i + 1)) 0 0) A165 A144 _ c165 c144 w (own_rd (Sel.here.holds hm)) (own_rd ((Sel.there Sel.here).holds hm)) rfl (path_len (by simp; omega) (by omega)))) ?_
          refine run_q (.on rfl rfl rfl (by simp)) rfl rfl (q_not rfl rfl) ?_
          refine run_q (.none rfl) rfl rfl (q_pickF rfl rfl (by simp) rfl) ?_
          refine run_nil ?_
          refine run_sub (subMk (.cons (s := 3) rfl (.cons (s := 4) rfl (.cons (s := 5) rfl (.cons (s := 6) rfl (.cons (s := 7) rfl (.cons (s := 10) rfl (.cons (s := 11) rfl (.cons (s := 169) rfl .nil)))))))) .refl) ?_
          refine run_condF rfl rfl ?_
          refine run_skip ?_
          refine run_blk ?_
          refine run_region ?_
          refine run_q (.none rfl) rfl rfl (q_move rfl rfl) ?_
          refine run_q (.none rfl) rfl rfl (q_add rfl rfl rfl (by omega)) ?_
          refine run_q (.none rfl) rfl rfl (q_assign rfl rfl) ?_
          refine run_nil ?_
          refine run_sub (subMk (.cons (s := 3) rfl (.cons (s := 4) rfl (.cons (s := 5) rfl (.cons (s := 6) rfl (.cons (s := 7) rfl (.cons (s := 10) rfl (.cons (s := 11) rfl .nil))))))) .refl) ?_
          exact run_again (i + 1, H1, ch1, R3, cr3, A133, c133) (by (try dsimp only); exact (by omega)) (by (try dsimp only); omega) (subMk (.cons' (s := 11) rfl rfl (.cons' (s := 10) rfl rfl (.cons (s := 3) rfl (.cons (s := 4) rfl (.cons (s := 5) rfl (.cons (s := 6) rfl (.cons (s := 7) rfl .nil))))))) (.cons (.there (.there (.there (.there Sel.here)))) .refl (.cons (.there (.there (.there (.there (.there Sel.here))))) .refl (.cons (.there (.there (.there (.there (.there Sel.here))))) .refl (.cons (.there (.there Sel.here)) .refl (.cons (.there (.there (.there (.there Sel.here)))) .refl (.cons (.there (.there (.there Sel.here))) .refl (.cons (.there (.there (.there Sel.here))) .refl (.cons (.there (.there (.there Sel.here))) .refl .nil)))))))))
      · have g98' := g98
        try simp only [decide_eq_true_eq, decide_eq_false_iff_not, beq_iff_eq, beq_eq_false_iff_ne, bne_iff_ne, bne_eq_false_iff_eq, Bool.not_eq_true', Bool.not_eq_false', ne_eq, Int.not_lt, Int.not_le, Decidable.not_not] at g98'
        refine d_off rfl rfl (.no rfl rfl rfl g98) rfl rfl ?_
        refine d_off rfl rfl (.no rfl rfl rfl g98) rfl rfl ?_
        refine d_off rfl rfl (.no rfl rfl rfl g98) rfl rfl ?_
        refine d_off rfl rfl (.no rfl rfl rfl g98) rfl rfl ?_
        refine d_off rfl rfl (.no rfl rfl rfl g98) rfl rfl ?_
        refine d_off rfl rfl (.no rfl rfl rfl g98) rfl rfl ?_
        refine d_off rfl rfl (.no rfl rfl rfl g98) rfl rfl ?_
        refine d_off rfl rfl (.no rfl rfl rfl g98) rfl rfl ?_
        refine d_off rfl rfl (.no rfl rfl rfl g98) rfl rfl ?_
        refine d_off rfl rfl (.no rfl rfl rfl g98) rfl rfl ?_
        refine d_off rfl rfl (.no rfl rfl rfl g98) rfl rfl ?_
        refine d_off rfl rfl (.no rfl rfl rfl g98) rfl rfl ?_
        refine d_off rfl rfl (.no rfl rfl rfl g98) rfl rfl ?_
        refine d_q rfl rfl (.none rfl) rfl rfl (q_pickF rfl rfl g98 rfl) ?_
        refine d_nil ?_
        refine run_sub (subMk (.cons (s := 3) rfl (.cons (s := 4) rfl (.cons (s := 5) rfl (.cons (s := 6) rfl (.cons (s := 7) rfl (.cons (s := 10) rfl (.cons (s := 11) rfl (.cons (s := 12) rfl (.cons (s := 13) rfl (.cons (s := 14) rfl (.cons (s := 112) rfl .nil))))))))))) .refl) ?_
        refine run_condF rfl rfl ?_
        refine run_skip ?_
        refine run_seq ?_
        refine run_seq ?_
        have hE : lisE (hK b i) (nth b i) = 0 := by rw [lisE, if_neg (by simp [hpx]), if_neg (by omega)]
        refine run_region ?_
        refine run_q (.none rfl) rfl rfl (q_move rfl rfl) ?_
        refine run_q (.none rfl) rfl rfl (q_move rfl rfl) ?_
        refine run_q (.none rfl) rfl rfl (q_neq rfl rfl rfl) ?_
        refine run_nil ?_
        refine run_sub (subMk (.cons (s := 3) rfl (.cons (s := 4) rfl (.cons (s := 5) rfl (.cons (s := 6) rfl (.cons (s := 7) rfl (.cons (s := 10) rfl (.cons (s := 11) rfl (.cons (s := 12) rfl (.cons (s := 13) rfl (.cons (s := 115) rfl .nil)))))))))) .refl) ?_
        refine run_condF rfl (by rw [hE]; rfl) ?_
        refine run_skip ?_
        refine run_seq ?_
        refine run_seq ?_
        refine run_region ?_
        refine run_q (.none rfl) rfl rfl (q_move rfl rfl) ?_
        refine run_q (.none rfl) rfl rfl (q_neq rfl rfl rfl) ?_
        refine run_nil ?_
        refine run_sub (subMk (.cons (s := 3) rfl (.cons (s := 4) rfl (.cons (s := 5) rfl (.cons (s := 6) rfl (.cons (s := 7) rfl (.cons (s := 10) rfl (.cons (s := 11) rfl (.cons (s := 12) rfl (.cons (s := 117) rfl .nil))))))))) .refl) ?_
        refine run_condF rfl (by rw [hE]; rfl) ?_
        refine run_skip ?_
        refine run_seq ?_
        refine run_region ?_
        refine run_q (.none rfl) rfl rfl (q_move rfl rfl) ?_
        refine run_q (.none rfl) rfl rfl (q_move rfl rfl) ?_
        refine run_q (.none rfl) rfl rfl (q_move rfl rfl) ?_
        refine run_q (.none rfl) rfl rfl (q_indexS (q := i) rfl Try.underlying22 sz47 rfl rfl (.inp hrb .no) (by simp <;> omega) rfl (by omega)) ?_
        refine run_q (.none rfl) rfl rfl (q_loadE rfl agg47 rfl (.inp hrb .no) (getmap (by omega)) rfl) ?_
        refine run_h (.none rfl) (h_buildSlice rfl rfl rfl Try.underlying22 info47 (.cons rfl rfl rfl rfl Parts.nil) rfl (by omega)) ?_
        rintro b132 -
        refine run_h (.none rfl) (h_append rfl rfl rfl Try.underlying22 info47 rfl rfl (.there (.there (.there (.there (.there Sel.here))))) rfl (.own Sel.here) rfl (all1 rfl) (all1 rfl) (by omega) (by omega)) ?_
        rintro ⟨A133, c133⟩ -
        refine run_q (.none rfl) rfl rfl (q_assign rfl rfl) ?_
        refine run_nil ?_
        refine run_sub (subMk (.cons (s := 3) rfl (.cons (s := 4) rfl (.cons (s := 5) rfl (.cons (s := 6) rfl (.cons (s := 7) rfl (.cons (s := 10) rfl (.cons (s := 11) rfl (.cons (s := 12) rfl .nil)))))))) .refl) ?_
        refine run_seq ?_
        refine run_sub (subMk .refl (.cons Sel.here (.own (m' := (hK b (i + 1)).length) (xs' := (hK b (i + 1)).map Note.enc) rfl (by rw [hK_yes hE]; simp) rfl (by rw [hK_yes hE, List.map_append]; rfl)) (.cons Sel.here .refl (.cons Sel.here .refl (.cons Sel.here .refl (.cons Sel.here .refl (.cons Sel.here .refl (.cons Sel.here .refl (.cons Sel.here .refl (.cons Sel.here .refl .nil)))))))))) ?_
        have hok1 := hK_ok (b := b) (i + 1)
        have hlen1 := hK_len (b := b) (i + 1)
        refine run_sub (subMk (.cons (s := 3) rfl (.cons (s := 4) rfl (.cons (s := 5) rfl (.cons (s := 6) rfl (.cons (s := 7) rfl (.cons' (s := 10) (v' := .slice A133 (hK b (i + 1)).length c133) rfl (by rw [hK_yes hE]; simp) (.cons (s := 11) rfl (.cons (s := 12) rfl .nil)))))))) .refl) ?_
        refine run_region ?_
        refine run_q (.none rfl) rfl rfl (q_move rfl rfl) ?_
        refine run_q (.none rfl) rfl rfl (q_move rfl rfl) ?_
        refine run_q (.none rfl) rfl rfl (q_loadBN rfl agg26 rfl (.there (.there (.there (.there (.there (.there (.there Sel.here))))))) (.cons rfl (.cons rfl (.cons rfl (.cons rfl (.cons rfl CellsAt.nil))))) rfl) ?_
        refine run_q (.none rfl) rfl rfl (q_call rfl call29 (.cons rfl (.cons rfl (.cons rfl Evs.nil))) (fun w hk hm => passedM_just c a (hK b (i + 1)) A A133 ca c133 w (hra.kept0 hk) (own_rd (Sel.here.holds hm)) hc hna hok1 (by omega) (by omega) (by omega))) ?_
        refine run_q (.none rfl) rfl rfl (q_assign rfl rfl) ?_
        refine run_nil ?_
        refine run_sub (subMk (.cons (s := 3) rfl (.cons (s := 4) rfl (.cons (s := 5) rfl (.cons (s := 6) rfl (.cons (s := 7) rfl (.cons (s := 10) rfl (.cons (s := 11) rfl (.cons (s := 12) rfl (.cons (s := 15) rfl .nil))))))))) .refl) ?_
        refine run_seq ?_
        have hpl := passV_le c a (hK b (i + 1))
        have hst := rd_take hra (rfl : a.take (passV c a (hK b (i + 1))) = a.take (passV c a (hK b (i + 1))))
        have hnt : ∀ p ∈ a.take (passV c a (hK b (i + 1))), NoteOk p := fun p hp => hna p (List.mem_of_mem_take hp)
        refine run_draw [(0, 0), (1, 0), (2, 0), (3, 0), (4, 0), (5, 1), (6, 0), (7, 0), (8, 0), (9, 0), (10, 0)] mixed (by kernel_rfl) .refl ?_
        refine d_q rfl rfl (.none rfl) rfl rfl (q_move rfl rfl) ?_
        refine d_q rfl rfl (.none rfl) rfl rfl (q_move rfl rfl) ?_
        refine d_q rfl rfl (.none rfl) rfl rfl (q_sliceH rfl Try.underlying22 sz47 rfl rfl (by omega)) ?_
        refine d_q rfl rfl (.none rfl) rfl rfl (q_move rfl rfl) ?_
        refine d_q rfl rfl (.none rfl) rfl rfl (q_loadBN rfl agg26 rfl (.there (.there (.there (.there (.there (.there (.there Sel.here))))))) (.cons rfl (.cons rfl (.cons rfl (.cons rfl (.cons rfl CellsAt.nil))))) rfl) ?_
        refine d_h rfl rfl (.none rfl) (h_call rfl rfl rfl call17 (.cons rfl (.cons rfl (.cons rfl Evs.nil))) (fun w hk hm => alignM_take hpl (alignM_ret c (a.take (passV c a (hK b (i + 1)))) (hK b (i + 1)) A A133 ca c133 w (hst.kept0 hk) (own_rd (Sel.here.holds hm)) hc hnt hok1 (by simp; omega) (by omega)))) (fun _ _ => (.sub (List.sublist_append_right _ _))) ?_
        rintro ⟨v, m⟩ ⟨A144, c144, rfl, rfl⟩
        show RunD _ _ _ _ _ _ _ _ _ _ _ ⟨(144, .tuple #[.slice A144 (path c (a.take (passV c a (hK b (i + 1)))) (hK b (i + 1)) 0 0).length c144, .int .i64 (best c (a.take (passV c a (hK b (i + 1)))) (hK b (i + 1)))]) :: _, _ :: _⟩
        refine d_q rfl rfl (.none rfl) rfl rfl (q_move rfl rfl) ?_
        refine d_q rfl rfl (.none rfl) rfl rfl (q_extract rfl rfl rfl) ?_
        refine d_q rfl rfl (.none rfl) rfl rfl (q_extract rfl rfl rfl) ?_
        refine d_q rfl rfl (.none rfl) rfl rfl (q_assign rfl rfl) ?_
        refine d_q rfl rfl (.none rfl) rfl rfl (q_assign rfl rfl) ?_
        refine d_nil ?_
        refine run_sub (subMk (.cons (s := 3) rfl (.cons (s := 4) rfl (.cons (s := 5) rfl (.cons (s := 6) rfl (.cons (s := 7) rfl (.cons (s := 10) rfl (.cons (s := 11) rfl (.cons (s := 12) rfl (.cons (s := 15) rfl (.cons (s := 16) rfl .nil)))))))))) .refl) ?_
        refine run_seq ?_
        refine run_region ?_
        refine run_q (.none rfl) rfl rfl (q_move rfl rfl) ?_
        refine run_q (.none rfl) rfl rfl (q_move rfl rfl) ?_
        refine run_q (.none rfl) rfl rfl (q_neq rfl rfl rfl) ?_
        refine run_q (.none rfl) rfl rfl (q_move rfl rfl) ?_
        refine run_q (.on rfl rfl rfl (by rw [lisN_yes hE, ← hK_yes hE]; simp)) rfl rfl (q_move rfl rfl) ?_
        refine run_q (.on rfl rfl rfl (by rw [lisN_yes hE, ← hK_yes hE]; simp)) rfl rfl (q_call rfl call25 (.cons rfl Evs.nil) (fun w hk hm => passed_just c a (hK b (i + 1)) p S H1 R3 cs ch1 cr3 w (rd_lis ((Sel.there (Sel.there (Sel.there Sel.here))).holds hm)) (own_rd ((Sel.there (Sel.there (Sel.there (Sel.there (Sel.there (Sel.there Sel.here)))))).holds hm)) (by omega))) ?_
        refine run_q (.on rfl rfl rfl (by rw [lisN_yes hE, ← hK_yes hE]; simp)) rfl rfl (q_move rfl rfl) ?_
        refine run_q (.on rfl rfl rfl (by rw [lisN_yes hE, ← hK_yes hE]; simp)) rfl rfl (q_neq rfl rfl rfl) ?_
        refine run_q (.none rfl) rfl rfl (q_pickF rfl rfl (by rw [lisN_yes hE, ← hK_yes hE]; simp) rfl) ?_
        refine run_q (.none rfl) rfl rfl (q_move rfl rfl) ?_
        refine run_q (.on rfl rfl rfl (by simp)) rfl rfl (q_move rfl rfl) ?_
        refine run_q (.on rfl rfl rfl (by simp)) rfl rfl (q_call rfl call24 (.cons rfl Evs.nil) (fun w hk hm => heard_just c a (hK b (i + 1)) p S H1 R3 cs ch1 cr3 w (rd_lis ((Sel.there (Sel.there (Sel.there Sel.here))).holds hm)))) ?_
        refine run_q (.on rfl rfl rfl (by simp)) rfl rfl (q_move rfl rfl) ?_
        refine run_q (.on rfl rfl rfl (by simp)) rfl rfl (q_len rfl Try.underlying22 rfl) ?_
        refine run_q (.on rfl rfl rfl (by simp)) rfl rfl (q_neq rfl rfl rfl) ?_
        refine run_q (.none rfl) rfl rfl (q_pickF rfl rfl (by simp) rfl) ?_
        refine run_q (.none rfl) rfl rfl (q_move rfl rfl) ?_
        refine run_q (.on rfl rfl rfl (by simp)) rfl rfl (q_move rfl rfl) ?_
        refine run_h (.on rfl rfl rfl (by simp)) (h_call rfl rfl rfl call26 (.cons rfl Evs.nil) (fun w hk hm => pairs_ret c a (hK b (i + 1)) p S H1 R3 cs ch1 cr3 w (rd_lis ((Sel.there (Sel.there (Sel.there Sel.here))).holds hm)) (own_rd ((Sel.there (Sel.there (Sel.there (Sel.there Sel.here)))).holds hm)) (own_rd ((Sel.there (Sel.there (Sel.there (Sel.there (Sel.there Sel.here))))).holds hm)) (own_rd ((Sel.there (Sel.there (Sel.there (Sel.there (Sel.there (Sel.there Sel.here)))))).holds hm)) hc hna hok1 (by omega) (by omega) hcs)) ?_
        rintro ⟨v, m⟩ ⟨A165, c165, rfl, rfl⟩
        show Run _ _ _ _ _ _ _ ⟨(165, .slice A165 (path c (a.take (passV c a (hK b (i + 1)))) (hK b (i + 1)) 0 0).length c165) :: _, _ :: _⟩
        refine run_q (.on rfl rfl rfl (by simp)) rfl rfl (q_move rfl rfl) ?_
        refine run_q (.on rfl rfl rfl (by simp)) rfl rfl (q_call rfl call18 (.cons rfl (.cons rfl Evs.nil)) (fun w hk hm => same_just (path c (a.take (passV c a (hK b (i + 1)))) (hK b (i + 1)) 0 0) A165 A144 _ c165 c144 w (own_rd (Sel.here.holds hm)) (own_rd ((Sel.there Sel.here).holds hm)) rfl (path_len (by simp; omega) (by omega)))) ?_
        refine run_q (.on rfl rfl rfl (by simp)) rfl rfl (q_not rfl rfl) ?_
        refine run_q (.none rfl) rfl rfl (q_pickF rfl rfl (by simp) rfl) ?_
        refine run_nil ?_
        refine run_sub (subMk (.cons (s := 3) rfl (.cons (s := 4) rfl (.cons (s := 5) rfl (.cons (s := 6) rfl (.cons (s := 7) rfl (.cons (s := 10) rfl (.cons (s := 11) rfl (.cons (s := 169) rfl .nil)))))))) .refl) ?_
        refine run_condF rfl rfl ?_
        refine run_skip ?_
        refine run_blk ?_
        refine run_region ?_
        refine run_q (.none rfl) rfl rfl (q_move rfl rfl) ?_
        refine run_q (.none rfl) rfl rfl (q_add rfl rfl rfl (by omega)) ?_
        refine run_q (.none rfl) rfl rfl (q_assign rfl rfl) ?_
        refine run_nil ?_
        refine run_sub (subMk (.cons (s := 3) rfl (.cons (s := 4) rfl (.cons (s := 5) rfl (.cons (s := 6) rfl (.cons (s := 7) rfl (.cons (s := 10) rfl (.cons (s := 11) rfl .nil))))))) .refl) ?_
        exact run_again (i + 1, H1, ch1, R3, cr3, A133, c133) (by (try dsimp only); exact (by omega)) (by (try dsimp only); omega) (subMk (.cons' (s := 11) rfl rfl (.cons' (s := 10) rfl rfl (.cons (s := 3) rfl (.cons (s := 4) rfl (.cons (s := 5) rfl (.cons (s := 6) rfl (.cons (s := 7) rfl .nil))))))) (.cons (.there (.there (.there (.there Sel.here)))) .refl (.cons (.there (.there (.there (.there (.there Sel.here))))) .refl (.cons (.there (.there (.there (.there (.there Sel.here))))) .refl (.cons (.there (.there Sel.here)) .refl (.cons (.there (.there (.there (.there Sel.here)))) .refl (.cons (.there (.there (.there Sel.here))) .refl (.cons (.there (.there (.there Sel.here))) .refl (.cons (.there (.there (.there Sel.here))) .refl .nil)))))))))
  · have g77' := g77
    try simp only [decide_eq_true_eq, decide_eq_false_iff_not, beq_iff_eq, beq_eq_false_iff_ne, bne_iff_ne, bne_eq_false_iff_eq, Bool.not_eq_true', Bool.not_eq_false', ne_eq, Int.not_lt, Int.not_le, Decidable.not_not] at g77'
    refine run_exit rfl ?_
    refine run_sub (subMk (.cons (s := 4) rfl .nil) .refl) ?_
    refine run_seq ?_
    refine run_region ?_
    refine run_q (.none rfl) rfl rfl (q_assign rfl rfl) ?_
    refine run_nil ?_
    refine run_ret ?_
    exact end1 rfl rfl rfl

theorem law8_just (c : Cost) (l l2 : List Note) (A B : Option Addr) (ca cb : Nat) (W : World) (hr : Rd W A 7 (l.map Note.enc)) (hr2 : Rd W B 7 (l2.map Note.enc)) (hca : l.length ≤ ca) (hcb : l2.length ≤ cb) : Calls Try.prog 8 #[.agg #[.slice A l.length ca, .slice B l2.length cb], c.val] W (Just W (.bool true)) := by
  by_cases he : firstNZ [wrongL (l.take 16), costB c] = 0
  · obtain ⟨h1, h2⟩ := firstNZ2 he
    exact law8_ok c l l2 A B ca cb W hr hr2 hca hcb _ _ rfl rfl h1 h2
  · exact law8_err c l l2 A B ca cb W hr hr2 hca hcb _ _ rfl rfl he

end Go.Proofs.Ytbkmmjpklkallaa
