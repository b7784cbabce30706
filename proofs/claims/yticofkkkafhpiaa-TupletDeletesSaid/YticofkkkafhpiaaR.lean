/- The law on deleting, in the program. -/
import Derived.Test.YticofkkkafhpiaaQ
set_option linter.unusedSimpArgs false
set_option linter.unusedVariables false
namespace Go.Proofs.Yticofkkkafhpiaa
open Go Go.RowKit Hr

theorem call33 : Hr.Callable Try.prog 33 := fun args w => by kernel_rfl
theorem call34 : Hr.Callable Try.prog 34 := fun args w => by kernel_rfl

theorem same_del (a : List Tup) (n p c : Int) (A B : Option Addr) (ca cb : Nat) (W : World) (hr : Rd W A 4 ((delV a n p c).1.map Tup.enc)) (hr2 : Rd W B 4 ((sortR (delL p c a) (delL p c a).length).map Tup.enc)) (hc : checkV a n = 0) (hpc : 0 ≤ p ∧ p ≤ n ∧ 0 ≤ c ∧ c ≤ n - p) :
    Calls Try.prog 28 #[.slice A (delV a n p c).1.length ca, .slice B (delL p c a).length cb] W (Just W (.bool true)) := by
  have hlen : (delL p c a).length ≤ a.length := by rw [delL, List.length_map]; exact List.length_filter_le _ _
  have hl := (checkV_good hc).2.2.1
  have h := same_just (delV a n p c).1 (sortR (delL p c a) (delL p c a).length) A B ca cb W hr hr2 (by rw [delV_ok hc hpc, sortR_len]; omega)
  rw [delV_ok hc hpc, eqL_refl, sortR_len] at h
  rw [delV_ok hc hpc, sortR_len]
  exact h
theorem check_del (a : List Tup) (n p c : Int) (A : Option Addr) (ca : Nat) (W : World) (hr : Rd W A 4 ((delV a n p c).1.map Tup.enc)) (hc : checkV a n = 0) (hpc : 0 ≤ p ∧ p ≤ n ∧ 0 ≤ c ∧ c ≤ n - p) :
    Calls Try.prog 13 #[.slice A (delV a n p c).1.length ca, .int .i64 (n - c)] W (Just W (.int .i64 0)) := by
  have hlen : (delL p c a).length ≤ a.length := by rw [delL, List.length_map]; exact List.length_filter_le _ _
  have hl := (checkV_good hc).2.2.1
  have h := check_just (delV a n p c).1 A ca (n - c) W hr (by rw [delV_ok hc hpc, sortR_len]; omega)
  rw [delV_ok hc hpc, del_check hc hpc.1 hpc.2.2.1 hpc.2.1 hpc.2.2.2] at h
  rw [delV_ok hc hpc]
  exact h
theorem equal_refl (a : List Tup) (A B : Option Addr) (ca cb : Nat) (W : World) (hr : Rd W A 4 (a.map Tup.enc)) (hr2 : Rd W B 4 (a.map Tup.enc)) (hl : a.length ≤ 1000000) : Calls Try.prog 32 #[.slice A a.length ca, .slice B a.length cb] W (Just W (.bool true)) := by
  have h := lequal_just a a A B ca cb W hr hr2 hl
  rw [eqL_refl] at h
  exact h

set_option maxRecDepth 100000 in
theorem law11_at (l : List Tup) (A : Option Addr) (ca : Nat) (n p c : Int) (W : World) (hr0 : Rd W A 4 (l.map Tup.enc)) (hca : l.length ≤ ca) (a : List Tup) (ha : a = l.take 20) : Calls Try.prog 11 #[.slice A l.length ca, .int .i64 n, .agg #[.int .i64 p, .int .i64 c]] W (Hr.Just W (.bool true)) := by
  have hra := rd_take (enc := Tup.enc) hr0 ha
  have hla : a.length = min l.length 20 := by rw [ha]; simp [Nat.min_comm]
  refine Just.of_ret ?_
  refine enterA (X := nX) (vs := [.slice A l.length ca, .int .i64 n, .agg #[.int .i64 p, .int .i64 c]]) Try.func11 Try.ntmps11 rfl rfl Mem.nil ?_
  refine run_seq ?_
  refine run_region ?_
  refine run_h (.none rfl) (h_box rfl rfl rfl rfl rfl) ?_
  rintro b5 -
  refine run_q (.none rfl) rfl rfl (q_assign rfl rfl) ?_
  refine run_nil ?_
  refine run_seq ?_
  refine run_region ?_
  refine run_q (.none rfl) rfl rfl (q_move rfl rfl) ?_
  refine run_q (.none rfl) rfl rfl (q_move rfl rfl) ?_
  refine run_q (.none rfl) rfl rfl (q_len rfl Try.underlying22 rfl) ?_
  refine run_q (.none rfl) rfl rfl (q_min2 rfl rfl rfl) ?_
  refine run_q (.none rfl) rfl rfl (q_sliceH rfl Try.underlying22 sz46 rfl rfl (by omega)) ?_
  refine run_q (.none rfl) rfl rfl (q_assign rfl rfl) ?_
  refine run_nil ?_
  refine run_sub (subMk (.cons (s := 0) rfl (.cons (s := 1) rfl (.cons (s := 5) rfl (.cons (s := 6) rfl .nil)))) .refl) ?_
  refine run_seq ?_
  refine run_sub (subMk (.cons' (s := 0) (v' := .slice A a.length ca) rfl (by rw [hla]; congr 1; omega) (.cons (s := 1) rfl (.cons (s := 5) rfl (.cons (s := 6) rfl .nil)))) .refl) ?_
  refine run_region ?_
  refine run_q (.none rfl) rfl rfl (q_move rfl rfl) ?_
  refine run_h (.none rfl) (h_call rfl rfl rfl call15 (.cons rfl Evs.nil) (fun w hk hm => to_ret a A ca w (hra.kept0 hk) (by omega))) ?_
  rintro ⟨v, m⟩ ⟨O25, co25, rfl, rfl⟩
  show Run _ _ _ _ _ _ _ ⟨(25, .slice O25 a.length co25) :: _, _ :: _⟩
  refine run_q (.none rfl) rfl rfl (q_assign rfl rfl) ?_
  refine run_nil ?_
  refine run_seq ?_
  refine run_draw [(0, 0), (1, 0), (2, 0), (3, 0), (4, 0), (5, 0)] mixed (by kernel_rfl) .refl ?_
  refine d_q rfl rfl (.none rfl) rfl rfl (q_indexB (q := 0) (d := 0) rfl Try.underlying53 sz3 rfl rfl rfl (by decide) rfl) ?_
  refine d_q rfl rfl (.none rfl) rfl rfl (q_loadB rfl one3 rfl (.there Sel.here) rfl) ?_
  refine d_q rfl rfl (.none rfl) rfl rfl (q_indexB (q := 1) (d := 1) rfl Try.underlying53 sz3 rfl rfl rfl (by decide) rfl) ?_
  refine d_q rfl rfl (.none rfl) rfl rfl (q_loadB rfl one3 rfl (.there Sel.here) rfl) ?_
  refine d_q rfl rfl (.none rfl) rfl rfl (q_assign rfl rfl) ?_
  refine d_q rfl rfl (.none rfl) rfl rfl (q_assign rfl rfl) ?_
  refine d_nil ?_
  refine run_sub (subMk (.cons (s := 0) rfl (.cons (s := 1) rfl (.cons (s := 6) rfl (.cons (s := 7) rfl (.cons (s := 8) rfl (.cons (s := 9) rfl .nil)))))) .refl) ?_
  refine run_seq ?_
  refine run_region ?_
  refine run_q (.none rfl) rfl rfl (q_move rfl rfl) ?_
  refine run_q (.none rfl) rfl rfl (q_move rfl rfl) ?_
  refine run_q (.none rfl) rfl rfl (q_move rfl rfl) ?_
  refine run_q (.none rfl) rfl rfl (q_move rfl rfl) ?_
  refine run_h (.none rfl) (h_call rfl rfl rfl call33 (.cons rfl (.cons rfl (.cons rfl (.cons rfl Evs.nil)))) (fun w hk hm => delete_ret a A ca n p c w (hra.kept0 hk) (by omega))) ?_
  rintro ⟨v, mm⟩ ⟨O35, co35, rfl, rfl⟩
  show Run _ _ _ _ _ _ _ ⟨(35, .tuple #[.slice O35 (delV a n p c).1.length co35, .int .i64 (delV a n p c).2]) :: _, _ :: _⟩
  refine run_q (.none rfl) rfl rfl (q_move rfl rfl) ?_
  refine run_q (.none rfl) rfl rfl (q_extract rfl rfl rfl) ?_
  refine run_q (.none rfl) rfl rfl (q_extract rfl rfl rfl) ?_
  refine run_q (.none rfl) rfl rfl (q_assign rfl rfl) ?_
  refine run_q (.none rfl) rfl rfl (q_assign rfl rfl) ?_
  refine run_nil ?_
  refine run_sub (subMk (.cons (s := 0) rfl (.cons (s := 1) rfl (.cons (s := 6) rfl (.cons (s := 7) rfl (.cons (s := 8) rfl (.cons (s := 9) rfl (.cons (s := 10) rfl (.cons (s := 11) rfl .nil)))))))) .refl) ?_
  refine run_seq ?_
  refine run_seq ?_
  refine run_region ?_
  refine run_q (.none rfl) rfl rfl (q_call rfl call12 Evs.nil (fun w hk hm => known_just w)) ?_
  refine run_q (.none rfl) rfl rfl (q_not rfl rfl) ?_
  refine run_nil ?_
  refine run_condF rfl rfl ?_
  refine run_skip ?_
  refine run_seq ?_
  refine run_seq ?_
  refine run_region ?_
  refine run_q (.none rfl) rfl rfl (q_move rfl rfl) ?_
  refine run_q (.none rfl) rfl rfl (q_move rfl rfl) ?_
  refine run_q (.none rfl) rfl rfl (q_call rfl call14 (.cons rfl (.cons rfl Evs.nil)) (fun w hk hm => refcheck_just a O25 co25 n w (own_rd ((Sel.there Sel.here).holds hm)) (by omega))) ?_
  refine run_q (.none rfl) rfl rfl (q_assign rfl rfl) ?_
  refine run_nil ?_
  refine run_sub (subMk (.cons (s := 0) rfl (.cons (s := 1) rfl (.cons (s := 6) rfl (.cons (s := 7) rfl (.cons (s := 8) rfl (.cons (s := 9) rfl (.cons (s := 10) rfl (.cons (s := 11) rfl (.cons (s := 12) rfl .nil))))))))) .refl) ?_
  refine run_seq ?_
  refine run_region ?_
  refine run_q (.none rfl) rfl rfl (q_move rfl rfl) ?_
  refine run_q (.none rfl) rfl rfl (q_neq rfl rfl rfl) ?_
  refine run_nil ?_
  refine run_cond rfl (fun g44 => ?_) (fun g44 => ?_)
  · have g44' := g44
    try simp only [decide_eq_true_eq, decide_eq_false_iff_not, beq_iff_eq, beq_eq_false_iff_ne, bne_iff_ne, bne_eq_false_iff_eq, Bool.not_eq_true', Bool.not_eq_false', ne_eq, Int.not_lt, Int.not_le, Decidable.not_not] at g44'
    have hce : checkV a n ≠ 0 := by simpa using g44
    refine run_seq ?_
    refine run_region ?_
    refine run_q (.none rfl) rfl rfl (q_move rfl rfl) ?_
    refine run_q (.none rfl) rfl rfl (q_move rfl rfl) ?_
    refine run_q (.none rfl) rfl rfl (q_eql rfl rfl rfl) ?_
    refine run_q (.none rfl) rfl rfl (q_move rfl rfl) ?_
    refine run_q (.on rfl rfl rfl (by rw [delV_err hce]; simp)) rfl rfl (q_move rfl rfl) ?_
    refine run_q (.on rfl rfl rfl (by rw [delV_err hce]; simp)) rfl rfl (q_len rfl Try.underlying22 rfl) ?_
    refine run_q (.on rfl rfl rfl (by rw [delV_err hce]; simp)) rfl rfl (q_eql rfl rfl rfl) ?_
    refine run_q (.none rfl) rfl rfl (q_pickT rfl rfl (by rw [delV_err hce]; simp) rfl) ?_
    refine run_q (.none rfl) rfl rfl (q_assign rfl rfl) ?_
    refine run_nil ?_
    refine run_sub (subMk (.cons (s := 0) rfl (.cons (s := 1) rfl (.cons (s := 6) rfl (.cons (s := 7) rfl (.cons (s := 8) rfl (.cons (s := 9) rfl (.cons (s := 10) rfl (.cons (s := 11) rfl .nil)))))))) .refl) ?_
    refine run_ret ?_
    exact end1 rfl rfl (by rw [delV_err hce]; rfl)
  · have g44' := g44
    try simp only [decide_eq_true_eq, decide_eq_false_iff_not, beq_iff_eq, beq_eq_false_iff_ne, bne_iff_ne, bne_eq_false_iff_eq, Bool.not_eq_true', Bool.not_eq_false', ne_eq, Int.not_lt, Int.not_le, Decidable.not_not] at g44'
    have hc : checkV a n = 0 := by simpa using g44
    have hv := Val.of hc
    obtain ⟨c1, c2, c3, c4⟩ := checkV_good hc
    refine run_skip ?_
    refine run_seq ?_
    refine run_seq ?_
    refine run_region ?_
    refine run_q (.none rfl) rfl rfl (q_move rfl rfl) ?_
    refine run_q (.none rfl) rfl rfl (q_lss rfl rfl rfl) ?_
    refine run_q (.none rfl) rfl rfl (q_move rfl rfl) ?_
    refine run_split 55 rfl (fun g55 => ?_) (fun g55 => ?_)
    · have g55' := g55
      try simp only [decide_eq_true_eq, decide_eq_false_iff_not, beq_iff_eq, beq_eq_false_iff_ne, bne_iff_ne, bne_eq_false_iff_eq, Bool.not_eq_true', Bool.not_eq_false', ne_eq, Int.not_lt, Int.not_le, Decidable.not_not] at g55'
      refine run_off (.no rfl rfl rfl g55) rfl rfl ?_
      refine run_off (.no rfl rfl rfl g55) rfl rfl ?_
      refine run_q (.none rfl) rfl rfl (q_pickT rfl rfl g55 rfl) ?_
      refine run_q (.none rfl) rfl rfl (q_move rfl rfl) ?_
      refine run_off (.no rfl rfl rfl rfl) rfl rfl ?_
      refine run_off (.no rfl rfl rfl rfl) rfl rfl ?_
      refine run_off (.no rfl rfl rfl rfl) rfl rfl ?_
      refine run_q (.none rfl) rfl rfl (q_pickT rfl rfl rfl rfl) ?_
      refine run_q (.none rfl) rfl rfl (q_move rfl rfl) ?_
      refine run_off (.no rfl rfl rfl rfl) rfl rfl ?_
      refine run_off (.no rfl rfl rfl rfl) rfl rfl ?_
      refine run_off (.no rfl rfl rfl rfl) rfl rfl ?_
      refine run_off (.no rfl rfl rfl rfl) rfl rfl ?_
      refine run_off (.no rfl rfl rfl rfl) rfl rfl ?_
      refine run_q (.none rfl) rfl rfl (q_pickT rfl rfl rfl rfl) ?_
      refine run_nil ?_
      refine run_sub (subMk (.cons (s := 0) rfl (.cons (s := 1) rfl (.cons (s := 6) rfl (.cons (s := 7) rfl (.cons (s := 8) rfl (.cons (s := 9) rfl (.cons (s := 10) rfl (.cons (s := 11) rfl (.cons (s := 70) rfl .nil))))))))) .refl) ?_
      refine run_condT rfl rfl ?_
      refine run_seq ?_
      have hir := delV_rng (p := p) (c := c) hc (by omega)
      refine run_region ?_
      refine run_q (.none rfl) rfl rfl (q_move rfl rfl) ?_
      refine run_q (.none rfl) rfl rfl (q_eql rfl rfl rfl) ?_
      refine run_q (.none rfl) rfl rfl (q_move rfl rfl) ?_
      refine run_q (.on rfl rfl rfl (by rw [hir]; rfl)) rfl rfl (q_move rfl rfl) ?_
      refine run_q (.on rfl rfl rfl (by rw [hir]; rfl)) rfl rfl (q_len rfl Try.underlying22 rfl) ?_
      refine run_q (.on rfl rfl rfl (by rw [hir]; rfl)) rfl rfl (q_eql rfl rfl rfl) ?_
      refine run_q (.none rfl) rfl rfl (q_pickT rfl rfl (by rw [hir]; rfl) rfl) ?_
      refine run_q (.none rfl) rfl rfl (q_assign rfl rfl) ?_
      refine run_nil ?_
      refine run_sub (subMk (.cons (s := 0) rfl (.cons (s := 1) rfl (.cons (s := 6) rfl (.cons (s := 7) rfl (.cons (s := 8) rfl (.cons (s := 9) rfl (.cons (s := 10) rfl (.cons (s := 11) rfl .nil)))))))) .refl) ?_
      refine run_ret ?_
      exact end1 rfl rfl (by rw [hir]; rfl)
    · have g55' := g55
      try simp only [decide_eq_true_eq, decide_eq_false_iff_not, beq_iff_eq, beq_eq_false_iff_ne, bne_iff_ne, bne_eq_false_iff_eq, Bool.not_eq_true', Bool.not_eq_false', ne_eq, Int.not_lt, Int.not_le, Decidable.not_not] at g55'
      refine run_q (.on rfl rfl rfl g55) rfl rfl (q_move rfl rfl) ?_
      refine run_q (.on rfl rfl rfl g55) rfl rfl (q_lss rfl rfl rfl) ?_
      refine run_q (.none rfl) rfl rfl (q_pickF rfl rfl g55 rfl) ?_
      refine run_q (.none rfl) rfl rfl (q_move rfl rfl) ?_
      refine run_split 59 rfl (fun g59 => ?_) (fun g59 => ?_)
      · have g59' := g59
        try simp only [decide_eq_true_eq, decide_eq_false_iff_not, beq_iff_eq, beq_eq_false_iff_ne, bne_iff_ne, bne_eq_false_iff_eq, Bool.not_eq_true', Bool.not_eq_false', ne_eq, Int.not_lt, Int.not_le, Decidable.not_not] at g59'
        refine run_off (.no rfl rfl rfl g59) rfl rfl ?_
        refine run_off (.no rfl rfl rfl g59) rfl rfl ?_
        refine run_off (.no rfl rfl rfl g59) rfl rfl ?_
        refine run_q (.none rfl) rfl rfl (q_pickT rfl rfl g59 rfl) ?_
        refine run_q (.none rfl) rfl rfl (q_move rfl rfl) ?_
        refine run_off (.no rfl rfl rfl rfl) rfl rfl ?_
        refine run_off (.no rfl rfl rfl rfl) rfl rfl ?_
        refine run_off (.no rfl rfl rfl rfl) rfl rfl ?_
        refine run_off (.no rfl rfl rfl rfl) rfl rfl ?_
        refine run_off (.no rfl rfl rfl rfl) rfl rfl ?_
        refine run_q (.none rfl) rfl rfl (q_pickT rfl rfl rfl rfl) ?_
        refine run_nil ?_
        refine run_sub (subMk (.cons (s := 0) rfl (.cons (s := 1) rfl (.cons (s := 6) rfl (.cons (s := 7) rfl (.cons (s := 8) rfl (.cons (s := 9) rfl (.cons (s := 10) rfl (.cons (s := 11) rfl (.cons (s := 70) rfl .nil))))))))) .refl) ?_
        refine run_condT rfl rfl ?_
        refine run_seq ?_
        have hir := delV_rng (p := p) (c := c) hc (by omega)
        refine run_region ?_
        refine run_q (.none rfl) rfl rfl (q_move rfl rfl) ?_
        refine run_q (.none rfl) rfl rfl (q_eql rfl rfl rfl) ?_
        refine run_q (.none rfl) rfl rfl (q_move rfl rfl) ?_
        refine run_q (.on rfl rfl rfl (by rw [hir]; rfl)) rfl rfl (q_move rfl rfl) ?_
        refine run_q (.on rfl rfl rfl (by rw [hir]; rfl)) rfl rfl (q_len rfl Try.underlying22 rfl) ?_
        refine run_q (.on rfl rfl rfl (by rw [hir]; rfl)) rfl rfl (q_eql rfl rfl rfl) ?_
        refine run_q (.none rfl) rfl rfl (q_pickT rfl rfl (by rw [hir]; rfl) rfl) ?_
        refine run_q (.none rfl) rfl rfl (q_assign rfl rfl) ?_
        refine run_nil ?_
        refine run_sub (subMk (.cons (s := 0) rfl (.cons (s := 1) rfl (.cons (s := 6) rfl (.cons (s := 7) rfl (.cons (s := 8) rfl (.cons (s := 9) rfl (.cons (s := 10) rfl (.cons (s := 11) rfl .nil)))))))) .refl) ?_
        refine run_ret ?_
        exact end1 rfl rfl (by rw [hir]; rfl)
      · have g59' := g59
        try simp only [decide_eq_true_eq, decide_eq_false_iff_not, beq_iff_eq, beq_eq_false_iff_ne, bne_iff_ne, bne_eq_false_iff_eq, Bool.not_eq_true', Bool.not_eq_false', ne_eq, Int.not_lt, Int.not_le, Decidable.not_not] at g59'
        refine run_q (.on rfl rfl rfl g59) rfl rfl (q_move rfl rfl) ?_
        refine run_q (.on rfl rfl rfl g59) rfl rfl (q_move rfl rfl) ?_
        refine run_q (.on rfl rfl rfl g59) rfl rfl (q_gtr rfl rfl rfl) ?_
        refine run_q (.none rfl) rfl rfl (q_pickF rfl rfl g59 rfl) ?_
        refine run_q (.none rfl) rfl rfl (q_move rfl rfl) ?_
        refine run_split 64 rfl (fun g64 => ?_) (fun g64 => ?_)
        · have g64' := g64
          try simp only [decide_eq_true_eq, decide_eq_false_iff_not, beq_iff_eq, beq_eq_false_iff_ne, bne_iff_ne, bne_eq_false_iff_eq, Bool.not_eq_true', Bool.not_eq_false', ne_eq, Int.not_lt, Int.not_le, Decidable.not_not] at g64'
          refine run_off (.no rfl rfl rfl g64) rfl rfl ?_
          refine run_off (.no rfl rfl rfl g64) rfl rfl ?_
          refine run_off (.no rfl rfl rfl g64) rfl rfl ?_
          refine run_off (.no rfl rfl rfl g64) rfl rfl ?_
          refine run_off (.no rfl rfl rfl g64) rfl rfl ?_
          refine run_q (.none rfl) rfl rfl (q_pickT rfl rfl g64 rfl) ?_
          refine run_nil ?_
          refine run_sub (subMk (.cons (s := 0) rfl (.cons (s := 1) rfl (.cons (s := 6) rfl (.cons (s := 7) rfl (.cons (s := 8) rfl (.cons (s := 9) rfl (.cons (s := 10) rfl (.cons (s := 11) rfl (.cons (s := 70) rfl .nil))))))))) .refl) ?_
          refine run_condT rfl rfl ?_
          refine run_seq ?_
          have hir := delV_rng (p := p) (c := c) hc (by omega)
          refine run_region ?_
          refine run_q (.none rfl) rfl rfl (q_move rfl rfl) ?_
          refine run_q (.none rfl) rfl rfl (q_eql rfl rfl rfl) ?_
          refine run_q (.none rfl) rfl rfl (q_move rfl rfl) ?_
          refine run_q (.on rfl rfl rfl (by rw [hir]; rfl)) rfl rfl (q_move rfl rfl) ?_
          refine run_q (.on rfl rfl rfl (by rw [hir]; rfl)) rfl rfl (q_len rfl Try.underlying22 rfl) ?_
          refine run_q (.on rfl rfl rfl (by rw [hir]; rfl)) rfl rfl (q_eql rfl rfl rfl) ?_
          refine run_q (.none rfl) rfl rfl (q_pickT rfl rfl (by rw [hir]; rfl) rfl) ?_
          refine run_q (.none rfl) rfl rfl (q_assign rfl rfl) ?_
          refine run_nil ?_
          refine run_sub (subMk (.cons (s := 0) rfl (.cons (s := 1) rfl (.cons (s := 6) rfl (.cons (s := 7) rfl (.cons (s := 8) rfl (.cons (s := 9) rfl (.cons (s := 10) rfl (.cons (s := 11) rfl .nil)))))))) .refl) ?_
          refine run_ret ?_
          exact end1 rfl rfl (by rw [hir]; rfl)
        · have g64' := g64
          try simp only [decide_eq_true_eq, decide_eq_false_iff_not, beq_iff_eq, beq_eq_false_iff_ne, bne_iff_ne, bne_eq_false_iff_eq, Bool.not_eq_true', Bool.not_eq_false', ne_eq, Int.not_lt, Int.not_le, Decidable.not_not] at g64'
          refine run_q (.on rfl rfl rfl g64) rfl rfl (q_move rfl rfl) ?_
          refine run_q (.on rfl rfl rfl g64) rfl rfl (q_move rfl rfl) ?_
          refine run_q (.on rfl rfl rfl g64) rfl rfl (q_move rfl rfl) ?_
          refine run_q (.on rfl rfl rfl g64) rfl rfl (q_sub rfl rfl rfl (by omega)) ?_
          refine run_q (.on rfl rfl rfl g64) rfl rfl (q_gtr rfl rfl rfl) ?_
          refine run_q (.none rfl) rfl rfl (q_pickF rfl rfl g64 rfl) ?_
          refine run_nil ?_
          refine run_sub (subMk (.cons (s := 0) rfl (.cons (s := 1) rfl (.cons (s := 6) rfl (.cons (s := 7) rfl (.cons (s := 8) rfl (.cons (s := 9) rfl (.cons (s := 10) rfl (.cons (s := 11) rfl (.cons (s := 70) rfl .nil))))))))) .refl) ?_
          refine run_cond rfl (fun g70 => ?_) (fun g70 => ?_)
          · have g70' := g70
            try simp only [decide_eq_true_eq, decide_eq_false_iff_not, beq_iff_eq, beq_eq_false_iff_ne, bne_iff_ne, bne_eq_false_iff_eq, Bool.not_eq_true', Bool.not_eq_false', ne_eq, Int.not_lt, Int.not_le, Decidable.not_not] at g70'
            refine run_seq ?_
            have hir := delV_rng (p := p) (c := c) hc (by omega)
            refine run_region ?_
            refine run_q (.none rfl) rfl rfl (q_move rfl rfl) ?_
            refine run_q (.none rfl) rfl rfl (q_eql rfl rfl rfl) ?_
            refine run_q (.none rfl) rfl rfl (q_move rfl rfl) ?_
            refine run_q (.on rfl rfl rfl (by rw [hir]; rfl)) rfl rfl (q_move rfl rfl) ?_
            refine run_q (.on rfl rfl rfl (by rw [hir]; rfl)) rfl rfl (q_len rfl Try.underlying22 rfl) ?_
            refine run_q (.on rfl rfl rfl (by rw [hir]; rfl)) rfl rfl (q_eql rfl rfl rfl) ?_
            refine run_q (.none rfl) rfl rfl (q_pickT rfl rfl (by rw [hir]; rfl) rfl) ?_
            refine run_q (.none rfl) rfl rfl (q_assign rfl rfl) ?_
            refine run_nil ?_
            refine run_sub (subMk (.cons (s := 0) rfl (.cons (s := 1) rfl (.cons (s := 6) rfl (.cons (s := 7) rfl (.cons (s := 8) rfl (.cons (s := 9) rfl (.cons (s := 10) rfl (.cons (s := 11) rfl .nil)))))))) .refl) ?_
            refine run_ret ?_
            exact end1 rfl rfl (by rw [hir]; rfl)
          · have g70' := g70
            try simp only [decide_eq_true_eq, decide_eq_false_iff_not, beq_iff_eq, beq_eq_false_iff_ne, bne_iff_ne, bne_eq_false_iff_eq, Bool.not_eq_true', Bool.not_eq_false', ne_eq, Int.not_lt, Int.not_le, Decidable.not_not] at g70'
            refine run_skip ?_
            refine run_seq ?_
            refine run_seq ?_
            have hpc : 0 ≤ p ∧ p ≤ n ∧ 0 ≤ c ∧ c ≤ n - p := by omega
            refine run_region ?_
            refine run_q (.none rfl) rfl rfl (q_move rfl rfl) ?_
            refine run_q (.none rfl) rfl rfl (q_neq rfl rfl rfl) ?_
            refine run_q (.none rfl) rfl rfl (q_move rfl rfl) ?_
            refine run_q (.on rfl rfl rfl (by rw [delV_ok hc hpc]; rfl)) rfl rfl (q_move rfl rfl) ?_
            refine run_q (.on rfl rfl rfl (by rw [delV_ok hc hpc]; rfl)) rfl rfl (q_move rfl rfl) ?_
            refine run_q (.on rfl rfl rfl (by rw [delV_ok hc hpc]; rfl)) rfl rfl (q_move rfl rfl) ?_
            refine run_q (.on rfl rfl rfl (by rw [delV_ok hc hpc]; rfl)) rfl rfl (q_move rfl rfl) ?_
            refine run_q (.on rfl rfl rfl (by rw [delV_ok hc hpc]; rfl)) rfl rfl (q_move rfl rfl) ?_
            refine run_h (.on rfl rfl rfl (by rw [delV_ok hc hpc]; rfl)) (h_call rfl rfl rfl call34 (.cons rfl (.cons rfl (.cons rfl (.cons rfl Evs.nil)))) (fun w hk hm => refdelete_ret a O25 co25 n p c w (own_rd ((Sel.there Sel.here).holds hm)) hc hpc)) ?_
            rintro ⟨v, mm⟩ ⟨O86, co86, rfl, rfl⟩
            show Run _ _ _ _ _ _ _ ⟨(86, .slice O86 (delL p c a).length co86) :: _, _ :: _⟩
            refine run_q (.on rfl rfl rfl (by rw [delV_ok hc hpc]; rfl)) rfl rfl (q_call rfl call28 (.cons rfl (.cons rfl Evs.nil)) (fun w hk hm => same_del a n p c O35 O86 co35 co86 w (own_rd ((Sel.there Sel.here).holds hm)) (own_rd (Sel.here.holds hm)) hc hpc)) ?_
            refine run_q (.on rfl rfl rfl (by rw [delV_ok hc hpc]; rfl)) rfl rfl (q_not rfl rfl) ?_
            refine run_q (.none rfl) rfl rfl (q_pickF rfl rfl (by rw [delV_ok hc hpc]; rfl) rfl) ?_
            refine run_q (.none rfl) rfl rfl (q_move rfl rfl) ?_
            refine run_q (.on rfl rfl rfl rfl) rfl rfl (q_move rfl rfl) ?_
            refine run_q (.on rfl rfl rfl rfl) rfl rfl (q_move rfl rfl) ?_
            refine run_q (.on rfl rfl rfl rfl) rfl rfl (q_move rfl rfl) ?_
            refine run_q (.on rfl rfl rfl rfl) rfl rfl (q_sub rfl rfl rfl (by omega)) ?_
            refine run_q (.on rfl rfl rfl rfl) rfl rfl (q_call rfl call13 (.cons rfl (.cons rfl Evs.nil)) (fun w hk hm => check_del a n p c O35 co35 w (own_rd ((Sel.there Sel.here).holds hm)) hc hpc)) ?_
            refine run_q (.on rfl rfl rfl rfl) rfl rfl (q_neq rfl rfl rfl) ?_
            refine run_q (.none rfl) rfl rfl (q_pickF rfl rfl rfl rfl) ?_
            refine run_nil ?_
            refine run_sub (subMk (.cons (s := 0) rfl (.cons (s := 1) rfl (.cons (s := 6) rfl (.cons (s := 7) rfl (.cons (s := 8) rfl (.cons (s := 9) rfl (.cons (s := 97) rfl .nil))))))) .refl) ?_
            refine run_condF rfl rfl ?_
            refine run_skip ?_
            refine run_seq ?_
            refine run_seq ?_
            refine run_region ?_
            refine run_q (.none rfl) rfl rfl (q_assign rfl rfl) ?_
            refine run_nil ?_
            refine run_block ?_
            refine run_sub (subMk (.cons (s := 13) rfl (.cons (s := 0) rfl (.cons (s := 1) rfl (.cons (s := 6) rfl (.cons (s := 7) rfl (.cons (s := 8) rfl (.cons (s := 9) rfl .nil))))))) (.cons Sel.here .refl (.cons Sel.here .refl (.cons Sel.here .refl (.cons Sel.here .refl .nil))))) ?_
            refine run_loopC1M0 (ι := Nat) (fun k => k ≤ a.length ∧ ∀ j, j < k → ¬ (inB (nth a j) p = true ∧ (nth a j).first < p)) (fun k => .int .i64 (k : Int))  (fun k => a.length - k) 0 (by (try dsimp only); exact ⟨by omega, fun j hj => absurd hj (by omega)⟩) rfl  ?_
            rintro k hq
            (try dsimp only at hq)
            obtain ⟨hk, hall⟩ := hq
            show Run _ _ _ _ _ _ _ ⟨(13, .int .i64 (k : Int)) :: _, _⟩
            refine run_seq ?_
            refine run_seq ?_
            refine run_region ?_
            refine run_q (.none rfl) rfl rfl (q_move rfl rfl) ?_
            refine run_q (.none rfl) rfl rfl (q_move rfl rfl) ?_
            refine run_q (.none rfl) rfl rfl (q_len rfl Try.underlying27 rfl) ?_
            refine run_q (.none rfl) rfl rfl (q_lss rfl rfl rfl) ?_
            refine run_nil ?_
            refine run_sub (subMk (.cons (s := 0) rfl (.cons (s := 1) rfl (.cons (s := 6) rfl (.cons (s := 7) rfl (.cons (s := 8) rfl (.cons (s := 9) rfl (.cons (s := 13) rfl (.cons (s := 101) rfl .nil)))))))) .refl) ?_
            refine run_cond rfl (fun g101 => ?_) (fun g101 => ?_)
            · have g101' := g101
              try simp only [decide_eq_true_eq, decide_eq_false_iff_not, beq_iff_eq, beq_eq_false_iff_ne, bne_iff_ne, bne_eq_false_iff_eq, Bool.not_eq_true', Bool.not_eq_false', ne_eq, Int.not_lt, Int.not_le, Decidable.not_not] at g101'
              refine run_skip ?_
              refine run_seq ?_
              refine run_block ?_
              refine run_seq ?_
              refine run_region ?_
              refine run_q (.none rfl) rfl rfl (q_move rfl rfl) ?_
              refine run_q (.none rfl) rfl rfl (q_move rfl rfl) ?_
              refine run_q (.none rfl) rfl rfl (q_indexS (q := k) rfl Try.underlying27 sz45 rfl rfl (.own (.there (.there Sel.here))) (by simp <;> omega) rfl (by omega)) ?_
              refine run_q (.none rfl) rfl rfl (q_loadE rfl agg45 rfl (.own (.there (.there Sel.here))) (getmap (by omega)) rfl) ?_
              refine run_q (.none rfl) rfl rfl (q_move rfl rfl) ?_
              refine run_q (.none rfl) rfl rfl (q_call rfl call22 (.cons rfl (.cons rfl Evs.nil)) (fun w hk hm => in_just (nth a k) p w (hv.prop (by omega)).1)) ?_
              refine run_q (.none rfl) rfl rfl (q_move rfl rfl) ?_
              refine run_split 110 rfl (fun g110 => ?_) (fun g110 => ?_)
              · have g110' := g110
                try simp only [decide_eq_true_eq, decide_eq_false_iff_not, beq_iff_eq, beq_eq_false_iff_ne, bne_iff_ne, bne_eq_false_iff_eq, Bool.not_eq_true', Bool.not_eq_false', ne_eq, Int.not_lt, Int.not_le, Decidable.not_not] at g110'
                refine run_q (.on rfl rfl rfl g110) rfl rfl (q_move rfl rfl) ?_
                refine run_q (.on rfl rfl rfl g110) rfl rfl (q_move rfl rfl) ?_
                refine run_q (.on rfl rfl rfl g110) rfl rfl (q_indexS (q := k) rfl Try.underlying27 sz45 rfl rfl (.own (.there (.there Sel.here))) (by simp <;> omega) rfl (by omega)) ?_
                refine run_q (.on rfl rfl rfl g110) rfl rfl (q_fieldAddr (d := 0) rfl Try.underlying45 rfl rfl sz3 rfl) ?_
                refine run_q (.on rfl rfl rfl g110) rfl rfl (q_loadF rfl one3 rfl (.own (.there (.there Sel.here))) (getmap (by omega)) rfl) ?_
                refine run_q (.on rfl rfl rfl g110) rfl rfl (q_move rfl rfl) ?_
                refine run_q (.on rfl rfl rfl g110) rfl rfl (q_lss rfl rfl rfl) ?_
                refine run_q (.none rfl) rfl rfl (q_pickT rfl rfl g110 rfl) ?_
                refine run_nil ?_
                refine run_sub (subMk (.cons (s := 0) rfl (.cons (s := 1) rfl (.cons (s := 6) rfl (.cons (s := 7) rfl (.cons (s := 8) rfl (.cons (s := 9) rfl (.cons (s := 13) rfl (.cons (s := 118) rfl .nil)))))))) .refl) ?_
                refine run_cond rfl (fun g118 => ?_) (fun g118 => ?_)
                · have g118' := g118
                  try simp only [decide_eq_true_eq, decide_eq_false_iff_not, beq_iff_eq, beq_eq_false_iff_ne, bne_iff_ne, bne_eq_false_iff_eq, Bool.not_eq_true', Bool.not_eq_false', ne_eq, Int.not_lt, Int.not_le, Decidable.not_not] at g118'
                  refine run_seq ?_
                  refine run_region ?_
                  refine run_q (.none rfl) rfl rfl (q_assign rfl rfl) ?_
                  refine run_nil ?_
                  refine run_ret ?_
                  exact end1 rfl rfl rfl
                · have g118' := g118
                  try simp only [decide_eq_true_eq, decide_eq_false_iff_not, beq_iff_eq, beq_eq_false_iff_ne, bne_iff_ne, bne_eq_false_iff_eq, Bool.not_eq_true', Bool.not_eq_false', ne_eq, Int.not_lt, Int.not_le, Decidable.not_not] at g118'
                  refine run_skip ?_
                  refine run_blk ?_
                  refine run_region ?_
                  refine run_q (.none rfl) rfl rfl (q_move rfl rfl) ?_
                  refine run_q (.none rfl) rfl rfl (q_add rfl rfl rfl (by omega)) ?_
                  refine run_q (.none rfl) rfl rfl (q_assign rfl rfl) ?_
                  refine run_nil ?_
                  refine run_sub (subMk (.cons (s := 0) rfl (.cons (s := 1) rfl (.cons (s := 6) rfl (.cons (s := 7) rfl (.cons (s := 8) rfl (.cons (s := 9) rfl (.cons (s := 13) rfl .nil))))))) .refl) ?_
                  exact run_again (k + 1) (by (try dsimp only); exact ⟨by omega, all_next hall (fun hx => by first | (have := hx.2; omega) | (have := hx.1; simp_all))⟩) (by (try dsimp only); omega) (subMk (.cons' (s := 13) rfl rfl (.cons (s := 0) rfl (.cons (s := 1) rfl (.cons (s := 6) rfl (.cons (s := 7) rfl (.cons (s := 8) rfl (.cons (s := 9) rfl .nil))))))) (.cons Sel.here .refl (.cons Sel.here .refl (.cons Sel.here .refl (.cons Sel.here .refl .nil)))))
              · have g110' := g110
                try simp only [decide_eq_true_eq, decide_eq_false_iff_not, beq_iff_eq, beq_eq_false_iff_ne, bne_iff_ne, bne_eq_false_iff_eq, Bool.not_eq_true', Bool.not_eq_false', ne_eq, Int.not_lt, Int.not_le, Decidable.not_not] at g110'
                refine run_off (.no rfl rfl rfl g110) rfl rfl ?_
                refine run_off (.no rfl rfl rfl g110) rfl rfl ?_
                refine run_off (.no rfl rfl rfl g110) rfl rfl ?_
                refine run_off (.no rfl rfl rfl g110) rfl rfl ?_
                refine run_off (.no rfl rfl rfl g110) rfl rfl ?_
                refine run_off (.no rfl rfl rfl g110) rfl rfl ?_
                refine run_off (.no rfl rfl rfl g110) rfl rfl ?_
                refine run_q (.none rfl) rfl rfl (q_pickF rfl rfl g110 rfl) ?_
                refine run_nil ?_
                refine run_sub (subMk (.cons (s := 0) rfl (.cons (s := 1) rfl (.cons (s := 6) rfl (.cons (s := 7) rfl (.cons (s := 8) rfl (.cons (s := 9) rfl (.cons (s := 13) rfl (.cons (s := 118) rfl .nil)))))))) .refl) ?_
                refine run_condF rfl rfl ?_
                refine run_skip ?_
                refine run_blk ?_
                refine run_region ?_
                refine run_q (.none rfl) rfl rfl (q_move rfl rfl) ?_
                refine run_q (.none rfl) rfl rfl (q_add rfl rfl rfl (by omega)) ?_
                refine run_q (.none rfl) rfl rfl (q_assign rfl rfl) ?_
                refine run_nil ?_
                refine run_sub (subMk (.cons (s := 0) rfl (.cons (s := 1) rfl (.cons (s := 6) rfl (.cons (s := 7) rfl (.cons (s := 8) rfl (.cons (s := 9) rfl (.cons (s := 13) rfl .nil))))))) .refl) ?_
                exact run_again (k + 1) (by (try dsimp only); exact ⟨by omega, all_next hall (fun hx => by first | (have := hx.2; omega) | (have := hx.1; simp_all))⟩) (by (try dsimp only); omega) (subMk (.cons' (s := 13) rfl rfl (.cons (s := 0) rfl (.cons (s := 1) rfl (.cons (s := 6) rfl (.cons (s := 7) rfl (.cons (s := 8) rfl (.cons (s := 9) rfl .nil))))))) (.cons Sel.here .refl (.cons Sel.here .refl (.cons Sel.here .refl (.cons Sel.here .refl .nil)))))
            · have g101' := g101
              try simp only [decide_eq_true_eq, decide_eq_false_iff_not, beq_iff_eq, beq_eq_false_iff_ne, bne_iff_ne, bne_eq_false_iff_eq, Bool.not_eq_true', Bool.not_eq_false', ne_eq, Int.not_lt, Int.not_le, Decidable.not_not] at g101'
              obtain rfl : k = a.length := by omega
              refine run_exit rfl ?_
              refine run_sub (subMk (.cons (s := 0) rfl (.cons (s := 1) rfl (.cons (s := 6) rfl (.cons (s := 8) rfl (.cons (s := 9) rfl .nil))))) .refl) ?_
              refine run_seq ?_
              refine run_region ?_
              refine run_q (.none rfl) rfl rfl (q_move rfl rfl) ?_
              refine run_q (.none rfl) rfl rfl (q_move rfl rfl) ?_
              refine run_q (.none rfl) rfl rfl (q_sub rfl rfl rfl (by omega)) ?_
              refine run_q (.none rfl) rfl rfl (q_min2 rfl rfl rfl) ?_
              refine run_q (.none rfl) rfl rfl (q_assign rfl rfl) ?_
              refine run_nil ?_
              refine run_sub (subMk (.cons (s := 0) rfl (.cons (s := 1) rfl (.cons (s := 6) rfl (.cons (s := 8) rfl (.cons (s := 14) rfl .nil))))) .refl) ?_
              refine run_seq ?_
              obtain ⟨m, hm⟩ : ∃ m, m = min c (128 - n) := ⟨_, rfl⟩
              have hm1 : 0 ≤ m ∧ m ≤ 128 - n := by omega
              have hpm : 0 ≤ p ∧ p ≤ n ∧ 0 ≤ m ∧ m ≤ 128 - n := by omega
              have hback := delV_back hc ⟨hpc.1, hpc.2.1⟩ hm1 hall
              refine run_sub (subMk (.cons (s := 0) rfl (.cons (s := 1) rfl (.cons (s := 6) rfl (.cons (s := 8) rfl (.cons' (s := 14) (v' := .int .i64 m) rfl (vint hm.symm) .nil))))) .refl) ?_
              refine run_region ?_
              refine run_q (.none rfl) rfl rfl (q_move rfl rfl) ?_
              refine run_q (.none rfl) rfl rfl (q_move rfl rfl) ?_
              refine run_q (.none rfl) rfl rfl (q_move rfl rfl) ?_
              refine run_q (.none rfl) rfl rfl (q_move rfl rfl) ?_
              refine run_h (.none rfl) (h_call rfl rfl rfl call27 (.cons rfl (.cons rfl (.cons rfl (.cons rfl Evs.nil)))) (fun w hk hm => insert_ret a A ca n p m w (hra.kept0 hk) (by omega))) ?_
              rintro ⟨v, mm⟩ ⟨O128, co128, rfl, rfl⟩
              show Run _ _ _ _ _ _ _ ⟨(128, .tuple #[.slice O128 (insV a n p m).1.length co128, .int .i64 (insV a n p m).2]) :: _, _ :: _⟩
              refine run_q (.none rfl) rfl rfl (q_move rfl rfl) ?_
              refine run_q (.none rfl) rfl rfl (q_extract rfl rfl rfl) ?_
              refine run_q (.none rfl) rfl rfl (q_extract rfl rfl rfl) ?_
              refine run_q (.none rfl) rfl rfl (q_assign rfl rfl) ?_
              refine run_q (.none rfl) rfl rfl (q_assign rfl rfl) ?_
              refine run_nil ?_
              refine run_sub (subMk (.cons (s := 0) rfl (.cons (s := 1) rfl (.cons (s := 6) rfl (.cons (s := 8) rfl (.cons (s := 14) rfl (.cons (s := 15) rfl (.cons (s := 16) rfl .nil))))))) .refl) ?_
              refine run_seq ?_
              refine run_region ?_
              refine run_q (.none rfl) rfl rfl (q_move rfl rfl) ?_
              refine run_q (.none rfl) rfl rfl (q_move rfl rfl) ?_
              refine run_q (.none rfl) rfl rfl (q_move rfl rfl) ?_
              refine run_q (.none rfl) rfl rfl (q_add rfl rfl rfl (by omega)) ?_
              refine run_q (.none rfl) rfl rfl (q_move rfl rfl) ?_
              refine run_q (.none rfl) rfl rfl (q_move rfl rfl) ?_
              refine run_h (.none rfl) (h_call rfl rfl rfl call33 (.cons rfl (.cons rfl (.cons rfl (.cons rfl Evs.nil)))) (fun w hk hm => delete_ret (insV a n p m).1 O128 co128 (n + m) p m w (own_rd (Sel.here.holds hm)) (by rw [insV_ok hc hpm, List.length_map]; omega))) ?_
              rw [hback]
              rintro ⟨v, mm⟩ ⟨O138, co138, rfl, rfl⟩
              show Run _ _ _ _ _ _ _ ⟨(138, .tuple #[.slice O138 a.length co138, .int .i64 0]) :: _, _ :: _⟩
              refine run_q (.none rfl) rfl rfl (q_move rfl rfl) ?_
              refine run_q (.none rfl) rfl rfl (q_extract rfl rfl rfl) ?_
              refine run_q (.none rfl) rfl rfl (q_extract rfl rfl rfl) ?_
              refine run_q (.none rfl) rfl rfl (q_assign rfl rfl) ?_
              refine run_q (.none rfl) rfl rfl (q_assign rfl rfl) ?_
              refine run_nil ?_
              refine run_sub (subMk (.cons (s := 0) rfl (.cons (s := 6) rfl (.cons (s := 16) rfl (.cons (s := 17) rfl (.cons (s := 18) rfl .nil))))) .refl) ?_
              refine run_seq ?_
              refine run_region ?_
              refine run_q (.none rfl) rfl rfl (q_move rfl rfl) ?_
              refine run_q (.none rfl) rfl rfl (q_eql rfl rfl rfl) ?_
              refine run_q (.none rfl) rfl rfl (q_move rfl rfl) ?_
              refine run_q (.on rfl rfl rfl (by rw [insV_ok hc hpm]; rfl)) rfl rfl (q_move rfl rfl) ?_
              refine run_q (.on rfl rfl rfl (by rw [insV_ok hc hpm]; rfl)) rfl rfl (q_eql rfl rfl rfl) ?_
              refine run_q (.none rfl) rfl rfl (q_pickT rfl rfl (by rw [insV_ok hc hpm]; rfl) rfl) ?_
              refine run_q (.none rfl) rfl rfl (q_move rfl rfl) ?_
              refine run_q (.on rfl rfl rfl rfl) rfl rfl (q_move rfl rfl) ?_
              refine run_q (.on rfl rfl rfl rfl) rfl rfl (q_move rfl rfl) ?_
              refine run_q (.on rfl rfl rfl rfl) rfl rfl (q_call rfl call32 (.cons rfl (.cons rfl Evs.nil)) (fun w hk hm => equal_refl a O138 A co138 ca w (own_rd (Sel.here.holds hm)) (hra.kept0 hk) (by omega))) ?_
              refine run_q (.none rfl) rfl rfl (q_pickT rfl rfl rfl rfl) ?_
              refine run_q (.none rfl) rfl rfl (q_assign rfl rfl) ?_
              refine run_nil ?_
              refine run_sub (subMk (.cons (s := 6) rfl .nil) .refl) ?_
              refine run_ret ?_
              exact end1 rfl rfl rfl

theorem law11_just (l : List Tup) (A : Option Addr) (ca : Nat) (n p c : Int) (W : World) (hr0 : Rd W A 4 (l.map Tup.enc)) (hca : l.length ≤ ca) : Calls Try.prog 11 #[.slice A l.length ca, .int .i64 n, .agg #[.int .i64 p, .int .i64 c]] W (Just W (.bool true)) := law11_at l A ca n p c W hr0 hca _ rfl

end Go.Proofs.Yticofkkkafhpiaa
