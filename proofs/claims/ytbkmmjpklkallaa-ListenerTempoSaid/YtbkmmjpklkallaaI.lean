/- What an alignment costs, in the program. -/
import Derived.Test.YtbkmmjpklkallaaH
set_option linter.unusedSimpArgs false
set_option linter.unusedVariables false
namespace Go.Proofs.Ytbkmmjpklkallaa
open Go Go.RowKit Hr

theorem call22 : Hr.Callable Try.prog 22 := fun args w => by kernel_rfl

theorem costErr_just (c : Cost) (a b : List Note) (A B : Option Addr) (ca cb : Nat) (ps : List Pair) (Q : Option Addr) (cq : Nat) (W : World) (hra : Rd W A 7 (a.map Note.enc)) (hrb : Rd W B 7 (b.map Note.enc)) (hrq : Rd W Q 3 (ps.map Pair.enc)) (hla : a.length ≤ 1000000000000) (hlb : b.length ≤ 1000000000000) (hlq : ps.length ≤ 1000000000000) (he : (firstNZ [checkV a b ps, costB c]) ≠ 0) : Calls Try.prog 19 #[.slice A a.length ca, .slice B b.length cb, c.val, .slice Q ps.length cq] W (Hr.Just W (.tuple #[.int .i64 0, .int .i64 (firstNZ [checkV a b ps, costB c])])) := by
  refine Just.of_ret ?_
  refine enterA (X := nX) (vs := [.slice A a.length ca, .slice B b.length cb, c.val, .slice Q ps.length cq]) Try.func19 Try.ntmps19 rfl rfl Mem.nil ?_
  refine run_seq ?_
  refine run_region ?_
  refine run_h (.none rfl) (h_box rfl rfl rfl rfl rfl) ?_
  rintro b6 -
  refine run_q (.none rfl) rfl rfl (q_assign rfl rfl) ?_
  refine run_q (.none rfl) rfl rfl (q_assign rfl rfl) ?_
  refine run_nil ?_
  refine run_seq ?_
  refine run_seq ?_
  refine run_draw [(0, 0), (1, 0), (2, 0), (3, 0), (4, 0), (5, 0), (6, 2), (7, 2), (8, 2)] mixed (by kernel_rfl) .refl ?_
  refine d_q rfl rfl (.none rfl) rfl rfl (q_move rfl rfl) ?_
  refine d_q rfl rfl (.none rfl) rfl rfl (q_move rfl rfl) ?_
  refine d_q rfl rfl (.none rfl) rfl rfl (q_move rfl rfl) ?_
  refine d_q rfl rfl (.none rfl) rfl rfl (q_call rfl call22 (.cons rfl (.cons rfl (.cons rfl Evs.nil))) (fun w hk hm => lcheck_just a b A B ca cb ps Q cq w (hra.kept0 hk) (hrb.kept0 hk) (hrq.kept0 hk) (by omega) (by omega) (by omega))) ?_
  refine d_q rfl rfl (.none rfl) rfl rfl (q_loadBN rfl agg26 rfl Sel.here (.cons rfl (.cons rfl (.cons rfl (.cons rfl (.cons rfl CellsAt.nil))))) rfl) ?_
  refine d_q rfl rfl (.none rfl) rfl rfl (q_call rfl call37 (.cons rfl Evs.nil) (fun w hk hm => check_just c w)) ?_
  refine d_t rfl rfl (.none rfl) (h_buildSlice rfl rfl rfl Try.underlying89 info29 (.cons rfl rfl rfl rfl (.cons rfl rfl rfl rfl Parts.nil)) rfl (by omega)) ?_
  rintro b20 -
  refine d_t rfl rfl (.none rfl) (.of_q rfl rfl (q_call rfl call35 (.cons rfl Evs.nil) (fun w hk hm => first_just [checkV a b ps, costB c] (some ⟨b20, 0, none⟩) 2 2 w (own_rd (Sel.here.holds hm)) (by simp) (by simp)))) ?_
  rintro - -
  refine d_t rfl rfl (.none rfl) (.of_q rfl rfl (q_assign rfl rfl)) ?_
  rintro - -
  refine d_nil ?_
  refine run_sub (subMk (.cons (s := 0) rfl (.cons (s := 1) rfl (.cons (s := 3) rfl (.cons (s := 6) rfl (.cons (s := 8) rfl (.cons (s := 9) rfl (.cons (s := 10) rfl .nil))))))) .refl) ?_
  refine run_seq ?_
  refine run_region ?_
  refine run_q (.none rfl) rfl rfl (q_move rfl rfl) ?_
  refine run_q (.none rfl) rfl rfl (q_neq rfl rfl rfl) ?_
  refine run_nil ?_
  refine run_condT rfl (by simpa using he) ?_
  refine run_seq ?_
  refine run_region ?_
  refine run_q (.none rfl) rfl rfl (q_move rfl rfl) ?_
  refine run_q (.none rfl) rfl rfl (q_assign rfl rfl) ?_
  refine run_q (.none rfl) rfl rfl (q_assign rfl rfl) ?_
  refine run_nil ?_
  refine run_sub (subMk (.cons (s := 0) rfl (.cons (s := 1) rfl (.cons (s := 3) rfl (.cons (s := 6) rfl (.cons (s := 8) rfl (.cons (s := 9) rfl .nil)))))) .refl) ?_
  refine run_ret ?_
  exact end2 rfl rfl rfl rfl

theorem costOk_just (c : Cost) (a b : List Note) (A B : Option Addr) (ca cb : Nat) (ps : List Pair) (Q : Option Addr) (cq : Nat) (W : World) (hra : Rd W A 7 (a.map Note.enc)) (hrb : Rd W B 7 (b.map Note.enc)) (hrq : Rd W Q 3 (ps.map Pair.enc)) (hla : a.length ≤ 1000000000000) (hlb : b.length ≤ 1000000000000) (hlq : ps.length ≤ 1000000000000) (hck : checkV a b ps = 0) (hcc : costB c = 0) (hl2 : ps.length ≤ 2048) : Calls Try.prog 19 #[.slice A a.length ca, .slice B b.length cb, c.val, .slice Q ps.length cq] W (Hr.Just W (.tuple #[.int .i64 (costPs c a b ps 0 0), .int .i64 0])) := by
  obtain ⟨hwa, hwb, herr⟩ := checkV_zero hck
  obtain ⟨hna, -⟩ := wrongL_ok hwa
  obtain ⟨hnb, -⟩ := wrongL_ok hwb
  have hc := costB_ok hcc
  refine Just.of_ret ?_
  refine enterA (X := nX) (vs := [.slice A a.length ca, .slice B b.length cb, c.val, .slice Q ps.length cq]) Try.func19 Try.ntmps19 rfl rfl Mem.nil ?_
  refine run_seq ?_
  refine run_region ?_
  refine run_h (.none rfl) (h_box rfl rfl rfl rfl rfl) ?_
  rintro b6 -
  refine run_q (.none rfl) rfl rfl (q_assign rfl rfl) ?_
  refine run_q (.none rfl) rfl rfl (q_assign rfl rfl) ?_
  refine run_nil ?_
  refine run_seq ?_
  refine run_seq ?_
  refine run_draw [(0, 0), (1, 0), (2, 0), (3, 0), (4, 0), (5, 0), (6, 2), (7, 2), (8, 2)] mixed (by kernel_rfl) .refl ?_
  refine d_q rfl rfl (.none rfl) rfl rfl (q_move rfl rfl) ?_
  refine d_q rfl rfl (.none rfl) rfl rfl (q_move rfl rfl) ?_
  refine d_q rfl rfl (.none rfl) rfl rfl (q_move rfl rfl) ?_
  refine d_q rfl rfl (.none rfl) rfl rfl (q_call rfl call22 (.cons rfl (.cons rfl (.cons rfl Evs.nil))) (fun w hk hm => lcheck_just a b A B ca cb ps Q cq w (hra.kept0 hk) (hrb.kept0 hk) (hrq.kept0 hk) (by omega) (by omega) (by omega))) ?_
  refine d_q rfl rfl (.none rfl) rfl rfl (q_loadBN rfl agg26 rfl Sel.here (.cons rfl (.cons rfl (.cons rfl (.cons rfl (.cons rfl CellsAt.nil))))) rfl) ?_
  refine d_q rfl rfl (.none rfl) rfl rfl (q_call rfl call37 (.cons rfl Evs.nil) (fun w hk hm => check_just c w)) ?_
  refine d_t rfl rfl (.none rfl) (h_buildSlice rfl rfl rfl Try.underlying89 info29 (.cons rfl rfl rfl rfl (.cons rfl rfl rfl rfl Parts.nil)) rfl (by omega)) ?_
  rintro b20 -
  refine d_t rfl rfl (.none rfl) (.of_q rfl rfl (q_call rfl call35 (.cons rfl Evs.nil) (fun w hk hm => first_just [checkV a b ps, costB c] (some ⟨b20, 0, none⟩) 2 2 w (own_rd (Sel.here.holds hm)) (by simp) (by simp)))) ?_
  rintro - -
  refine d_t rfl rfl (.none rfl) (.of_q rfl rfl (q_assign rfl rfl)) ?_
  rintro - -
  refine d_nil ?_
  refine run_sub (subMk (.cons (s := 0) rfl (.cons (s := 1) rfl (.cons (s := 3) rfl (.cons (s := 6) rfl (.cons (s := 8) rfl (.cons (s := 9) rfl (.cons (s := 10) rfl .nil))))))) .refl) ?_
  refine run_seq ?_
  refine run_region ?_
  refine run_q (.none rfl) rfl rfl (q_move rfl rfl) ?_
  refine run_q (.none rfl) rfl rfl (q_neq rfl rfl rfl) ?_
  refine run_nil ?_
  refine run_condF rfl (by simp [firstNZ, hck, hcc]) ?_
  refine run_skip ?_
  refine run_seq ?_
  refine run_region ?_
  refine run_q (.none rfl) rfl rfl (q_assign rfl rfl) ?_
  refine run_nil ?_
  refine run_sub (subMk (.cons (s := 0) rfl (.cons (s := 1) rfl (.cons (s := 3) rfl (.cons (s := 6) rfl (.cons (s := 8) rfl (.cons (s := 9) rfl (.cons (s := 11) rfl .nil))))))) .refl) ?_
  refine run_seq ?_
  refine run_seq ?_
  refine run_region ?_
  refine run_q (.none rfl) rfl rfl (q_move rfl rfl) ?_
  refine run_q (.none rfl) rfl rfl (q_len rfl Try.underlying28 rfl) ?_
  refine run_q (.none rfl) rfl rfl (q_move rfl rfl) ?_
  refine run_nil ?_
  refine run_block ?_
  refine run_sub (subMk (.cons (s := 27) rfl (.cons (s := 11) rfl (.cons (s := 0) rfl (.cons (s := 1) rfl (.cons (s := 6) rfl (.cons (s := 8) rfl (.cons (s := 9) rfl (.cons (s := 25) rfl (.cons (s := 26) rfl .nil))))))))) (.cons Sel.here .refl (.cons Sel.here .refl .nil))) ?_
  refine run_loopC2M0 (ι := Nat × Nat × Nat × Int) (fun gg => gg.1 ≤ ps.length ∧ errPs a b (ps.drop gg.1) gg.2.1 gg.2.2.1 = 0 ∧ gg.2.2.2 + costPs c a b (ps.drop gg.1) gg.2.1 gg.2.2.1 = costPs c a b ps 0 0 ∧ 0 ≤ gg.2.2.2 ∧ gg.2.2.2 ≤ (gg.1 : Int) * 1001000000) (fun gg => .int .i64 (gg.1 : Int)) (fun gg => .int .i64 gg.2.2.2)  (fun gg => ps.length - gg.1) (0, 0, 0, 0) (by (try dsimp only); exact ⟨by omega, herr, by simp, by omega, by omega⟩) rfl rfl  ?_
  rintro ⟨j, i, k, t⟩ hq
  (try dsimp only at hq)
  obtain ⟨hj, hinv, ht, ht0, ht1⟩ := hq
  show Run _ _ _ _ _ _ _ ⟨(27, .int .i64 (j : Int)) :: (11, .int .i64 t) :: _, _⟩
  refine run_seq ?_
  refine run_region ?_
  refine run_q (.none rfl) rfl rfl (q_lss rfl rfl rfl) ?_
  refine run_nil ?_
  refine run_seq ?_
  refine run_cond rfl (fun g28 => ?_) (fun g28 => ?_)
  · have g28' := g28
    try simp only [decide_eq_true_eq, decide_eq_false_iff_not, beq_iff_eq, beq_eq_false_iff_ne, bne_iff_ne, bne_eq_false_iff_eq, Bool.not_eq_true', Bool.not_eq_false', ne_eq, Int.not_lt, Int.not_le, Decidable.not_not] at g28'
    have hd := drop_nth (l := ps) (show j < ps.length by omega)
    obtain ⟨hp, hrest⟩ := errPs_cons (by rw [← hd]; exact hinv)
    obtain ⟨z1, z2, z3, z4, z5, z6, z7⟩ := errP_zero hp
    have hm := hc.m
    have hex := hc.e
    have hcp := costP_bd hc (a := a) (b := b) (i := i) (k := k) (p := nth ps j)
    have hjv := joinV_bd hc (nth a i) (nth b k)
    refine run_skip ?_
    refine run_seq ?_
    refine run_block ?_
    refine run_seq ?_
    refine run_region ?_
    refine run_q (.none rfl) rfl rfl (q_indexS (q := j) rfl Try.underlying28 sz40 rfl rfl (.inp hrq .no) (by simp <;> omega) rfl (by omega)) ?_
    refine run_q (.none rfl) rfl rfl (q_loadE rfl agg40 rfl (.inp hrq .no) (getmap (by omega)) rfl) ?_
    refine run_h (.none rfl) (h_alloc rfl rfl rfl info40) ?_
    rintro b13 -
    refine run_h (.none rfl) (h_storeB rfl rfl sz40 rfl rfl rfl rfl rfl Sel.here rfl) ?_
    rintro - -
    refine run_nil ?_
    refine run_sub (subMk (.cons (s := 0) rfl (.cons (s := 1) rfl (.cons (s := 6) rfl (.cons (s := 8) rfl (.cons (s := 9) rfl (.cons (s := 11) rfl (.cons (s := 13) rfl (.cons (s := 25) rfl (.cons (s := 26) rfl (.cons (s := 27) rfl .nil)))))))))) .refl) ?_
    refine run_seq ?_
    refine run_region ?_
    refine run_q (.none rfl) rfl rfl (q_fieldB (d := 0) rfl Try.underlying40 rfl rfl sz3 rfl) ?_
    refine run_q (.none rfl) rfl rfl (q_loadB rfl one3 rfl Sel.here rfl) ?_
    refine run_nil ?_
    refine run_block ?_
    refine run_seq ?_
    refine run_region ?_
    refine run_q (.none rfl) rfl rfl (q_eql rfl rfl rfl) ?_
    refine run_q (.none rfl) rfl rfl (q_assign rfl rfl) ?_
    refine run_nil ?_
    refine run_cond rfl (fun g47 => ?_) (fun g47 => ?_)
    · have g47' := g47
      try simp only [decide_eq_true_eq, decide_eq_false_iff_not, beq_iff_eq, beq_eq_false_iff_ne, bne_iff_ne, bne_eq_false_iff_eq, Bool.not_eq_true', Bool.not_eq_false', ne_eq, Int.not_lt, Int.not_le, Decidable.not_not] at g47'
      refine run_region ?_
      refine run_q (.none rfl) rfl rfl (q_move rfl rfl) ?_
      refine run_q (.none rfl) rfl rfl (q_fieldB (d := 1) rfl Try.underlying26 rfl rfl sz3 rfl) ?_
      refine run_q (.none rfl) rfl rfl (q_loadB rfl one3 rfl (.there (.there Sel.here)) rfl) ?_
      refine run_q (.none rfl) rfl rfl (q_add rfl rfl rfl (by omega)) ?_
      refine run_q (.none rfl) rfl rfl (q_assign rfl rfl) ?_
      refine run_nil ?_
      refine run_sub (subMk (.cons (s := 0) rfl (.cons (s := 1) rfl (.cons (s := 6) rfl (.cons (s := 8) rfl (.cons (s := 9) rfl (.cons (s := 11) rfl (.cons (s := 25) rfl (.cons (s := 26) rfl (.cons (s := 27) rfl .nil))))))))) .refl) ?_
      refine run_blk ?_
      refine run_blk ?_
      refine run_region ?_
      refine run_q (.none rfl) rfl rfl (q_add rfl rfl rfl (by omega)) ?_
      refine run_q (.none rfl) rfl rfl (q_move rfl rfl) ?_
      refine run_nil ?_
      exact run_again (j + 1, stI (nth ps j) i, stK (nth ps j) k, t + costP c a b i k (nth ps j)) (by (try dsimp only); exact ⟨by omega, hrest, by rw [hd, costPs] at ht; omega, by omega, by omega⟩) (by (try dsimp only); omega) (subMk (.cons' (s := 27) rfl rfl (.cons' (s := 11) rfl (vint (by rw [costP, if_pos g47'])) (.cons (s := 0) rfl (.cons (s := 1) rfl (.cons (s := 6) rfl (.cons (s := 8) rfl (.cons (s := 9) rfl (.cons (s := 25) rfl (.cons (s := 26) rfl .nil))))))))) (.cons (.there Sel.here) .refl (.cons (.there Sel.here) .refl .nil)))
    · have g47' := g47
      try simp only [decide_eq_true_eq, decide_eq_false_iff_not, beq_iff_eq, beq_eq_false_iff_ne, bne_iff_ne, bne_eq_false_iff_eq, Bool.not_eq_true', Bool.not_eq_false', ne_eq, Int.not_lt, Int.not_le, Decidable.not_not] at g47'
      refine run_seq ?_
      refine run_region ?_
      refine run_q (.none rfl) rfl rfl (q_eql rfl rfl rfl) ?_
      refine run_q (.none rfl) rfl rfl (q_assign rfl rfl) ?_
      refine run_nil ?_
      refine run_sub (subMk (.cons (s := 0) rfl (.cons (s := 1) rfl (.cons (s := 6) rfl (.cons (s := 8) rfl (.cons (s := 9) rfl (.cons (s := 11) rfl (.cons (s := 13) rfl (.cons (s := 25) rfl (.cons (s := 26) rfl (.cons (s := 27) rfl (.cons (s := 53) rfl .nil))))))))))) .refl) ?_
      refine run_cond rfl (fun g53 => ?_) (fun g53 => ?_)
      · have g53' := g53
        try simp only [decide_eq_true_eq, decide_eq_false_iff_not, beq_iff_eq, beq_eq_false_iff_ne, bne_iff_ne, bne_eq_false_iff_eq, Bool.not_eq_true', Bool.not_eq_false', ne_eq, Int.not_lt, Int.not_le, Decidable.not_not] at g53'
        refine run_region ?_
        refine run_q (.none rfl) rfl rfl (q_move rfl rfl) ?_
        refine run_q (.none rfl) rfl rfl (q_fieldB (d := 2) rfl Try.underlying26 rfl rfl sz3 rfl) ?_
        refine run_q (.none rfl) rfl rfl (q_loadB rfl one3 rfl (.there (.there Sel.here)) rfl) ?_
        refine run_q (.none rfl) rfl rfl (q_add rfl rfl rfl (by omega)) ?_
        refine run_q (.none rfl) rfl rfl (q_assign rfl rfl) ?_
        refine run_nil ?_
        refine run_sub (subMk (.cons (s := 0) rfl (.cons (s := 1) rfl (.cons (s := 6) rfl (.cons (s := 8) rfl (.cons (s := 9) rfl (.cons (s := 11) rfl (.cons (s := 25) rfl (.cons (s := 26) rfl (.cons (s := 27) rfl .nil))))))))) .refl) ?_
        refine run_blk ?_
        refine run_blk ?_
        refine run_region ?_
        refine run_q (.none rfl) rfl rfl (q_add rfl rfl rfl (by omega)) ?_
        refine run_q (.none rfl) rfl rfl (q_move rfl rfl) ?_
        refine run_nil ?_
        exact run_again (j + 1, stI (nth ps j) i, stK (nth ps j) k, t + costP c a b i k (nth ps j)) (by (try dsimp only); exact ⟨by omega, hrest, by rw [hd, costPs] at ht; omega, by omega, by omega⟩) (by (try dsimp only); omega) (subMk (.cons' (s := 27) rfl rfl (.cons' (s := 11) rfl (vint (by rw [costP, if_neg g47', if_pos g53'])) (.cons (s := 0) rfl (.cons (s := 1) rfl (.cons (s := 6) rfl (.cons (s := 8) rfl (.cons (s := 9) rfl (.cons (s := 25) rfl (.cons (s := 26) rfl .nil))))))))) (.cons (.there Sel.here) .refl (.cons (.there Sel.here) .refl .nil)))
      · have g53' := g53
        try simp only [decide_eq_true_eq, decide_eq_false_iff_not, beq_iff_eq, beq_eq_false_iff_ne, bne_iff_ne, bne_eq_false_iff_eq, Bool.not_eq_true', Bool.not_eq_false', ne_eq, Int.not_lt, Int.not_le, Decidable.not_not] at g53'
        rw [if_neg g53'] at z3
        rw [if_neg g47'] at z4
        have hi := z5 g53'
        have hk := z6 g47'
        refine run_draw [(0, 0), (1, 0), (2, 0), (3, 0), (4, 0), (5, 0), (6, 0), (7, 0), (8, 0), (9, 0), (10, 0), (11, 0), (12, 0), (13, 0), (14, 0)] mixed (by kernel_rfl) .refl ?_
        refine d_q rfl rfl (.none rfl) rfl rfl (q_move rfl rfl) ?_
        refine d_q rfl rfl (.none rfl) rfl rfl (q_loadBN rfl agg26 rfl (.there (.there Sel.here)) (.cons rfl (.cons rfl (.cons rfl (.cons rfl (.cons rfl CellsAt.nil))))) rfl) ?_
        refine d_q rfl rfl (.none rfl) rfl rfl (q_move rfl rfl) ?_
        refine d_q rfl rfl (.none rfl) rfl rfl (q_fieldB (d := 1) rfl Try.underlying40 rfl rfl sz3 rfl) ?_
        refine d_q rfl rfl (.none rfl) rfl rfl (q_loadB rfl one3 rfl Sel.here rfl) ?_
        refine d_q rfl rfl (.none rfl) rfl rfl (q_indexS (q := i) rfl Try.underlying22 sz47 rfl rfl (.inp hra .no) (by simp <;> omega) z3 (by omega)) ?_
        refine d_q rfl rfl (.none rfl) rfl rfl (q_loadE rfl agg47 rfl (.inp hra .no) (getmap (by omega)) rfl) ?_
        refine d_q rfl rfl (.none rfl) rfl rfl (q_move rfl rfl) ?_
        refine d_q rfl rfl (.none rfl) rfl rfl (q_fieldB (d := 2) rfl Try.underlying40 rfl rfl sz3 rfl) ?_
        refine d_q rfl rfl (.none rfl) rfl rfl (q_loadB rfl one3 rfl Sel.here rfl) ?_
        refine d_q rfl rfl (.none rfl) rfl rfl (q_indexS (q := k) rfl Try.underlying22 sz47 rfl rfl (.inp hrb .no) (by simp <;> omega) z4 (by omega)) ?_
        refine d_q rfl rfl (.none rfl) rfl rfl (q_loadE rfl agg47 rfl (.inp hrb .no) (getmap (by omega)) rfl) ?_
        refine d_q rfl rfl (.none rfl) rfl rfl (q_call rfl call41 (.cons rfl (.cons rfl (.cons rfl Evs.nil))) (fun w hk hm => join_just c (nth a i) (nth b k) w hc (noteOk_nth hna (by omega)) (noteOk_nth hnb (by omega)))) ?_
        refine d_q rfl rfl (.none rfl) rfl rfl (q_add rfl rfl rfl (by omega)) ?_
        refine d_q rfl rfl (.none rfl) rfl rfl (q_assign rfl rfl) ?_
        refine d_nil ?_
        refine run_sub (subMk (.cons (s := 0) rfl (.cons (s := 1) rfl (.cons (s := 6) rfl (.cons (s := 8) rfl (.cons (s := 9) rfl (.cons (s := 11) rfl (.cons (s := 25) rfl (.cons (s := 26) rfl (.cons (s := 27) rfl .nil))))))))) .refl) ?_
        refine run_blk ?_
        refine run_blk ?_
        refine run_region ?_
        refine run_q (.none rfl) rfl rfl (q_add rfl rfl rfl (by omega)) ?_
        refine run_q (.none rfl) rfl rfl (q_move rfl rfl) ?_
        refine run_nil ?_
        exact run_again (j + 1, stI (nth ps j) i, stK (nth ps j) k, t + costP c a b i k (nth ps j)) (by (try dsimp only); exact ⟨by omega, hrest, by rw [hd, costPs] at ht; omega, by omega, by omega⟩) (by (try dsimp only); omega) (subMk (.cons' (s := 27) rfl rfl (.cons' (s := 11) rfl (vint (by rw [costP, if_neg g47', if_neg g53'])) (.cons (s := 0) rfl (.cons (s := 1) rfl (.cons (s := 6) rfl (.cons (s := 8) rfl (.cons (s := 9) rfl (.cons (s := 25) rfl (.cons (s := 26) rfl .nil))))))))) (.cons (.there Sel.here) .refl (.cons (.there Sel.here) .refl .nil)))
  · have g28' := g28
    try simp only [decide_eq_true_eq, decide_eq_false_iff_not, beq_iff_eq, beq_eq_false_iff_ne, bne_iff_ne, bne_eq_false_iff_eq, Bool.not_eq_true', Bool.not_eq_false', ne_eq, Int.not_lt, Int.not_le, Decidable.not_not] at g28'
    refine run_exit rfl ?_
    refine run_sub (subMk (.cons (s := 8) rfl (.cons (s := 9) rfl (.cons (s := 11) rfl .nil))) .refl) ?_
    refine run_seq ?_
    refine run_region ?_
    refine run_q (.none rfl) rfl rfl (q_move rfl rfl) ?_
    refine run_q (.none rfl) rfl rfl (q_assign rfl rfl) ?_
    refine run_q (.none rfl) rfl rfl (q_assign rfl rfl) ?_
    refine run_nil ?_
    refine run_ret ?_
    exact end2 rfl rfl rfl (by have h0 : ps.drop j = [] := List.drop_eq_nil_of_le (by omega); rw [h0, costPs] at ht; rw [show t = costPs c a b ps 0 0 from by omega])

theorem cost_just (c : Cost) (a b : List Note) (A B : Option Addr) (ca cb : Nat) (ps : List Pair) (Q : Option Addr) (cq : Nat) (W : World) (hra : Rd W A 7 (a.map Note.enc)) (hrb : Rd W B 7 (b.map Note.enc)) (hrq : Rd W Q 3 (ps.map Pair.enc)) (hla : a.length ≤ 1000000000000) (hlb : b.length ≤ 1000000000000) (hlq : ps.length ≤ 1000000000000) (hck : checkV a b ps = 0) (hcc : costB c = 0) (hl2 : ps.length ≤ 2048) : Calls Try.prog 20 #[.slice A a.length ca, .slice B b.length cb, c.val, .slice Q ps.length cq] W (Hr.Just W (.int .i64 (costPs c a b ps 0 0))) := by
  obtain ⟨hwa, hwb, herr⟩ := checkV_zero hck
  obtain ⟨hna, -⟩ := wrongL_ok hwa
  obtain ⟨hnb, -⟩ := wrongL_ok hwb
  have hc := costB_ok hcc
  refine Just.of_ret ?_
  refine enterA (X := nX) (vs := [.slice A a.length ca, .slice B b.length cb, c.val, .slice Q ps.length cq]) Try.func20 Try.ntmps20 rfl rfl Mem.nil ?_
  refine run_seq ?_
  refine run_region ?_
  refine run_h (.none rfl) (h_box rfl rfl rfl rfl rfl) ?_
  rintro b6 -
  refine run_q (.none rfl) rfl rfl (q_assign rfl rfl) ?_
  refine run_nil ?_
  refine run_seq ?_
  refine run_region ?_
  refine run_q (.none rfl) rfl rfl (q_assign rfl rfl) ?_
  refine run_nil ?_
  refine run_seq ?_
  refine run_seq ?_
  refine run_region ?_
  refine run_q (.none rfl) rfl rfl (q_move rfl rfl) ?_
  refine run_q (.none rfl) rfl rfl (q_len rfl Try.underlying28 rfl) ?_
  refine run_q (.none rfl) rfl rfl (q_move rfl rfl) ?_
  refine run_nil ?_
  refine run_block ?_
  refine run_sub (subMk (.cons (s := 14) rfl (.cons (s := 9) rfl (.cons (s := 0) rfl (.cons (s := 1) rfl (.cons (s := 6) rfl (.cons (s := 8) rfl (.cons (s := 12) rfl (.cons (s := 13) rfl .nil)))))))) (.cons Sel.here .refl .nil)) ?_
  refine run_loopC2M0 (ι := Nat × Nat × Nat × Int) (fun gg => gg.1 ≤ ps.length ∧ errPs a b (ps.drop gg.1) gg.2.1 gg.2.2.1 = 0 ∧ gg.2.2.2 + costPs c a b (ps.drop gg.1) gg.2.1 gg.2.2.1 = costPs c a b ps 0 0 ∧ 0 ≤ gg.2.2.2 ∧ gg.2.2.2 ≤ (gg.1 : Int) * 1001000000) (fun gg => .int .i64 (gg.1 : Int)) (fun gg => .int .i64 gg.2.2.2)  (fun gg => ps.length - gg.1) (0, 0, 0, 0) (by (try dsimp only); exact ⟨by omega, herr, by simp, by omega, by omega⟩) rfl rfl  ?_
  rintro ⟨j, i, k, t⟩ hq
  (try dsimp only at hq)
  obtain ⟨hj, hinv, ht, ht0, ht1⟩ := hq
  show Run _ _ _ _ _ _ _ ⟨(14, .int .i64 (j : Int)) :: (9, .int .i64 t) :: _, _⟩
  refine run_seq ?_
  refine run_region ?_
  refine run_q (.none rfl) rfl rfl (q_lss rfl rfl rfl) ?_
  refine run_nil ?_
  refine run_seq ?_
  refine run_cond rfl (fun g15 => ?_) (fun g15 => ?_)
  · have g15' := g15
    try simp only [decide_eq_true_eq, decide_eq_false_iff_not, beq_iff_eq, beq_eq_false_iff_ne, bne_iff_ne, bne_eq_false_iff_eq, Bool.not_eq_true', Bool.not_eq_false', ne_eq, Int.not_lt, Int.not_le, Decidable.not_not] at g15'
    have hd := drop_nth (l := ps) (show j < ps.length by omega)
    obtain ⟨hp, hrest⟩ := errPs_cons (by rw [← hd]; exact hinv)
    obtain ⟨z1, z2, z3, z4, z5, z6, z7⟩ := errP_zero hp
    have hm := hc.m
    have hex := hc.e
    have hcp := costP_bd hc (a := a) (b := b) (i := i) (k := k) (p := nth ps j)
    have hjv := joinV_bd hc (nth a i) (nth b k)
    refine run_skip ?_
    refine run_seq ?_
    refine run_block ?_
    refine run_seq ?_
    refine run_region ?_
    refine run_q (.none rfl) rfl rfl (q_indexS (q := j) rfl Try.underlying28 sz40 rfl rfl (.inp hrq .no) (by simp <;> omega) rfl (by omega)) ?_
    refine run_q (.none rfl) rfl rfl (q_loadE rfl agg40 rfl (.inp hrq .no) (getmap (by omega)) rfl) ?_
    refine run_h (.none rfl) (h_alloc rfl rfl rfl info40) ?_
    rintro b11 -
    refine run_h (.none rfl) (h_storeB rfl rfl sz40 rfl rfl rfl rfl rfl Sel.here rfl) ?_
    rintro - -
    refine run_nil ?_
    refine run_sub (subMk (.cons (s := 0) rfl (.cons (s := 1) rfl (.cons (s := 6) rfl (.cons (s := 8) rfl (.cons (s := 9) rfl (.cons (s := 11) rfl (.cons (s := 12) rfl (.cons (s := 13) rfl (.cons (s := 14) rfl .nil))))))))) .refl) ?_
    refine run_seq ?_
    refine run_region ?_
    refine run_q (.none rfl) rfl rfl (q_fieldB (d := 0) rfl Try.underlying40 rfl rfl sz3 rfl) ?_
    refine run_q (.none rfl) rfl rfl (q_loadB rfl one3 rfl Sel.here rfl) ?_
    refine run_nil ?_
    refine run_block ?_
    refine run_seq ?_
    refine run_region ?_
    refine run_q (.none rfl) rfl rfl (q_eql rfl rfl rfl) ?_
    refine run_q (.none rfl) rfl rfl (q_assign rfl rfl) ?_
    refine run_nil ?_
    refine run_cond rfl (fun g34 => ?_) (fun g34 => ?_)
    · have g34' := g34
      try simp only [decide_eq_true_eq, decide_eq_false_iff_not, beq_iff_eq, beq_eq_false_iff_ne, bne_iff_ne, bne_eq_false_iff_eq, Bool.not_eq_true', Bool.not_eq_false', ne_eq, Int.not_lt, Int.not_le, Decidable.not_not] at g34'
      refine run_region ?_
      refine run_q (.none rfl) rfl rfl (q_move rfl rfl) ?_
      refine run_q (.none rfl) rfl rfl (q_fieldB (d := 1) rfl Try.underlying26 rfl rfl sz3 rfl) ?_
      refine run_q (.none rfl) rfl rfl (q_loadB rfl one3 rfl (.there Sel.here) rfl) ?_
      refine run_q (.none rfl) rfl rfl (q_add rfl rfl rfl (by omega)) ?_
      refine run_q (.none rfl) rfl rfl (q_assign rfl rfl) ?_
      refine run_nil ?_
      refine run_sub (subMk (.cons (s := 0) rfl (.cons (s := 1) rfl (.cons (s := 6) rfl (.cons (s := 8) rfl (.cons (s := 9) rfl (.cons (s := 12) rfl (.cons (s := 13) rfl (.cons (s := 14) rfl .nil)))))))) .refl) ?_
      refine run_blk ?_
      refine run_blk ?_
      refine run_region ?_
      refine run_q (.none rfl) rfl rfl (q_add rfl rfl rfl (by omega)) ?_
      refine run_q (.none rfl) rfl rfl (q_move rfl rfl) ?_
      refine run_nil ?_
      exact run_again (j + 1, stI (nth ps j) i, stK (nth ps j) k, t + costP c a b i k (nth ps j)) (by (try dsimp only); exact ⟨by omega, hrest, by rw [hd, costPs] at ht; omega, by omega, by omega⟩) (by (try dsimp only); omega) (subMk (.cons' (s := 14) rfl rfl (.cons' (s := 9) rfl (vint (by rw [costP, if_pos g34'])) (.cons (s := 0) rfl (.cons (s := 1) rfl (.cons (s := 6) rfl (.cons (s := 8) rfl (.cons (s := 12) rfl (.cons (s := 13) rfl .nil)))))))) (.cons (.there Sel.here) .refl .nil))
    · have g34' := g34
      try simp only [decide_eq_true_eq, decide_eq_false_iff_not, beq_iff_eq, beq_eq_false_iff_ne, bne_iff_ne, bne_eq_false_iff_eq, Bool.not_eq_true', Bool.not_eq_false', ne_eq, Int.not_lt, Int.not_le, Decidable.not_not] at g34'
      refine run_seq ?_
      refine run_region ?_
      refine run_q (.none rfl) rfl rfl (q_eql rfl rfl rfl) ?_
      refine run_q (.none rfl) rfl rfl (q_assign rfl rfl) ?_
      refine run_nil ?_
      refine run_sub (subMk (.cons (s := 0) rfl (.cons (s := 1) rfl (.cons (s := 6) rfl (.cons (s := 8) rfl (.cons (s := 9) rfl (.cons (s := 11) rfl (.cons (s := 12) rfl (.cons (s := 13) rfl (.cons (s := 14) rfl (.cons (s := 40) rfl .nil)))))))))) .refl) ?_
      refine run_cond rfl (fun g40 => ?_) (fun g40 => ?_)
      · have g40' := g40
        try simp only [decide_eq_true_eq, decide_eq_false_iff_not, beq_iff_eq, beq_eq_false_iff_ne, bne_iff_ne, bne_eq_false_iff_eq, Bool.not_eq_true', Bool.not_eq_false', ne_eq, Int.not_lt, Int.not_le, Decidable.not_not] at g40'
        refine run_region ?_
        refine run_q (.none rfl) rfl rfl (q_move rfl rfl) ?_
        refine run_q (.none rfl) rfl rfl (q_fieldB (d := 2) rfl Try.underlying26 rfl rfl sz3 rfl) ?_
        refine run_q (.none rfl) rfl rfl (q_loadB rfl one3 rfl (.there Sel.here) rfl) ?_
        refine run_q (.none rfl) rfl rfl (q_add rfl rfl rfl (by omega)) ?_
        refine run_q (.none rfl) rfl rfl (q_assign rfl rfl) ?_
        refine run_nil ?_
        refine run_sub (subMk (.cons (s := 0) rfl (.cons (s := 1) rfl (.cons (s := 6) rfl (.cons (s := 8) rfl (.cons (s := 9) rfl (.cons (s := 12) rfl (.cons (s := 13) rfl (.cons (s := 14) rfl .nil)))))))) .refl) ?_
        refine run_blk ?_
        refine run_blk ?_
        refine run_region ?_
        refine run_q (.none rfl) rfl rfl (q_add rfl rfl rfl (by omega)) ?_
        refine run_q (.none rfl) rfl rfl (q_move rfl rfl) ?_
        refine run_nil ?_
        exact run_again (j + 1, stI (nth ps j) i, stK (nth ps j) k, t + costP c a b i k (nth ps j)) (by (try dsimp only); exact ⟨by omega, hrest, by rw [hd, costPs] at ht; omega, by omega, by omega⟩) (by (try dsimp only); omega) (subMk (.cons' (s := 14) rfl rfl (.cons' (s := 9) rfl (vint (by rw [costP, if_neg g34', if_pos g40'])) (.cons (s := 0) rfl (.cons (s := 1) rfl (.cons (s := 6) rfl (.cons (s := 8) rfl (.cons (s := 12) rfl (.cons (s := 13) rfl .nil)))))))) (.cons (.there Sel.here) .refl .nil))
      · have g40' := g40
        try simp only [decide_eq_true_eq, decide_eq_false_iff_not, beq_iff_eq, beq_eq_false_iff_ne, bne_iff_ne, bne_eq_false_iff_eq, Bool.not_eq_true', Bool.not_eq_false', ne_eq, Int.not_lt, Int.not_le, Decidable.not_not] at g40'
        rw [if_neg g40'] at z3
        rw [if_neg g34'] at z4
        have hi := z5 g40'
        have hk := z6 g34'
        refine run_draw [(0, 0), (1, 0), (2, 0), (3, 0), (4, 0), (5, 0), (6, 0), (7, 0), (8, 0), (9, 0), (10, 0), (11, 0), (12, 0), (13, 0), (14, 0)] mixed (by kernel_rfl) .refl ?_
        refine d_q rfl rfl (.none rfl) rfl rfl (q_move rfl rfl) ?_
        refine d_q rfl rfl (.none rfl) rfl rfl (q_move rfl rfl) ?_
        refine d_q rfl rfl (.none rfl) rfl rfl (q_fieldB (d := 1) rfl Try.underlying40 rfl rfl sz3 rfl) ?_
        refine d_q rfl rfl (.none rfl) rfl rfl (q_loadB rfl one3 rfl Sel.here rfl) ?_
        refine d_q rfl rfl (.none rfl) rfl rfl (q_indexS (q := i) rfl Try.underlying22 sz47 rfl rfl (.inp hra .no) (by simp <;> omega) z3 (by omega)) ?_
        refine d_q rfl rfl (.none rfl) rfl rfl (q_loadE rfl agg47 rfl (.inp hra .no) (getmap (by omega)) rfl) ?_
        refine d_q rfl rfl (.none rfl) rfl rfl (q_move rfl rfl) ?_
        refine d_q rfl rfl (.none rfl) rfl rfl (q_fieldB (d := 2) rfl Try.underlying40 rfl rfl sz3 rfl) ?_
        refine d_q rfl rfl (.none rfl) rfl rfl (q_loadB rfl one3 rfl Sel.here rfl) ?_
        refine d_q rfl rfl (.none rfl) rfl rfl (q_indexS (q := k) rfl Try.underlying22 sz47 rfl rfl (.inp hrb .no) (by simp <;> omega) z4 (by omega)) ?_
        refine d_q rfl rfl (.none rfl) rfl rfl (q_loadE rfl agg47 rfl (.inp hrb .no) (getmap (by omega)) rfl) ?_
        refine d_q rfl rfl (.none rfl) rfl rfl (q_loadBN rfl agg26 rfl (.there Sel.here) (.cons rfl (.cons rfl (.cons rfl (.cons rfl (.cons rfl CellsAt.nil))))) rfl) ?_
        refine d_q rfl rfl (.none rfl) rfl rfl (q_call rfl call40 (.cons rfl (.cons rfl (.cons rfl Evs.nil))) (fun w hk hm => joined_just (nth a i) (nth b k) c w hc (noteOk_nth hna (by omega)) (noteOk_nth hnb (by omega)))) ?_
        refine d_q rfl rfl (.none rfl) rfl rfl (q_add rfl rfl rfl (by omega)) ?_
        refine d_q rfl rfl (.none rfl) rfl rfl (q_assign rfl rfl) ?_
        refine d_nil ?_
        refine run_sub (subMk (.cons (s := 0) rfl (.cons (s := 1) rfl (.cons (s := 6) rfl (.cons (s := 8) rfl (.cons (s := 9) rfl (.cons (s := 12) rfl (.cons (s := 13) rfl (.cons (s := 14) rfl .nil)))))))) .refl) ?_
        refine run_blk ?_
        refine run_blk ?_
        refine run_region ?_
        refine run_q (.none rfl) rfl rfl (q_add rfl rfl rfl (by omega)) ?_
        refine run_q (.none rfl) rfl rfl (q_move rfl rfl) ?_
        refine run_nil ?_
        exact run_again (j + 1, stI (nth ps j) i, stK (nth ps j) k, t + costP c a b i k (nth ps j)) (by (try dsimp only); exact ⟨by omega, hrest, by rw [hd, costPs] at ht; omega, by omega, by omega⟩) (by (try dsimp only); omega) (subMk (.cons' (s := 14) rfl rfl (.cons' (s := 9) rfl (vint (by rw [costP, if_neg g34', if_neg g40'])) (.cons (s := 0) rfl (.cons (s := 1) rfl (.cons (s := 6) rfl (.cons (s := 8) rfl (.cons (s := 12) rfl (.cons (s := 13) rfl .nil)))))))) (.cons (.there Sel.here) .refl .nil))
  · have g15' := g15
    try simp only [decide_eq_true_eq, decide_eq_false_iff_not, beq_iff_eq, beq_eq_false_iff_ne, bne_iff_ne, bne_eq_false_iff_eq, Bool.not_eq_true', Bool.not_eq_false', ne_eq, Int.not_lt, Int.not_le, Decidable.not_not] at g15'
    refine run_exit rfl ?_
    refine run_sub (subMk (.cons (s := 8) rfl (.cons (s := 9) rfl .nil)) .refl) ?_
    refine run_seq ?_
    refine run_region ?_
    refine run_q (.none rfl) rfl rfl (q_move rfl rfl) ?_
    refine run_q (.none rfl) rfl rfl (q_assign rfl rfl) ?_
    refine run_nil ?_
    refine run_ret ?_
    exact end1 rfl rfl (by have h0 : ps.drop j = [] := List.drop_eq_nil_of_le (by omega); rw [h0, costPs] at ht; rw [show t = costPs c a b ps 0 0 from by omega])

end Go.Proofs.Ytbkmmjpklkallaa
