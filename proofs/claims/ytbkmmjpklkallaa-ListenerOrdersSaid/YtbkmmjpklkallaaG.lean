/- Three laws, in the program. -/
import Derived.Test.YtbkmmjpklkallaaF
import Derived.Test.YtbkmmjpklkallaaLaws
set_option linter.unusedSimpArgs false
set_option linter.unusedVariables false
namespace Go.Proofs.Ytbkmmjpklkallaa
open Go Go.RowKit Hr

theorem call12 : Hr.Callable Try.prog 12 := fun args w => by kernel_rfl
theorem call14 : Hr.Callable Try.prog 14 := fun args w => by kernel_rfl
theorem call15 : Hr.Callable Try.prog 15 := fun args w => by kernel_rfl
theorem call16 : Hr.Callable Try.prog 16 := fun args w => by kernel_rfl
theorem sz22 : Hr.Sz Try.prog 22 1 := Hr.Sz.of (by kernel_rfl)
theorem one22 : Hr.One Try.prog 22 := ⟨fun w => by simp [isAgg, run_underlying Try.underlying22], Hr.Sz.of (by kernel_rfl)⟩
theorem call17 : Hr.Callable Try.prog 17 := fun args w => by kernel_rfl

theorem cut_take {l l' : List Note} (h : l' = l.take 24) (A : Option Addr) (c : Nat) (hc : l.length ≤ c) (W : World) : Calls Try.prog 12 #[.slice A l.length c] W (Just W (.slice A l'.length c)) := by
  rw [h, List.length_take, Nat.min_comm]; exact cut_just A l.length c W hc

theorem law4_just (c : Cost) (l : List Note) (A : Option Addr) (ca : Nat) (W : World) (hr : Rd W A 7 (l.map Note.enc)) (hca : l.length ≤ ca) : Calls Try.prog 4 #[.slice A l.length ca, c.val] W (Hr.Just W (.bool true)) := by
  obtain ⟨a, ha⟩ : ∃ a, a = l.take 24 := ⟨_, rfl⟩
  have hra := rd_take hr ha
  have hla : a.length ≤ 24 := by rw [ha]; simp; omega
  refine Just.of_ret ?_
  refine enterA (X := nX) (vs := [.slice A l.length ca, c.val]) Try.func4 Try.ntmps4 rfl rfl Mem.nil ?_
  refine run_seq ?_
  refine run_region ?_
  refine run_h (.none rfl) (h_box rfl rfl rfl rfl rfl) ?_
  rintro b3 -
  refine run_q (.none rfl) rfl rfl (q_assign rfl rfl) ?_
  refine run_nil ?_
  refine run_seq ?_
  refine run_region ?_
  refine run_q (.none rfl) rfl rfl (q_move rfl rfl) ?_
  refine run_q (.none rfl) rfl rfl (q_call rfl call12 (.cons rfl Evs.nil) (fun w hk hm => cut_take ha A ca hca w)) ?_
  refine run_q (.none rfl) rfl rfl (q_assign rfl rfl) ?_
  refine run_nil ?_
  refine run_seq ?_
  refine run_seq ?_
  refine run_region ?_
  refine run_q (.none rfl) rfl rfl (q_call rfl call14 Evs.nil (fun w hk hm => known_just w)) ?_
  refine run_q (.none rfl) rfl rfl (q_not rfl rfl) ?_
  refine run_q (.none rfl) rfl rfl (q_move rfl rfl) ?_
  refine run_q (.on rfl rfl rfl rfl) rfl rfl (q_move rfl rfl) ?_
  refine run_q (.on rfl rfl rfl rfl) rfl rfl (q_call rfl call15 (.cons rfl Evs.nil) (fun w hk hm => bad_just a A a.length ca w (hra.kept0 hk) rfl (by omega))) ?_
  refine run_q (.on rfl rfl rfl rfl) rfl rfl (q_neq rfl rfl rfl) ?_
  refine run_q (.none rfl) rfl rfl (q_pickF rfl rfl rfl rfl) ?_
  refine run_q (.none rfl) rfl rfl (q_move rfl rfl) ?_
  refine run_split 18 rfl (fun g18 => ?_) (fun g18 => ?_)
  · have g18' := g18
    try simp only [decide_eq_true_eq, decide_eq_false_iff_not, beq_iff_eq, beq_eq_false_iff_ne, bne_iff_ne, bne_eq_false_iff_eq, Bool.not_eq_true', Bool.not_eq_false', ne_eq, Int.not_lt, Int.not_le, Decidable.not_not] at g18'
    refine run_off (.no rfl rfl rfl g18) rfl rfl ?_
    refine run_off (.no rfl rfl rfl g18) rfl rfl ?_
    refine run_off (.no rfl rfl rfl g18) rfl rfl ?_
    refine run_q (.none rfl) rfl rfl (q_pickT rfl rfl g18 rfl) ?_
    refine run_nil ?_
    refine run_sub (subMk (.cons (s := 0) rfl (.cons (s := 3) rfl (.cons (s := 4) rfl (.cons (s := 22) rfl .nil)))) .refl) ?_
    refine run_condT rfl rfl ?_
    refine run_seq ?_
    refine run_region ?_
    refine run_q (.none rfl) rfl rfl (q_call rfl call14 Evs.nil (fun w hk hm => known_just w)) ?_
    refine run_q (.none rfl) rfl rfl (q_assign rfl rfl) ?_
    refine run_nil ?_
    refine run_ret ?_
    exact end1 rfl rfl rfl
  · have g18' := g18
    try simp only [decide_eq_true_eq, decide_eq_false_iff_not, beq_iff_eq, beq_eq_false_iff_ne, bne_iff_ne, bne_eq_false_iff_eq, Bool.not_eq_true', Bool.not_eq_false', ne_eq, Int.not_lt, Int.not_le, Decidable.not_not] at g18'
    refine run_q (.on rfl rfl rfl g18) rfl rfl (q_loadBN rfl agg26 rfl Sel.here (.cons rfl (.cons rfl (.cons rfl (.cons rfl (.cons rfl CellsAt.nil))))) rfl) ?_
    refine run_q (.on rfl rfl rfl g18) rfl rfl (q_call rfl call16 (.cons rfl Evs.nil) (fun w hk hm => badCosts_just c w)) ?_
    refine run_q (.on rfl rfl rfl g18) rfl rfl (q_neq rfl rfl rfl) ?_
    refine run_q (.none rfl) rfl rfl (q_pickF rfl rfl g18 rfl) ?_
    refine run_nil ?_
    refine run_sub (subMk (.cons (s := 0) rfl (.cons (s := 3) rfl (.cons (s := 4) rfl (.cons (s := 22) rfl .nil)))) .refl) ?_
    refine run_cond rfl (fun g22 => ?_) (fun g22 => ?_)
    · have g22' := g22
      try simp only [decide_eq_true_eq, decide_eq_false_iff_not, beq_iff_eq, beq_eq_false_iff_ne, bne_iff_ne, bne_eq_false_iff_eq, Bool.not_eq_true', Bool.not_eq_false', ne_eq, Int.not_lt, Int.not_le, Decidable.not_not] at g22'
      refine run_seq ?_
      refine run_region ?_
      refine run_q (.none rfl) rfl rfl (q_call rfl call14 Evs.nil (fun w hk hm => known_just w)) ?_
      refine run_q (.none rfl) rfl rfl (q_assign rfl rfl) ?_
      refine run_nil ?_
      refine run_ret ?_
      exact end1 rfl rfl rfl
    · have g22' := g22
      try simp only [decide_eq_true_eq, decide_eq_false_iff_not, beq_iff_eq, beq_eq_false_iff_ne, bne_iff_ne, bne_eq_false_iff_eq, Bool.not_eq_true', Bool.not_eq_false', ne_eq, Int.not_lt, Int.not_le, Decidable.not_not] at g22'
      have hcc : costB c = 0 := by simpa using g22
      refine run_skip ?_
      refine run_seq ?_
      refine run_region ?_
      refine run_q (.none rfl) rfl rfl (q_move rfl rfl) ?_
      refine run_q (.none rfl) rfl rfl (q_move rfl rfl) ?_
      refine run_q (.none rfl) rfl rfl (q_loadBN rfl agg26 rfl Sel.here (.cons rfl (.cons rfl (.cons rfl (.cons rfl (.cons rfl CellsAt.nil))))) rfl) ?_
      refine run_h (.none rfl) (h_call rfl rfl rfl call13 (.cons rfl (.cons rfl (.cons rfl Evs.nil))) (fun w hk hm => alignOk_ret c a a A A ca ca w (hra.kept0 hk) (hra.kept0 hk) (by omega) (by omega) (by simpa using g18) (by simpa using g18) hcc)) ?_
      rw [best_self (costB_ok hcc), path_self (costB_ok hcc), selfP_len]
      rintro ⟨v, m⟩ ⟨A28, c28, rfl, rfl⟩
      show Run _ _ _ _ _ _ _ ⟨(28, .tuple #[.slice A28 a.length c28, .int .i64 0, .int .i64 0]) :: _, _ :: _⟩
      refine run_q (.none rfl) rfl rfl (q_move rfl rfl) ?_
      refine run_q (.none rfl) rfl rfl (q_extract rfl rfl rfl) ?_
      refine run_q (.none rfl) rfl rfl (q_extract rfl rfl rfl) ?_
      refine run_q (.none rfl) rfl rfl (q_extract rfl rfl rfl) ?_
      refine run_q (.none rfl) rfl rfl (q_assign rfl rfl) ?_
      refine run_q (.none rfl) rfl rfl (q_assign rfl rfl) ?_
      refine run_q (.none rfl) rfl rfl (q_assign rfl rfl) ?_
      refine run_nil ?_
      refine run_sub (subMk (.cons (s := 0) rfl (.cons (s := 4) rfl (.cons (s := 5) rfl (.cons (s := 6) rfl (.cons (s := 7) rfl .nil))))) .refl) ?_
      refine run_seq ?_
      refine run_seq ?_
      refine run_region ?_
      refine run_q (.none rfl) rfl rfl (q_move rfl rfl) ?_
      refine run_q (.none rfl) rfl rfl (q_neq rfl rfl rfl) ?_
      refine run_q (.none rfl) rfl rfl (q_move rfl rfl) ?_
      refine run_q (.on rfl rfl rfl rfl) rfl rfl (q_move rfl rfl) ?_
      refine run_q (.on rfl rfl rfl rfl) rfl rfl (q_neq rfl rfl rfl) ?_
      refine run_q (.none rfl) rfl rfl (q_pickF rfl rfl rfl rfl) ?_
      refine run_q (.none rfl) rfl rfl (q_move rfl rfl) ?_
      refine run_q (.on rfl rfl rfl rfl) rfl rfl (q_move rfl rfl) ?_
      refine run_q (.on rfl rfl rfl rfl) rfl rfl (q_len rfl Try.underlying28 rfl) ?_
      refine run_q (.on rfl rfl rfl rfl) rfl rfl (q_move rfl rfl) ?_
      refine run_q (.on rfl rfl rfl rfl) rfl rfl (q_len rfl Try.underlying22 rfl) ?_
      refine run_q (.on rfl rfl rfl rfl) rfl rfl (q_neq rfl rfl rfl) ?_
      refine run_q (.none rfl) rfl rfl (q_pickF rfl rfl rfl rfl) ?_
      refine run_nil ?_
      refine run_sub (subMk (.cons (s := 4) rfl (.cons (s := 5) rfl (.cons (s := 44) rfl .nil))) .refl) ?_
      refine run_condF rfl (by simp) ?_
      refine run_skip ?_
      refine run_seq ?_
      refine run_seq ?_
      refine run_region ?_
      refine run_q (.none rfl) rfl rfl (q_assign rfl rfl) ?_
      refine run_nil ?_
      refine run_block ?_
      refine run_sub (subMk (.cons (s := 8) rfl (.cons (s := 4) rfl (.cons (s := 5) rfl .nil))) (.cons Sel.here .refl (.cons Sel.here .refl .nil))) ?_
      refine run_loopC1M0 (ι := Nat) (fun k => k ≤ a.length) (fun k => .int .i64 (k : Int))  (fun k => a.length - k) 0 (by (try dsimp only); exact (by omega)) rfl  ?_
      rintro k hk
      (try dsimp only at hk)
      show Run _ _ _ _ _ _ _ ⟨(8, .int .i64 (k : Int)) :: _, _⟩
      refine run_seq ?_
      refine run_seq ?_
      refine run_region ?_
      refine run_q (.none rfl) rfl rfl (q_move rfl rfl) ?_
      refine run_q (.none rfl) rfl rfl (q_move rfl rfl) ?_
      refine run_q (.none rfl) rfl rfl (q_len rfl Try.underlying28 rfl) ?_
      refine run_q (.none rfl) rfl rfl (q_lss rfl rfl rfl) ?_
      refine run_nil ?_
      refine run_sub (subMk (.cons (s := 4) rfl (.cons (s := 5) rfl (.cons (s := 8) rfl (.cons (s := 48) rfl .nil)))) .refl) ?_
      refine run_cond rfl (fun g48 => ?_) (fun g48 => ?_)
      · have g48' := g48
        try simp only [decide_eq_true_eq, decide_eq_false_iff_not, beq_iff_eq, beq_eq_false_iff_ne, bne_iff_ne, bne_eq_false_iff_eq, Bool.not_eq_true', Bool.not_eq_false', ne_eq, Int.not_lt, Int.not_le, Decidable.not_not] at g48'
        refine run_skip ?_
        refine run_seq ?_
        refine run_block ?_
        refine run_seq ?_
        refine run_region ?_
        refine run_q (.none rfl) rfl rfl (q_move rfl rfl) ?_
        refine run_q (.none rfl) rfl rfl (q_move rfl rfl) ?_
        refine run_q (.none rfl) rfl rfl (q_indexS rfl Try.underlying28 sz40 rfl rfl (.own Sel.here) (by simp [selfP_len] <;> omega) rfl (by omega)) ?_
        refine run_q (.none rfl) rfl rfl (q_loadE rfl agg40 rfl (.own Sel.here) (getmap (by rw [selfP_len]; omega)) rfl) ?_
        refine run_q (.none rfl) rfl rfl (q_move rfl rfl) ?_
        refine run_q (.none rfl) rfl rfl (q_move rfl rfl) ?_
        refine run_q (.none rfl) rfl rfl (q_build rfl (.cons rfl (.cons rfl (.cons rfl PV.nil))) (built40p0p1p2 _ _ _)) ?_
        refine run_q (.none rfl) rfl rfl (q_neqS rfl rfl rfl eqg40 (fun w => eqs40 _ _ _ _ _ _ w)) ?_
        refine run_nil ?_
        refine run_sub (subMk (.cons (s := 4) rfl (.cons (s := 5) rfl (.cons (s := 8) rfl (.cons (s := 58) rfl .nil)))) .refl) ?_
        refine run_condF rfl (by rw [selfP_nth (by omega)]; simp) ?_
        refine run_skip ?_
        refine run_blk ?_
        refine run_region ?_
        refine run_q (.none rfl) rfl rfl (q_move rfl rfl) ?_
        refine run_q (.none rfl) rfl rfl (q_add rfl rfl rfl (by omega)) ?_
        refine run_q (.none rfl) rfl rfl (q_assign rfl rfl) ?_
        refine run_nil ?_
        refine run_sub (subMk (.cons (s := 4) rfl (.cons (s := 5) rfl (.cons (s := 8) rfl .nil))) .refl) ?_
        exact run_again (k + 1) (by (try dsimp only); exact (by omega)) (by (try dsimp only); omega) (subMk (.cons' (s := 8) rfl rfl (.cons (s := 4) rfl (.cons (s := 5) rfl .nil))) (.cons Sel.here .refl (.cons Sel.here .refl .nil)))
      · have g48' := g48
        try simp only [decide_eq_true_eq, decide_eq_false_iff_not, beq_iff_eq, beq_eq_false_iff_ne, bne_iff_ne, bne_eq_false_iff_eq, Bool.not_eq_true', Bool.not_eq_false', ne_eq, Int.not_lt, Int.not_le, Decidable.not_not] at g48'
        refine run_exit rfl ?_
        refine run_sub (subMk (.cons (s := 4) rfl .nil) .refl) ?_
        refine run_seq ?_
        refine run_region ?_
        refine run_q (.none rfl) rfl rfl (q_assign rfl rfl) ?_
        refine run_nil ?_
        refine run_ret ?_
        exact end1 rfl rfl rfl

theorem law3_err (c : Cost) (l l2 : List Note) (A B : Option Addr) (ca cb : Nat) (W : World) (hr : Rd W A 7 (l.map Note.enc)) (hr2 : Rd W B 7 (l2.map Note.enc)) (hca : l.length ≤ ca) (hcb : l2.length ≤ cb) (a b : List Note) (ha : a = l.take 24) (hb : b = l2.take 24) (he : (firstNZ [wrongL a, wrongL b, costB c]) ≠ 0) : Calls Try.prog 3 #[.agg #[.slice A l.length ca, .slice B l2.length cb], c.val] W (Hr.Just W (.bool true)) := by
  have hra := rd_take hr ha
  have hrb := rd_take hr2 hb
  have hla : a.length ≤ 24 := by rw [ha]; simp; omega
  have hlb : b.length ≤ 24 := by rw [hb]; simp; omega
  have hac : a.length ≤ ca := by rw [ha]; simp; omega
  have hbc : b.length ≤ cb := by rw [hb]; simp; omega
  refine Just.of_ret ?_
  refine enterA (X := nX) (vs := [.agg #[.slice A l.length ca, .slice B l2.length cb], c.val]) Try.func3 Try.ntmps3 rfl rfl Mem.nil ?_
  refine run_seq ?_
  refine run_region ?_
  refine run_h (.none rfl) (h_box rfl rfl rfl rfl rfl) ?_
  rintro b2 -
  refine run_h (.none rfl) (h_box rfl rfl rfl rfl rfl) ?_
  rintro b3 -
  refine run_q (.none rfl) rfl rfl (q_assign rfl rfl) ?_
  refine run_nil ?_
  refine run_seq ?_
  refine run_draw [(0, 0), (1, 0), (2, 0), (3, 0), (4, 0), (5, 0), (6, 0), (7, 0)] mixed (by kernel_rfl) .refl ?_
  refine d_q rfl rfl (.none rfl) rfl rfl (q_fieldB (d := 0) rfl Try.underlying24 rfl rfl sz22 rfl) ?_
  refine d_q rfl rfl (.none rfl) rfl rfl (q_loadB rfl one22 rfl (.there Sel.here) rfl) ?_
  refine d_q rfl rfl (.none rfl) rfl rfl (q_call rfl call12 (.cons rfl Evs.nil) (fun w hk hm => cut_take ha A ca hca w)) ?_
  refine d_q rfl rfl (.none rfl) rfl rfl (q_fieldB (d := 1) rfl Try.underlying24 rfl rfl sz22 rfl) ?_
  refine d_q rfl rfl (.none rfl) rfl rfl (q_loadB rfl one22 rfl (.there Sel.here) rfl) ?_
  refine d_q rfl rfl (.none rfl) rfl rfl (q_call rfl call12 (.cons rfl Evs.nil) (fun w hk hm => cut_take hb B cb hcb w)) ?_
  refine d_q rfl rfl (.none rfl) rfl rfl (q_assign rfl rfl) ?_
  refine d_q rfl rfl (.none rfl) rfl rfl (q_assign rfl rfl) ?_
  refine d_nil ?_
  refine run_sub (subMk (.cons (s := 3) rfl (.cons (s := 4) rfl (.cons (s := 5) rfl (.cons (s := 6) rfl .nil)))) .refl) ?_
  refine run_seq ?_
  refine run_region ?_
  refine run_q (.none rfl) rfl rfl (q_move rfl rfl) ?_
  refine run_q (.none rfl) rfl rfl (q_move rfl rfl) ?_
  refine run_q (.none rfl) rfl rfl (q_loadBN rfl agg26 rfl Sel.here (.cons rfl (.cons rfl (.cons rfl (.cons rfl (.cons rfl CellsAt.nil))))) rfl) ?_
  refine run_q (.none rfl) rfl rfl (q_call rfl call13 (.cons rfl (.cons rfl (.cons rfl Evs.nil))) (fun w hk hm => alignErr_just c a b A B ca cb w (hra.kept0 hk) (hrb.kept0 hk) (by omega) (by omega) he)) ?_
  refine run_q (.none rfl) rfl rfl (q_move rfl rfl) ?_
  refine run_q (.none rfl) rfl rfl (q_extract rfl rfl rfl) ?_
  refine run_q (.none rfl) rfl rfl (q_extract rfl rfl rfl) ?_
  refine run_q (.none rfl) rfl rfl (q_extract rfl rfl rfl) ?_
  refine run_q (.none rfl) rfl rfl (q_assign rfl rfl) ?_
  refine run_q (.none rfl) rfl rfl (q_assign rfl rfl) ?_
  refine run_q (.none rfl) rfl rfl (q_assign rfl rfl) ?_
  refine run_nil ?_
  refine run_sub (subMk (.cons (s := 3) rfl (.cons (s := 4) rfl (.cons (s := 5) rfl (.cons (s := 6) rfl (.cons (s := 7) rfl (.cons (s := 8) rfl (.cons (s := 9) rfl .nil))))))) .refl) ?_
  refine run_seq ?_
  refine run_seq ?_
  refine run_region ?_
  refine run_q (.none rfl) rfl rfl (q_call rfl call14 Evs.nil (fun w hk hm => known_just w)) ?_
  refine run_q (.none rfl) rfl rfl (q_not rfl rfl) ?_
  refine run_nil ?_
  refine run_condF rfl rfl ?_
  refine run_skip ?_
  refine run_seq ?_
  refine run_region ?_
  refine run_q (.none rfl) rfl rfl (q_move rfl rfl) ?_
  refine run_q (.none rfl) rfl rfl (q_call rfl call15 (.cons rfl Evs.nil) (fun w hk hm => bad_just a A a.length ca w (hra.kept0 hk) rfl (by omega))) ?_
  refine run_q (.none rfl) rfl rfl (q_assign rfl rfl) ?_
  refine run_nil ?_
  refine run_sub (subMk (.cons (s := 3) rfl (.cons (s := 4) rfl (.cons (s := 5) rfl (.cons (s := 6) rfl (.cons (s := 7) rfl (.cons (s := 8) rfl (.cons (s := 9) rfl (.cons (s := 10) rfl .nil)))))))) .refl) ?_
  refine run_seq ?_
  refine run_seq ?_
  refine run_region ?_
  refine run_q (.none rfl) rfl rfl (q_move rfl rfl) ?_
  refine run_q (.none rfl) rfl rfl (q_eql rfl rfl rfl) ?_
  refine run_nil ?_
  refine run_cond rfl (fun g32 => ?_) (fun g32 => ?_)
  · have g32' := g32
    try simp only [decide_eq_true_eq, decide_eq_false_iff_not, beq_iff_eq, beq_eq_false_iff_ne, bne_iff_ne, bne_eq_false_iff_eq, Bool.not_eq_true', Bool.not_eq_false', ne_eq, Int.not_lt, Int.not_le, Decidable.not_not] at g32'
    refine run_region ?_
    refine run_q (.none rfl) rfl rfl (q_move rfl rfl) ?_
    refine run_q (.none rfl) rfl rfl (q_call rfl call15 (.cons rfl Evs.nil) (fun w hk hm => bad_just b B b.length cb w (hrb.kept0 hk) rfl (by omega))) ?_
    refine run_q (.none rfl) rfl rfl (q_assign rfl rfl) ?_
    refine run_nil ?_
    refine run_sub (subMk (.cons (s := 3) rfl (.cons (s := 4) rfl (.cons (s := 5) rfl (.cons (s := 6) rfl (.cons (s := 7) rfl (.cons (s := 8) rfl (.cons (s := 9) rfl (.cons (s := 10) rfl .nil)))))))) .refl) ?_
    refine run_seq ?_
    refine run_seq ?_
    refine run_region ?_
    refine run_q (.none rfl) rfl rfl (q_move rfl rfl) ?_
    refine run_q (.none rfl) rfl rfl (q_eql rfl rfl rfl) ?_
    refine run_nil ?_
    refine run_cond rfl (fun g36 => ?_) (fun g36 => ?_)
    · have g36' := g36
      try simp only [decide_eq_true_eq, decide_eq_false_iff_not, beq_iff_eq, beq_eq_false_iff_ne, bne_iff_ne, bne_eq_false_iff_eq, Bool.not_eq_true', Bool.not_eq_false', ne_eq, Int.not_lt, Int.not_le, Decidable.not_not] at g36'
      refine run_region ?_
      refine run_q (.none rfl) rfl rfl (q_loadBN rfl agg26 rfl Sel.here (.cons rfl (.cons rfl (.cons rfl (.cons rfl (.cons rfl CellsAt.nil))))) rfl) ?_
      refine run_q (.none rfl) rfl rfl (q_call rfl call16 (.cons rfl Evs.nil) (fun w hk hm => badCosts_just c w)) ?_
      refine run_q (.none rfl) rfl rfl (q_assign rfl rfl) ?_
      refine run_nil ?_
      refine run_sub (subMk (.cons (s := 3) rfl (.cons (s := 4) rfl (.cons (s := 5) rfl (.cons (s := 6) rfl (.cons (s := 7) rfl (.cons (s := 8) rfl (.cons (s := 9) rfl (.cons (s := 10) rfl .nil)))))))) .refl) ?_
      refine run_seq ?_
      refine run_seq ?_
      refine run_region ?_
      refine run_q (.none rfl) rfl rfl (q_move rfl rfl) ?_
      refine run_q (.none rfl) rfl rfl (q_neq rfl rfl rfl) ?_
      refine run_nil ?_
      refine run_condT rfl (by simp_all [firstNZ]) ?_
      refine run_seq ?_
      refine run_region ?_
      refine run_q (.none rfl) rfl rfl (q_move rfl rfl) ?_
      refine run_q (.none rfl) rfl rfl (q_move rfl rfl) ?_
      refine run_q (.none rfl) rfl rfl (q_eql rfl rfl rfl) ?_
      refine run_q (.none rfl) rfl rfl (q_move rfl rfl) ?_
      refine run_q (.on rfl rfl rfl (by simp_all [firstNZ])) rfl rfl (q_move rfl rfl) ?_
      refine run_q (.on rfl rfl rfl (by simp_all [firstNZ])) rfl rfl (q_len rfl Try.underlying28 rfl) ?_
      refine run_q (.on rfl rfl rfl (by simp_all [firstNZ])) rfl rfl (q_eql rfl rfl rfl) ?_
      refine run_q (.none rfl) rfl rfl (q_pickT rfl rfl (by simp_all [firstNZ]) rfl) ?_
      refine run_q (.none rfl) rfl rfl (q_move rfl rfl) ?_
      refine run_q (.on rfl rfl rfl rfl) rfl rfl (q_move rfl rfl) ?_
      refine run_q (.on rfl rfl rfl rfl) rfl rfl (q_eql rfl rfl rfl) ?_
      refine run_q (.none rfl) rfl rfl (q_pickT rfl rfl rfl rfl) ?_
      refine run_q (.none rfl) rfl rfl (q_assign rfl rfl) ?_
      refine run_nil ?_
      refine run_sub (subMk (.cons (s := 3) rfl (.cons (s := 4) rfl (.cons (s := 5) rfl (.cons (s := 6) rfl (.cons (s := 7) rfl (.cons (s := 8) rfl (.cons (s := 9) rfl .nil))))))) .refl) ?_
      refine run_ret ?_
      exact end1 rfl rfl rfl
    · have g36' := g36
      try simp only [decide_eq_true_eq, decide_eq_false_iff_not, beq_iff_eq, beq_eq_false_iff_ne, bne_iff_ne, bne_eq_false_iff_eq, Bool.not_eq_true', Bool.not_eq_false', ne_eq, Int.not_lt, Int.not_le, Decidable.not_not] at g36'
      refine run_skip ?_
      refine run_seq ?_
      refine run_seq ?_
      refine run_region ?_
      refine run_q (.none rfl) rfl rfl (q_move rfl rfl) ?_
      refine run_q (.none rfl) rfl rfl (q_neq rfl rfl rfl) ?_
      refine run_nil ?_
      refine run_sub (subMk (.cons (s := 3) rfl (.cons (s := 4) rfl (.cons (s := 5) rfl (.cons (s := 6) rfl (.cons (s := 7) rfl (.cons (s := 8) rfl (.cons (s := 9) rfl (.cons (s := 10) rfl (.cons (s := 40) rfl .nil))))))))) .refl) ?_
      refine run_condT rfl (by simpa using g36) ?_
      refine run_seq ?_
      refine run_region ?_
      refine run_q (.none rfl) rfl rfl (q_move rfl rfl) ?_
      refine run_q (.none rfl) rfl rfl (q_move rfl rfl) ?_
      refine run_q (.none rfl) rfl rfl (q_eql rfl rfl rfl) ?_
      refine run_q (.none rfl) rfl rfl (q_move rfl rfl) ?_
      refine run_q (.on rfl rfl rfl (by simp_all [firstNZ])) rfl rfl (q_move rfl rfl) ?_
      refine run_q (.on rfl rfl rfl (by simp_all [firstNZ])) rfl rfl (q_len rfl Try.underlying28 rfl) ?_
      refine run_q (.on rfl rfl rfl (by simp_all [firstNZ])) rfl rfl (q_eql rfl rfl rfl) ?_
      refine run_q (.none rfl) rfl rfl (q_pickT rfl rfl (by simp_all [firstNZ]) rfl) ?_
      refine run_q (.none rfl) rfl rfl (q_move rfl rfl) ?_
      refine run_q (.on rfl rfl rfl rfl) rfl rfl (q_move rfl rfl) ?_
      refine run_q (.on rfl rfl rfl rfl) rfl rfl (q_eql rfl rfl rfl) ?_
      refine run_q (.none rfl) rfl rfl (q_pickT rfl rfl rfl rfl) ?_
      refine run_q (.none rfl) rfl rfl (q_assign rfl rfl) ?_
      refine run_nil ?_
      refine run_sub (subMk (.cons (s := 3) rfl (.cons (s := 4) rfl (.cons (s := 5) rfl (.cons (s := 6) rfl (.cons (s := 7) rfl (.cons (s := 8) rfl (.cons (s := 9) rfl .nil))))))) .refl) ?_
      refine run_ret ?_
      exact end1 rfl rfl rfl
  · have g32' := g32
    try simp only [decide_eq_true_eq, decide_eq_false_iff_not, beq_iff_eq, beq_eq_false_iff_ne, bne_iff_ne, bne_eq_false_iff_eq, Bool.not_eq_true', Bool.not_eq_false', ne_eq, Int.not_lt, Int.not_le, Decidable.not_not] at g32'
    refine run_skip ?_
    refine run_seq ?_
    refine run_seq ?_
    refine run_region ?_
    refine run_q (.none rfl) rfl rfl (q_move rfl rfl) ?_
    refine run_q (.none rfl) rfl rfl (q_eql rfl rfl rfl) ?_
    refine run_nil ?_
    refine run_sub (subMk (.cons (s := 3) rfl (.cons (s := 4) rfl (.cons (s := 5) rfl (.cons (s := 6) rfl (.cons (s := 7) rfl (.cons (s := 8) rfl (.cons (s := 9) rfl (.cons (s := 10) rfl (.cons (s := 36) rfl .nil))))))))) .refl) ?_
    refine run_condF rfl g32 ?_
    refine run_skip ?_
    refine run_seq ?_
    refine run_seq ?_
    refine run_region ?_
    refine run_q (.none rfl) rfl rfl (q_move rfl rfl) ?_
    refine run_q (.none rfl) rfl rfl (q_neq rfl rfl rfl) ?_
    refine run_nil ?_
    refine run_condT rfl (by simpa using g32) ?_
    refine run_seq ?_
    refine run_region ?_
    refine run_q (.none rfl) rfl rfl (q_move rfl rfl) ?_
    refine run_q (.none rfl) rfl rfl (q_move rfl rfl) ?_
    refine run_q (.none rfl) rfl rfl (q_eql rfl rfl rfl) ?_
    refine run_q (.none rfl) rfl rfl (q_move rfl rfl) ?_
    refine run_q (.on rfl rfl rfl (by simp_all [firstNZ])) rfl rfl (q_move rfl rfl) ?_
    refine run_q (.on rfl rfl rfl (by simp_all [firstNZ])) rfl rfl (q_len rfl Try.underlying28 rfl) ?_
    refine run_q (.on rfl rfl rfl (by simp_all [firstNZ])) rfl rfl (q_eql rfl rfl rfl) ?_
    refine run_q (.none rfl) rfl rfl (q_pickT rfl rfl (by simp_all [firstNZ]) rfl) ?_
    refine run_q (.none rfl) rfl rfl (q_move rfl rfl) ?_
    refine run_q (.on rfl rfl rfl rfl) rfl rfl (q_move rfl rfl) ?_
    refine run_q (.on rfl rfl rfl rfl) rfl rfl (q_eql rfl rfl rfl) ?_
    refine run_q (.none rfl) rfl rfl (q_pickT rfl rfl rfl rfl) ?_
    refine run_q (.none rfl) rfl rfl (q_assign rfl rfl) ?_
    refine run_nil ?_
    refine run_sub (subMk (.cons (s := 3) rfl (.cons (s := 4) rfl (.cons (s := 5) rfl (.cons (s := 6) rfl (.cons (s := 7) rfl (.cons (s := 8) rfl (.cons (s := 9) rfl .nil))))))) .refl) ?_
    refine run_ret ?_
    exact end1 rfl rfl rfl

theorem law3_ok (c : Cost) (l l2 : List Note) (A B : Option Addr) (ca cb : Nat) (W : World) (hr : Rd W A 7 (l.map Note.enc)) (hr2 : Rd W B 7 (l2.map Note.enc)) (hca : l.length ≤ ca) (hcb : l2.length ≤ cb) (a b : List Note) (ha : a = l.take 24) (hb : b = l2.take 24) (hwa : wrongL a = 0) (hwb : wrongL b = 0) (hcc : costB c = 0) : Calls Try.prog 3 #[.agg #[.slice A l.length ca, .slice B l2.length cb], c.val] W (Hr.Just W (.bool true)) := by
  have hra := rd_take hr ha
  have hrb := rd_take hr2 hb
  have hla : a.length ≤ 24 := by rw [ha]; simp; omega
  have hlb : b.length ≤ 24 := by rw [hb]; simp; omega
  have hac : a.length ≤ ca := by rw [ha]; simp; omega
  have hbc : b.length ≤ cb := by rw [hb]; simp; omega
  obtain ⟨hna, -⟩ := wrongL_ok hwa
  obtain ⟨hnb, -⟩ := wrongL_ok hwb
  have hc := costB_ok hcc
  refine Just.of_ret ?_
  refine enterA (X := nX) (vs := [.agg #[.slice A l.length ca, .slice B l2.length cb], c.val]) Try.func3 Try.ntmps3 rfl rfl Mem.nil ?_
  refine run_seq ?_
  refine run_region ?_
  refine run_h (.none rfl) (h_box rfl rfl rfl rfl rfl) ?_
  rintro b2 -
  refine run_h (.none rfl) (h_box rfl rfl rfl rfl rfl) ?_
  rintro b3 -
  refine run_q (.none rfl) rfl rfl (q_assign rfl rfl) ?_
  refine run_nil ?_
  refine run_seq ?_
  refine run_draw [(0, 0), (1, 0), (2, 0), (3, 0), (4, 0), (5, 0), (6, 0), (7, 0)] mixed (by kernel_rfl) .refl ?_
  refine d_q rfl rfl (.none rfl) rfl rfl (q_fieldB (d := 0) rfl Try.underlying24 rfl rfl sz22 rfl) ?_
  refine d_q rfl rfl (.none rfl) rfl rfl (q_loadB rfl one22 rfl (.there Sel.here) rfl) ?_
  refine d_q rfl rfl (.none rfl) rfl rfl (q_call rfl call12 (.cons rfl Evs.nil) (fun w hk hm => cut_take ha A ca hca w)) ?_
  refine d_q rfl rfl (.none rfl) rfl rfl (q_fieldB (d := 1) rfl Try.underlying24 rfl rfl sz22 rfl) ?_
  refine d_q rfl rfl (.none rfl) rfl rfl (q_loadB rfl one22 rfl (.there Sel.here) rfl) ?_
  refine d_q rfl rfl (.none rfl) rfl rfl (q_call rfl call12 (.cons rfl Evs.nil) (fun w hk hm => cut_take hb B cb hcb w)) ?_
  refine d_q rfl rfl (.none rfl) rfl rfl (q_assign rfl rfl) ?_
  refine d_q rfl rfl (.none rfl) rfl rfl (q_assign rfl rfl) ?_
  refine d_nil ?_
  refine run_sub (subMk (.cons (s := 3) rfl (.cons (s := 4) rfl (.cons (s := 5) rfl (.cons (s := 6) rfl .nil)))) .refl) ?_
  refine run_seq ?_
  refine run_region ?_
  refine run_q (.none rfl) rfl rfl (q_move rfl rfl) ?_
  refine run_q (.none rfl) rfl rfl (q_move rfl rfl) ?_
  refine run_q (.none rfl) rfl rfl (q_loadBN rfl agg26 rfl Sel.here (.cons rfl (.cons rfl (.cons rfl (.cons rfl (.cons rfl CellsAt.nil))))) rfl) ?_
  refine run_h (.none rfl) (h_call rfl rfl rfl call13 (.cons rfl (.cons rfl (.cons rfl Evs.nil))) (fun w hk hm => alignOk_ret c a b A B ca cb w (hra.kept0 hk) (hrb.kept0 hk) (by omega) (by omega) hwa hwb hcc)) ?_
  rintro ⟨v, m⟩ ⟨A23, c23, rfl, rfl⟩
  show Run _ _ _ _ _ _ _ ⟨(23, .tuple #[.slice A23 (path c a b 0 0).length c23, .int .i64 (best c a b), .int .i64 0]) :: _, _ :: _⟩
  refine run_q (.none rfl) rfl rfl (q_move rfl rfl) ?_
  refine run_q (.none rfl) rfl rfl (q_extract rfl rfl rfl) ?_
  refine run_q (.none rfl) rfl rfl (q_extract rfl rfl rfl) ?_
  refine run_q (.none rfl) rfl rfl (q_extract rfl rfl rfl) ?_
  refine run_q (.none rfl) rfl rfl (q_assign rfl rfl) ?_
  refine run_q (.none rfl) rfl rfl (q_assign rfl rfl) ?_
  refine run_q (.none rfl) rfl rfl (q_assign rfl rfl) ?_
  refine run_nil ?_
  refine run_sub (subMk (.cons (s := 3) rfl (.cons (s := 4) rfl (.cons (s := 5) rfl (.cons (s := 6) rfl (.cons (s := 7) rfl (.cons (s := 8) rfl (.cons (s := 9) rfl .nil))))))) .refl) ?_
  refine run_seq ?_
  refine run_seq ?_
  refine run_region ?_
  refine run_q (.none rfl) rfl rfl (q_call rfl call14 Evs.nil (fun w hk hm => known_just w)) ?_
  refine run_q (.none rfl) rfl rfl (q_not rfl rfl) ?_
  refine run_nil ?_
  refine run_condF rfl rfl ?_
  refine run_skip ?_
  refine run_seq ?_
  refine run_region ?_
  refine run_q (.none rfl) rfl rfl (q_move rfl rfl) ?_
  refine run_q (.none rfl) rfl rfl (q_call rfl call15 (.cons rfl Evs.nil) (fun w hk hm => bad_just a A a.length ca w (hra.kept0 hk) rfl (by omega))) ?_
  refine run_q (.none rfl) rfl rfl (q_assign rfl rfl) ?_
  refine run_nil ?_
  refine run_sub (subMk (.cons (s := 3) rfl (.cons (s := 4) rfl (.cons (s := 5) rfl (.cons (s := 6) rfl (.cons (s := 7) rfl (.cons (s := 8) rfl (.cons (s := 9) rfl (.cons (s := 10) rfl .nil)))))))) .refl) ?_
  refine run_seq ?_
  refine run_seq ?_
  refine run_region ?_
  refine run_q (.none rfl) rfl rfl (q_move rfl rfl) ?_
  refine run_q (.none rfl) rfl rfl (q_eql rfl rfl rfl) ?_
  refine run_nil ?_
  refine run_condT rfl (by simp [hwa]) ?_
  refine run_region ?_
  refine run_q (.none rfl) rfl rfl (q_move rfl rfl) ?_
  refine run_q (.none rfl) rfl rfl (q_call rfl call15 (.cons rfl Evs.nil) (fun w hk hm => bad_just b B b.length cb w (hrb.kept0 hk) rfl (by omega))) ?_
  refine run_q (.none rfl) rfl rfl (q_assign rfl rfl) ?_
  refine run_nil ?_
  refine run_sub (subMk (.cons (s := 3) rfl (.cons (s := 4) rfl (.cons (s := 5) rfl (.cons (s := 6) rfl (.cons (s := 7) rfl (.cons (s := 8) rfl (.cons (s := 9) rfl (.cons (s := 10) rfl .nil)))))))) .refl) ?_
  refine run_seq ?_
  refine run_seq ?_
  refine run_region ?_
  refine run_q (.none rfl) rfl rfl (q_move rfl rfl) ?_
  refine run_q (.none rfl) rfl rfl (q_eql rfl rfl rfl) ?_
  refine run_nil ?_
  refine run_condT rfl (by simp [hwb]) ?_
  refine run_region ?_
  refine run_q (.none rfl) rfl rfl (q_loadBN rfl agg26 rfl (.there Sel.here) (.cons rfl (.cons rfl (.cons rfl (.cons rfl (.cons rfl CellsAt.nil))))) rfl) ?_
  refine run_q (.none rfl) rfl rfl (q_call rfl call16 (.cons rfl Evs.nil) (fun w hk hm => badCosts_just c w)) ?_
  refine run_q (.none rfl) rfl rfl (q_assign rfl rfl) ?_
  refine run_nil ?_
  refine run_sub (subMk (.cons (s := 3) rfl (.cons (s := 4) rfl (.cons (s := 5) rfl (.cons (s := 6) rfl (.cons (s := 7) rfl (.cons (s := 8) rfl (.cons (s := 9) rfl (.cons (s := 10) rfl .nil)))))))) .refl) ?_
  refine run_seq ?_
  refine run_seq ?_
  refine run_region ?_
  refine run_q (.none rfl) rfl rfl (q_move rfl rfl) ?_
  refine run_q (.none rfl) rfl rfl (q_neq rfl rfl rfl) ?_
  refine run_nil ?_
  refine run_condF rfl (by simp [hcc]) ?_
  refine run_skip ?_
  refine run_seq ?_
  refine run_region ?_
  refine run_q (.none rfl) rfl rfl (q_move rfl rfl) ?_
  refine run_q (.none rfl) rfl rfl (q_move rfl rfl) ?_
  refine run_q (.none rfl) rfl rfl (q_loadBN rfl agg26 rfl (.there Sel.here) (.cons rfl (.cons rfl (.cons rfl (.cons rfl (.cons rfl CellsAt.nil))))) rfl) ?_
  refine run_h (.none rfl) (h_call rfl rfl rfl call17 (.cons rfl (.cons rfl (.cons rfl Evs.nil))) (fun w hk hm => alignM_ret c a b A B ca cb w (hra.kept0 hk) (hrb.kept0 hk) hc hna hnb (by omega) (by omega))) ?_
  rintro ⟨v, m⟩ ⟨A57, c57, rfl, rfl⟩
  show Run _ _ _ _ _ _ _ ⟨(57, .tuple #[.slice A57 (path c a b 0 0).length c57, .int .i64 (best c a b)]) :: _, _ :: _⟩
  refine run_q (.none rfl) rfl rfl (q_move rfl rfl) ?_
  refine run_q (.none rfl) rfl rfl (q_extract rfl rfl rfl) ?_
  refine run_q (.none rfl) rfl rfl (q_extract rfl rfl rfl) ?_
  refine run_q (.none rfl) rfl rfl (q_assign rfl rfl) ?_
  refine run_q (.none rfl) rfl rfl (q_assign rfl rfl) ?_
  refine run_nil ?_
  refine run_sub (subMk (.cons (s := 4) rfl (.cons (s := 7) rfl (.cons (s := 8) rfl (.cons (s := 9) rfl (.cons (s := 11) rfl (.cons (s := 12) rfl .nil)))))) .refl) ?_
  refine run_seq ?_
  refine run_region ?_
  refine run_q (.none rfl) rfl rfl (q_move rfl rfl) ?_
  refine run_q (.none rfl) rfl rfl (q_eql rfl rfl rfl) ?_
  refine run_q (.none rfl) rfl rfl (q_move rfl rfl) ?_
  refine run_q (.on rfl rfl rfl rfl) rfl rfl (q_move rfl rfl) ?_
  refine run_q (.on rfl rfl rfl rfl) rfl rfl (q_move rfl rfl) ?_
  refine run_q (.on rfl rfl rfl rfl) rfl rfl (q_call rfl call18 (.cons rfl (.cons rfl Evs.nil)) (fun w hk hm => same_just (path c a b 0 0) A23 A57 _ c23 c57 w (own_rd ((Sel.there Sel.here).holds hm)) (own_rd (Sel.here.holds hm)) rfl (path_len (by omega) (by omega)))) ?_
  refine run_q (.none rfl) rfl rfl (q_pickT rfl rfl rfl rfl) ?_
  refine run_q (.none rfl) rfl rfl (q_move rfl rfl) ?_
  refine run_q (.on rfl rfl rfl rfl) rfl rfl (q_move rfl rfl) ?_
  refine run_q (.on rfl rfl rfl rfl) rfl rfl (q_move rfl rfl) ?_
  refine run_q (.on rfl rfl rfl rfl) rfl rfl (q_eql rfl rfl rfl) ?_
  refine run_q (.none rfl) rfl rfl (q_pickT rfl rfl rfl rfl) ?_
  refine run_q (.none rfl) rfl rfl (q_assign rfl rfl) ?_
  refine run_nil ?_
  refine run_sub (subMk (.cons (s := 4) rfl .nil) .refl) ?_
  refine run_ret ?_
  exact end1 rfl rfl (by simp)

theorem law3_just (c : Cost) (l l2 : List Note) (A B : Option Addr) (ca cb : Nat) (W : World) (hr : Rd W A 7 (l.map Note.enc)) (hr2 : Rd W B 7 (l2.map Note.enc)) (hca : l.length ≤ ca) (hcb : l2.length ≤ cb) : Calls Try.prog 3 #[.agg #[.slice A l.length ca, .slice B l2.length cb], c.val] W (Just W (.bool true)) := by
  by_cases he : firstNZ [wrongL (l.take 24), wrongL (l2.take 24), costB c] = 0
  · obtain ⟨h1, h2, h3⟩ := firstNZ3 he
    exact law3_ok c l l2 A B ca cb W hr hr2 hca hcb _ _ rfl rfl h1 h2 h3
  · exact law3_err c l l2 A B ca cb W hr hr2 hca hcb _ _ rfl rfl he

theorem law5_just (c : Cost) (l l2 : List Note) (A B : Option Addr) (ca cb : Nat) (x : Int) (W : World) (hr : Rd W A 7 (l.map Note.enc)) (hr2 : Rd W B 7 (l2.map Note.enc)) (hca : l.length ≤ ca) (hcb : l2.length ≤ cb) (a b : List Note) (ha : a = l.take 24) (hb : b = l2.take 24) (hx : 0 ≤ x ∧ x ≤ 255) : Calls Try.prog 5 #[.agg #[.slice A l.length ca, .slice B l2.length cb], c.val, .int .u8 x] W (Hr.Just W (.bool true)) := by
  have hra := rd_take hr ha
  have hrb := rd_take hr2 hb
  have hla : a.length ≤ 24 := by rw [ha]; simp; omega
  have hlb : b.length ≤ 24 := by rw [hb]; simp; omega
  have hac : a.length ≤ ca := by rw [ha]; simp; omega
  have hbc : b.length ≤ cb := by rw [hb]; simp; omega
  refine Just.of_ret ?_
  refine enterA (X := nX) (vs := [.agg #[.slice A l.length ca, .slice B l2.length cb], c.val, .int .u8 x]) Try.func5 Try.ntmps5 rfl rfl Mem.nil ?_
  refine run_seq ?_
  refine run_region ?_
  refine run_h (.none rfl) (h_box rfl rfl rfl rfl rfl) ?_
  rintro b3 -
  refine run_h (.none rfl) (h_box rfl rfl rfl rfl rfl) ?_
  rintro b4 -
  refine run_q (.none rfl) rfl rfl (q_assign rfl rfl) ?_
  refine run_nil ?_
  refine run_seq ?_
  refine run_draw [(0, 0), (1, 0), (2, 0), (3, 0), (4, 0), (5, 0), (6, 0), (7, 0)] mixed (by kernel_rfl) .refl ?_
  refine d_q rfl rfl (.none rfl) rfl rfl (q_fieldB (d := 0) rfl Try.underlying24 rfl rfl sz22 rfl) ?_
  refine d_q rfl rfl (.none rfl) rfl rfl (q_loadB rfl one22 rfl (.there Sel.here) rfl) ?_
  refine d_q rfl rfl (.none rfl) rfl rfl (q_call rfl call12 (.cons rfl Evs.nil) (fun w hk hm => cut_take ha A ca hca w)) ?_
  refine d_q rfl rfl (.none rfl) rfl rfl (q_fieldB (d := 1) rfl Try.underlying24 rfl rfl sz22 rfl) ?_
  refine d_q rfl rfl (.none rfl) rfl rfl (q_loadB rfl one22 rfl (.there Sel.here) rfl) ?_
  refine d_q rfl rfl (.none rfl) rfl rfl (q_call rfl call12 (.cons rfl Evs.nil) (fun w hk hm => cut_take hb B cb hcb w)) ?_
  refine d_q rfl rfl (.none rfl) rfl rfl (q_assign rfl rfl) ?_
  refine d_q rfl rfl (.none rfl) rfl rfl (q_assign rfl rfl) ?_
  refine d_nil ?_
  refine run_sub (subMk (.cons (s := 2) rfl (.cons (s := 4) rfl (.cons (s := 6) rfl (.cons (s := 7) rfl (.cons (s := 8) rfl .nil))))) .refl) ?_
  refine run_seq ?_
  refine run_seq ?_
  refine run_region ?_
  refine run_q (.none rfl) rfl rfl (q_call rfl call14 Evs.nil (fun w hk hm => known_just w)) ?_
  refine run_q (.none rfl) rfl rfl (q_not rfl rfl) ?_
  refine run_q (.none rfl) rfl rfl (q_move rfl rfl) ?_
  refine run_q (.on rfl rfl rfl rfl) rfl rfl (q_move rfl rfl) ?_
  refine run_q (.on rfl rfl rfl rfl) rfl rfl (q_call rfl call15 (.cons rfl Evs.nil) (fun w hk hm => bad_just a A a.length ca w (hra.kept0 hk) rfl (by omega))) ?_
  refine run_q (.on rfl rfl rfl rfl) rfl rfl (q_neq rfl rfl rfl) ?_
  refine run_q (.none rfl) rfl rfl (q_pickF rfl rfl rfl rfl) ?_
  refine run_q (.none rfl) rfl rfl (q_move rfl rfl) ?_
  refine run_split 30 rfl (fun g30 => ?_) (fun g30 => ?_)
  · have g30' := g30
    try simp only [decide_eq_true_eq, decide_eq_false_iff_not, beq_iff_eq, beq_eq_false_iff_ne, bne_iff_ne, bne_eq_false_iff_eq, Bool.not_eq_true', Bool.not_eq_false', ne_eq, Int.not_lt, Int.not_le, Decidable.not_not] at g30'
    refine run_off (.no rfl rfl rfl g30) rfl rfl ?_
    refine run_off (.no rfl rfl rfl g30) rfl rfl ?_
    refine run_off (.no rfl rfl rfl g30) rfl rfl ?_
    refine run_q (.none rfl) rfl rfl (q_pickT rfl rfl g30 rfl) ?_
    refine run_q (.none rfl) rfl rfl (q_move rfl rfl) ?_
    refine run_off (.no rfl rfl rfl rfl) rfl rfl ?_
    refine run_off (.no rfl rfl rfl rfl) rfl rfl ?_
    refine run_off (.no rfl rfl rfl rfl) rfl rfl ?_
    refine run_q (.none rfl) rfl rfl (q_pickT rfl rfl rfl rfl) ?_
    refine run_q (.none rfl) rfl rfl (q_move rfl rfl) ?_
    refine run_off (.no rfl rfl rfl rfl) rfl rfl ?_
    refine run_off (.no rfl rfl rfl rfl) rfl rfl ?_
    refine run_off (.no rfl rfl rfl rfl) rfl rfl ?_
    refine run_q (.none rfl) rfl rfl (q_pickT rfl rfl rfl rfl) ?_
    refine run_nil ?_
    refine run_sub (subMk (.cons (s := 2) rfl (.cons (s := 4) rfl (.cons (s := 6) rfl (.cons (s := 7) rfl (.cons (s := 8) rfl (.cons (s := 44) rfl .nil)))))) .refl) ?_
    refine run_condT rfl rfl ?_
    refine run_seq ?_
    refine run_region ?_
    refine run_q (.none rfl) rfl rfl (q_call rfl call14 Evs.nil (fun w hk hm => known_just w)) ?_
    refine run_q (.none rfl) rfl rfl (q_assign rfl rfl) ?_
    refine run_nil ?_
    refine run_ret ?_
    exact end1 rfl rfl rfl
  · have g30' := g30
    try simp only [decide_eq_true_eq, decide_eq_false_iff_not, beq_iff_eq, beq_eq_false_iff_ne, bne_iff_ne, bne_eq_false_iff_eq, Bool.not_eq_true', Bool.not_eq_false', ne_eq, Int.not_lt, Int.not_le, Decidable.not_not] at g30'
    have hwa : wrongL a = 0 := by simpa using g30
    refine run_q (.on rfl rfl rfl g30) rfl rfl (q_move rfl rfl) ?_
    refine run_q (.on rfl rfl rfl g30) rfl rfl (q_call rfl call15 (.cons rfl Evs.nil) (fun w hk hm => bad_just b B b.length cb w (hrb.kept0 hk) rfl (by omega))) ?_
    refine run_q (.on rfl rfl rfl g30) rfl rfl (q_neq rfl rfl rfl) ?_
    refine run_q (.none rfl) rfl rfl (q_pickF rfl rfl g30 rfl) ?_
    refine run_q (.none rfl) rfl rfl (q_move rfl rfl) ?_
    refine run_split 35 rfl (fun g35 => ?_) (fun g35 => ?_)
    · have g35' := g35
      try simp only [decide_eq_true_eq, decide_eq_false_iff_not, beq_iff_eq, beq_eq_false_iff_ne, bne_iff_ne, bne_eq_false_iff_eq, Bool.not_eq_true', Bool.not_eq_false', ne_eq, Int.not_lt, Int.not_le, Decidable.not_not] at g35'
      refine run_off (.no rfl rfl rfl g35) rfl rfl ?_
      refine run_off (.no rfl rfl rfl g35) rfl rfl ?_
      refine run_off (.no rfl rfl rfl g35) rfl rfl ?_
      refine run_q (.none rfl) rfl rfl (q_pickT rfl rfl g35 rfl) ?_
      refine run_q (.none rfl) rfl rfl (q_move rfl rfl) ?_
      refine run_off (.no rfl rfl rfl rfl) rfl rfl ?_
      refine run_off (.no rfl rfl rfl rfl) rfl rfl ?_
      refine run_off (.no rfl rfl rfl rfl) rfl rfl ?_
      refine run_q (.none rfl) rfl rfl (q_pickT rfl rfl rfl rfl) ?_
      refine run_nil ?_
      refine run_sub (subMk (.cons (s := 2) rfl (.cons (s := 4) rfl (.cons (s := 6) rfl (.cons (s := 7) rfl (.cons (s := 8) rfl (.cons (s := 44) rfl .nil)))))) .refl) ?_
      refine run_condT rfl rfl ?_
      refine run_seq ?_
      refine run_region ?_
      refine run_q (.none rfl) rfl rfl (q_call rfl call14 Evs.nil (fun w hk hm => known_just w)) ?_
      refine run_q (.none rfl) rfl rfl (q_assign rfl rfl) ?_
      refine run_nil ?_
      refine run_ret ?_
      exact end1 rfl rfl rfl
    · have g35' := g35
      try simp only [decide_eq_true_eq, decide_eq_false_iff_not, beq_iff_eq, beq_eq_false_iff_ne, bne_iff_ne, bne_eq_false_iff_eq, Bool.not_eq_true', Bool.not_eq_false', ne_eq, Int.not_lt, Int.not_le, Decidable.not_not] at g35'
      have hwb : wrongL b = 0 := by simpa using g35
      refine run_q (.on rfl rfl rfl g35) rfl rfl (q_loadBN rfl agg26 rfl Sel.here (.cons rfl (.cons rfl (.cons rfl (.cons rfl (.cons rfl CellsAt.nil))))) rfl) ?_
      refine run_q (.on rfl rfl rfl g35) rfl rfl (q_call rfl call16 (.cons rfl Evs.nil) (fun w hk hm => badCosts_just c w)) ?_
      refine run_q (.on rfl rfl rfl g35) rfl rfl (q_neq rfl rfl rfl) ?_
      refine run_q (.none rfl) rfl rfl (q_pickF rfl rfl g35 rfl) ?_
      refine run_q (.none rfl) rfl rfl (q_move rfl rfl) ?_
      refine run_split 40 rfl (fun g40 => ?_) (fun g40 => ?_)
      · have g40' := g40
        try simp only [decide_eq_true_eq, decide_eq_false_iff_not, beq_iff_eq, beq_eq_false_iff_ne, bne_iff_ne, bne_eq_false_iff_eq, Bool.not_eq_true', Bool.not_eq_false', ne_eq, Int.not_lt, Int.not_le, Decidable.not_not] at g40'
        refine run_off (.no rfl rfl rfl g40) rfl rfl ?_
        refine run_off (.no rfl rfl rfl g40) rfl rfl ?_
        refine run_off (.no rfl rfl rfl g40) rfl rfl ?_
        refine run_q (.none rfl) rfl rfl (q_pickT rfl rfl g40 rfl) ?_
        refine run_nil ?_
        refine run_sub (subMk (.cons (s := 2) rfl (.cons (s := 4) rfl (.cons (s := 6) rfl (.cons (s := 7) rfl (.cons (s := 8) rfl (.cons (s := 44) rfl .nil)))))) .refl) ?_
        refine run_condT rfl rfl ?_
        refine run_seq ?_
        refine run_region ?_
        refine run_q (.none rfl) rfl rfl (q_call rfl call14 Evs.nil (fun w hk hm => known_just w)) ?_
        refine run_q (.none rfl) rfl rfl (q_assign rfl rfl) ?_
        refine run_nil ?_
        refine run_ret ?_
        exact end1 rfl rfl rfl
      · have g40' := g40
        try simp only [decide_eq_true_eq, decide_eq_false_iff_not, beq_iff_eq, beq_eq_false_iff_ne, bne_iff_ne, bne_eq_false_iff_eq, Bool.not_eq_true', Bool.not_eq_false', ne_eq, Int.not_lt, Int.not_le, Decidable.not_not] at g40'
        have hcc : costB c = 0 := by simpa using g40
        have hc := costB_ok hcc
        refine run_q (.on rfl rfl rfl g40) rfl rfl (q_move rfl rfl) ?_
        refine run_q (.on rfl rfl rfl g40) rfl rfl (q_len rfl Try.underlying22 rfl) ?_
        refine run_q (.on rfl rfl rfl g40) rfl rfl (q_eql rfl rfl rfl) ?_
        refine run_q (.none rfl) rfl rfl (q_pickF rfl rfl g40 rfl) ?_
        refine run_nil ?_
        refine run_sub (subMk (.cons (s := 2) rfl (.cons (s := 4) rfl (.cons (s := 6) rfl (.cons (s := 7) rfl (.cons (s := 8) rfl (.cons (s := 44) rfl .nil)))))) .refl) ?_
        refine run_cond rfl (fun g44 => ?_) (fun g44 => ?_)
        · have g44' := g44
          try simp only [decide_eq_true_eq, decide_eq_false_iff_not, beq_iff_eq, beq_eq_false_iff_ne, bne_iff_ne, bne_eq_false_iff_eq, Bool.not_eq_true', Bool.not_eq_false', ne_eq, Int.not_lt, Int.not_le, Decidable.not_not] at g44'
          refine run_seq ?_
          refine run_region ?_
          refine run_q (.none rfl) rfl rfl (q_call rfl call14 Evs.nil (fun w hk hm => known_just w)) ?_
          refine run_q (.none rfl) rfl rfl (q_assign rfl rfl) ?_
          refine run_nil ?_
          refine run_ret ?_
          exact end1 rfl rfl rfl
        · have g44' := g44
          try simp only [decide_eq_true_eq, decide_eq_false_iff_not, beq_iff_eq, beq_eq_false_iff_ne, bne_iff_ne, bne_eq_false_iff_eq, Bool.not_eq_true', Bool.not_eq_false', ne_eq, Int.not_lt, Int.not_le, Decidable.not_not] at g44'
          have h0 : 0 < a.length := by omega
          obtain ⟨i, hxi, hi⟩ : ∃ i : Nat, x % (a.length : Int) = (i : Int) ∧ i < a.length := ⟨(x % (a.length : Int)).toNat, by have := Int.emod_nonneg x (show (a.length : Int) ≠ 0 by omega); omega, by have := Int.emod_lt_of_pos x (show (0 : Int) < (a.length : Int) by omega); omega⟩
          refine run_skip ?_
          refine run_seq ?_
          refine run_region ?_
          refine run_q (.none rfl) rfl rfl (q_move rfl rfl) ?_
          refine run_q (.none rfl) rfl rfl (q_convert' rfl rfl Try.underlying5 Try.underlying3 (by rw [IntKind.wrap_i64]; omega)) ?_
          refine run_q (.none rfl) rfl rfl (q_move rfl rfl) ?_
          refine run_q (.none rfl) rfl rfl (q_len rfl Try.underlying22 rfl) ?_
          refine run_q (.none rfl) rfl rfl (q_rem rfl rfl rfl (by omega)) ?_
          refine run_q (.none rfl) rfl rfl (q_assign rfl rfl) ?_
          refine run_nil ?_
          refine run_sub (subMk (.cons (s := 4) rfl (.cons (s := 6) rfl (.cons (s := 7) rfl (.cons (s := 8) rfl (.cons (s := 9) rfl .nil))))) .refl) ?_
          refine run_seq ?_
          refine run_sub (subMk (.cons (s := 4) rfl (.cons (s := 6) rfl (.cons (s := 7) rfl (.cons (s := 8) rfl (.cons' (s := 9) (v' := .int .i64 (i : Int)) rfl (vint hxi) .nil))))) .refl) ?_
          refine run_draw [(1, 0), (2, 0), (3, 0), (5, 0), (6, 0), (7, 0), (8, 0), (0, 1), (4, 1), (9, 2), (10, 2)] mixed (by kernel_rfl) .refl ?_
          refine d_q rfl rfl (.none rfl) rfl rfl (q_move rfl rfl) ?_
          refine d_q rfl rfl (.none rfl) rfl rfl (q_move rfl rfl) ?_
          refine d_q rfl rfl (.none rfl) rfl rfl (q_sliceH rfl Try.underlying22 sz47 rfl rfl (by omega)) ?_
          refine d_q rfl rfl (.none rfl) rfl rfl (q_move rfl rfl) ?_
          refine d_q rfl rfl (.none rfl) rfl rfl (q_move rfl rfl) ?_
          refine d_q rfl rfl (.none rfl) rfl rfl (q_add rfl rfl rfl (by omega)) ?_
          refine d_q rfl rfl (.none rfl) rfl rfl (q_sliceL rfl Try.underlying22 sz47 rfl rfl (by omega)) ?_
          refine d_h rfl rfl (.none rfl) (h_buildSlice rfl rfl rfl Try.underlying22 info47 Parts.nil rfl (by omega)) (fun _ _ => (.sub (by repeat (first | exact List.Sublist.refl _ | apply List.Sublist.cons)))) ?_
          rintro b51 -
          refine d_h rfl rfl (.none rfl) (h_append rfl rfl rfl Try.underlying22 info47 rfl rfl Sel.here rfl ((RdS.inp hra Sep.no).take i) (by simp; omega) (fun z hz => enc_len (List.mem_of_mem_take hz)) (fun z hz => enc_all (List.mem_of_mem_take hz)) (by omega) (by omega)) (fun _ _ => (.sub (by repeat (first | exact List.Sublist.refl _ | apply List.Sublist.cons)))) ?_
          rintro ⟨A55, c55⟩ -
          refine d_t rfl rfl (.none rfl) (h_append rfl rfl rfl Try.underlying22 info47 rfl rfl Sel.here rfl ((RdS.inp hra Sep.no).cut (l := i + 1) (c := ca) (by simp <;> omega)) (by simp <;> omega) (fun z hz => enc_len (List.mem_of_mem_drop hz)) (fun z hz => enc_all (List.mem_of_mem_drop hz)) (by omega) (by omega)) ?_
          rintro ⟨A60, c60⟩ -
          refine d_t rfl rfl (.none rfl) (.of_q rfl rfl (q_assign rfl rfl)) ?_
          rintro - -
          refine d_nil ?_
          refine run_sub (subMk (.cons (s := 4) rfl (.cons (s := 6) rfl (.cons (s := 7) rfl (.cons (s := 8) rfl (.cons (s := 10) rfl .nil))))) .refl) ?_
          refine run_seq ?_
          refine run_region ?_
          refine run_q (.none rfl) rfl rfl (q_move rfl rfl) ?_
          refine run_q (.none rfl) rfl rfl (q_move rfl rfl) ?_
          refine run_q (.none rfl) rfl rfl (q_loadBN rfl agg26 rfl (.there Sel.here) (.cons rfl (.cons rfl (.cons rfl (.cons rfl (.cons rfl CellsAt.nil))))) rfl) ?_
          refine run_h (.none rfl) (h_call rfl rfl rfl call13 (.cons rfl (.cons rfl (.cons rfl Evs.nil))) (fun w hk hm => alignOk_ret c a b A B ca cb w (hra.kept0 hk) (hrb.kept0 hk) (by omega) (by omega) hwa hwb hcc)) ?_
          rintro ⟨v, m⟩ ⟨A65, c65, rfl, rfl⟩
          show Run _ _ _ _ _ _ _ ⟨(65, .tuple #[.slice A65 (path c a b 0 0).length c65, .int .i64 (best c a b), .int .i64 0]) :: _, _ :: _⟩
          refine run_q (.none rfl) rfl rfl (q_move rfl rfl) ?_
          refine run_q (.none rfl) rfl rfl (q_extract rfl rfl rfl) ?_
          refine run_q (.none rfl) rfl rfl (q_extract rfl rfl rfl) ?_
          refine run_q (.none rfl) rfl rfl (q_extract rfl rfl rfl) ?_
          refine run_q (.none rfl) rfl rfl (q_assign rfl rfl) ?_
          refine run_q (.none rfl) rfl rfl (q_assign rfl rfl) ?_
          refine run_q (.none rfl) rfl rfl (q_assign rfl rfl) ?_
          refine run_nil ?_
          refine run_sub (subMk (.cons (s := 4) rfl (.cons (s := 6) rfl (.cons (s := 8) rfl (.cons (s := 10) rfl (.cons (s := 12) rfl (.cons (s := 13) rfl .nil)))))) .refl) ?_
          refine run_seq ?_
          refine run_sub (subMk (.cons (s := 4) rfl (.cons (s := 6) rfl (.cons (s := 8) rfl (.cons' (s := 10) (v' := .slice A60 (rm a i).length c60) rfl (by rw [rm_length hi]; congr 1; omega) (.cons (s := 12) rfl (.cons (s := 13) rfl .nil)))))) .refl) ?_
          refine run_region ?_
          refine run_q (.none rfl) rfl rfl (q_move rfl rfl) ?_
          refine run_q (.none rfl) rfl rfl (q_move rfl rfl) ?_
          refine run_q (.none rfl) rfl rfl (q_loadBN rfl agg26 rfl (.there (.there Sel.here)) (.cons rfl (.cons rfl (.cons rfl (.cons rfl (.cons rfl CellsAt.nil))))) rfl) ?_
          refine run_h (.none rfl) (h_call rfl rfl rfl call13 (.cons rfl (.cons rfl (.cons rfl Evs.nil))) (fun w hk hm => alignOk_ret c (rm a i) b A60 B c60 cb w (by simpa [rm, List.map_append, List.map_take, List.map_drop] using (own_rd ((Sel.there Sel.here).holds hm))) (hrb.kept0 hk) (by rw [rm_length hi]; omega) (by omega) (wrongL_rm hwa hi) hwb hcc)) ?_
          rintro ⟨v, m⟩ ⟨A73, c73, rfl, rfl⟩
          show Run _ _ _ _ _ _ _ ⟨(73, .tuple #[.slice A73 (path c (rm a i) b 0 0).length c73, .int .i64 (best c (rm a i) b), .int .i64 0]) :: _, _ :: _⟩
          refine run_q (.none rfl) rfl rfl (q_move rfl rfl) ?_
          refine run_q (.none rfl) rfl rfl (q_extract rfl rfl rfl) ?_
          refine run_q (.none rfl) rfl rfl (q_extract rfl rfl rfl) ?_
          refine run_q (.none rfl) rfl rfl (q_extract rfl rfl rfl) ?_
          refine run_q (.none rfl) rfl rfl (q_assign rfl rfl) ?_
          refine run_q (.none rfl) rfl rfl (q_assign rfl rfl) ?_
          refine run_q (.none rfl) rfl rfl (q_assign rfl rfl) ?_
          refine run_nil ?_
          refine run_sub (subMk (.cons (s := 4) rfl (.cons (s := 6) rfl (.cons (s := 12) rfl (.cons (s := 13) rfl (.cons (s := 15) rfl (.cons (s := 16) rfl .nil)))))) .refl) ?_
          refine run_seq ?_
          refine run_region ?_
          refine run_q (.none rfl) rfl rfl (q_move rfl rfl) ?_
          refine run_q (.none rfl) rfl rfl (q_eql rfl rfl rfl) ?_
          refine run_q (.none rfl) rfl rfl (q_move rfl rfl) ?_
          refine run_q (.on rfl rfl rfl rfl) rfl rfl (q_move rfl rfl) ?_
          refine run_q (.on rfl rfl rfl rfl) rfl rfl (q_eql rfl rfl rfl) ?_
          refine run_q (.none rfl) rfl rfl (q_pickT rfl rfl rfl rfl) ?_
          refine run_q (.none rfl) rfl rfl (q_move rfl rfl) ?_
          refine run_q (.on rfl rfl rfl rfl) rfl rfl (q_move rfl rfl) ?_
          refine run_q (.on rfl rfl rfl rfl) rfl rfl (q_move rfl rfl) ?_
          refine run_q (.on rfl rfl rfl rfl) rfl rfl (q_fieldB (d := 1) rfl Try.underlying26 rfl rfl sz3 rfl) ?_
          refine run_q (.on rfl rfl rfl rfl) rfl rfl (q_loadB rfl one3 rfl (.there (.there (.there Sel.here))) rfl) ?_
          have hbd := best_bd hc (rm a i) b
          have hrl := rm_length hi
          have hm := hc.m
          refine run_q (.on rfl rfl rfl rfl) rfl rfl (q_add rfl rfl rfl (by omega)) ?_
          refine run_q (.on rfl rfl rfl rfl) rfl rfl (q_leq rfl rfl rfl) ?_
          refine run_q (.none rfl) rfl rfl (q_pickT rfl rfl rfl rfl) ?_
          refine run_q (.none rfl) rfl rfl (q_assign rfl rfl) ?_
          refine run_nil ?_
          refine run_sub (subMk (.cons (s := 6) rfl .nil) .refl) ?_
          refine run_ret ?_
          exact end1 rfl rfl (by simp [best_rm a b i hi])

end Go.Proofs.Ytbkmmjpklkallaa
