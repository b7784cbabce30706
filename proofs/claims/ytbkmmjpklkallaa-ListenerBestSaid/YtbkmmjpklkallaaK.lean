/- No alignment costs less, in the program. -/
import Derived.Test.YtbkmmjpklkallaaJ
set_option linter.unusedSimpArgs false
set_option linter.unusedVariables false
namespace Go.Proofs.Ytbkmmjpklkallaa
open Go Go.RowKit Hr

theorem sz5 : Hr.Sz Try.prog 5 1 := Hr.Sz.of (by kernel_rfl)
theorem one5 : Hr.One Try.prog 5 := ⟨fun w => by simp [isAgg, run_underlying Try.underlying5], Hr.Sz.of (by kernel_rfl)⟩

set_option maxHeartbeats 4000000 in
set_option maxRecDepth 100000 in
theorem law6_at (c : Cost) (l l2 : List Note) (A B : Option Addr) (ca cb : Nat) (bs : List Int) (C : Option Addr) (cc : Nat) (W : World) (hr : Rd W A 7 (l.map Note.enc)) (hr2 : Rd W B 7 (l2.map Note.enc)) (hca : l.length ≤ ca) (hcb : l2.length ≤ cb) (hrc : Rd W C 1 (bs.map encU8)) (hbs : ∀ x ∈ bs, 0 ≤ x ∧ x ≤ 255) (a b : List Note) (ha : a = l.take 8) (hb : b = l2.take 8) : Calls Try.prog 6 #[.agg #[.slice A l.length ca, .slice B l2.length cb], c.val, .slice C bs.length cc] W (Hr.Just W (.bool true)) := by
  have hra := rd_take hr ha
  have hrb := rd_take hr2 hb
  have hla : a.length = min l.length 8 := by rw [ha]; simp [Nat.min_comm]
  have hlb : b.length = min l2.length 8 := by rw [hb]; simp [Nat.min_comm]
  refine Just.of_ret ?_
  refine enterA (X := nX) (vs := [.agg #[.slice A l.length ca, .slice B l2.length cb], c.val, .slice C bs.length cc]) Try.func6 Try.ntmps6 rfl rfl Mem.nil ?_
  refine run_seq ?_
  refine run_region ?_
  refine run_h (.none rfl) (h_box rfl rfl rfl rfl rfl) ?_
  rintro b3 -
  refine run_h (.none rfl) (h_box rfl rfl rfl rfl rfl) ?_
  rintro b4 -
  refine run_q (.none rfl) rfl rfl (q_assign rfl rfl) ?_
  refine run_nil ?_
  refine run_sub (subMk (.cons (s := 2) rfl (.cons (s := 3) rfl (.cons (s := 4) rfl (.cons (s := 6) rfl .nil)))) .refl) ?_
  refine run_seq ?_
  refine run_draw [(0, 0), (1, 0), (2, 0), (3, 0), (4, 0), (5, 0), (6, 0), (7, 0), (8, 0), (9, 0), (10, 0), (11, 0), (12, 0), (13, 0), (14, 0), (15, 0)] mixed (by kernel_rfl) .refl ?_
  refine d_q rfl rfl (.none rfl) rfl rfl (q_fieldB (d := 0) rfl Try.underlying24 rfl rfl sz22 rfl) ?_
  refine d_q rfl rfl (.none rfl) rfl rfl (q_loadB rfl one22 rfl (.there Sel.here) rfl) ?_
  refine d_q rfl rfl (.none rfl) rfl rfl (q_fieldB (d := 0) rfl Try.underlying24 rfl rfl sz22 rfl) ?_
  refine d_q rfl rfl (.none rfl) rfl rfl (q_loadB rfl one22 rfl (.there Sel.here) rfl) ?_
  refine d_q rfl rfl (.none rfl) rfl rfl (q_len rfl Try.underlying22 rfl) ?_
  refine d_q rfl rfl (.none rfl) rfl rfl (q_min2 rfl rfl rfl) ?_
  refine d_q rfl rfl (.none rfl) rfl rfl (q_sliceH rfl Try.underlying22 sz47 rfl rfl (by omega)) ?_
  refine d_q rfl rfl (.none rfl) rfl rfl (q_fieldB (d := 1) rfl Try.underlying24 rfl rfl sz22 rfl) ?_
  refine d_q rfl rfl (.none rfl) rfl rfl (q_loadB rfl one22 rfl (.there Sel.here) rfl) ?_
  refine d_q rfl rfl (.none rfl) rfl rfl (q_fieldB (d := 1) rfl Try.underlying24 rfl rfl sz22 rfl) ?_
  refine d_q rfl rfl (.none rfl) rfl rfl (q_loadB rfl one22 rfl (.there Sel.here) rfl) ?_
  refine d_q rfl rfl (.none rfl) rfl rfl (q_len rfl Try.underlying22 rfl) ?_
  refine d_q rfl rfl (.none rfl) rfl rfl (q_min2 rfl rfl rfl) ?_
  refine d_q rfl rfl (.none rfl) rfl rfl (q_sliceH rfl Try.underlying22 sz47 rfl rfl (by omega)) ?_
  refine d_q rfl rfl (.none rfl) rfl rfl (q_assign rfl rfl) ?_
  refine d_q rfl rfl (.none rfl) rfl rfl (q_assign rfl rfl) ?_
  refine d_nil ?_
  refine run_sub (subMk (.cons (s := 2) rfl (.cons (s := 4) rfl (.cons (s := 6) rfl (.cons (s := 7) rfl (.cons (s := 8) rfl .nil))))) .refl) ?_
  refine run_seq ?_
  refine run_seq ?_
  refine run_sub (subMk (.cons (s := 2) rfl (.cons (s := 4) rfl (.cons (s := 6) rfl (.cons' (s := 7) (v' := .slice A a.length ca) rfl (by rw [hla]; congr 1; omega) (.cons' (s := 8) (v' := .slice B b.length cb) rfl (by rw [hlb]; congr 1; omega) .nil))))) .refl) ?_
  refine run_region ?_
  refine run_q (.none rfl) rfl rfl (q_call rfl call14 Evs.nil (fun w hk hm => known_just w)) ?_
  refine run_q (.none rfl) rfl rfl (q_not rfl rfl) ?_
  refine run_q (.none rfl) rfl rfl (q_move rfl rfl) ?_
  refine run_q (.on rfl rfl rfl rfl) rfl rfl (q_move rfl rfl) ?_
  refine run_q (.on rfl rfl rfl rfl) rfl rfl (q_call rfl call15 (.cons rfl Evs.nil) (fun w hk hm => bad_just a A a.length ca w (hra.kept0 hk) rfl (by omega))) ?_
  refine run_q (.on rfl rfl rfl rfl) rfl rfl (q_neq rfl rfl rfl) ?_
  refine run_q (.none rfl) rfl rfl (q_pickF rfl rfl rfl rfl) ?_
  refine run_q (.none rfl) rfl rfl (q_move rfl rfl) ?_
  refine run_split 42 rfl (fun g42 => ?_) (fun g42 => ?_)
  · have g42' := g42
    try simp only [decide_eq_true_eq, decide_eq_false_iff_not, beq_iff_eq, beq_eq_false_iff_ne, bne_iff_ne, bne_eq_false_iff_eq, Bool.not_eq_true', Bool.not_eq_false', ne_eq, Int.not_lt, Int.not_le, Decidable.not_not] at g42'
    refine run_off (.no rfl rfl rfl g42) rfl rfl ?_
    refine run_off (.no rfl rfl rfl g42) rfl rfl ?_
    refine run_off (.no rfl rfl rfl g42) rfl rfl ?_
    refine run_q (.none rfl) rfl rfl (q_pickT rfl rfl g42 rfl) ?_
    refine run_q (.none rfl) rfl rfl (q_move rfl rfl) ?_
    refine run_off (.no rfl rfl rfl rfl) rfl rfl ?_
    refine run_off (.no rfl rfl rfl rfl) rfl rfl ?_
    refine run_off (.no rfl rfl rfl rfl) rfl rfl ?_
    refine run_q (.none rfl) rfl rfl (q_pickT rfl rfl rfl rfl) ?_
    refine run_nil ?_
    refine run_sub (subMk (.cons (s := 2) rfl (.cons (s := 4) rfl (.cons (s := 6) rfl (.cons (s := 7) rfl (.cons (s := 8) rfl (.cons (s := 51) rfl .nil)))))) .refl) ?_
    refine run_condT rfl rfl ?_
    refine run_seq ?_
    refine run_region ?_
    refine run_q (.none rfl) rfl rfl (q_call rfl call14 Evs.nil (fun w hk hm => known_just w)) ?_
    refine run_q (.none rfl) rfl rfl (q_assign rfl rfl) ?_
    refine run_nil ?_
    refine run_ret ?_
    exact end1 rfl rfl rfl
  · have g42' := g42
    try simp only [decide_eq_true_eq, decide_eq_false_iff_not, beq_iff_eq, beq_eq_false_iff_ne, bne_iff_ne, bne_eq_false_iff_eq, Bool.not_eq_true', Bool.not_eq_false', ne_eq, Int.not_lt, Int.not_le, Decidable.not_not] at g42'
    have hwa : wrongL a = 0 := by simpa using g42
    refine run_q (.on rfl rfl rfl g42) rfl rfl (q_move rfl rfl) ?_
    refine run_q (.on rfl rfl rfl g42) rfl rfl (q_call rfl call15 (.cons rfl Evs.nil) (fun w hk hm => bad_just b B b.length cb w (hrb.kept0 hk) rfl (by omega))) ?_
    refine run_q (.on rfl rfl rfl g42) rfl rfl (q_neq rfl rfl rfl) ?_
    refine run_q (.none rfl) rfl rfl (q_pickF rfl rfl g42 rfl) ?_
    refine run_q (.none rfl) rfl rfl (q_move rfl rfl) ?_
    refine run_split 47 rfl (fun g47 => ?_) (fun g47 => ?_)
    · have g47' := g47
      try simp only [decide_eq_true_eq, decide_eq_false_iff_not, beq_iff_eq, beq_eq_false_iff_ne, bne_iff_ne, bne_eq_false_iff_eq, Bool.not_eq_true', Bool.not_eq_false', ne_eq, Int.not_lt, Int.not_le, Decidable.not_not] at g47'
      refine run_off (.no rfl rfl rfl g47) rfl rfl ?_
      refine run_off (.no rfl rfl rfl g47) rfl rfl ?_
      refine run_off (.no rfl rfl rfl g47) rfl rfl ?_
      refine run_q (.none rfl) rfl rfl (q_pickT rfl rfl g47 rfl) ?_
      refine run_nil ?_
      refine run_sub (subMk (.cons (s := 2) rfl (.cons (s := 4) rfl (.cons (s := 6) rfl (.cons (s := 7) rfl (.cons (s := 8) rfl (.cons (s := 51) rfl .nil)))))) .refl) ?_
      refine run_condT rfl rfl ?_
      refine run_seq ?_
      refine run_region ?_
      refine run_q (.none rfl) rfl rfl (q_call rfl call14 Evs.nil (fun w hk hm => known_just w)) ?_
      refine run_q (.none rfl) rfl rfl (q_assign rfl rfl) ?_
      refine run_nil ?_
      refine run_ret ?_
      exact end1 rfl rfl rfl
    · have g47' := g47
      try simp only [decide_eq_true_eq, decide_eq_false_iff_not, beq_iff_eq, beq_eq_false_iff_ne, bne_iff_ne, bne_eq_false_iff_eq, Bool.not_eq_true', Bool.not_eq_false', ne_eq, Int.not_lt, Int.not_le, Decidable.not_not] at g47'
      have hwb : wrongL b = 0 := by simpa using g47
      refine run_q (.on rfl rfl rfl g47) rfl rfl (q_loadBN rfl agg26 rfl Sel.here (.cons rfl (.cons rfl (.cons rfl (.cons rfl (.cons rfl CellsAt.nil))))) rfl) ?_
      refine run_q (.on rfl rfl rfl g47) rfl rfl (q_call rfl call16 (.cons rfl Evs.nil) (fun w hk hm => badCosts_just c w)) ?_
      refine run_q (.on rfl rfl rfl g47) rfl rfl (q_neq rfl rfl rfl) ?_
      refine run_q (.none rfl) rfl rfl (q_pickF rfl rfl g47 rfl) ?_
      refine run_nil ?_
      refine run_sub (subMk (.cons (s := 2) rfl (.cons (s := 4) rfl (.cons (s := 6) rfl (.cons (s := 7) rfl (.cons (s := 8) rfl (.cons (s := 51) rfl .nil)))))) .refl) ?_
      refine run_cond rfl (fun g51 => ?_) (fun g51 => ?_)
      · have g51' := g51
        try simp only [decide_eq_true_eq, decide_eq_false_iff_not, beq_iff_eq, beq_eq_false_iff_ne, bne_iff_ne, bne_eq_false_iff_eq, Bool.not_eq_true', Bool.not_eq_false', ne_eq, Int.not_lt, Int.not_le, Decidable.not_not] at g51'
        refine run_seq ?_
        refine run_region ?_
        refine run_q (.none rfl) rfl rfl (q_call rfl call14 Evs.nil (fun w hk hm => known_just w)) ?_
        refine run_q (.none rfl) rfl rfl (q_assign rfl rfl) ?_
        refine run_nil ?_
        refine run_ret ?_
        exact end1 rfl rfl rfl
      · have g51' := g51
        try simp only [decide_eq_true_eq, decide_eq_false_iff_not, beq_iff_eq, beq_eq_false_iff_ne, bne_iff_ne, bne_eq_false_iff_eq, Bool.not_eq_true', Bool.not_eq_false', ne_eq, Int.not_lt, Int.not_le, Decidable.not_not] at g51'
        have hcc : costB c = 0 := by simpa using g51
        have hc := costB_ok hcc
        refine run_skip ?_
        refine run_seq ?_
        refine run_region ?_
        refine run_q (.none rfl) rfl rfl (q_move rfl rfl) ?_
        refine run_q (.none rfl) rfl rfl (q_move rfl rfl) ?_
        refine run_q (.none rfl) rfl rfl (q_loadBN rfl agg26 rfl Sel.here (.cons rfl (.cons rfl (.cons rfl (.cons rfl (.cons rfl CellsAt.nil))))) rfl) ?_
        refine run_h (.none rfl) (h_call rfl rfl rfl call13 (.cons rfl (.cons rfl (.cons rfl Evs.nil))) (fun w hk hm => alignOk_ret c a b A B ca cb w (hra.kept0 hk) (hrb.kept0 hk) (by omega) (by omega) hwa hwb hcc)) ?_
        rintro ⟨v, m⟩ ⟨A57, c57, rfl, rfl⟩
        show Run _ _ _ _ _ _ _ ⟨(57, .tuple #[.slice A57 (path c a b 0 0).length c57, .int .i64 (best c a b), .int .i64 0]) :: _, _ :: _⟩
        refine run_q (.none rfl) rfl rfl (q_move rfl rfl) ?_
        refine run_q (.none rfl) rfl rfl (q_extract rfl rfl rfl) ?_
        refine run_q (.none rfl) rfl rfl (q_extract rfl rfl rfl) ?_
        refine run_q (.none rfl) rfl rfl (q_extract rfl rfl rfl) ?_
        refine run_q (.none rfl) rfl rfl (q_assign rfl rfl) ?_
        refine run_q (.none rfl) rfl rfl (q_assign rfl rfl) ?_
        refine run_q (.none rfl) rfl rfl (q_assign rfl rfl) ?_
        refine run_nil ?_
        refine run_sub (subMk (.cons (s := 2) rfl (.cons (s := 4) rfl (.cons (s := 6) rfl (.cons (s := 7) rfl (.cons (s := 8) rfl (.cons (s := 9) rfl (.cons (s := 10) rfl (.cons (s := 11) rfl .nil)))))))) .refl) ?_
        refine run_seq ?_
        refine run_seq ?_
        refine run_region ?_
        refine run_q (.none rfl) rfl rfl (q_move rfl rfl) ?_
        refine run_q (.none rfl) rfl rfl (q_neq rfl rfl rfl) ?_
        refine run_nil ?_
        refine run_condF rfl rfl ?_
        refine run_skip ?_
        refine run_seq ?_
        refine run_region ?_
        refine run_q (.none rfl) rfl rfl (q_assign rfl rfl) ?_
        refine run_nil ?_
        refine run_sub (subMk (.cons (s := 2) rfl (.cons (s := 4) rfl (.cons (s := 6) rfl (.cons (s := 7) rfl (.cons (s := 8) rfl (.cons (s := 9) rfl (.cons (s := 10) rfl (.cons (s := 12) rfl .nil)))))))) .refl) ?_
        refine run_seq ?_
        refine run_region ?_
        refine run_q (.none rfl) rfl rfl (q_assign rfl rfl) ?_
        refine run_q (.none rfl) rfl rfl (q_assign rfl rfl) ?_
        refine run_nil ?_
        refine run_seq ?_
        refine run_seq ?_
        refine run_region ?_
        refine run_q (.none rfl) rfl rfl (q_assign rfl rfl) ?_
        refine run_nil ?_
        refine run_block ?_
        refine run_sub (subMk .refl (MemSub.nilOwn 40 3)) ?_
        refine run_sub (subMk (.cons (s := 13) rfl (.cons (s := 14) rfl (.cons (s := 15) rfl (.cons (s := 12) rfl (.cons (s := 2) rfl (.cons (s := 4) rfl (.cons (s := 6) rfl (.cons (s := 7) rfl (.cons (s := 8) rfl (.cons (s := 9) rfl (.cons (s := 10) rfl .nil))))))))))) (.cons Sel.here .refl (.cons Sel.here .refl (.cons Sel.here .refl (.cons Sel.here .refl .nil))))) ?_
        refine run_loopC4M1 (ι := Nat × Nat × Nat × (Option Addr) × Nat × (List Pair)) (fun gg => gg.1 ≤ a.length ∧ gg.2.1 ≤ b.length ∧ (∀ r, errPs a b (gg.2.2.2.2.2 ++ r) 0 0 = errPs a b r gg.1 gg.2.1) ∧ gg.2.2.2.2.2.length ≤ gg.1 + gg.2.1 ∧ gg.2.2.1 ≤ gg.1 + gg.2.1) (fun gg => .int .i64 (gg.1 : Int)) (fun gg => .int .i64 (gg.2.1 : Int)) (fun gg => .int .i64 (gg.2.2.1 : Int)) (fun gg => .slice gg.2.2.2.1 gg.2.2.2.2.2.length gg.2.2.2.2.1) (fun gg => .own 40 3 gg.2.2.2.1 gg.2.2.2.2.2.length gg.2.2.2.2.1 (gg.2.2.2.2.2.map Pair.enc)) (fun gg => (a.length - gg.1) + (b.length - gg.2.1)) (0, 0, 0, none, 0, []) (by (try dsimp only); exact ⟨by omega, by omega, fun r => rfl, by simp, by omega⟩) rfl rfl rfl rfl .refl ?_
        rintro ⟨i, k, m, A', cp, o⟩ hq
        (try dsimp only at hq)
        obtain ⟨hi, hk, hv, ho, hm⟩ := hq
        show Run _ _ _ _ _ _ _ ⟨(13, .int .i64 (i : Int)) :: (14, .int .i64 (k : Int)) :: (15, .int .i64 (m : Int)) :: (12, .slice A' o.length cp) :: _, .own 40 3 A' o.length cp (o.map Pair.enc) :: _⟩
        refine run_seq ?_
        refine run_seq ?_
        refine run_region ?_
        refine run_q (.none rfl) rfl rfl (q_move rfl rfl) ?_
        refine run_q (.none rfl) rfl rfl (q_move rfl rfl) ?_
        refine run_q (.none rfl) rfl rfl (q_len rfl Try.underlying22 rfl) ?_
        refine run_q (.none rfl) rfl rfl (q_lss rfl rfl rfl) ?_
        refine run_q (.none rfl) rfl rfl (q_move rfl rfl) ?_
        refine run_split 67 rfl (fun g67 => ?_) (fun g67 => ?_)
        · have g67' := g67
          try simp only [decide_eq_true_eq, decide_eq_false_iff_not, beq_iff_eq, beq_eq_false_iff_ne, bne_iff_ne, bne_eq_false_iff_eq, Bool.not_eq_true', Bool.not_eq_false', ne_eq, Int.not_lt, Int.not_le, Decidable.not_not] at g67'
          refine run_off (.no rfl rfl rfl g67) rfl rfl ?_
          refine run_off (.no rfl rfl rfl g67) rfl rfl ?_
          refine run_off (.no rfl rfl rfl g67) rfl rfl ?_
          refine run_off (.no rfl rfl rfl g67) rfl rfl ?_
          refine run_q (.none rfl) rfl rfl (q_pickT rfl rfl g67 rfl) ?_
          refine run_nil ?_
          refine run_sub (subMk (.cons (s := 2) rfl (.cons (s := 4) rfl (.cons (s := 6) rfl (.cons (s := 7) rfl (.cons (s := 8) rfl (.cons (s := 9) rfl (.cons (s := 10) rfl (.cons (s := 12) rfl (.cons (s := 13) rfl (.cons (s := 14) rfl (.cons (s := 15) rfl (.cons (s := 72) rfl .nil)))))))))))) .refl) ?_
          refine run_condT rfl rfl ?_
          refine run_skip ?_
          refine run_seq ?_
          refine run_block ?_
          refine run_seq ?_
          refine run_region ?_
          refine run_q (.none rfl) rfl rfl (q_assign rfl rfl) ?_
          refine run_nil ?_
          refine run_seq ?_
          refine run_seq ?_
          refine run_region ?_
          refine run_q (.none rfl) rfl rfl (q_move rfl rfl) ?_
          refine run_q (.none rfl) rfl rfl (q_move rfl rfl) ?_
          refine run_q (.none rfl) rfl rfl (q_len rfl Try.underlying43 rfl) ?_
          refine run_q (.none rfl) rfl rfl (q_lss rfl rfl rfl) ?_
          refine run_nil ?_
          refine run_sub (subMk (.cons (s := 2) rfl (.cons (s := 4) rfl (.cons (s := 6) rfl (.cons (s := 7) rfl (.cons (s := 8) rfl (.cons (s := 9) rfl (.cons (s := 10) rfl (.cons (s := 12) rfl (.cons (s := 13) rfl (.cons (s := 14) rfl (.cons (s := 15) rfl (.cons (s := 16) rfl (.cons (s := 78) rfl .nil))))))))))))) .refl) ?_
          refine run_sub (subMk (.cons (s := 16) rfl (.cons (s := 2) rfl (.cons (s := 4) rfl (.cons (s := 6) rfl (.cons (s := 7) rfl (.cons (s := 8) rfl (.cons (s := 9) rfl (.cons (s := 10) rfl (.cons (s := 12) rfl (.cons (s := 13) rfl (.cons (s := 14) rfl (.cons (s := 15) rfl (.cons (s := 78) rfl .nil))))))))))))) (.cons Sel.here .refl (.cons Sel.here .refl (.cons Sel.here .refl (.cons Sel.here .refl .nil))))) ?_
          refine run_cutC1M0 (ι := Int) (fun v => 0 ≤ v ∧ v ≤ 2) (fun v => .int .i64 v)  ?_ ?_
          · refine run_cond rfl (fun g78 => ?_) (fun g78 => ?_)
            · have g78' := g78
              try simp only [decide_eq_true_eq, decide_eq_false_iff_not, beq_iff_eq, beq_eq_false_iff_ne, bne_iff_ne, bne_eq_false_iff_eq, Bool.not_eq_true', Bool.not_eq_false', ne_eq, Int.not_lt, Int.not_le, Decidable.not_not] at g78'
              have hbx := hbs (nth bs m) (nth_mem (by omega))
              refine run_region ?_
              refine run_q (.none rfl) rfl rfl (q_move rfl rfl) ?_
              refine run_q (.none rfl) rfl rfl (q_move rfl rfl) ?_
              refine run_q (.none rfl) rfl rfl (q_indexS (q := m) rfl Try.underlying43 sz5 rfl rfl (.inp hrc .no) (by simp <;> omega) rfl (by omega)) ?_
              refine run_q (.none rfl) rfl rfl (q_loadC rfl one5 rfl (.inp hrc .no) (getmap (by omega))) ?_
              refine run_q (.none rfl) rfl rfl (q_rem rfl rfl rfl (by omega)) ?_
              refine run_q (.none rfl) rfl rfl (q_convert' rfl rfl Try.underlying5 Try.underlying3 (by rw [IntKind.wrap_i64]; omega)) ?_
              refine run_q (.none rfl) rfl rfl (q_assign rfl rfl) ?_
              refine run_nil ?_
              refine run_sub (subMk (.cons (s := 2) rfl (.cons (s := 4) rfl (.cons (s := 6) rfl (.cons (s := 7) rfl (.cons (s := 8) rfl (.cons (s := 9) rfl (.cons (s := 10) rfl (.cons (s := 12) rfl (.cons (s := 13) rfl (.cons (s := 14) rfl (.cons (s := 15) rfl (.cons (s := 16) rfl (.cons (s := 78) rfl .nil))))))))))))) .refl) ?_
              exact run_stop (nth bs m % 3) (by (try dsimp only); exact (by omega)) (subMk (.cons' (s := 16) rfl rfl (.cons (s := 2) rfl (.cons (s := 4) rfl (.cons (s := 6) rfl (.cons (s := 7) rfl (.cons (s := 8) rfl (.cons (s := 9) rfl (.cons (s := 10) rfl (.cons (s := 12) rfl (.cons (s := 13) rfl (.cons (s := 14) rfl (.cons (s := 15) rfl (.cons (s := 78) rfl .nil))))))))))))) (.cons Sel.here .refl (.cons Sel.here .refl (.cons Sel.here .refl (.cons Sel.here .refl .nil)))))
            · have g78' := g78
              try simp only [decide_eq_true_eq, decide_eq_false_iff_not, beq_iff_eq, beq_eq_false_iff_ne, bne_iff_ne, bne_eq_false_iff_eq, Bool.not_eq_true', Bool.not_eq_false', ne_eq, Int.not_lt, Int.not_le, Decidable.not_not] at g78'
              refine run_skip ?_
              exact run_stop 0 (by (try dsimp only); exact (by omega)) (subMk (.cons' (s := 16) rfl rfl (.cons (s := 2) rfl (.cons (s := 4) rfl (.cons (s := 6) rfl (.cons (s := 7) rfl (.cons (s := 8) rfl (.cons (s := 9) rfl (.cons (s := 10) rfl (.cons (s := 12) rfl (.cons (s := 13) rfl (.cons (s := 14) rfl (.cons (s := 15) rfl (.cons (s := 78) rfl .nil))))))))))))) (.cons Sel.here .refl (.cons Sel.here .refl (.cons Sel.here .refl (.cons Sel.here .refl .nil)))))
          · rintro v hv3
            (try dsimp only at hv3)
            show Run _ _ _ _ _ _ _ ⟨(16, .int .i64 v) :: _, _⟩
            refine run_block ?_
            refine run_seq ?_
            refine run_region ?_
            refine run_q (.none rfl) rfl rfl (q_move rfl rfl) ?_
            refine run_q (.none rfl) rfl rfl (q_eql rfl rfl rfl) ?_
            refine run_q (.none rfl) rfl rfl (q_move rfl rfl) ?_
            refine run_split 88 rfl (fun g88 => ?_) (fun g88 => ?_)
            · have g88' := g88
              try simp only [decide_eq_true_eq, decide_eq_false_iff_not, beq_iff_eq, beq_eq_false_iff_ne, bne_iff_ne, bne_eq_false_iff_eq, Bool.not_eq_true', Bool.not_eq_false', ne_eq, Int.not_lt, Int.not_le, Decidable.not_not] at g88'
              refine run_q (.on rfl rfl rfl g88) rfl rfl (q_move rfl rfl) ?_
              refine run_q (.on rfl rfl rfl g88) rfl rfl (q_move rfl rfl) ?_
              refine run_q (.on rfl rfl rfl g88) rfl rfl (q_len rfl Try.underlying22 rfl) ?_
              refine run_q (.on rfl rfl rfl g88) rfl rfl (q_lss rfl rfl rfl) ?_
              refine run_q (.none rfl) rfl rfl (q_pickT rfl rfl g88 rfl) ?_
              refine run_q (.none rfl) rfl rfl (q_move rfl rfl) ?_
              refine run_split 94 rfl (fun g94 => ?_) (fun g94 => ?_)
              · have g94' := g94
                try simp only [decide_eq_true_eq, decide_eq_false_iff_not, beq_iff_eq, beq_eq_false_iff_ne, bne_iff_ne, bne_eq_false_iff_eq, Bool.not_eq_true', Bool.not_eq_false', ne_eq, Int.not_lt, Int.not_le, Decidable.not_not] at g94'
                refine run_q (.on rfl rfl rfl g94) rfl rfl (q_move rfl rfl) ?_
                refine run_q (.on rfl rfl rfl g94) rfl rfl (q_move rfl rfl) ?_
                refine run_q (.on rfl rfl rfl g94) rfl rfl (q_len rfl Try.underlying22 rfl) ?_
                refine run_q (.on rfl rfl rfl g94) rfl rfl (q_lss rfl rfl rfl) ?_
                refine run_q (.none rfl) rfl rfl (q_pickT rfl rfl g94 rfl) ?_
                refine run_q (.none rfl) rfl rfl (q_assign rfl rfl) ?_
                refine run_nil ?_
                refine run_sub (subMk (.cons (s := 2) rfl (.cons (s := 4) rfl (.cons (s := 6) rfl (.cons (s := 7) rfl (.cons (s := 8) rfl (.cons (s := 9) rfl (.cons (s := 10) rfl (.cons (s := 12) rfl (.cons (s := 13) rfl (.cons (s := 14) rfl (.cons (s := 15) rfl (.cons (s := 16) rfl (.cons (s := 85) rfl .nil))))))))))))) .refl) ?_
                refine run_cond rfl (fun g85 => ?_) (fun g85 => ?_)
                · have g85' := g85
                  try simp only [decide_eq_true_eq, decide_eq_false_iff_not, beq_iff_eq, beq_eq_false_iff_ne, bne_iff_ne, bne_eq_false_iff_eq, Bool.not_eq_true', Bool.not_eq_false', ne_eq, Int.not_lt, Int.not_le, Decidable.not_not] at g85'
                  refine run_seq ?_
                  refine run_region ?_
                  refine run_q (.none rfl) rfl rfl (q_assign rfl rfl) ?_
                  refine run_nil ?_
                  refine run_seq ?_
                  refine run_seq ?_
                  refine run_draw [(0, 0), (1, 0), (2, 0), (3, 0), (4, 0), (5, 0), (6, 0), (7, 0), (8, 0), (9, 0), (10, 0)] mixed (by kernel_rfl) .refl ?_
                  refine d_q rfl rfl (.none rfl) rfl rfl (q_move rfl rfl) ?_
                  refine d_q rfl rfl (.none rfl) rfl rfl (q_move rfl rfl) ?_
                  refine d_q rfl rfl (.none rfl) rfl rfl (q_indexS (q := i) rfl Try.underlying22 sz47 rfl rfl (.inp hra .no) (by simp <;> omega) rfl (by omega)) ?_
                  refine d_q rfl rfl (.none rfl) rfl rfl (q_fieldAddr (d := 2) rfl Try.underlying47 rfl rfl sz3 rfl) ?_
                  refine d_q rfl rfl (.none rfl) rfl rfl (q_loadF rfl one3 rfl (.inp hra .no) (getmap (by omega)) rfl) ?_
                  refine d_q rfl rfl (.none rfl) rfl rfl (q_move rfl rfl) ?_
                  refine d_q rfl rfl (.none rfl) rfl rfl (q_move rfl rfl) ?_
                  refine d_q rfl rfl (.none rfl) rfl rfl (q_indexS (q := k) rfl Try.underlying22 sz47 rfl rfl (.inp hrb .no) (by simp <;> omega) rfl (by omega)) ?_
                  refine d_q rfl rfl (.none rfl) rfl rfl (q_fieldAddr (d := 2) rfl Try.underlying47 rfl rfl sz3 rfl) ?_
                  refine d_q rfl rfl (.none rfl) rfl rfl (q_loadF rfl one3 rfl (.inp hrb .no) (getmap (by omega)) rfl) ?_
                  refine d_q rfl rfl (.none rfl) rfl rfl (q_neq rfl rfl rfl) ?_
                  refine d_nil ?_
                  refine run_sub (subMk (.cons (s := 2) rfl (.cons (s := 4) rfl (.cons (s := 6) rfl (.cons (s := 7) rfl (.cons (s := 8) rfl (.cons (s := 9) rfl (.cons (s := 10) rfl (.cons (s := 12) rfl (.cons (s := 13) rfl (.cons (s := 14) rfl (.cons (s := 15) rfl (.cons (s := 17) rfl (.cons (s := 110) rfl .nil))))))))))))) .refl) ?_
                  refine run_cond rfl (fun g110 => ?_) (fun g110 => ?_)
                  · have g110' := g110
                    try simp only [decide_eq_true_eq, decide_eq_false_iff_not, beq_iff_eq, beq_eq_false_iff_ne, bne_iff_ne, bne_eq_false_iff_eq, Bool.not_eq_true', Bool.not_eq_false', ne_eq, Int.not_lt, Int.not_le, Decidable.not_not] at g110'
                    refine run_region ?_
                    refine run_q (.none rfl) rfl rfl (q_assign rfl rfl) ?_
                    refine run_nil ?_
                    refine run_seq ?_
                    refine run_region ?_
                    refine run_q (.none rfl) rfl rfl (q_move rfl rfl) ?_
                    refine run_q (.none rfl) rfl rfl (q_move rfl rfl) ?_
                    refine run_q (.none rfl) rfl rfl (q_move rfl rfl) ?_
                    refine run_q (.none rfl) rfl rfl (q_move rfl rfl) ?_
                    refine run_q (.none rfl) rfl rfl (q_build rfl (.cons rfl (.cons rfl (.cons rfl PV.nil))) (built40p0p1p2 _ _ _)) ?_
                    refine run_h (.none rfl) (h_buildSlice rfl rfl rfl Try.underlying28 info40 (.cons rfl rfl rfl rfl Parts.nil) rfl (by omega)) ?_
                    rintro b116 -
                    refine run_h (.none rfl) (h_append rfl rfl rfl Try.underlying28 info40 rfl rfl (.there Sel.here) rfl (.own Sel.here) rfl (all1 rfl) (all1 rfl) (by omega) (by omega)) ?_
                    rintro ⟨A117, c117⟩ -
                    refine run_q (.none rfl) rfl rfl (q_assign rfl rfl) ?_
                    refine run_nil ?_
                    refine run_sub (subMk (.cons (s := 2) rfl (.cons (s := 4) rfl (.cons (s := 6) rfl (.cons (s := 7) rfl (.cons (s := 8) rfl (.cons (s := 9) rfl (.cons (s := 10) rfl (.cons (s := 12) rfl (.cons (s := 13) rfl (.cons (s := 14) rfl (.cons (s := 15) rfl .nil))))))))))) .refl) ?_
                    refine run_region ?_
                    refine run_q (.none rfl) rfl rfl (q_move rfl rfl) ?_
                    refine run_q (.none rfl) rfl rfl (q_add rfl rfl rfl (by omega)) ?_
                    refine run_q (.none rfl) rfl rfl (q_move rfl rfl) ?_
                    refine run_q (.none rfl) rfl rfl (q_add rfl rfl rfl (by omega)) ?_
                    refine run_q (.none rfl) rfl rfl (q_assign rfl rfl) ?_
                    refine run_q (.none rfl) rfl rfl (q_assign rfl rfl) ?_
                    refine run_nil ?_
                    refine run_sub (subMk (.cons (s := 2) rfl (.cons (s := 4) rfl (.cons (s := 6) rfl (.cons (s := 7) rfl (.cons (s := 8) rfl (.cons (s := 9) rfl (.cons (s := 10) rfl (.cons (s := 12) rfl (.cons (s := 13) rfl (.cons (s := 14) rfl (.cons (s := 15) rfl .nil))))))))))) .refl) ?_
                    refine run_blk ?_
                    refine run_blk ?_
                    refine run_region ?_
                    refine run_q (.none rfl) rfl rfl (q_move rfl rfl) ?_
                    refine run_q (.none rfl) rfl rfl (q_add rfl rfl rfl (by omega)) ?_
                    refine run_q (.none rfl) rfl rfl (q_assign rfl rfl) ?_
                    refine run_nil ?_
                    exact run_again (i + 1, k + 1, m + 1, A117, c117, o ++ [⟨2, i, k⟩]) (by (try dsimp only); exact ⟨by omega, by omega, fun r => by rw [List.append_assoc, hv]; exact errC_J (by omega) (by omega) (by rw [kindV, if_neg g110']), by simp; omega, by omega⟩) (by (try dsimp only); omega) (subMk (.cons' (s := 13) rfl rfl (.cons' (s := 14) rfl rfl (.cons' (s := 15) rfl rfl (.cons' (s := 12) rfl (by simp) (.cons (s := 2) rfl (.cons (s := 4) rfl (.cons (s := 6) rfl (.cons (s := 7) rfl (.cons (s := 8) rfl (.cons (s := 9) rfl (.cons (s := 10) rfl .nil))))))))))) (.cons Sel.here (.own rfl (by simp) rfl (by simp [Pair.enc, vlist])) (.cons (.there Sel.here) .refl (.cons (.there Sel.here) .refl (.cons (.there Sel.here) .refl .nil)))))
                  · have g110' := g110
                    try simp only [decide_eq_true_eq, decide_eq_false_iff_not, beq_iff_eq, beq_eq_false_iff_ne, bne_iff_ne, bne_eq_false_iff_eq, Bool.not_eq_true', Bool.not_eq_false', ne_eq, Int.not_lt, Int.not_le, Decidable.not_not] at g110'
                    refine run_skip ?_
                    refine run_seq ?_
                    refine run_region ?_
                    refine run_q (.none rfl) rfl rfl (q_move rfl rfl) ?_
                    refine run_q (.none rfl) rfl rfl (q_move rfl rfl) ?_
                    refine run_q (.none rfl) rfl rfl (q_move rfl rfl) ?_
                    refine run_q (.none rfl) rfl rfl (q_move rfl rfl) ?_
                    refine run_q (.none rfl) rfl rfl (q_build rfl (.cons rfl (.cons rfl (.cons rfl PV.nil))) (built40p0p1p2 _ _ _)) ?_
                    refine run_h (.none rfl) (h_buildSlice rfl rfl rfl Try.underlying28 info40 (.cons rfl rfl rfl rfl Parts.nil) rfl (by omega)) ?_
                    rintro b116 -
                    refine run_h (.none rfl) (h_append rfl rfl rfl Try.underlying28 info40 rfl rfl (.there Sel.here) rfl (.own Sel.here) rfl (all1 rfl) (all1 rfl) (by omega) (by omega)) ?_
                    rintro ⟨A117, c117⟩ -
                    refine run_q (.none rfl) rfl rfl (q_assign rfl rfl) ?_
                    refine run_nil ?_
                    refine run_sub (subMk (.cons (s := 2) rfl (.cons (s := 4) rfl (.cons (s := 6) rfl (.cons (s := 7) rfl (.cons (s := 8) rfl (.cons (s := 9) rfl (.cons (s := 10) rfl (.cons (s := 12) rfl (.cons (s := 13) rfl (.cons (s := 14) rfl (.cons (s := 15) rfl .nil))))))))))) .refl) ?_
                    refine run_region ?_
                    refine run_q (.none rfl) rfl rfl (q_move rfl rfl) ?_
                    refine run_q (.none rfl) rfl rfl (q_add rfl rfl rfl (by omega)) ?_
                    refine run_q (.none rfl) rfl rfl (q_move rfl rfl) ?_
                    refine run_q (.none rfl) rfl rfl (q_add rfl rfl rfl (by omega)) ?_
                    refine run_q (.none rfl) rfl rfl (q_assign rfl rfl) ?_
                    refine run_q (.none rfl) rfl rfl (q_assign rfl rfl) ?_
                    refine run_nil ?_
                    refine run_sub (subMk (.cons (s := 2) rfl (.cons (s := 4) rfl (.cons (s := 6) rfl (.cons (s := 7) rfl (.cons (s := 8) rfl (.cons (s := 9) rfl (.cons (s := 10) rfl (.cons (s := 12) rfl (.cons (s := 13) rfl (.cons (s := 14) rfl (.cons (s := 15) rfl .nil))))))))))) .refl) ?_
                    refine run_blk ?_
                    refine run_blk ?_
                    refine run_region ?_
                    refine run_q (.none rfl) rfl rfl (q_move rfl rfl) ?_
                    refine run_q (.none rfl) rfl rfl (q_add rfl rfl rfl (by omega)) ?_
                    refine run_q (.none rfl) rfl rfl (q_assign rfl rfl) ?_
                    refine run_nil ?_
                    exact run_again (i + 1, k + 1, m + 1, A117, c117, o ++ [⟨1, i, k⟩]) (by (try dsimp only); exact ⟨by omega, by omega, fun r => by rw [List.append_assoc, hv]; exact errC_J (by omega) (by omega) (by rw [kindV, if_pos g110']), by simp; omega, by omega⟩) (by (try dsimp only); omega) (subMk (.cons' (s := 13) rfl rfl (.cons' (s := 14) rfl rfl (.cons' (s := 15) rfl rfl (.cons' (s := 12) rfl (by simp) (.cons (s := 2) rfl (.cons (s := 4) rfl (.cons (s := 6) rfl (.cons (s := 7) rfl (.cons (s := 8) rfl (.cons (s := 9) rfl (.cons (s := 10) rfl .nil))))))))))) (.cons Sel.here (.own rfl (by simp) rfl (by simp [Pair.enc, vlist])) (.cons (.there Sel.here) .refl (.cons (.there Sel.here) .refl (.cons (.there Sel.here) .refl .nil)))))
                · have g85' := g85
                  try simp only [decide_eq_true_eq, decide_eq_false_iff_not, beq_iff_eq, beq_eq_false_iff_ne, bne_iff_ne, bne_eq_false_iff_eq, Bool.not_eq_true', Bool.not_eq_false', ne_eq, Int.not_lt, Int.not_le, Decidable.not_not] at g85'
                  refine run_seq ?_
                  refine run_region ?_
                  refine run_q (.none rfl) rfl rfl (q_move rfl rfl) ?_
                  refine run_q (.none rfl) rfl rfl (q_eql rfl rfl rfl) ?_
                  refine run_q (.none rfl) rfl rfl (q_move rfl rfl) ?_
                  refine run_split 125 rfl (fun g125 => ?_) (fun g125 => ?_)
                  · have g125' := g125
                    try simp only [decide_eq_true_eq, decide_eq_false_iff_not, beq_iff_eq, beq_eq_false_iff_ne, bne_iff_ne, bne_eq_false_iff_eq, Bool.not_eq_true', Bool.not_eq_false', ne_eq, Int.not_lt, Int.not_le, Decidable.not_not] at g125'
                    refine run_off (.no rfl rfl rfl g125) rfl rfl ?_
                    refine run_off (.no rfl rfl rfl g125) rfl rfl ?_
                    refine run_off (.no rfl rfl rfl g125) rfl rfl ?_
                    refine run_off (.no rfl rfl rfl g125) rfl rfl ?_
                    refine run_q (.none rfl) rfl rfl (q_pickT rfl rfl g125 rfl) ?_
                    refine run_q (.none rfl) rfl rfl (q_move rfl rfl) ?_
                    refine run_q (.on rfl rfl rfl rfl) rfl rfl (q_move rfl rfl) ?_
                    refine run_q (.on rfl rfl rfl rfl) rfl rfl (q_move rfl rfl) ?_
                    refine run_q (.on rfl rfl rfl rfl) rfl rfl (q_len rfl Try.underlying22 rfl) ?_
                    refine run_q (.on rfl rfl rfl rfl) rfl rfl (q_lss rfl rfl rfl) ?_
                    refine run_q (.none rfl) rfl rfl (q_pickT rfl rfl rfl rfl) ?_
                    refine run_q (.none rfl) rfl rfl (q_assign rfl rfl) ?_
                    refine run_nil ?_
                    refine run_sub (subMk (.cons (s := 2) rfl (.cons (s := 4) rfl (.cons (s := 6) rfl (.cons (s := 7) rfl (.cons (s := 8) rfl (.cons (s := 9) rfl (.cons (s := 10) rfl (.cons (s := 12) rfl (.cons (s := 13) rfl (.cons (s := 14) rfl (.cons (s := 15) rfl (.cons (s := 122) rfl .nil)))))))))))) .refl) ?_
                    refine run_cond rfl (fun g122 => ?_) (fun g122 => ?_)
                    · have g122' := g122
                      try simp only [decide_eq_true_eq, decide_eq_false_iff_not, beq_iff_eq, beq_eq_false_iff_ne, bne_iff_ne, bne_eq_false_iff_eq, Bool.not_eq_true', Bool.not_eq_false', ne_eq, Int.not_lt, Int.not_le, Decidable.not_not] at g122'
                      refine run_seq ?_
                      refine run_region ?_
                      refine run_q (.none rfl) rfl rfl (q_move rfl rfl) ?_
                      refine run_q (.none rfl) rfl rfl (q_move rfl rfl) ?_
                      refine run_q (.none rfl) rfl rfl (q_build rfl (.cons rfl (.cons rfl (.cons rfl PV.nil))) (built40p0p1p2 _ _ _)) ?_
                      refine run_h (.none rfl) (h_buildSlice rfl rfl rfl Try.underlying28 info40 (.cons rfl rfl rfl rfl Parts.nil) rfl (by omega)) ?_
                      rintro b140 -
                      refine run_h (.none rfl) (h_append rfl rfl rfl Try.underlying28 info40 rfl rfl (.there Sel.here) rfl (.own Sel.here) rfl (all1 rfl) (all1 rfl) (by omega) (by omega)) ?_
                      rintro ⟨A141, c141⟩ -
                      refine run_q (.none rfl) rfl rfl (q_assign rfl rfl) ?_
                      refine run_nil ?_
                      refine run_sub (subMk (.cons (s := 2) rfl (.cons (s := 4) rfl (.cons (s := 6) rfl (.cons (s := 7) rfl (.cons (s := 8) rfl (.cons (s := 9) rfl (.cons (s := 10) rfl (.cons (s := 12) rfl (.cons (s := 13) rfl (.cons (s := 14) rfl (.cons (s := 15) rfl .nil))))))))))) .refl) ?_
                      refine run_region ?_
                      refine run_q (.none rfl) rfl rfl (q_move rfl rfl) ?_
                      refine run_q (.none rfl) rfl rfl (q_add rfl rfl rfl (by omega)) ?_
                      refine run_q (.none rfl) rfl rfl (q_assign rfl rfl) ?_
                      refine run_nil ?_
                      refine run_blk ?_
                      refine run_blk ?_
                      refine run_region ?_
                      refine run_q (.none rfl) rfl rfl (q_move rfl rfl) ?_
                      refine run_q (.none rfl) rfl rfl (q_add rfl rfl rfl (by omega)) ?_
                      refine run_q (.none rfl) rfl rfl (q_assign rfl rfl) ?_
                      refine run_nil ?_
                      refine run_sub (subMk (.cons (s := 2) rfl (.cons (s := 4) rfl (.cons (s := 6) rfl (.cons (s := 7) rfl (.cons (s := 8) rfl (.cons (s := 9) rfl (.cons (s := 10) rfl (.cons (s := 12) rfl (.cons (s := 13) rfl (.cons (s := 14) rfl (.cons (s := 15) rfl .nil))))))))))) .refl) ?_
                      exact run_again (i + 1, k, m + 1, A141, c141, o ++ [⟨3, i, -1⟩]) (by (try dsimp only); exact ⟨by omega, by omega, fun r => by rw [List.append_assoc, hv]; exact errC_3 (by omega), by simp; omega, by omega⟩) (by (try dsimp only); omega) (subMk (.cons' (s := 13) rfl rfl (.cons' (s := 14) rfl rfl (.cons' (s := 15) rfl rfl (.cons' (s := 12) rfl (by simp) (.cons (s := 2) rfl (.cons (s := 4) rfl (.cons (s := 6) rfl (.cons (s := 7) rfl (.cons (s := 8) rfl (.cons (s := 9) rfl (.cons (s := 10) rfl .nil))))))))))) (.cons Sel.here (.own rfl (by simp) rfl (by simp [Pair.enc, vlist])) (.cons (.there Sel.here) .refl (.cons (.there Sel.here) .refl (.cons (.there Sel.here) .refl .nil)))))
                    · have g122' := g122
                      try simp only [decide_eq_true_eq, decide_eq_false_iff_not, beq_iff_eq, beq_eq_false_iff_ne, bne_iff_ne, bne_eq_false_iff_eq, Bool.not_eq_true', Bool.not_eq_false', ne_eq, Int.not_lt, Int.not_le, Decidable.not_not] at g122'
                      refine run_seq ?_
                      refine run_region ?_
                      refine run_q (.none rfl) rfl rfl (q_move rfl rfl) ?_
                      refine run_q (.none rfl) rfl rfl (q_move rfl rfl) ?_
                      refine run_q (.none rfl) rfl rfl (q_len rfl Try.underlying22 rfl) ?_
                      refine run_q (.none rfl) rfl rfl (q_lss rfl rfl rfl) ?_
                      refine run_q (.none rfl) rfl rfl (q_assign rfl rfl) ?_
                      refine run_nil ?_
                      refine run_sub (subMk (.cons (s := 2) rfl (.cons (s := 4) rfl (.cons (s := 6) rfl (.cons (s := 7) rfl (.cons (s := 8) rfl (.cons (s := 9) rfl (.cons (s := 10) rfl (.cons (s := 12) rfl (.cons (s := 13) rfl (.cons (s := 14) rfl (.cons (s := 15) rfl (.cons (s := 144) rfl .nil)))))))))))) .refl) ?_
                      refine run_condT rfl (decide_eq_true (by omega)) ?_
                      refine run_seq ?_
                      refine run_region ?_
                      refine run_q (.none rfl) rfl rfl (q_move rfl rfl) ?_
                      refine run_q (.none rfl) rfl rfl (q_move rfl rfl) ?_
                      refine run_q (.none rfl) rfl rfl (q_build rfl (.cons rfl (.cons rfl (.cons rfl PV.nil))) (built40p0p1p2 _ _ _)) ?_
                      refine run_h (.none rfl) (h_buildSlice rfl rfl rfl Try.underlying28 info40 (.cons rfl rfl rfl rfl Parts.nil) rfl (by omega)) ?_
                      rintro b152 -
                      refine run_h (.none rfl) (h_append rfl rfl rfl Try.underlying28 info40 rfl rfl (.there Sel.here) rfl (.own Sel.here) rfl (all1 rfl) (all1 rfl) (by omega) (by omega)) ?_
                      rintro ⟨A153, c153⟩ -
                      refine run_q (.none rfl) rfl rfl (q_assign rfl rfl) ?_
                      refine run_nil ?_
                      refine run_sub (subMk (.cons (s := 2) rfl (.cons (s := 4) rfl (.cons (s := 6) rfl (.cons (s := 7) rfl (.cons (s := 8) rfl (.cons (s := 9) rfl (.cons (s := 10) rfl (.cons (s := 12) rfl (.cons (s := 13) rfl (.cons (s := 14) rfl (.cons (s := 15) rfl .nil))))))))))) .refl) ?_
                      refine run_region ?_
                      refine run_q (.none rfl) rfl rfl (q_move rfl rfl) ?_
                      refine run_q (.none rfl) rfl rfl (q_add rfl rfl rfl (by omega)) ?_
                      refine run_q (.none rfl) rfl rfl (q_assign rfl rfl) ?_
                      refine run_nil ?_
                      refine run_blk ?_
                      refine run_blk ?_
                      refine run_region ?_
                      refine run_q (.none rfl) rfl rfl (q_move rfl rfl) ?_
                      refine run_q (.none rfl) rfl rfl (q_add rfl rfl rfl (by omega)) ?_
                      refine run_q (.none rfl) rfl rfl (q_assign rfl rfl) ?_
                      refine run_nil ?_
                      refine run_sub (subMk (.cons (s := 2) rfl (.cons (s := 4) rfl (.cons (s := 6) rfl (.cons (s := 7) rfl (.cons (s := 8) rfl (.cons (s := 9) rfl (.cons (s := 10) rfl (.cons (s := 12) rfl (.cons (s := 13) rfl (.cons (s := 14) rfl (.cons (s := 15) rfl .nil))))))))))) .refl) ?_
                      exact run_again (i, k + 1, m + 1, A153, c153, o ++ [⟨4, -1, k⟩]) (by (try dsimp only); exact ⟨by omega, by omega, fun r => by rw [List.append_assoc, hv]; exact errC_4 (by omega), by simp; omega, by omega⟩) (by (try dsimp only); omega) (subMk (.cons' (s := 13) rfl rfl (.cons' (s := 14) rfl rfl (.cons' (s := 15) rfl rfl (.cons' (s := 12) rfl (by simp) (.cons (s := 2) rfl (.cons (s := 4) rfl (.cons (s := 6) rfl (.cons (s := 7) rfl (.cons (s := 8) rfl (.cons (s := 9) rfl (.cons (s := 10) rfl .nil))))))))))) (.cons Sel.here (.own rfl (by simp) rfl (by simp [Pair.enc, vlist])) (.cons (.there Sel.here) .refl (.cons (.there Sel.here) .refl (.cons (.there Sel.here) .refl .nil)))))
                  · have g125' := g125
                    try simp only [decide_eq_true_eq, decide_eq_false_iff_not, beq_iff_eq, beq_eq_false_iff_ne, bne_iff_ne, bne_eq_false_iff_eq, Bool.not_eq_true', Bool.not_eq_false', ne_eq, Int.not_lt, Int.not_le, Decidable.not_not] at g125'
                    refine run_q (.on rfl rfl rfl g125) rfl rfl (q_move rfl rfl) ?_
                    refine run_q (.on rfl rfl rfl g125) rfl rfl (q_move rfl rfl) ?_
                    refine run_q (.on rfl rfl rfl g125) rfl rfl (q_len rfl Try.underlying22 rfl) ?_
                    refine run_q (.on rfl rfl rfl g125) rfl rfl (q_eql rfl rfl rfl) ?_
                    refine run_q (.none rfl) rfl rfl (q_pickF rfl rfl g125 rfl) ?_
                    refine run_q (.none rfl) rfl rfl (q_move rfl rfl) ?_
                    refine run_split 131 rfl (fun g131 => ?_) (fun g131 => ?_)
                    · have g131' := g131
                      try simp only [decide_eq_true_eq, decide_eq_false_iff_not, beq_iff_eq, beq_eq_false_iff_ne, bne_iff_ne, bne_eq_false_iff_eq, Bool.not_eq_true', Bool.not_eq_false', ne_eq, Int.not_lt, Int.not_le, Decidable.not_not] at g131'
                      refine run_q (.on rfl rfl rfl g131) rfl rfl (q_move rfl rfl) ?_
                      refine run_q (.on rfl rfl rfl g131) rfl rfl (q_move rfl rfl) ?_
                      refine run_q (.on rfl rfl rfl g131) rfl rfl (q_len rfl Try.underlying22 rfl) ?_
                      refine run_q (.on rfl rfl rfl g131) rfl rfl (q_lss rfl rfl rfl) ?_
                      refine run_q (.none rfl) rfl rfl (q_pickT rfl rfl g131 rfl) ?_
                      refine run_q (.none rfl) rfl rfl (q_assign rfl rfl) ?_
                      refine run_nil ?_
                      refine run_sub (subMk (.cons (s := 2) rfl (.cons (s := 4) rfl (.cons (s := 6) rfl (.cons (s := 7) rfl (.cons (s := 8) rfl (.cons (s := 9) rfl (.cons (s := 10) rfl (.cons (s := 12) rfl (.cons (s := 13) rfl (.cons (s := 14) rfl (.cons (s := 15) rfl (.cons (s := 122) rfl .nil)))))))))))) .refl) ?_
                      refine run_cond rfl (fun g122 => ?_) (fun g122 => ?_)
                      · have g122' := g122
                        try simp only [decide_eq_true_eq, decide_eq_false_iff_not, beq_iff_eq, beq_eq_false_iff_ne, bne_iff_ne, bne_eq_false_iff_eq, Bool.not_eq_true', Bool.not_eq_false', ne_eq, Int.not_lt, Int.not_le, Decidable.not_not] at g122'
                        refine run_seq ?_
                        refine run_region ?_
                        refine run_q (.none rfl) rfl rfl (q_move rfl rfl) ?_
                        refine run_q (.none rfl) rfl rfl (q_move rfl rfl) ?_
                        refine run_q (.none rfl) rfl rfl (q_build rfl (.cons rfl (.cons rfl (.cons rfl PV.nil))) (built40p0p1p2 _ _ _)) ?_
                        refine run_h (.none rfl) (h_buildSlice rfl rfl rfl Try.underlying28 info40 (.cons rfl rfl rfl rfl Parts.nil) rfl (by omega)) ?_
                        rintro b140 -
                        refine run_h (.none rfl) (h_append rfl rfl rfl Try.underlying28 info40 rfl rfl (.there Sel.here) rfl (.own Sel.here) rfl (all1 rfl) (all1 rfl) (by omega) (by omega)) ?_
                        rintro ⟨A141, c141⟩ -
                        refine run_q (.none rfl) rfl rfl (q_assign rfl rfl) ?_
                        refine run_nil ?_
                        refine run_sub (subMk (.cons (s := 2) rfl (.cons (s := 4) rfl (.cons (s := 6) rfl (.cons (s := 7) rfl (.cons (s := 8) rfl (.cons (s := 9) rfl (.cons (s := 10) rfl (.cons (s := 12) rfl (.cons (s := 13) rfl (.cons (s := 14) rfl (.cons (s := 15) rfl .nil))))))))))) .refl) ?_
                        refine run_region ?_
                        refine run_q (.none rfl) rfl rfl (q_move rfl rfl) ?_
                        refine run_q (.none rfl) rfl rfl (q_add rfl rfl rfl (by omega)) ?_
                        refine run_q (.none rfl) rfl rfl (q_assign rfl rfl) ?_
                        refine run_nil ?_
                        refine run_blk ?_
                        refine run_blk ?_
                        refine run_region ?_
                        refine run_q (.none rfl) rfl rfl (q_move rfl rfl) ?_
                        refine run_q (.none rfl) rfl rfl (q_add rfl rfl rfl (by omega)) ?_
                        refine run_q (.none rfl) rfl rfl (q_assign rfl rfl) ?_
                        refine run_nil ?_
                        refine run_sub (subMk (.cons (s := 2) rfl (.cons (s := 4) rfl (.cons (s := 6) rfl (.cons (s := 7) rfl (.cons (s := 8) rfl (.cons (s := 9) rfl (.cons (s := 10) rfl (.cons (s := 12) rfl (.cons (s := 13) rfl (.cons (s := 14) rfl (.cons (s := 15) rfl .nil))))))))))) .refl) ?_
                        exact run_again (i + 1, k, m + 1, A141, c141, o ++ [⟨3, i, -1⟩]) (by (try dsimp only); exact ⟨by omega, by omega, fun r => by rw [List.append_assoc, hv]; exact errC_3 (by omega), by simp; omega, by omega⟩) (by (try dsimp only); omega) (subMk (.cons' (s := 13) rfl rfl (.cons' (s := 14) rfl rfl (.cons' (s := 15) rfl rfl (.cons' (s := 12) rfl (by simp) (.cons (s := 2) rfl (.cons (s := 4) rfl (.cons (s := 6) rfl (.cons (s := 7) rfl (.cons (s := 8) rfl (.cons (s := 9) rfl (.cons (s := 10) rfl .nil))))))))))) (.cons Sel.here (.own rfl (by simp) rfl (by simp [Pair.enc, vlist])) (.cons (.there Sel.here) .refl (.cons (.there Sel.here) .refl (.cons (.there Sel.here) .refl .nil)))))
                      · have g122' := g122
                        try simp only [decide_eq_true_eq, decide_eq_false_iff_not, beq_iff_eq, beq_eq_false_iff_ne, bne_iff_ne, bne_eq_false_iff_eq, Bool.not_eq_true', Bool.not_eq_false', ne_eq, Int.not_lt, Int.not_le, Decidable.not_not] at g122'
                        refine run_seq ?_
                        refine run_region ?_
                        refine run_q (.none rfl) rfl rfl (q_move rfl rfl) ?_
                        refine run_q (.none rfl) rfl rfl (q_move rfl rfl) ?_
                        refine run_q (.none rfl) rfl rfl (q_len rfl Try.underlying22 rfl) ?_
                        refine run_q (.none rfl) rfl rfl (q_lss rfl rfl rfl) ?_
                        refine run_q (.none rfl) rfl rfl (q_assign rfl rfl) ?_
                        refine run_nil ?_
                        refine run_sub (subMk (.cons (s := 2) rfl (.cons (s := 4) rfl (.cons (s := 6) rfl (.cons (s := 7) rfl (.cons (s := 8) rfl (.cons (s := 9) rfl (.cons (s := 10) rfl (.cons (s := 12) rfl (.cons (s := 13) rfl (.cons (s := 14) rfl (.cons (s := 15) rfl (.cons (s := 144) rfl .nil)))))))))))) .refl) ?_
                        refine run_condT rfl (decide_eq_true (by omega)) ?_
                        refine run_seq ?_
                        refine run_region ?_
                        refine run_q (.none rfl) rfl rfl (q_move rfl rfl) ?_
                        refine run_q (.none rfl) rfl rfl (q_move rfl rfl) ?_
                        refine run_q (.none rfl) rfl rfl (q_build rfl (.cons rfl (.cons rfl (.cons rfl PV.nil))) (built40p0p1p2 _ _ _)) ?_
                        refine run_h (.none rfl) (h_buildSlice rfl rfl rfl Try.underlying28 info40 (.cons rfl rfl rfl rfl Parts.nil) rfl (by omega)) ?_
                        rintro b152 -
                        refine run_h (.none rfl) (h_append rfl rfl rfl Try.underlying28 info40 rfl rfl (.there Sel.here) rfl (.own Sel.here) rfl (all1 rfl) (all1 rfl) (by omega) (by omega)) ?_
                        rintro ⟨A153, c153⟩ -
                        refine run_q (.none rfl) rfl rfl (q_assign rfl rfl) ?_
                        refine run_nil ?_
                        refine run_sub (subMk (.cons (s := 2) rfl (.cons (s := 4) rfl (.cons (s := 6) rfl (.cons (s := 7) rfl (.cons (s := 8) rfl (.cons (s := 9) rfl (.cons (s := 10) rfl (.cons (s := 12) rfl (.cons (s := 13) rfl (.cons (s := 14) rfl (.cons (s := 15) rfl .nil))))))))))) .refl) ?_
                        refine run_region ?_
                        refine run_q (.none rfl) rfl rfl (q_move rfl rfl) ?_
                        refine run_q (.none rfl) rfl rfl (q_add rfl rfl rfl (by omega)) ?_
                        refine run_q (.none rfl) rfl rfl (q_assign rfl rfl) ?_
                        refine run_nil ?_
                        refine run_blk ?_
                        refine run_blk ?_
                        refine run_region ?_
                        refine run_q (.none rfl) rfl rfl (q_move rfl rfl) ?_
                        refine run_q (.none rfl) rfl rfl (q_add rfl rfl rfl (by omega)) ?_
                        refine run_q (.none rfl) rfl rfl (q_assign rfl rfl) ?_
                        refine run_nil ?_
                        refine run_sub (subMk (.cons (s := 2) rfl (.cons (s := 4) rfl (.cons (s := 6) rfl (.cons (s := 7) rfl (.cons (s := 8) rfl (.cons (s := 9) rfl (.cons (s := 10) rfl (.cons (s := 12) rfl (.cons (s := 13) rfl (.cons (s := 14) rfl (.cons (s := 15) rfl .nil))))))))))) .refl) ?_
                        exact run_again (i, k + 1, m + 1, A153, c153, o ++ [⟨4, -1, k⟩]) (by (try dsimp only); exact ⟨by omega, by omega, fun r => by rw [List.append_assoc, hv]; exact errC_4 (by omega), by simp; omega, by omega⟩) (by (try dsimp only); omega) (subMk (.cons' (s := 13) rfl rfl (.cons' (s := 14) rfl rfl (.cons' (s := 15) rfl rfl (.cons' (s := 12) rfl (by simp) (.cons (s := 2) rfl (.cons (s := 4) rfl (.cons (s := 6) rfl (.cons (s := 7) rfl (.cons (s := 8) rfl (.cons (s := 9) rfl (.cons (s := 10) rfl .nil))))))))))) (.cons Sel.here (.own rfl (by simp) rfl (by simp [Pair.enc, vlist])) (.cons (.there Sel.here) .refl (.cons (.there Sel.here) .refl (.cons (.there Sel.here) .refl .nil)))))
                    · have g131' := g131
                      try simp only [decide_eq_true_eq, decide_eq_false_iff_not, beq_iff_eq, beq_eq_false_iff_ne, bne_iff_ne, bne_eq_false_iff_eq, Bool.not_eq_true', Bool.not_eq_false', ne_eq, Int.not_lt, Int.not_le, Decidable.not_not] at g131'
                      refine run_off (.no rfl rfl rfl g131) rfl rfl ?_
                      refine run_off (.no rfl rfl rfl g131) rfl rfl ?_
                      refine run_off (.no rfl rfl rfl g131) rfl rfl ?_
                      refine run_off (.no rfl rfl rfl g131) rfl rfl ?_
                      refine run_q (.none rfl) rfl rfl (q_pickF rfl rfl g131 rfl) ?_
                      refine run_q (.none rfl) rfl rfl (q_assign rfl rfl) ?_
                      refine run_nil ?_
                      refine run_sub (subMk (.cons (s := 2) rfl (.cons (s := 4) rfl (.cons (s := 6) rfl (.cons (s := 7) rfl (.cons (s := 8) rfl (.cons (s := 9) rfl (.cons (s := 10) rfl (.cons (s := 12) rfl (.cons (s := 13) rfl (.cons (s := 14) rfl (.cons (s := 15) rfl (.cons (s := 122) rfl .nil)))))))))))) .refl) ?_
                      refine run_condF rfl rfl ?_
                      refine run_seq ?_
                      refine run_region ?_
                      refine run_q (.none rfl) rfl rfl (q_move rfl rfl) ?_
                      refine run_q (.none rfl) rfl rfl (q_move rfl rfl) ?_
                      refine run_q (.none rfl) rfl rfl (q_len rfl Try.underlying22 rfl) ?_
                      refine run_q (.none rfl) rfl rfl (q_lss rfl rfl rfl) ?_
                      refine run_q (.none rfl) rfl rfl (q_assign rfl rfl) ?_
                      refine run_nil ?_
                      refine run_sub (subMk (.cons (s := 2) rfl (.cons (s := 4) rfl (.cons (s := 6) rfl (.cons (s := 7) rfl (.cons (s := 8) rfl (.cons (s := 9) rfl (.cons (s := 10) rfl (.cons (s := 12) rfl (.cons (s := 13) rfl (.cons (s := 14) rfl (.cons (s := 15) rfl (.cons (s := 144) rfl .nil)))))))))))) .refl) ?_
                      refine run_condT rfl (decide_eq_true (by omega)) ?_
                      refine run_seq ?_
                      refine run_region ?_
                      refine run_q (.none rfl) rfl rfl (q_move rfl rfl) ?_
                      refine run_q (.none rfl) rfl rfl (q_move rfl rfl) ?_
                      refine run_q (.none rfl) rfl rfl (q_build rfl (.cons rfl (.cons rfl (.cons rfl PV.nil))) (built40p0p1p2 _ _ _)) ?_
                      refine run_h (.none rfl) (h_buildSlice rfl rfl rfl Try.underlying28 info40 (.cons rfl rfl rfl rfl Parts.nil) rfl (by omega)) ?_
                      rintro b152 -
                      refine run_h (.none rfl) (h_append rfl rfl rfl Try.underlying28 info40 rfl rfl (.there Sel.here) rfl (.own Sel.here) rfl (all1 rfl) (all1 rfl) (by omega) (by omega)) ?_
                      rintro ⟨A153, c153⟩ -
                      refine run_q (.none rfl) rfl rfl (q_assign rfl rfl) ?_
                      refine run_nil ?_
                      refine run_sub (subMk (.cons (s := 2) rfl (.cons (s := 4) rfl (.cons (s := 6) rfl (.cons (s := 7) rfl (.cons (s := 8) rfl (.cons (s := 9) rfl (.cons (s := 10) rfl (.cons (s := 12) rfl (.cons (s := 13) rfl (.cons (s := 14) rfl (.cons (s := 15) rfl .nil))))))))))) .refl) ?_
                      refine run_region ?_
                      refine run_q (.none rfl) rfl rfl (q_move rfl rfl) ?_
                      refine run_q (.none rfl) rfl rfl (q_add rfl rfl rfl (by omega)) ?_
                      refine run_q (.none rfl) rfl rfl (q_assign rfl rfl) ?_
                      refine run_nil ?_
                      refine run_blk ?_
                      refine run_blk ?_
                      refine run_region ?_
                      refine run_q (.none rfl) rfl rfl (q_move rfl rfl) ?_
                      refine run_q (.none rfl) rfl rfl (q_add rfl rfl rfl (by omega)) ?_
                      refine run_q (.none rfl) rfl rfl (q_assign rfl rfl) ?_
                      refine run_nil ?_
                      refine run_sub (subMk (.cons (s := 2) rfl (.cons (s := 4) rfl (.cons (s := 6) rfl (.cons (s := 7) rfl (.cons (s := 8) rfl (.cons (s := 9) rfl (.cons (s := 10) rfl (.cons (s := 12) rfl (.cons (s := 13) rfl (.cons (s := 14) rfl (.cons (s := 15) rfl .nil))))))))))) .refl) ?_
                      exact run_again (i, k + 1, m + 1, A153, c153, o ++ [⟨4, -1, k⟩]) (by (try dsimp only); exact ⟨by omega, by omega, fun r => by rw [List.append_assoc, hv]; exact errC_4 (by omega), by simp; omega, by omega⟩) (by (try dsimp only); omega) (subMk (.cons' (s := 13) rfl rfl (.cons' (s := 14) rfl rfl (.cons' (s := 15) rfl rfl (.cons' (s := 12) rfl (by simp) (.cons (s := 2) rfl (.cons (s := 4) rfl (.cons (s := 6) rfl (.cons (s := 7) rfl (.cons (s := 8) rfl (.cons (s := 9) rfl (.cons (s := 10) rfl .nil))))))))))) (.cons Sel.here (.own rfl (by simp) rfl (by simp [Pair.enc, vlist])) (.cons (.there Sel.here) .refl (.cons (.there Sel.here) .refl (.cons (.there Sel.here) .refl .nil)))))
              · have g94' := g94
                try simp only [decide_eq_true_eq, decide_eq_false_iff_not, beq_iff_eq, beq_eq_false_iff_ne, bne_iff_ne, bne_eq_false_iff_eq, Bool.not_eq_true', Bool.not_eq_false', ne_eq, Int.not_lt, Int.not_le, Decidable.not_not] at g94'
                refine run_off (.no rfl rfl rfl g94) rfl rfl ?_
                refine run_off (.no rfl rfl rfl g94) rfl rfl ?_
                refine run_off (.no rfl rfl rfl g94) rfl rfl ?_
                refine run_off (.no rfl rfl rfl g94) rfl rfl ?_
                refine run_q (.none rfl) rfl rfl (q_pickF rfl rfl g94 rfl) ?_
                refine run_q (.none rfl) rfl rfl (q_assign rfl rfl) ?_
                refine run_nil ?_
                refine run_sub (subMk (.cons (s := 2) rfl (.cons (s := 4) rfl (.cons (s := 6) rfl (.cons (s := 7) rfl (.cons (s := 8) rfl (.cons (s := 9) rfl (.cons (s := 10) rfl (.cons (s := 12) rfl (.cons (s := 13) rfl (.cons (s := 14) rfl (.cons (s := 15) rfl (.cons (s := 16) rfl (.cons (s := 85) rfl .nil))))))))))))) .refl) ?_
                refine run_condF rfl rfl ?_
                refine run_seq ?_
                refine run_region ?_
                refine run_q (.none rfl) rfl rfl (q_move rfl rfl) ?_
                refine run_q (.none rfl) rfl rfl (q_eql rfl rfl rfl) ?_
                refine run_q (.none rfl) rfl rfl (q_move rfl rfl) ?_
                refine run_split 125 rfl (fun g125 => ?_) (fun g125 => ?_)
                · have g125' := g125
                  try simp only [decide_eq_true_eq, decide_eq_false_iff_not, beq_iff_eq, beq_eq_false_iff_ne, bne_iff_ne, bne_eq_false_iff_eq, Bool.not_eq_true', Bool.not_eq_false', ne_eq, Int.not_lt, Int.not_le, Decidable.not_not] at g125'
                  refine run_off (.no rfl rfl rfl g125) rfl rfl ?_
                  refine run_off (.no rfl rfl rfl g125) rfl rfl ?_
                  refine run_off (.no rfl rfl rfl g125) rfl rfl ?_
                  refine run_off (.no rfl rfl rfl g125) rfl rfl ?_
                  refine run_q (.none rfl) rfl rfl (q_pickT rfl rfl g125 rfl) ?_
                  refine run_q (.none rfl) rfl rfl (q_move rfl rfl) ?_
                  refine run_q (.on rfl rfl rfl rfl) rfl rfl (q_move rfl rfl) ?_
                  refine run_q (.on rfl rfl rfl rfl) rfl rfl (q_move rfl rfl) ?_
                  refine run_q (.on rfl rfl rfl rfl) rfl rfl (q_len rfl Try.underlying22 rfl) ?_
                  refine run_q (.on rfl rfl rfl rfl) rfl rfl (q_lss rfl rfl rfl) ?_
                  refine run_q (.none rfl) rfl rfl (q_pickT rfl rfl rfl rfl) ?_
                  refine run_q (.none rfl) rfl rfl (q_assign rfl rfl) ?_
                  refine run_nil ?_
                  refine run_sub (subMk (.cons (s := 2) rfl (.cons (s := 4) rfl (.cons (s := 6) rfl (.cons (s := 7) rfl (.cons (s := 8) rfl (.cons (s := 9) rfl (.cons (s := 10) rfl (.cons (s := 12) rfl (.cons (s := 13) rfl (.cons (s := 14) rfl (.cons (s := 15) rfl (.cons (s := 122) rfl .nil)))))))))))) .refl) ?_
                  refine run_cond rfl (fun g122 => ?_) (fun g122 => ?_)
                  · have g122' := g122
                    try simp only [decide_eq_true_eq, decide_eq_false_iff_not, beq_iff_eq, beq_eq_false_iff_ne, bne_iff_ne, bne_eq_false_iff_eq, Bool.not_eq_true', Bool.not_eq_false', ne_eq, Int.not_lt, Int.not_le, Decidable.not_not] at g122'
                    refine run_seq ?_
                    refine run_region ?_
                    refine run_q (.none rfl) rfl rfl (q_move rfl rfl) ?_
                    refine run_q (.none rfl) rfl rfl (q_move rfl rfl) ?_
                    refine run_q (.none rfl) rfl rfl (q_build rfl (.cons rfl (.cons rfl (.cons rfl PV.nil))) (built40p0p1p2 _ _ _)) ?_
                    refine run_h (.none rfl) (h_buildSlice rfl rfl rfl Try.underlying28 info40 (.cons rfl rfl rfl rfl Parts.nil) rfl (by omega)) ?_
                    rintro b140 -
                    refine run_h (.none rfl) (h_append rfl rfl rfl Try.underlying28 info40 rfl rfl (.there Sel.here) rfl (.own Sel.here) rfl (all1 rfl) (all1 rfl) (by omega) (by omega)) ?_
                    rintro ⟨A141, c141⟩ -
                    refine run_q (.none rfl) rfl rfl (q_assign rfl rfl) ?_
                    refine run_nil ?_
                    refine run_sub (subMk (.cons (s := 2) rfl (.cons (s := 4) rfl (.cons (s := 6) rfl (.cons (s := 7) rfl (.cons (s := 8) rfl (.cons (s := 9) rfl (.cons (s := 10) rfl (.cons (s := 12) rfl (.cons (s := 13) rfl (.cons (s := 14) rfl (.cons (s := 15) rfl .nil))))))))))) .refl) ?_
                    refine run_region ?_
                    refine run_q (.none rfl) rfl rfl (q_move rfl rfl) ?_
                    refine run_q (.none rfl) rfl rfl (q_add rfl rfl rfl (by omega)) ?_
                    refine run_q (.none rfl) rfl rfl (q_assign rfl rfl) ?_
                    refine run_nil ?_
                    refine run_blk ?_
                    refine run_blk ?_
                    refine run_region ?_
                    refine run_q (.none rfl) rfl rfl (q_move rfl rfl) ?_
                    refine run_q (.none rfl) rfl rfl (q_add rfl rfl rfl (by omega)) ?_
                    refine run_q (.none rfl) rfl rfl (q_assign rfl rfl) ?_
                    refine run_nil ?_
                    refine run_sub (subMk (.cons (s := 2) rfl (.cons (s := 4) rfl (.cons (s := 6) rfl (.cons (s := 7) rfl (.cons (s := 8) rfl (.cons (s := 9) rfl (.cons (s := 10) rfl (.cons (s := 12) rfl (.cons (s := 13) rfl (.cons (s := 14) rfl (.cons (s := 15) rfl .nil))))))))))) .refl) ?_
                    exact run_again (i + 1, k, m + 1, A141, c141, o ++ [⟨3, i, -1⟩]) (by (try dsimp only); exact ⟨by omega, by omega, fun r => by rw [List.append_assoc, hv]; exact errC_3 (by omega), by simp; omega, by omega⟩) (by (try dsimp only); omega) (subMk (.cons' (s := 13) rfl rfl (.cons' (s := 14) rfl rfl (.cons' (s := 15) rfl rfl (.cons' (s := 12) rfl (by simp) (.cons (s := 2) rfl (.cons (s := 4) rfl (.cons (s := 6) rfl (.cons (s := 7) rfl (.cons (s := 8) rfl (.cons (s := 9) rfl (.cons (s := 10) rfl .nil))))))))))) (.cons Sel.here (.own rfl (by simp) rfl (by simp [Pair.enc, vlist])) (.cons (.there Sel.here) .refl (.cons (.there Sel.here) .refl (.cons (.there Sel.here) .refl .nil)))))
                  · have g122' := g122
                    try simp only [decide_eq_true_eq, decide_eq_false_iff_not, beq_iff_eq, beq_eq_false_iff_ne, bne_iff_ne, bne_eq_false_iff_eq, Bool.not_eq_true', Bool.not_eq_false', ne_eq, Int.not_lt, Int.not_le, Decidable.not_not] at g122'
                    refine run_seq ?_
                    refine run_region ?_
                    refine run_q (.none rfl) rfl rfl (q_move rfl rfl) ?_
                    refine run_q (.none rfl) rfl rfl (q_move rfl rfl) ?_
                    refine run_q (.none rfl) rfl rfl (q_len rfl Try.underlying22 rfl) ?_
                    refine run_q (.none rfl) rfl rfl (q_lss rfl rfl rfl) ?_
                    refine run_q (.none rfl) rfl rfl (q_assign rfl rfl) ?_
                    refine run_nil ?_
                    refine run_sub (subMk (.cons (s := 2) rfl (.cons (s := 4) rfl (.cons (s := 6) rfl (.cons (s := 7) rfl (.cons (s := 8) rfl (.cons (s := 9) rfl (.cons (s := 10) rfl (.cons (s := 12) rfl (.cons (s := 13) rfl (.cons (s := 14) rfl (.cons (s := 15) rfl (.cons (s := 144) rfl .nil)))))))))))) .refl) ?_
                    refine run_condT rfl (decide_eq_true (by omega)) ?_
                    refine run_seq ?_
                    refine run_region ?_
                    refine run_q (.none rfl) rfl rfl (q_move rfl rfl) ?_
                    refine run_q (.none rfl) rfl rfl (q_move rfl rfl) ?_
                    refine run_q (.none rfl) rfl rfl (q_build rfl (.cons rfl (.cons rfl (.cons rfl PV.nil))) (built40p0p1p2 _ _ _)) ?_
                    refine run_h (.none rfl) (h_buildSlice rfl rfl rfl Try.underlying28 info40 (.cons rfl rfl rfl rfl Parts.nil) rfl (by omega)) ?_
                    rintro b152 -
                    refine run_h (.none rfl) (h_append rfl rfl rfl Try.underlying28 info40 rfl rfl (.there Sel.here) rfl (.own Sel.here) rfl (all1 rfl) (all1 rfl) (by omega) (by omega)) ?_
                    rintro ⟨A153, c153⟩ -
                    refine run_q (.none rfl) rfl rfl (q_assign rfl rfl) ?_
                    refine run_nil ?_
                    refine run_sub (subMk (.cons (s := 2) rfl (.cons (s := 4) rfl (.cons (s := 6) rfl (.cons (s := 7) rfl (.cons (s := 8) rfl (.cons (s := 9) rfl (.cons (s := 10) rfl (.cons (s := 12) rfl (.cons (s := 13) rfl (.cons (s := 14) rfl (.cons (s := 15) rfl .nil))))))))))) .refl) ?_
                    refine run_region ?_
                    refine run_q (.none rfl) rfl rfl (q_move rfl rfl) ?_
                    refine run_q (.none rfl) rfl rfl (q_add rfl rfl rfl (by omega)) ?_
                    refine run_q (.none rfl) rfl rfl (q_assign rfl rfl) ?_
                    refine run_nil ?_
                    refine run_blk ?_
                    refine run_blk ?_
                    refine run_region ?_
                    refine run_q (.none rfl) rfl rfl (q_move rfl rfl) ?_
                    refine run_q (.none rfl) rfl rfl (q_add rfl rfl rfl (by omega)) ?_
                    refine run_q (.none rfl) rfl rfl (q_assign rfl rfl) ?_
                    refine run_nil ?_
                    refine run_sub (subMk (.cons (s := 2) rfl (.cons (s := 4) rfl (.cons (s := 6) rfl (.cons (s := 7) rfl (.cons (s := 8) rfl (.cons (s := 9) rfl (.cons (s := 10) rfl (.cons (s := 12) rfl (.cons (s := 13) rfl (.cons (s := 14) rfl (.cons (s := 15) rfl .nil))))))))))) .refl) ?_
                    exact run_again (i, k + 1, m + 1, A153, c153, o ++ [⟨4, -1, k⟩]) (by (try dsimp only); exact ⟨by omega, by omega, fun r => by rw [List.append_assoc, hv]; exact errC_4 (by omega), by simp; omega, by omega⟩) (by (try dsimp only); omega) (subMk (.cons' (s := 13) rfl rfl (.cons' (s := 14) rfl rfl (.cons' (s := 15) rfl rfl (.cons' (s := 12) rfl (by simp) (.cons (s := 2) rfl (.cons (s := 4) rfl (.cons (s := 6) rfl (.cons (s := 7) rfl (.cons (s := 8) rfl (.cons (s := 9) rfl (.cons (s := 10) rfl .nil))))))))))) (.cons Sel.here (.own rfl (by simp) rfl (by simp [Pair.enc, vlist])) (.cons (.there Sel.here) .refl (.cons (.there Sel.here) .refl (.cons (.there Sel.here) .refl .nil)))))
                · have g125' := g125
                  try simp only [decide_eq_true_eq, decide_eq_false_iff_not, beq_iff_eq, beq_eq_false_iff_ne, bne_iff_ne, bne_eq_false_iff_eq, Bool.not_eq_true', Bool.not_eq_false', ne_eq, Int.not_lt, Int.not_le, Decidable.not_not] at g125'
                  refine run_q (.on rfl rfl rfl g125) rfl rfl (q_move rfl rfl) ?_
                  refine run_q (.on rfl rfl rfl g125) rfl rfl (q_move rfl rfl) ?_
                  refine run_q (.on rfl rfl rfl g125) rfl rfl (q_len rfl Try.underlying22 rfl) ?_
                  refine run_q (.on rfl rfl rfl g125) rfl rfl (q_eql rfl rfl rfl) ?_
                  refine run_q (.none rfl) rfl rfl (q_pickF rfl rfl g125 rfl) ?_
                  refine run_q (.none rfl) rfl rfl (q_move rfl rfl) ?_
                  refine run_split 131 rfl (fun g131 => ?_) (fun g131 => ?_)
                  · have g131' := g131
                    try simp only [decide_eq_true_eq, decide_eq_false_iff_not, beq_iff_eq, beq_eq_false_iff_ne, bne_iff_ne, bne_eq_false_iff_eq, Bool.not_eq_true', Bool.not_eq_false', ne_eq, Int.not_lt, Int.not_le, Decidable.not_not] at g131'
                    refine run_q (.on rfl rfl rfl g131) rfl rfl (q_move rfl rfl) ?_
                    refine run_q (.on rfl rfl rfl g131) rfl rfl (q_move rfl rfl) ?_
                    refine run_q (.on rfl rfl rfl g131) rfl rfl (q_len rfl Try.underlying22 rfl) ?_
                    refine run_q (.on rfl rfl rfl g131) rfl rfl (q_lss rfl rfl rfl) ?_
                    refine run_q (.none rfl) rfl rfl (q_pickT rfl rfl g131 rfl) ?_
                    refine run_q (.none rfl) rfl rfl (q_assign rfl rfl) ?_
                    refine run_nil ?_
                    refine run_sub (subMk (.cons (s := 2) rfl (.cons (s := 4) rfl (.cons (s := 6) rfl (.cons (s := 7) rfl (.cons (s := 8) rfl (.cons (s := 9) rfl (.cons (s := 10) rfl (.cons (s := 12) rfl (.cons (s := 13) rfl (.cons (s := 14) rfl (.cons (s := 15) rfl (.cons (s := 122) rfl .nil)))))))))))) .refl) ?_
                    refine run_cond rfl (fun g122 => ?_) (fun g122 => ?_)
                    · have g122' := g122
                      try simp only [decide_eq_true_eq, decide_eq_false_iff_not, beq_iff_eq, beq_eq_false_iff_ne, bne_iff_ne, bne_eq_false_iff_eq, Bool.not_eq_true', Bool.not_eq_false', ne_eq, Int.not_lt, Int.not_le, Decidable.not_not] at g122'
                      refine run_seq ?_
                      refine run_region ?_
                      refine run_q (.none rfl) rfl rfl (q_move rfl rfl) ?_
                      refine run_q (.none rfl) rfl rfl (q_move rfl rfl) ?_
                      refine run_q (.none rfl) rfl rfl (q_build rfl (.cons rfl (.cons rfl (.cons rfl PV.nil))) (built40p0p1p2 _ _ _)) ?_
                      refine run_h (.none rfl) (h_buildSlice rfl rfl rfl Try.underlying28 info40 (.cons rfl rfl rfl rfl Parts.nil) rfl (by omega)) ?_
                      rintro b140 -
                      refine run_h (.none rfl) (h_append rfl rfl rfl Try.underlying28 info40 rfl rfl (.there Sel.here) rfl (.own Sel.here) rfl (all1 rfl) (all1 rfl) (by omega) (by omega)) ?_
                      rintro ⟨A141, c141⟩ -
                      refine run_q (.none rfl) rfl rfl (q_assign rfl rfl) ?_
                      refine run_nil ?_
                      refine run_sub (subMk (.cons (s := 2) rfl (.cons (s := 4) rfl (.cons (s := 6) rfl (.cons (s := 7) rfl (.cons (s := 8) rfl (.cons (s := 9) rfl (.cons (s := 10) rfl (.cons (s := 12) rfl (.cons (s := 13) rfl (.cons (s := 14) rfl (.cons (s := 15) rfl .nil))))))))))) .refl) ?_
                      refine run_region ?_
                      refine run_q (.none rfl) rfl rfl (q_move rfl rfl) ?_
                      refine run_q (.none rfl) rfl rfl (q_add rfl rfl rfl (by omega)) ?_
                      refine run_q (.none rfl) rfl rfl (q_assign rfl rfl) ?_
                      refine run_nil ?_
                      refine run_blk ?_
                      refine run_blk ?_
                      refine run_region ?_
                      refine run_q (.none rfl) rfl rfl (q_move rfl rfl) ?_
                      refine run_q (.none rfl) rfl rfl (q_add rfl rfl rfl (by omega)) ?_
                      refine run_q (.none rfl) rfl rfl (q_assign rfl rfl) ?_
                      refine run_nil ?_
                      refine run_sub (subMk (.cons (s := 2) rfl (.cons (s := 4) rfl (.cons (s := 6) rfl (.cons (s := 7) rfl (.cons (s := 8) rfl (.cons (s := 9) rfl (.cons (s := 10) rfl (.cons (s := 12) rfl (.cons (s := 13) rfl (.cons (s := 14) rfl (.cons (s := 15) rfl .nil))))))))))) .refl) ?_
                      exact run_again (i + 1, k, m + 1, A141, c141, o ++ [⟨3, i, -1⟩]) (by (try dsimp only); exact ⟨by omega, by omega, fun r => by rw [List.append_assoc, hv]; exact errC_3 (by omega), by simp; omega, by omega⟩) (by (try dsimp only); omega) (subMk (.cons' (s := 13) rfl rfl (.cons' (s := 14) rfl rfl (.cons' (s := 15) rfl rfl (.cons' (s := 12) rfl (by simp) (.cons (s := 2) rfl (.cons (s := 4) rfl (.cons (s := 6) rfl (.cons (s := 7) rfl (.cons (s := 8) rfl (.cons (s := 9) rfl (.cons (s := 10) rfl .nil))))))))))) (.cons Sel.here (.own rfl (by simp) rfl (by simp [Pair.enc, vlist])) (.cons (.there Sel.here) .refl (.cons (.there Sel.here) .refl (.cons (.there Sel.here) .refl .nil)))))
                    · have g122' := g122
                      try simp only [decide_eq_true_eq, decide_eq_false_iff_not, beq_iff_eq, beq_eq_false_iff_ne, bne_iff_ne, bne_eq_false_iff_eq, Bool.not_eq_true', Bool.not_eq_false', ne_eq, Int.not_lt, Int.not_le, Decidable.not_not] at g122'
                      refine run_seq ?_
                      refine run_region ?_
                      refine run_q (.none rfl) rfl rfl (q_move rfl rfl) ?_
                      refine run_q (.none rfl) rfl rfl (q_move rfl rfl) ?_
                      refine run_q (.none rfl) rfl rfl (q_len rfl Try.underlying22 rfl) ?_
                      refine run_q (.none rfl) rfl rfl (q_lss rfl rfl rfl) ?_
                      refine run_q (.none rfl) rfl rfl (q_assign rfl rfl) ?_
                      refine run_nil ?_
                      refine run_sub (subMk (.cons (s := 2) rfl (.cons (s := 4) rfl (.cons (s := 6) rfl (.cons (s := 7) rfl (.cons (s := 8) rfl (.cons (s := 9) rfl (.cons (s := 10) rfl (.cons (s := 12) rfl (.cons (s := 13) rfl (.cons (s := 14) rfl (.cons (s := 15) rfl (.cons (s := 144) rfl .nil)))))))))))) .refl) ?_
                      refine run_condT rfl (decide_eq_true (by omega)) ?_
                      refine run_seq ?_
                      refine run_region ?_
                      refine run_q (.none rfl) rfl rfl (q_move rfl rfl) ?_
                      refine run_q (.none rfl) rfl rfl (q_move rfl rfl) ?_
                      refine run_q (.none rfl) rfl rfl (q_build rfl (.cons rfl (.cons rfl (.cons rfl PV.nil))) (built40p0p1p2 _ _ _)) ?_
                      refine run_h (.none rfl) (h_buildSlice rfl rfl rfl Try.underlying28 info40 (.cons rfl rfl rfl rfl Parts.nil) rfl (by omega)) ?_
                      rintro b152 -
                      refine run_h (.none rfl) (h_append rfl rfl rfl Try.underlying28 info40 rfl rfl (.there Sel.here) rfl (.own Sel.here) rfl (all1 rfl) (all1 rfl) (by omega) (by omega)) ?_
                      rintro ⟨A153, c153⟩ -
                      refine run_q (.none rfl) rfl rfl (q_assign rfl rfl) ?_
                      refine run_nil ?_
                      refine run_sub (subMk (.cons (s := 2) rfl (.cons (s := 4) rfl (.cons (s := 6) rfl (.cons (s := 7) rfl (.cons (s := 8) rfl (.cons (s := 9) rfl (.cons (s := 10) rfl (.cons (s := 12) rfl (.cons (s := 13) rfl (.cons (s := 14) rfl (.cons (s := 15) rfl .nil))))))))))) .refl) ?_
                      refine run_region ?_
                      refine run_q (.none rfl) rfl rfl (q_move rfl rfl) ?_
                      refine run_q (.none rfl) rfl rfl (q_add rfl rfl rfl (by omega)) ?_
                      refine run_q (.none rfl) rfl rfl (q_assign rfl rfl) ?_
                      refine run_nil ?_
                      refine run_blk ?_
                      refine run_blk ?_
                      refine run_region ?_
                      refine run_q (.none rfl) rfl rfl (q_move rfl rfl) ?_
                      refine run_q (.none rfl) rfl rfl (q_add rfl rfl rfl (by omega)) ?_
                      refine run_q (.none rfl) rfl rfl (q_assign rfl rfl) ?_
                      refine run_nil ?_
                      refine run_sub (subMk (.cons (s := 2) rfl (.cons (s := 4) rfl (.cons (s := 6) rfl (.cons (s := 7) rfl (.cons (s := 8) rfl (.cons (s := 9) rfl (.cons (s := 10) rfl (.cons (s := 12) rfl (.cons (s := 13) rfl (.cons (s := 14) rfl (.cons (s := 15) rfl .nil))))))))))) .refl) ?_
                      exact run_again (i, k + 1, m + 1, A153, c153, o ++ [⟨4, -1, k⟩]) (by (try dsimp only); exact ⟨by omega, by omega, fun r => by rw [List.append_assoc, hv]; exact errC_4 (by omega), by simp; omega, by omega⟩) (by (try dsimp only); omega) (subMk (.cons' (s := 13) rfl rfl (.cons' (s := 14) rfl rfl (.cons' (s := 15) rfl rfl (.cons' (s := 12) rfl (by simp) (.cons (s := 2) rfl (.cons (s := 4) rfl (.cons (s := 6) rfl (.cons (s := 7) rfl (.cons (s := 8) rfl (.cons (s := 9) rfl (.cons (s := 10) rfl .nil))))))))))) (.cons Sel.here (.own rfl (by simp) rfl (by simp [Pair.enc, vlist])) (.cons (.there Sel.here) .refl (.cons (.there Sel.here) .refl (.cons (.there Sel.here) .refl .nil)))))
                  · have g131' := g131
                    try simp only [decide_eq_true_eq, decide_eq_false_iff_not, beq_iff_eq, beq_eq_false_iff_ne, bne_iff_ne, bne_eq_false_iff_eq, Bool.not_eq_true', Bool.not_eq_false', ne_eq, Int.not_lt, Int.not_le, Decidable.not_not] at g131'
                    refine run_off (.no rfl rfl rfl g131) rfl rfl ?_
                    refine run_off (.no rfl rfl rfl g131) rfl rfl ?_
                    refine run_off (.no rfl rfl rfl g131) rfl rfl ?_
                    refine run_off (.no rfl rfl rfl g131) rfl rfl ?_
                    refine run_q (.none rfl) rfl rfl (q_pickF rfl rfl g131 rfl) ?_
                    refine run_q (.none rfl) rfl rfl (q_assign rfl rfl) ?_
                    refine run_nil ?_
                    refine run_sub (subMk (.cons (s := 2) rfl (.cons (s := 4) rfl (.cons (s := 6) rfl (.cons (s := 7) rfl (.cons (s := 8) rfl (.cons (s := 9) rfl (.cons (s := 10) rfl (.cons (s := 12) rfl (.cons (s := 13) rfl (.cons (s := 14) rfl (.cons (s := 15) rfl (.cons (s := 122) rfl .nil)))))))))))) .refl) ?_
                    refine run_condF rfl rfl ?_
                    refine run_seq ?_
                    refine run_region ?_
                    refine run_q (.none rfl) rfl rfl (q_move rfl rfl) ?_
                    refine run_q (.none rfl) rfl rfl (q_move rfl rfl) ?_
                    refine run_q (.none rfl) rfl rfl (q_len rfl Try.underlying22 rfl) ?_
                    refine run_q (.none rfl) rfl rfl (q_lss rfl rfl rfl) ?_
                    refine run_q (.none rfl) rfl rfl (q_assign rfl rfl) ?_
                    refine run_nil ?_
                    refine run_sub (subMk (.cons (s := 2) rfl (.cons (s := 4) rfl (.cons (s := 6) rfl (.cons (s := 7) rfl (.cons (s := 8) rfl (.cons (s := 9) rfl (.cons (s := 10) rfl (.cons (s := 12) rfl (.cons (s := 13) rfl (.cons (s := 14) rfl (.cons (s := 15) rfl (.cons (s := 144) rfl .nil)))))))))))) .refl) ?_
                    refine run_condT rfl (decide_eq_true (by omega)) ?_
                    refine run_seq ?_
                    refine run_region ?_
                    refine run_q (.none rfl) rfl rfl (q_move rfl rfl) ?_
                    refine run_q (.none rfl) rfl rfl (q_move rfl rfl) ?_
                    refine run_q (.none rfl) rfl rfl (q_build rfl (.cons rfl (.cons rfl (.cons rfl PV.nil))) (built40p0p1p2 _ _ _)) ?_
                    refine run_h (.none rfl) (h_buildSlice rfl rfl rfl Try.underlying28 info40 (.cons rfl rfl rfl rfl Parts.nil) rfl (by omega)) ?_
                    rintro b152 -
                    refine run_h (.none rfl) (h_append rfl rfl rfl Try.underlying28 info40 rfl rfl (.there Sel.here) rfl (.own Sel.here) rfl (all1 rfl) (all1 rfl) (by omega) (by omega)) ?_
                    rintro ⟨A153, c153⟩ -
                    refine run_q (.none rfl) rfl rfl (q_assign rfl rfl) ?_
                    refine run_nil ?_
                    refine run_sub (subMk (.cons (s := 2) rfl (.cons (s := 4) rfl (.cons (s := 6) rfl (.cons (s := 7) rfl (.cons (s := 8) rfl (.cons (s := 9) rfl (.cons (s := 10) rfl (.cons (s := 12) rfl (.cons (s := 13) rfl (.cons (s := 14) rfl (.cons (s := 15) rfl .nil))))))))))) .refl) ?_
                    refine run_region ?_
                    refine run_q (.none rfl) rfl rfl (q_move rfl rfl) ?_
                    refine run_q (.none rfl) rfl rfl (q_add rfl rfl rfl (by omega)) ?_
                    refine run_q (.none rfl) rfl rfl (q_assign rfl rfl) ?_
                    refine run_nil ?_
                    refine run_blk ?_
                    refine run_blk ?_
                    refine run_region ?_
                    refine run_q (.none rfl) rfl rfl (q_move rfl rfl) ?_
                    refine run_q (.none rfl) rfl rfl (q_add rfl rfl rfl (by omega)) ?_
                    refine run_q (.none rfl) rfl rfl (q_assign rfl rfl) ?_
                    refine run_nil ?_
                    refine run_sub (subMk (.cons (s := 2) rfl (.cons (s := 4) rfl (.cons (s := 6) rfl (.cons (s := 7) rfl (.cons (s := 8) rfl (.cons (s := 9) rfl (.cons (s := 10) rfl (.cons (s := 12) rfl (.cons (s := 13) rfl (.cons (s := 14) rfl (.cons (s := 15) rfl .nil))))))))))) .refl) ?_
                    exact run_again (i, k + 1, m + 1, A153, c153, o ++ [⟨4, -1, k⟩]) (by (try dsimp only); exact ⟨by omega, by omega, fun r => by rw [List.append_assoc, hv]; exact errC_4 (by omega), by simp; omega, by omega⟩) (by (try dsimp only); omega) (subMk (.cons' (s := 13) rfl rfl (.cons' (s := 14) rfl rfl (.cons' (s := 15) rfl rfl (.cons' (s := 12) rfl (by simp) (.cons (s := 2) rfl (.cons (s := 4) rfl (.cons (s := 6) rfl (.cons (s := 7) rfl (.cons (s := 8) rfl (.cons (s := 9) rfl (.cons (s := 10) rfl .nil))))))))))) (.cons Sel.here (.own rfl (by simp) rfl (by simp [Pair.enc, vlist])) (.cons (.there Sel.here) .refl (.cons (.there Sel.here) .refl (.cons (.there Sel.here) .refl .nil)))))
            · have g88' := g88
              try simp only [decide_eq_true_eq, decide_eq_false_iff_not, beq_iff_eq, beq_eq_false_iff_ne, bne_iff_ne, bne_eq_false_iff_eq, Bool.not_eq_true', Bool.not_eq_false', ne_eq, Int.not_lt, Int.not_le, Decidable.not_not] at g88'
              refine run_off (.no rfl rfl rfl g88) rfl rfl ?_
              refine run_off (.no rfl rfl rfl g88) rfl rfl ?_
              refine run_off (.no rfl rfl rfl g88) rfl rfl ?_
              refine run_off (.no rfl rfl rfl g88) rfl rfl ?_
              refine run_q (.none rfl) rfl rfl (q_pickF rfl rfl g88 rfl) ?_
              refine run_q (.none rfl) rfl rfl (q_move rfl rfl) ?_
              refine run_off (.no rfl rfl rfl rfl) rfl rfl ?_
              refine run_off (.no rfl rfl rfl rfl) rfl rfl ?_
              refine run_off (.no rfl rfl rfl rfl) rfl rfl ?_
              refine run_off (.no rfl rfl rfl rfl) rfl rfl ?_
              refine run_q (.none rfl) rfl rfl (q_pickF rfl rfl rfl rfl) ?_
              refine run_q (.none rfl) rfl rfl (q_assign rfl rfl) ?_
              refine run_nil ?_
              refine run_sub (subMk (.cons (s := 2) rfl (.cons (s := 4) rfl (.cons (s := 6) rfl (.cons (s := 7) rfl (.cons (s := 8) rfl (.cons (s := 9) rfl (.cons (s := 10) rfl (.cons (s := 12) rfl (.cons (s := 13) rfl (.cons (s := 14) rfl (.cons (s := 15) rfl (.cons (s := 16) rfl (.cons (s := 85) rfl .nil))))))))))))) .refl) ?_
              refine run_condF rfl rfl ?_
              refine run_seq ?_
              refine run_region ?_
              refine run_q (.none rfl) rfl rfl (q_move rfl rfl) ?_
              refine run_q (.none rfl) rfl rfl (q_eql rfl rfl rfl) ?_
              refine run_q (.none rfl) rfl rfl (q_move rfl rfl) ?_
              refine run_split 125 rfl (fun g125 => ?_) (fun g125 => ?_)
              · have g125' := g125
                try simp only [decide_eq_true_eq, decide_eq_false_iff_not, beq_iff_eq, beq_eq_false_iff_ne, bne_iff_ne, bne_eq_false_iff_eq, Bool.not_eq_true', Bool.not_eq_false', ne_eq, Int.not_lt, Int.not_le, Decidable.not_not] at g125'
                refine run_off (.no rfl rfl rfl g125) rfl rfl ?_
                refine run_off (.no rfl rfl rfl g125) rfl rfl ?_
                refine run_off (.no rfl rfl rfl g125) rfl rfl ?_
                refine run_off (.no rfl rfl rfl g125) rfl rfl ?_
                refine run_q (.none rfl) rfl rfl (q_pickT rfl rfl g125 rfl) ?_
                refine run_q (.none rfl) rfl rfl (q_move rfl rfl) ?_
                refine run_q (.on rfl rfl rfl rfl) rfl rfl (q_move rfl rfl) ?_
                refine run_q (.on rfl rfl rfl rfl) rfl rfl (q_move rfl rfl) ?_
                refine run_q (.on rfl rfl rfl rfl) rfl rfl (q_len rfl Try.underlying22 rfl) ?_
                refine run_q (.on rfl rfl rfl rfl) rfl rfl (q_lss rfl rfl rfl) ?_
                refine run_q (.none rfl) rfl rfl (q_pickT rfl rfl rfl rfl) ?_
                refine run_q (.none rfl) rfl rfl (q_assign rfl rfl) ?_
                refine run_nil ?_
                refine run_sub (subMk (.cons (s := 2) rfl (.cons (s := 4) rfl (.cons (s := 6) rfl (.cons (s := 7) rfl (.cons (s := 8) rfl (.cons (s := 9) rfl (.cons (s := 10) rfl (.cons (s := 12) rfl (.cons (s := 13) rfl (.cons (s := 14) rfl (.cons (s := 15) rfl (.cons (s := 122) rfl .nil)))))))))))) .refl) ?_
                refine run_cond rfl (fun g122 => ?_) (fun g122 => ?_)
                · have g122' := g122
                  try simp only [decide_eq_true_eq, decide_eq_false_iff_not, beq_iff_eq, beq_eq_false_iff_ne, bne_iff_ne, bne_eq_false_iff_eq, Bool.not_eq_true', Bool.not_eq_false', ne_eq, Int.not_lt, Int.not_le, Decidable.not_not] at g122'
                  refine run_seq ?_
                  refine run_region ?_
                  refine run_q (.none rfl) rfl rfl (q_move rfl rfl) ?_
                  refine run_q (.none rfl) rfl rfl (q_move rfl rfl) ?_
                  refine run_q (.none rfl) rfl rfl (q_build rfl (.cons rfl (.cons rfl (.cons rfl PV.nil))) (built40p0p1p2 _ _ _)) ?_
                  refine run_h (.none rfl) (h_buildSlice rfl rfl rfl Try.underlying28 info40 (.cons rfl rfl rfl rfl Parts.nil) rfl (by omega)) ?_
                  rintro b140 -
                  refine run_h (.none rfl) (h_append rfl rfl rfl Try.underlying28 info40 rfl rfl (.there Sel.here) rfl (.own Sel.here) rfl (all1 rfl) (all1 rfl) (by omega) (by omega)) ?_
                  rintro ⟨A141, c141⟩ -
                  refine run_q (.none rfl) rfl rfl (q_assign rfl rfl) ?_
                  refine run_nil ?_
                  refine run_sub (subMk (.cons (s := 2) rfl (.cons (s := 4) rfl (.cons (s := 6) rfl (.cons (s := 7) rfl (.cons (s := 8) rfl (.cons (s := 9) rfl (.cons (s := 10) rfl (.cons (s := 12) rfl (.cons (s := 13) rfl (.cons (s := 14) rfl (.cons (s := 15) rfl .nil))))))))))) .refl) ?_
                  refine run_region ?_
                  refine run_q (.none rfl) rfl rfl (q_move rfl rfl) ?_
                  refine run_q (.none rfl) rfl rfl (q_add rfl rfl rfl (by omega)) ?_
                  refine run_q (.none rfl) rfl rfl (q_assign rfl rfl) ?_
                  refine run_nil ?_
                  refine run_blk ?_
                  refine run_blk ?_
                  refine run_region ?_
                  refine run_q (.none rfl) rfl rfl (q_move rfl rfl) ?_
                  refine run_q (.none rfl) rfl rfl (q_add rfl rfl rfl (by omega)) ?_
                  refine run_q (.none rfl) rfl rfl (q_assign rfl rfl) ?_
                  refine run_nil ?_
                  refine run_sub (subMk (.cons (s := 2) rfl (.cons (s := 4) rfl (.cons (s := 6) rfl (.cons (s := 7) rfl (.cons (s := 8) rfl (.cons (s := 9) rfl (.cons (s := 10) rfl (.cons (s := 12) rfl (.cons (s := 13) rfl (.cons (s := 14) rfl (.cons (s := 15) rfl .nil))))))))))) .refl) ?_
                  exact run_again (i + 1, k, m + 1, A141, c141, o ++ [⟨3, i, -1⟩]) (by (try dsimp only); exact ⟨by omega, by omega, fun r => by rw [List.append_assoc, hv]; exact errC_3 (by omega), by simp; omega, by omega⟩) (by (try dsimp only); omega) (subMk (.cons' (s := 13) rfl rfl (.cons' (s := 14) rfl rfl (.cons' (s := 15) rfl rfl (.cons' (s := 12) rfl (by simp) (.cons (s := 2) rfl (.cons (s := 4) rfl (.cons (s := 6) rfl (.cons (s := 7) rfl (.cons (s := 8) rfl (.cons (s := 9) rfl (.cons (s := 10) rfl .nil))))))))))) (.cons Sel.here (.own rfl (by simp) rfl (by simp [Pair.enc, vlist])) (.cons (.there Sel.here) .refl (.cons (.there Sel.here) .refl (.cons (.there Sel.here) .refl .nil)))))
                · have g122' := g122
                  try simp only [decide_eq_true_eq, decide_eq_false_iff_not, beq_iff_eq, beq_eq_false_iff_ne, bne_iff_ne, bne_eq_false_iff_eq, Bool.not_eq_true', Bool.not_eq_false', ne_eq, Int.not_lt, Int.not_le, Decidable.not_not] at g122'
                  refine run_seq ?_
                  refine run_region ?_
                  refine run_q (.none rfl) rfl rfl (q_move rfl rfl) ?_
                  refine run_q (.none rfl) rfl rfl (q_move rfl rfl) ?_
                  refine run_q (.none rfl) rfl rfl (q_len rfl Try.underlying22 rfl) ?_
                  refine run_q (.none rfl) rfl rfl (q_lss rfl rfl rfl) ?_
                  refine run_q (.none rfl) rfl rfl (q_assign rfl rfl) ?_
                  refine run_nil ?_
                  refine run_sub (subMk (.cons (s := 2) rfl (.cons (s := 4) rfl (.cons (s := 6) rfl (.cons (s := 7) rfl (.cons (s := 8) rfl (.cons (s := 9) rfl (.cons (s := 10) rfl (.cons (s := 12) rfl (.cons (s := 13) rfl (.cons (s := 14) rfl (.cons (s := 15) rfl (.cons (s := 144) rfl .nil)))))))))))) .refl) ?_
                  refine run_condT rfl (decide_eq_true (by omega)) ?_
                  refine run_seq ?_
                  refine run_region ?_
                  refine run_q (.none rfl) rfl rfl (q_move rfl rfl) ?_
                  refine run_q (.none rfl) rfl rfl (q_move rfl rfl) ?_
                  refine run_q (.none rfl) rfl rfl (q_build rfl (.cons rfl (.cons rfl (.cons rfl PV.nil))) (built40p0p1p2 _ _ _)) ?_
                  refine run_h (.none rfl) (h_buildSlice rfl rfl rfl Try.underlying28 info40 (.cons rfl rfl rfl rfl Parts.nil) rfl (by omega)) ?_
                  rintro b152 -
                  refine run_h (.none rfl) (h_append rfl rfl rfl Try.underlying28 info40 rfl rfl (.there Sel.here) rfl (.own Sel.here) rfl (all1 rfl) (all1 rfl) (by omega) (by omega)) ?_
                  rintro ⟨A153, c153⟩ -
                  refine run_q (.none rfl) rfl rfl (q_assign rfl rfl) ?_
                  refine run_nil ?_
                  refine run_sub (subMk (.cons (s := 2) rfl (.cons (s := 4) rfl (.cons (s := 6) rfl (.cons (s := 7) rfl (.cons (s := 8) rfl (.cons (s := 9) rfl (.cons (s := 10) rfl (.cons (s := 12) rfl (.cons (s := 13) rfl (.cons (s := 14) rfl (.cons (s := 15) rfl .nil))))))))))) .refl) ?_
                  refine run_region ?_
                  refine run_q (.none rfl) rfl rfl (q_move rfl rfl) ?_
                  refine run_q (.none rfl) rfl rfl (q_add rfl rfl rfl (by omega)) ?_
                  refine run_q (.none rfl) rfl rfl (q_assign rfl rfl) ?_
                  refine run_nil ?_
                  refine run_blk ?_
                  refine run_blk ?_
                  refine run_region ?_
                  refine run_q (.none rfl) rfl rfl (q_move rfl rfl) ?_
                  refine run_q (.none rfl) rfl rfl (q_add rfl rfl rfl (by omega)) ?_
                  refine run_q (.none rfl) rfl rfl (q_assign rfl rfl) ?_
                  refine run_nil ?_
                  refine run_sub (subMk (.cons (s := 2) rfl (.cons (s := 4) rfl (.cons (s := 6) rfl (.cons (s := 7) rfl (.cons (s := 8) rfl (.cons (s := 9) rfl (.cons (s := 10) rfl (.cons (s := 12) rfl (.cons (s := 13) rfl (.cons (s := 14) rfl (.cons (s := 15) rfl .nil))))))))))) .refl) ?_
                  exact run_again (i, k + 1, m + 1, A153, c153, o ++ [⟨4, -1, k⟩]) (by (try dsimp only); exact ⟨by omega, by omega, fun r => by rw [List.append_assoc, hv]; exact errC_4 (by omega), by simp; omega, by omega⟩) (by (try dsimp only); omega) (subMk (.cons' (s := 13) rfl rfl (.cons' (s := 14) rfl rfl (.cons' (s := 15) rfl rfl (.cons' (s := 12) rfl (by simp) (.cons (s := 2) rfl (.cons (s := 4) rfl (.cons (s := 6) rfl (.cons (s := 7) rfl (.cons (s := 8) rfl (.cons (s := 9) rfl (.cons (s := 10) rfl .nil))))))))))) (.cons Sel.here (.own rfl (by simp) rfl (by simp [Pair.enc, vlist])) (.cons (.there Sel.here) .refl (.cons (.there Sel.here) .refl (.cons (.there Sel.here) .refl .nil)))))
              · have g125' := g125
                try simp only [decide_eq_true_eq, decide_eq_false_iff_not, beq_iff_eq, beq_eq_false_iff_ne, bne_iff_ne, bne_eq_false_iff_eq, Bool.not_eq_true', Bool.not_eq_false', ne_eq, Int.not_lt, Int.not_le, Decidable.not_not] at g125'
                refine run_q (.on rfl rfl rfl g125) rfl rfl (q_move rfl rfl) ?_
                refine run_q (.on rfl rfl rfl g125) rfl rfl (q_move rfl rfl) ?_
                refine run_q (.on rfl rfl rfl g125) rfl rfl (q_len rfl Try.underlying22 rfl) ?_
                refine run_q (.on rfl rfl rfl g125) rfl rfl (q_eql rfl rfl rfl) ?_
                refine run_q (.none rfl) rfl rfl (q_pickF rfl rfl g125 rfl) ?_
                refine run_q (.none rfl) rfl rfl (q_move rfl rfl) ?_
                refine run_split 131 rfl (fun g131 => ?_) (fun g131 => ?_)
                · have g131' := g131
                  try simp only [decide_eq_true_eq, decide_eq_false_iff_not, beq_iff_eq, beq_eq_false_iff_ne, bne_iff_ne, bne_eq_false_iff_eq, Bool.not_eq_true', Bool.not_eq_false', ne_eq, Int.not_lt, Int.not_le, Decidable.not_not] at g131'
                  refine run_q (.on rfl rfl rfl g131) rfl rfl (q_move rfl rfl) ?_
                  refine run_q (.on rfl rfl rfl g131) rfl rfl (q_move rfl rfl) ?_
                  refine run_q (.on rfl rfl rfl g131) rfl rfl (q_len rfl Try.underlying22 rfl) ?_
                  refine run_q (.on rfl rfl rfl g131) rfl rfl (q_lss rfl rfl rfl) ?_
                  refine run_q (.none rfl) rfl rfl (q_pickT rfl rfl g131 rfl) ?_
                  refine run_q (.none rfl) rfl rfl (q_assign rfl rfl) ?_
                  refine run_nil ?_
                  refine run_sub (subMk (.cons (s := 2) rfl (.cons (s := 4) rfl (.cons (s := 6) rfl (.cons (s := 7) rfl (.cons (s := 8) rfl (.cons (s := 9) rfl (.cons (s := 10) rfl (.cons (s := 12) rfl (.cons (s := 13) rfl (.cons (s := 14) rfl (.cons (s := 15) rfl (.cons (s := 122) rfl .nil)))))))))))) .refl) ?_
                  refine run_cond rfl (fun g122 => ?_) (fun g122 => ?_)
                  · have g122' := g122
                    try simp only [decide_eq_true_eq, decide_eq_false_iff_not, beq_iff_eq, beq_eq_false_iff_ne, bne_iff_ne, bne_eq_false_iff_eq, Bool.not_eq_true', Bool.not_eq_false', ne_eq, Int.not_lt, Int.not_le, Decidable.not_not] at g122'
                    refine run_seq ?_
                    refine run_region ?_
                    refine run_q (.none rfl) rfl rfl (q_move rfl rfl) ?_
                    refine run_q (.none rfl) rfl rfl (q_move rfl rfl) ?_
                    refine run_q (.none rfl) rfl rfl (q_build rfl (.cons rfl (.cons rfl (.cons rfl PV.nil))) (built40p0p1p2 _ _ _)) ?_
                    refine run_h (.none rfl) (h_buildSlice rfl rfl rfl Try.underlying28 info40 (.cons rfl rfl rfl rfl Parts.nil) rfl (by omega)) ?_
                    rintro b140 -
                    refine run_h (.none rfl) (h_append rfl rfl rfl Try.underlying28 info40 rfl rfl (.there Sel.here) rfl (.own Sel.here) rfl (all1 rfl) (all1 rfl) (by omega) (by omega)) ?_
                    rintro ⟨A141, c141⟩ -
                    refine run_q (.none rfl) rfl rfl (q_assign rfl rfl) ?_
                    refine run_nil ?_
                    refine run_sub (subMk (.cons (s := 2) rfl (.cons (s := 4) rfl (.cons (s := 6) rfl (.cons (s := 7) rfl (.cons (s := 8) rfl (.cons (s := 9) rfl (.cons (s := 10) rfl (.cons (s := 12) rfl (.cons (s := 13) rfl (.cons (s := 14) rfl (.cons (s := 15) rfl .nil))))))))))) .refl) ?_
                    refine run_region ?_
                    refine run_q (.none rfl) rfl rfl (q_move rfl rfl) ?_
                    refine run_q (.none rfl) rfl rfl (q_add rfl rfl rfl (by omega)) ?_
                    refine run_q (.none rfl) rfl rfl (q_assign rfl rfl) ?_
                    refine run_nil ?_
                    refine run_blk ?_
                    refine run_blk ?_
                    refine run_region ?_
                    refine run_q (.none rfl) rfl rfl (q_move rfl rfl) ?_
                    refine run_q (.none rfl) rfl rfl (q_add rfl rfl rfl (by omega)) ?_
                    refine run_q (.none rfl) rfl rfl (q_assign rfl rfl) ?_
                    refine run_nil ?_
                    refine run_sub (subMk (.cons (s := 2) rfl (.cons (s := 4) rfl (.cons (s := 6) rfl (.cons (s := 7) rfl (.cons (s := 8) rfl (.cons (s := 9) rfl (.cons (s := 10) rfl (.cons (s := 12) rfl (.cons (s := 13) rfl (.cons (s := 14) rfl (.cons (s := 15) rfl .nil))))))))))) .refl) ?_
                    exact run_again (i + 1, k, m + 1, A141, c141, o ++ [⟨3, i, -1⟩]) (by (try dsimp only); exact ⟨by omega, by omega, fun r => by rw [List.append_assoc, hv]; exact errC_3 (by omega), by simp; omega, by omega⟩) (by (try dsimp only); omega) (subMk (.cons' (s := 13) rfl rfl (.cons' (s := 14) rfl rfl (.cons' (s := 15) rfl rfl (.cons' (s := 12) rfl (by simp) (.cons (s := 2) rfl (.cons (s := 4) rfl (.cons (s := 6) rfl (.cons (s := 7) rfl (.cons (s := 8) rfl (.cons (s := 9) rfl (.cons (s := 10) rfl .nil))))))))))) (.cons Sel.here (.own rfl (by simp) rfl (by simp [Pair.enc, vlist])) (.cons (.there Sel.here) .refl (.cons (.there Sel.here) .refl (.cons (.there Sel.here) .refl .nil)))))
                  · have g122' := g122
                    try simp only [decide_eq_true_eq, decide_eq_false_iff_not, beq_iff_eq, beq_eq_false_iff_ne, bne_iff_ne, bne_eq_false_iff_eq, Bool.not_eq_true', Bool.not_eq_false', ne_eq, Int.not_lt, Int.not_le, Decidable.not_not] at g122'
                    refine run_seq ?_
                    refine run_region ?_
                    refine run_q (.none rfl) rfl rfl (q_move rfl rfl) ?_
                    refine run_q (.none rfl) rfl rfl (q_move rfl rfl) ?_
                    refine run_q (.none rfl) rfl rfl (q_len rfl Try.underlying22 rfl) ?_
                    refine run_q (.none rfl) rfl rfl (q_lss rfl rfl rfl) ?_
                    refine run_q (.none rfl) rfl rfl (q_assign rfl rfl) ?_
                    refine run_nil ?_
                    refine run_sub (subMk (.cons (s := 2) rfl (.cons (s := 4) rfl (.cons (s := 6) rfl (.cons (s := 7) rfl (.cons (s := 8) rfl (.cons (s := 9) rfl (.cons (s := 10) rfl (.cons (s := 12) rfl (.cons (s := 13) rfl (.cons (s := 14) rfl (.cons (s := 15) rfl (.cons (s := 144) rfl .nil)))))))))))) .refl) ?_
                    refine run_condT rfl (decide_eq_true (by omega)) ?_
                    refine run_seq ?_
                    refine run_region ?_
                    refine run_q (.none rfl) rfl rfl (q_move rfl rfl) ?_
                    refine run_q (.none rfl) rfl rfl (q_move rfl rfl) ?_
                    refine run_q (.none rfl) rfl rfl (q_build rfl (.cons rfl (.cons rfl (.cons rfl PV.nil))) (built40p0p1p2 _ _ _)) ?_
                    refine run_h (.none rfl) (h_buildSlice rfl rfl rfl Try.underlying28 info40 (.cons rfl rfl rfl rfl Parts.nil) rfl (by omega)) ?_
                    rintro b152 -
                    refine run_h (.none rfl) (h_append rfl rfl rfl Try.underlying28 info40 rfl rfl (.there Sel.here) rfl (.own Sel.here) rfl (all1 rfl) (all1 rfl) (by omega) (by omega)) ?_
                    rintro ⟨A153, c153⟩ -
                    refine run_q (.none rfl) rfl rfl (q_assign rfl rfl) ?_
                    refine run_nil ?_
                    refine run_sub (subMk (.cons (s := 2) rfl (.cons (s := 4) rfl (.cons (s := 6) rfl (.cons (s := 7) rfl (.cons (s := 8) rfl (.cons (s := 9) rfl (.cons (s := 10) rfl (.cons (s := 12) rfl (.cons (s := 13) rfl (.cons (s := 14) rfl (.cons (s := 15) rfl .nil))))))))))) .refl) ?_
                    refine run_region ?_
                    refine run_q (.none rfl) rfl rfl (q_move rfl rfl) ?_
                    refine run_q (.none rfl) rfl rfl (q_add rfl rfl rfl (by omega)) ?_
                    refine run_q (.none rfl) rfl rfl (q_assign rfl rfl) ?_
                    refine run_nil ?_
                    refine run_blk ?_
                    refine run_blk ?_
                    refine run_region ?_
                    refine run_q (.none rfl) rfl rfl (q_move rfl rfl) ?_
                    refine run_q (.none rfl) rfl rfl (q_add rfl rfl rfl (by omega)) ?_
                    refine run_q (.none rfl) rfl rfl (q_assign rfl rfl) ?_
                    refine run_nil ?_
                    refine run_sub (subMk (.cons (s := 2) rfl (.cons (s := 4) rfl (.cons (s := 6) rfl (.cons (s := 7) rfl (.cons (s := 8) rfl (.cons (s := 9) rfl (.cons (s := 10) rfl (.cons (s := 12) rfl (.cons (s := 13) rfl (.cons (s := 14) rfl (.cons (s := 15) rfl .nil))))))))))) .refl) ?_
                    exact run_again (i, k + 1, m + 1, A153, c153, o ++ [⟨4, -1, k⟩]) (by (try dsimp only); exact ⟨by omega, by omega, fun r => by rw [List.append_assoc, hv]; exact errC_4 (by omega), by simp; omega, by omega⟩) (by (try dsimp only); omega) (subMk (.cons' (s := 13) rfl rfl (.cons' (s := 14) rfl rfl (.cons' (s := 15) rfl rfl (.cons' (s := 12) rfl (by simp) (.cons (s := 2) rfl (.cons (s := 4) rfl (.cons (s := 6) rfl (.cons (s := 7) rfl (.cons (s := 8) rfl (.cons (s := 9) rfl (.cons (s := 10) rfl .nil))))))))))) (.cons Sel.here (.own rfl (by simp) rfl (by simp [Pair.enc, vlist])) (.cons (.there Sel.here) .refl (.cons (.there Sel.here) .refl (.cons (.there Sel.here) .refl .nil)))))
                · have g131' := g131
                  try simp only [decide_eq_true_eq, decide_eq_false_iff_not, beq_iff_eq, beq_eq_false_iff_ne, bne_iff_ne, bne_eq_false_iff_eq, Bool.not_eq_true', Bool.not_eq_false', ne_eq, Int.not_lt, Int.not_le, Decidable.not_not] at g131'
                  refine run_off (.no rfl rfl rfl g131) rfl rfl ?_
                  refine run_off (.no rfl rfl rfl g131) rfl rfl ?_
                  refine run_off (.no rfl rfl rfl g131) rfl rfl ?_
                  refine run_off (.no rfl rfl rfl g131) rfl rfl ?_
                  refine run_q (.none rfl) rfl rfl (q_pickF rfl rfl g131 rfl) ?_
                  refine run_q (.none rfl) rfl rfl (q_assign rfl rfl) ?_
                  refine run_nil ?_
                  refine run_sub (subMk (.cons (s := 2) rfl (.cons (s := 4) rfl (.cons (s := 6) rfl (.cons (s := 7) rfl (.cons (s := 8) rfl (.cons (s := 9) rfl (.cons (s := 10) rfl (.cons (s := 12) rfl (.cons (s := 13) rfl (.cons (s := 14) rfl (.cons (s := 15) rfl (.cons (s := 122) rfl .nil)))))))))))) .refl) ?_
                  refine run_condF rfl rfl ?_
                  refine run_seq ?_
                  refine run_region ?_
                  refine run_q (.none rfl) rfl rfl (q_move rfl rfl) ?_
                  refine run_q (.none rfl) rfl rfl (q_move rfl rfl) ?_
                  refine run_q (.none rfl) rfl rfl (q_len rfl Try.underlying22 rfl) ?_
                  refine run_q (.none rfl) rfl rfl (q_lss rfl rfl rfl) ?_
                  refine run_q (.none rfl) rfl rfl (q_assign rfl rfl) ?_
                  refine run_nil ?_
                  refine run_sub (subMk (.cons (s := 2) rfl (.cons (s := 4) rfl (.cons (s := 6) rfl (.cons (s := 7) rfl (.cons (s := 8) rfl (.cons (s := 9) rfl (.cons (s := 10) rfl (.cons (s := 12) rfl (.cons (s := 13) rfl (.cons (s := 14) rfl (.cons (s := 15) rfl (.cons (s := 144) rfl .nil)))))))))))) .refl) ?_
                  refine run_condT rfl (decide_eq_true (by omega)) ?_
                  refine run_seq ?_
                  refine run_region ?_
                  refine run_q (.none rfl) rfl rfl (q_move rfl rfl) ?_
                  refine run_q (.none rfl) rfl rfl (q_move rfl rfl) ?_
                  refine run_q (.none rfl) rfl rfl (q_build rfl (.cons rfl (.cons rfl (.cons rfl PV.nil))) (built40p0p1p2 _ _ _)) ?_
                  refine run_h (.none rfl) (h_buildSlice rfl rfl rfl Try.underlying28 info40 (.cons rfl rfl rfl rfl Parts.nil) rfl (by omega)) ?_
                  rintro b152 -
                  refine run_h (.none rfl) (h_append rfl rfl rfl Try.underlying28 info40 rfl rfl (.there Sel.here) rfl (.own Sel.here) rfl (all1 rfl) (all1 rfl) (by omega) (by omega)) ?_
                  rintro ⟨A153, c153⟩ -
                  refine run_q (.none rfl) rfl rfl (q_assign rfl rfl) ?_
                  refine run_nil ?_
                  refine run_sub (subMk (.cons (s := 2) rfl (.cons (s := 4) rfl (.cons (s := 6) rfl (.cons (s := 7) rfl (.cons (s := 8) rfl (.cons (s := 9) rfl (.cons (s := 10) rfl (.cons (s := 12) rfl (.cons (s := 13) rfl (.cons (s := 14) rfl (.cons (s := 15) rfl .nil))))))))))) .refl) ?_
                  refine run_region ?_
                  refine run_q (.none rfl) rfl rfl (q_move rfl rfl) ?_
                  refine run_q (.none rfl) rfl rfl (q_add rfl rfl rfl (by omega)) ?_
                  refine run_q (.none rfl) rfl rfl (q_assign rfl rfl) ?_
                  refine run_nil ?_
                  refine run_blk ?_
                  refine run_blk ?_
                  refine run_region ?_
                  refine run_q (.none rfl) rfl rfl (q_move rfl rfl) ?_
                  refine run_q (.none rfl) rfl rfl (q_add rfl rfl rfl (by omega)) ?_
                  refine run_q (.none rfl) rfl rfl (q_assign rfl rfl) ?_
                  refine run_nil ?_
                  refine run_sub (subMk (.cons (s := 2) rfl (.cons (s := 4) rfl (.cons (s := 6) rfl (.cons (s := 7) rfl (.cons (s := 8) rfl (.cons (s := 9) rfl (.cons (s := 10) rfl (.cons (s := 12) rfl (.cons (s := 13) rfl (.cons (s := 14) rfl (.cons (s := 15) rfl .nil))))))))))) .refl) ?_
                  exact run_again (i, k + 1, m + 1, A153, c153, o ++ [⟨4, -1, k⟩]) (by (try dsimp only); exact ⟨by omega, by omega, fun r => by rw [List.append_assoc, hv]; exact errC_4 (by omega), by simp; omega, by omega⟩) (by (try dsimp only); omega) (subMk (.cons' (s := 13) rfl rfl (.cons' (s := 14) rfl rfl (.cons' (s := 15) rfl rfl (.cons' (s := 12) rfl (by simp) (.cons (s := 2) rfl (.cons (s := 4) rfl (.cons (s := 6) rfl (.cons (s := 7) rfl (.cons (s := 8) rfl (.cons (s := 9) rfl (.cons (s := 10) rfl .nil))))))))))) (.cons Sel.here (.own rfl (by simp) rfl (by simp [Pair.enc, vlist])) (.cons (.there Sel.here) .refl (.cons (.there Sel.here) .refl (.cons (.there Sel.here) .refl .nil)))))
        · have g67' := g67
          try simp only [decide_eq_true_eq, decide_eq_false_iff_not, beq_iff_eq, beq_eq_false_iff_ne, bne_iff_ne, bne_eq_false_iff_eq, Bool.not_eq_true', Bool.not_eq_false', ne_eq, Int.not_lt, Int.not_le, Decidable.not_not] at g67'
          refine run_q (.on rfl rfl rfl g67) rfl rfl (q_move rfl rfl) ?_
          refine run_q (.on rfl rfl rfl g67) rfl rfl (q_move rfl rfl) ?_
          refine run_q (.on rfl rfl rfl g67) rfl rfl (q_len rfl Try.underlying22 rfl) ?_
          refine run_q (.on rfl rfl rfl g67) rfl rfl (q_lss rfl rfl rfl) ?_
          refine run_q (.none rfl) rfl rfl (q_pickF rfl rfl g67 rfl) ?_
          refine run_nil ?_
          refine run_sub (subMk (.cons (s := 2) rfl (.cons (s := 4) rfl (.cons (s := 6) rfl (.cons (s := 7) rfl (.cons (s := 8) rfl (.cons (s := 9) rfl (.cons (s := 10) rfl (.cons (s := 12) rfl (.cons (s := 13) rfl (.cons (s := 14) rfl (.cons (s := 15) rfl (.cons (s := 72) rfl .nil)))))))))))) .refl) ?_
          refine run_cond rfl (fun g72 => ?_) (fun g72 => ?_)
          · have g72' := g72
            try simp only [decide_eq_true_eq, decide_eq_false_iff_not, beq_iff_eq, beq_eq_false_iff_ne, bne_iff_ne, bne_eq_false_iff_eq, Bool.not_eq_true', Bool.not_eq_false', ne_eq, Int.not_lt, Int.not_le, Decidable.not_not] at g72'
            refine run_skip ?_
            refine run_seq ?_
            refine run_block ?_
            refine run_seq ?_
            refine run_region ?_
            refine run_q (.none rfl) rfl rfl (q_assign rfl rfl) ?_
            refine run_nil ?_
            refine run_seq ?_
            refine run_seq ?_
            refine run_region ?_
            refine run_q (.none rfl) rfl rfl (q_move rfl rfl) ?_
            refine run_q (.none rfl) rfl rfl (q_move rfl rfl) ?_
            refine run_q (.none rfl) rfl rfl (q_len rfl Try.underlying43 rfl) ?_
            refine run_q (.none rfl) rfl rfl (q_lss rfl rfl rfl) ?_
            refine run_nil ?_
            refine run_sub (subMk (.cons (s := 2) rfl (.cons (s := 4) rfl (.cons (s := 6) rfl (.cons (s := 7) rfl (.cons (s := 8) rfl (.cons (s := 9) rfl (.cons (s := 10) rfl (.cons (s := 12) rfl (.cons (s := 13) rfl (.cons (s := 14) rfl (.cons (s := 15) rfl (.cons (s := 16) rfl (.cons (s := 78) rfl .nil))))))))))))) .refl) ?_
            refine run_sub (subMk (.cons (s := 16) rfl (.cons (s := 2) rfl (.cons (s := 4) rfl (.cons (s := 6) rfl (.cons (s := 7) rfl (.cons (s := 8) rfl (.cons (s := 9) rfl (.cons (s := 10) rfl (.cons (s := 12) rfl (.cons (s := 13) rfl (.cons (s := 14) rfl (.cons (s := 15) rfl (.cons (s := 78) rfl .nil))))))))))))) (.cons Sel.here .refl (.cons Sel.here .refl (.cons Sel.here .refl (.cons Sel.here .refl .nil))))) ?_
            refine run_cutC1M0 (ι := Int) (fun v => 0 ≤ v ∧ v ≤ 2) (fun v => .int .i64 v)  ?_ ?_
            · refine run_cond rfl (fun g78 => ?_) (fun g78 => ?_)
              · have g78' := g78
                try simp only [decide_eq_true_eq, decide_eq_false_iff_not, beq_iff_eq, beq_eq_false_iff_ne, bne_iff_ne, bne_eq_false_iff_eq, Bool.not_eq_true', Bool.not_eq_false', ne_eq, Int.not_lt, Int.not_le, Decidable.not_not] at g78'
                have hbx := hbs (nth bs m) (nth_mem (by omega))
                refine run_region ?_
                refine run_q (.none rfl) rfl rfl (q_move rfl rfl) ?_
                refine run_q (.none rfl) rfl rfl (q_move rfl rfl) ?_
                refine run_q (.none rfl) rfl rfl (q_indexS (q := m) rfl Try.underlying43 sz5 rfl rfl (.inp hrc .no) (by simp <;> omega) rfl (by omega)) ?_
                refine run_q (.none rfl) rfl rfl (q_loadC rfl one5 rfl (.inp hrc .no) (getmap (by omega))) ?_
                refine run_q (.none rfl) rfl rfl (q_rem rfl rfl rfl (by omega)) ?_
                refine run_q (.none rfl) rfl rfl (q_convert' rfl rfl Try.underlying5 Try.underlying3 (by rw [IntKind.wrap_i64]; omega)) ?_
                refine run_q (.none rfl) rfl rfl (q_assign rfl rfl) ?_
                refine run_nil ?_
                refine run_sub (subMk (.cons (s := 2) rfl (.cons (s := 4) rfl (.cons (s := 6) rfl (.cons (s := 7) rfl (.cons (s := 8) rfl (.cons (s := 9) rfl (.cons (s := 10) rfl (.cons (s := 12) rfl (.cons (s := 13) rfl (.cons (s := 14) rfl (.cons (s := 15) rfl (.cons (s := 16) rfl (.cons (s := 78) rfl .nil))))))))))))) .refl) ?_
                exact run_stop (nth bs m % 3) (by (try dsimp only); exact (by omega)) (subMk (.cons' (s := 16) rfl rfl (.cons (s := 2) rfl (.cons (s := 4) rfl (.cons (s := 6) rfl (.cons (s := 7) rfl (.cons (s := 8) rfl (.cons (s := 9) rfl (.cons (s := 10) rfl (.cons (s := 12) rfl (.cons (s := 13) rfl (.cons (s := 14) rfl (.cons (s := 15) rfl (.cons (s := 78) rfl .nil))))))))))))) (.cons Sel.here .refl (.cons Sel.here .refl (.cons Sel.here .refl (.cons Sel.here .refl .nil)))))
              · have g78' := g78
                try simp only [decide_eq_true_eq, decide_eq_false_iff_not, beq_iff_eq, beq_eq_false_iff_ne, bne_iff_ne, bne_eq_false_iff_eq, Bool.not_eq_true', Bool.not_eq_false', ne_eq, Int.not_lt, Int.not_le, Decidable.not_not] at g78'
                refine run_skip ?_
                exact run_stop 0 (by (try dsimp only); exact (by omega)) (subMk (.cons' (s := 16) rfl rfl (.cons (s := 2) rfl (.cons (s := 4) rfl (.cons (s := 6) rfl (.cons (s := 7) rfl (.cons (s := 8) rfl (.cons (s := 9) rfl (.cons (s := 10) rfl (.cons (s := 12) rfl (.cons (s := 13) rfl (.cons (s := 14) rfl (.cons (s := 15) rfl (.cons (s := 78) rfl .nil))))))))))))) (.cons Sel.here .refl (.cons Sel.here .refl (.cons Sel.here .refl (.cons Sel.here .refl .nil)))))
            · rintro v hv3
              (try dsimp only at hv3)
              show Run _ _ _ _ _ _ _ ⟨(16, .int .i64 v) :: _, _⟩
              refine run_block ?_
              refine run_seq ?_
              refine run_region ?_
              refine run_q (.none rfl) rfl rfl (q_move rfl rfl) ?_
              refine run_q (.none rfl) rfl rfl (q_eql rfl rfl rfl) ?_
              refine run_q (.none rfl) rfl rfl (q_move rfl rfl) ?_
              refine run_split 88 rfl (fun g88 => ?_) (fun g88 => ?_)
              · have g88' := g88
                try simp only [decide_eq_true_eq, decide_eq_false_iff_not, beq_iff_eq, beq_eq_false_iff_ne, bne_iff_ne, bne_eq_false_iff_eq, Bool.not_eq_true', Bool.not_eq_false', ne_eq, Int.not_lt, Int.not_le, Decidable.not_not] at g88'
                refine run_q (.on rfl rfl rfl g88) rfl rfl (q_move rfl rfl) ?_
                refine run_q (.on rfl rfl rfl g88) rfl rfl (q_move rfl rfl) ?_
                refine run_q (.on rfl rfl rfl g88) rfl rfl (q_len rfl Try.underlying22 rfl) ?_
                refine run_q (.on rfl rfl rfl g88) rfl rfl (q_lss rfl rfl rfl) ?_
                refine run_q (.none rfl) rfl rfl (q_pickT rfl rfl g88 rfl) ?_
                refine run_q (.none rfl) rfl rfl (q_move rfl rfl) ?_
                refine run_split 94 rfl (fun g94 => ?_) (fun g94 => ?_)
                · have g94' := g94
                  try simp only [decide_eq_true_eq, decide_eq_false_iff_not, beq_iff_eq, beq_eq_false_iff_ne, bne_iff_ne, bne_eq_false_iff_eq, Bool.not_eq_true', Bool.not_eq_false', ne_eq, Int.not_lt, Int.not_le, Decidable.not_not] at g94'
                  refine run_q (.on rfl rfl rfl g94) rfl rfl (q_move rfl rfl) ?_
                  refine run_q (.on rfl rfl rfl g94) rfl rfl (q_move rfl rfl) ?_
                  refine run_q (.on rfl rfl rfl g94) rfl rfl (q_len rfl Try.underlying22 rfl) ?_
                  refine run_q (.on rfl rfl rfl g94) rfl rfl (q_lss rfl rfl rfl) ?_
                  refine run_q (.none rfl) rfl rfl (q_pickT rfl rfl g94 rfl) ?_
                  refine run_q (.none rfl) rfl rfl (q_assign rfl rfl) ?_
                  refine run_nil ?_
                  refine run_sub (subMk (.cons (s := 2) rfl (.cons (s := 4) rfl (.cons (s := 6) rfl (.cons (s := 7) rfl (.cons (s := 8) rfl (.cons (s := 9) rfl (.cons (s := 10) rfl (.cons (s := 12) rfl (.cons (s := 13) rfl (.cons (s := 14) rfl (.cons (s := 15) rfl (.cons (s := 16) rfl (.cons (s := 85) rfl .nil))))))))))))) .refl) ?_
                  refine run_cond rfl (fun g85 => ?_) (fun g85 => ?_)
                  · have g85' := g85
                    try simp only [decide_eq_true_eq, decide_eq_false_iff_not, beq_iff_eq, beq_eq_false_iff_ne, bne_iff_ne, bne_eq_false_iff_eq, Bool.not_eq_true', Bool.not_eq_false', ne_eq, Int.not_lt, Int.not_le, Decidable.not_not] at g85'
                    refine run_seq ?_
                    refine run_region ?_
                    refine run_q (.none rfl) rfl rfl (q_assign rfl rfl) ?_
                    refine run_nil ?_
                    refine run_seq ?_
                    refine run_seq ?_
                    refine run_draw [(0, 0), (1, 0), (2, 0), (3, 0), (4, 0), (5, 0), (6, 0), (7, 0), (8, 0), (9, 0), (10, 0)] mixed (by kernel_rfl) .refl ?_
                    refine d_q rfl rfl (.none rfl) rfl rfl (q_move rfl rfl) ?_
                    refine d_q rfl rfl (.none rfl) rfl rfl (q_move rfl rfl) ?_
                    refine d_q rfl rfl (.none rfl) rfl rfl (q_indexS (q := i) rfl Try.underlying22 sz47 rfl rfl (.inp hra .no) (by simp <;> omega) rfl (by omega)) ?_
                    refine d_q rfl rfl (.none rfl) rfl rfl (q_fieldAddr (d := 2) rfl Try.underlying47 rfl rfl sz3 rfl) ?_
                    refine d_q rfl rfl (.none rfl) rfl rfl (q_loadF rfl one3 rfl (.inp hra .no) (getmap (by omega)) rfl) ?_
                    refine d_q rfl rfl (.none rfl) rfl rfl (q_move rfl rfl) ?_
                    refine d_q rfl rfl (.none rfl) rfl rfl (q_move rfl rfl) ?_
                    refine d_q rfl rfl (.none rfl) rfl rfl (q_indexS (q := k) rfl Try.underlying22 sz47 rfl rfl (.inp hrb .no) (by simp <;> omega) rfl (by omega)) ?_
                    refine d_q rfl rfl (.none rfl) rfl rfl (q_fieldAddr (d := 2) rfl Try.underlying47 rfl rfl sz3 rfl) ?_
                    refine d_q rfl rfl (.none rfl) rfl rfl (q_loadF rfl one3 rfl (.inp hrb .no) (getmap (by omega)) rfl) ?_
                    refine d_q rfl rfl (.none rfl) rfl rfl (q_neq rfl rfl rfl) ?_
                    refine d_nil ?_
                    refine run_sub (subMk (.cons (s := 2) rfl (.cons (s := 4) rfl (.cons (s := 6) rfl (.cons (s := 7) rfl (.cons (s := 8) rfl (.cons (s := 9) rfl (.cons (s := 10) rfl (.cons (s := 12) rfl (.cons (s := 13) rfl (.cons (s := 14) rfl (.cons (s := 15) rfl (.cons (s := 17) rfl (.cons (s := 110) rfl .nil))))))))))))) .refl) ?_
                    refine run_cond rfl (fun g110 => ?_) (fun g110 => ?_)
                    · have g110' := g110
                      try simp only [decide_eq_true_eq, decide_eq_false_iff_not, beq_iff_eq, beq_eq_false_iff_ne, bne_iff_ne, bne_eq_false_iff_eq, Bool.not_eq_true', Bool.not_eq_false', ne_eq, Int.not_lt, Int.not_le, Decidable.not_not] at g110'
                      refine run_region ?_
                      refine run_q (.none rfl) rfl rfl (q_assign rfl rfl) ?_
                      refine run_nil ?_
                      refine run_seq ?_
                      refine run_region ?_
                      refine run_q (.none rfl) rfl rfl (q_move rfl rfl) ?_
                      refine run_q (.none rfl) rfl rfl (q_move rfl rfl) ?_
                      refine run_q (.none rfl) rfl rfl (q_move rfl rfl) ?_
                      refine run_q (.none rfl) rfl rfl (q_move rfl rfl) ?_
                      refine run_q (.none rfl) rfl rfl (q_build rfl (.cons rfl (.cons rfl (.cons rfl PV.nil))) (built40p0p1p2 _ _ _)) ?_
                      refine run_h (.none rfl) (h_buildSlice rfl rfl rfl Try.underlying28 info40 (.cons rfl rfl rfl rfl Parts.nil) rfl (by omega)) ?_
                      rintro b116 -
                      refine run_h (.none rfl) (h_append rfl rfl rfl Try.underlying28 info40 rfl rfl (.there Sel.here) rfl (.own Sel.here) rfl (all1 rfl) (all1 rfl) (by omega) (by omega)) ?_
                      rintro ⟨A117, c117⟩ -
                      refine run_q (.none rfl) rfl rfl (q_assign rfl rfl) ?_
                      refine run_nil ?_
                      refine run_sub (subMk (.cons (s := 2) rfl (.cons (s := 4) rfl (.cons (s := 6) rfl (.cons (s := 7) rfl (.cons (s := 8) rfl (.cons (s := 9) rfl (.cons (s := 10) rfl (.cons (s := 12) rfl (.cons (s := 13) rfl (.cons (s := 14) rfl (.cons (s := 15) rfl .nil))))))))))) .refl) ?_
                      refine run_region ?_
                      refine run_q (.none rfl) rfl rfl (q_move rfl rfl) ?_
                      refine run_q (.none rfl) rfl rfl (q_add rfl rfl rfl (by omega)) ?_
                      refine run_q (.none rfl) rfl rfl (q_move rfl rfl) ?_
                      refine run_q (.none rfl) rfl rfl (q_add rfl rfl rfl (by omega)) ?_
                      refine run_q (.none rfl) rfl rfl (q_assign rfl rfl) ?_
                      refine run_q (.none rfl) rfl rfl (q_assign rfl rfl) ?_
                      refine run_nil ?_
                      refine run_sub (subMk (.cons (s := 2) rfl (.cons (s := 4) rfl (.cons (s := 6) rfl (.cons (s := 7) rfl (.cons (s := 8) rfl (.cons (s := 9) rfl (.cons (s := 10) rfl (.cons (s := 12) rfl (.cons (s := 13) rfl (.cons (s := 14) rfl (.cons (s := 15) rfl .nil))))))))))) .refl) ?_
                      refine run_blk ?_
                      refine run_blk ?_
                      refine run_region ?_
                      refine run_q (.none rfl) rfl rfl (q_move rfl rfl) ?_
                      refine run_q (.none rfl) rfl rfl (q_add rfl rfl rfl (by omega)) ?_
                      refine run_q (.none rfl) rfl rfl (q_assign rfl rfl) ?_
                      refine run_nil ?_
                      exact run_again (i + 1, k + 1, m + 1, A117, c117, o ++ [⟨2, i, k⟩]) (by (try dsimp only); exact ⟨by omega, by omega, fun r => by rw [List.append_assoc, hv]; exact errC_J (by omega) (by omega) (by rw [kindV, if_neg g110']), by simp; omega, by omega⟩) (by (try dsimp only); omega) (subMk (.cons' (s := 13) rfl rfl (.cons' (s := 14) rfl rfl (.cons' (s := 15) rfl rfl (.cons' (s := 12) rfl (by simp) (.cons (s := 2) rfl (.cons (s := 4) rfl (.cons (s := 6) rfl (.cons (s := 7) rfl (.cons (s := 8) rfl (.cons (s := 9) rfl (.cons (s := 10) rfl .nil))))))))))) (.cons Sel.here (.own rfl (by simp) rfl (by simp [Pair.enc, vlist])) (.cons (.there Sel.here) .refl (.cons (.there Sel.here) .refl (.cons (.there Sel.here) .refl .nil)))))
                    · have g110' := g110
                      try simp only [decide_eq_true_eq, decide_eq_false_iff_not, beq_iff_eq, beq_eq_false_iff_ne, bne_iff_ne, bne_eq_false_iff_eq, Bool.not_eq_true', Bool.not_eq_false', ne_eq, Int.not_lt, Int.not_le, Decidable.not_not] at g110'
                      refine run_skip ?_
                      refine run_seq ?_
                      refine run_region ?_
                      refine run_q (.none rfl) rfl rfl (q_move rfl rfl) ?_
                      refine run_q (.none rfl) rfl rfl (q_move rfl rfl) ?_
                      refine run_q (.none rfl) rfl rfl (q_move rfl rfl) ?_
                      refine run_q (.none rfl) rfl rfl (q_move rfl rfl) ?_
                      refine run_q (.none rfl) rfl rfl (q_build rfl (.cons rfl (.cons rfl (.cons rfl PV.nil))) (built40p0p1p2 _ _ _)) ?_
                      refine run_h (.none rfl) (h_buildSlice rfl rfl rfl Try.underlying28 info40 (.cons rfl rfl rfl rfl Parts.nil) rfl (by omega)) ?_
                      rintro b116 -
                      refine run_h (.none rfl) (h_append rfl rfl rfl Try.underlying28 info40 rfl rfl (.there Sel.here) rfl (.own Sel.here) rfl (all1 rfl) (all1 rfl) (by omega) (by omega)) ?_
                      rintro ⟨A117, c117⟩ -
                      refine run_q (.none rfl) rfl rfl (q_assign rfl rfl) ?_
                      refine run_nil ?_
                      refine run_sub (subMk (.cons (s := 2) rfl (.cons (s := 4) rfl (.cons (s := 6) rfl (.cons (s := 7) rfl (.cons (s := 8) rfl (.cons (s := 9) rfl (.cons (s := 10) rfl (.cons (s := 12) rfl (.cons (s := 13) rfl (.cons (s := 14) rfl (.cons (s := 15) rfl .nil))))))))))) .refl) ?_
                      refine run_region ?_
                      refine run_q (.none rfl) rfl rfl (q_move rfl rfl) ?_
                      refine run_q (.none rfl) rfl rfl (q_add rfl rfl rfl (by omega)) ?_
                      refine run_q (.none rfl) rfl rfl (q_move rfl rfl) ?_
                      refine run_q (.none rfl) rfl rfl (q_add rfl rfl rfl (by omega)) ?_
                      refine run_q (.none rfl) rfl rfl (q_assign rfl rfl) ?_
                      refine run_q (.none rfl) rfl rfl (q_assign rfl rfl) ?_
                      refine run_nil ?_
                      refine run_sub (subMk (.cons (s := 2) rfl (.cons (s := 4) rfl (.cons (s := 6) rfl (.cons (s := 7) rfl (.cons (s := 8) rfl (.cons (s := 9) rfl (.cons (s := 10) rfl (.cons (s := 12) rfl (.cons (s := 13) rfl (.cons (s := 14) rfl (.cons (s := 15) rfl .nil))))))))))) .refl) ?_
                      refine run_blk ?_
                      refine run_blk ?_
                      refine run_region ?_
                      refine run_q (.none rfl) rfl rfl (q_move rfl rfl) ?_
                      refine run_q (.none rfl) rfl rfl (q_add rfl rfl rfl (by omega)) ?_
                      refine run_q (.none rfl) rfl rfl (q_assign rfl rfl) ?_
                      refine run_nil ?_
                      exact run_again (i + 1, k + 1, m + 1, A117, c117, o ++ [⟨1, i, k⟩]) (by (try dsimp only); exact ⟨by omega, by omega, fun r => by rw [List.append_assoc, hv]; exact errC_J (by omega) (by omega) (by rw [kindV, if_pos g110']), by simp; omega, by omega⟩) (by (try dsimp only); omega) (subMk (.cons' (s := 13) rfl rfl (.cons' (s := 14) rfl rfl (.cons' (s := 15) rfl rfl (.cons' (s := 12) rfl (by simp) (.cons (s := 2) rfl (.cons (s := 4) rfl (.cons (s := 6) rfl (.cons (s := 7) rfl (.cons (s := 8) rfl (.cons (s := 9) rfl (.cons (s := 10) rfl .nil))))))))))) (.cons Sel.here (.own rfl (by simp) rfl (by simp [Pair.enc, vlist])) (.cons (.there Sel.here) .refl (.cons (.there Sel.here) .refl (.cons (.there Sel.here) .refl .nil)))))
                  · have g85' := g85
                    try simp only [decide_eq_true_eq, decide_eq_false_iff_not, beq_iff_eq, beq_eq_false_iff_ne, bne_iff_ne, bne_eq_false_iff_eq, Bool.not_eq_true', Bool.not_eq_false', ne_eq, Int.not_lt, Int.not_le, Decidable.not_not] at g85'
                    refine run_seq ?_
                    refine run_region ?_
                    refine run_q (.none rfl) rfl rfl (q_move rfl rfl) ?_
                    refine run_q (.none rfl) rfl rfl (q_eql rfl rfl rfl) ?_
                    refine run_q (.none rfl) rfl rfl (q_move rfl rfl) ?_
                    refine run_split 125 rfl (fun g125 => ?_) (fun g125 => ?_)
                    · have g125' := g125
                      try simp only [decide_eq_true_eq, decide_eq_false_iff_not, beq_iff_eq, beq_eq_false_iff_ne, bne_iff_ne, bne_eq_false_iff_eq, Bool.not_eq_true', Bool.not_eq_false', ne_eq, Int.not_lt, Int.not_le, Decidable.not_not] at g125'
                      refine run_off (.no rfl rfl rfl g125) rfl rfl ?_
                      refine run_off (.no rfl rfl rfl g125) rfl rfl ?_
                      refine run_off (.no rfl rfl rfl g125) rfl rfl ?_
                      refine run_off (.no rfl rfl rfl g125) rfl rfl ?_
                      refine run_q (.none rfl) rfl rfl (q_pickT rfl rfl g125 rfl) ?_
                      refine run_q (.none rfl) rfl rfl (q_move rfl rfl) ?_
                      refine run_q (.on rfl rfl rfl rfl) rfl rfl (q_move rfl rfl) ?_
                      refine run_q (.on rfl rfl rfl rfl) rfl rfl (q_move rfl rfl) ?_
                      refine run_q (.on rfl rfl rfl rfl) rfl rfl (q_len rfl Try.underlying22 rfl) ?_
                      refine run_q (.on rfl rfl rfl rfl) rfl rfl (q_lss rfl rfl rfl) ?_
                      refine run_q (.none rfl) rfl rfl (q_pickT rfl rfl rfl rfl) ?_
                      refine run_q (.none rfl) rfl rfl (q_assign rfl rfl) ?_
                      refine run_nil ?_
                      refine run_sub (subMk (.cons (s := 2) rfl (.cons (s := 4) rfl (.cons (s := 6) rfl (.cons (s := 7) rfl (.cons (s := 8) rfl (.cons (s := 9) rfl (.cons (s := 10) rfl (.cons (s := 12) rfl (.cons (s := 13) rfl (.cons (s := 14) rfl (.cons (s := 15) rfl (.cons (s := 122) rfl .nil)))))))))))) .refl) ?_
                      refine run_cond rfl (fun g122 => ?_) (fun g122 => ?_)
                      · have g122' := g122
                        try simp only [decide_eq_true_eq, decide_eq_false_iff_not, beq_iff_eq, beq_eq_false_iff_ne, bne_iff_ne, bne_eq_false_iff_eq, Bool.not_eq_true', Bool.not_eq_false', ne_eq, Int.not_lt, Int.not_le, Decidable.not_not] at g122'
                        refine run_seq ?_
                        refine run_region ?_
                        refine run_q (.none rfl) rfl rfl (q_move rfl rfl) ?_
                        refine run_q (.none rfl) rfl rfl (q_move rfl rfl) ?_
                        refine run_q (.none rfl) rfl rfl (q_build rfl (.cons rfl (.cons rfl (.cons rfl PV.nil))) (built40p0p1p2 _ _ _)) ?_
                        refine run_h (.none rfl) (h_buildSlice rfl rfl rfl Try.underlying28 info40 (.cons rfl rfl rfl rfl Parts.nil) rfl (by omega)) ?_
                        rintro b140 -
                        refine run_h (.none rfl) (h_append rfl rfl rfl Try.underlying28 info40 rfl rfl (.there Sel.here) rfl (.own Sel.here) rfl (all1 rfl) (all1 rfl) (by omega) (by omega)) ?_
                        rintro ⟨A141, c141⟩ -
                        refine run_q (.none rfl) rfl rfl (q_assign rfl rfl) ?_
                        refine run_nil ?_
                        refine run_sub (subMk (.cons (s := 2) rfl (.cons (s := 4) rfl (.cons (s := 6) rfl (.cons (s := 7) rfl (.cons (s := 8) rfl (.cons (s := 9) rfl (.cons (s := 10) rfl (.cons (s := 12) rfl (.cons (s := 13) rfl (.cons (s := 14) rfl (.cons (s := 15) rfl .nil))))))))))) .refl) ?_
                        refine run_region ?_
                        refine run_q (.none rfl) rfl rfl (q_move rfl rfl) ?_
                        refine run_q (.none rfl) rfl rfl (q_add rfl rfl rfl (by omega)) ?_
                        refine run_q (.none rfl) rfl rfl (q_assign rfl rfl) ?_
                        refine run_nil ?_
                        refine run_blk ?_
                        refine run_blk ?_
                        refine run_region ?_
                        refine run_q (.none rfl) rfl rfl (q_move rfl rfl) ?_
                        refine run_q (.none rfl) rfl rfl (q_add rfl rfl rfl (by omega)) ?_
                        refine run_q (.none rfl) rfl rfl (q_assign rfl rfl) ?_
                        refine run_nil ?_
                        refine run_sub (subMk (.cons (s := 2) rfl (.cons (s := 4) rfl (.cons (s := 6) rfl (.cons (s := 7) rfl (.cons (s := 8) rfl (.cons (s := 9) rfl (.cons (s := 10) rfl (.cons (s := 12) rfl (.cons (s := 13) rfl (.cons (s := 14) rfl (.cons (s := 15) rfl .nil))))))))))) .refl) ?_
                        exact run_again (i + 1, k, m + 1, A141, c141, o ++ [⟨3, i, -1⟩]) (by (try dsimp only); exact ⟨by omega, by omega, fun r => by rw [List.append_assoc, hv]; exact errC_3 (by omega), by simp; omega, by omega⟩) (by (try dsimp only); omega) (subMk (.cons' (s := 13) rfl rfl (.cons' (s := 14) rfl rfl (.cons' (s := 15) rfl rfl (.cons' (s := 12) rfl (by simp) (.cons (s := 2) rfl (.cons (s := 4) rfl (.cons (s := 6) rfl (.cons (s := 7) rfl (.cons (s := 8) rfl (.cons (s := 9) rfl (.cons (s := 10) rfl .nil))))))))))) (.cons Sel.here (.own rfl (by simp) rfl (by simp [Pair.enc, vlist])) (.cons (.there Sel.here) .refl (.cons (.there Sel.here) .refl (.cons (.there Sel.here) .refl .nil)))))
                      · have g122' := g122
                        try simp only [decide_eq_true_eq, decide_eq_false_iff_not, beq_iff_eq, beq_eq_false_iff_ne, bne_iff_ne, bne_eq_false_iff_eq, Bool.not_eq_true', Bool.not_eq_false', ne_eq, Int.not_lt, Int.not_le, Decidable.not_not] at g122'
                        refine run_seq ?_
                        refine run_region ?_
                        refine run_q (.none rfl) rfl rfl (q_move rfl rfl) ?_
                        refine run_q (.none rfl) rfl rfl (q_move rfl rfl) ?_
                        refine run_q (.none rfl) rfl rfl (q_len rfl Try.underlying22 rfl) ?_
                        refine run_q (.none rfl) rfl rfl (q_lss rfl rfl rfl) ?_
                        refine run_q (.none rfl) rfl rfl (q_assign rfl rfl) ?_
                        refine run_nil ?_
                        refine run_sub (subMk (.cons (s := 2) rfl (.cons (s := 4) rfl (.cons (s := 6) rfl (.cons (s := 7) rfl (.cons (s := 8) rfl (.cons (s := 9) rfl (.cons (s := 10) rfl (.cons (s := 12) rfl (.cons (s := 13) rfl (.cons (s := 14) rfl (.cons (s := 15) rfl (.cons (s := 144) rfl .nil)))))))))))) .refl) ?_
                        refine run_condT rfl (decide_eq_true (by omega)) ?_
                        refine run_seq ?_
                        refine run_region ?_
                        refine run_q (.none rfl) rfl rfl (q_move rfl rfl) ?_
                        refine run_q (.none rfl) rfl rfl (q_move rfl rfl) ?_
                        refine run_q (.none rfl) rfl rfl (q_build rfl (.cons rfl (.cons rfl (.cons rfl PV.nil))) (built40p0p1p2 _ _ _)) ?_
                        refine run_h (.none rfl) (h_buildSlice rfl rfl rfl Try.underlying28 info40 (.cons rfl rfl rfl rfl Parts.nil) rfl (by omega)) ?_
                        rintro b152 -
                        refine run_h (.none rfl) (h_append rfl rfl rfl Try.underlying28 info40 rfl rfl (.there Sel.here) rfl (.own Sel.here) rfl (all1 rfl) (all1 rfl) (by omega) (by omega)) ?_
                        rintro ⟨A153, c153⟩ -
                        refine run_q (.none rfl) rfl rfl (q_assign rfl rfl) ?_
                        refine run_nil ?_
                        refine run_sub (subMk (.cons (s := 2) rfl (.cons (s := 4) rfl (.cons (s := 6) rfl (.cons (s := 7) rfl (.cons (s := 8) rfl (.cons (s := 9) rfl (.cons (s := 10) rfl (.cons (s := 12) rfl (.cons (s := 13) rfl (.cons (s := 14) rfl (.cons (s := 15) rfl .nil))))))))))) .refl) ?_
                        refine run_region ?_
                        refine run_q (.none rfl) rfl rfl (q_move rfl rfl) ?_
                        refine run_q (.none rfl) rfl rfl (q_add rfl rfl rfl (by omega)) ?_
                        refine run_q (.none rfl) rfl rfl (q_assign rfl rfl) ?_
                        refine run_nil ?_
                        refine run_blk ?_
                        refine run_blk ?_
                        refine run_region ?_
                        refine run_q (.none rfl) rfl rfl (q_move rfl rfl) ?_
                        refine run_q (.none rfl) rfl rfl (q_add rfl rfl rfl (by omega)) ?_
                        refine run_q (.none rfl) rfl rfl (q_assign rfl rfl) ?_
                        refine run_nil ?_
                        refine run_sub (subMk (.cons (s := 2) rfl (.cons (s := 4) rfl (.cons (s := 6) rfl (.cons (s := 7) rfl (.cons (s := 8) rfl (.cons (s := 9) rfl (.cons (s := 10) rfl (.cons (s := 12) rfl (.cons (s := 13) rfl (.cons (s := 14) rfl (.cons (s := 15) rfl .nil))))))))))) .refl) ?_
                        exact run_again (i, k + 1, m + 1, A153, c153, o ++ [⟨4, -1, k⟩]) (by (try dsimp only); exact ⟨by omega, by omega, fun r => by rw [List.append_assoc, hv]; exact errC_4 (by omega), by simp; omega, by omega⟩) (by (try dsimp only); omega) (subMk (.cons' (s := 13) rfl rfl (.cons' (s := 14) rfl rfl (.cons' (s := 15) rfl rfl (.cons' (s := 12) rfl (by simp) (.cons (s := 2) rfl (.cons (s := 4) rfl (.cons (s := 6) rfl (.cons (s := 7) rfl (.cons (s := 8) rfl (.cons (s := 9) rfl (.cons (s := 10) rfl .nil))))))))))) (.cons Sel.here (.own rfl (by simp) rfl (by simp [Pair.enc, vlist])) (.cons (.there Sel.here) .refl (.cons (.there Sel.here) .refl (.cons (.there Sel.here) .refl .nil)))))
                    · have g125' := g125
                      try simp only [decide_eq_true_eq, decide_eq_false_iff_not, beq_iff_eq, beq_eq_false_iff_ne, bne_iff_ne, bne_eq_false_iff_eq, Bool.not_eq_true', Bool.not_eq_false', ne_eq, Int.not_lt, Int.not_le, Decidable.not_not] at g125'
                      refine run_q (.on rfl rfl rfl g125) rfl rfl (q_move rfl rfl) ?_
                      refine run_q (.on rfl rfl rfl g125) rfl rfl (q_move rfl rfl) ?_
                      refine run_q (.on rfl rfl rfl g125) rfl rfl (q_len rfl Try.underlying22 rfl) ?_
                      refine run_q (.on rfl rfl rfl g125) rfl rfl (q_eql rfl rfl rfl) ?_
                      refine run_q (.none rfl) rfl rfl (q_pickF rfl rfl g125 rfl) ?_
                      refine run_q (.none rfl) rfl rfl (q_move rfl rfl) ?_
                      refine run_split 131 rfl (fun g131 => ?_) (fun g131 => ?_)
                      · have g131' := g131
                        try simp only [decide_eq_true_eq, decide_eq_false_iff_not, beq_iff_eq, beq_eq_false_iff_ne, bne_iff_ne, bne_eq_false_iff_eq, Bool.not_eq_true', Bool.not_eq_false', ne_eq, Int.not_lt, Int.not_le, Decidable.not_not] at g131'
                        refine run_q (.on rfl rfl rfl g131) rfl rfl (q_move rfl rfl) ?_
                        refine run_q (.on rfl rfl rfl g131) rfl rfl (q_move rfl rfl) ?_
                        refine run_q (.on rfl rfl rfl g131) rfl rfl (q_len rfl Try.underlying22 rfl) ?_
                        refine run_q (.on rfl rfl rfl g131) rfl rfl (q_lss rfl rfl rfl) ?_
                        refine run_q (.none rfl) rfl rfl (q_pickT rfl rfl g131 rfl) ?_
                        refine run_q (.none rfl) rfl rfl (q_assign rfl rfl) ?_
                        refine run_nil ?_
                        refine run_sub (subMk (.cons (s := 2) rfl (.cons (s := 4) rfl (.cons (s := 6) rfl (.cons (s := 7) rfl (.cons (s := 8) rfl (.cons (s := 9) rfl (.cons (s := 10) rfl (.cons (s := 12) rfl (.cons (s := 13) rfl (.cons (s := 14) rfl (.cons (s := 15) rfl (.cons (s := 122) rfl .nil)))))))))))) .refl) ?_
                        refine run_cond rfl (fun g122 => ?_) (fun g122 => ?_)
                        · have g122' := g122
                          try simp only [decide_eq_true_eq, decide_eq_false_iff_not, beq_iff_eq, beq_eq_false_iff_ne, bne_iff_ne, bne_eq_false_iff_eq, Bool.not_eq_true', Bool.not_eq_false', ne_eq, Int.not_lt, Int.not_le, Decidable.not_not] at g122'
                          refine run_seq ?_
                          refine run_region ?_
                          refine run_q (.none rfl) rfl rfl (q_move rfl rfl) ?_
                          refine run_q (.none rfl) rfl rfl (q_move rfl rfl) ?_
                          refine run_q (.none rfl) rfl rfl (q_build rfl (.cons rfl (.cons rfl (.cons rfl PV.nil))) (built40p0p1p2 _ _ _)) ?_
                          refine run_h (.none rfl) (h_buildSlice rfl rfl rfl Try.underlying28 info40 (.cons rfl rfl rfl rfl Parts.nil) rfl (by omega)) ?_
                          rintro b140 -
                          refine run_h (.none rfl) (h_append rfl rfl rfl Try.underlying28 info40 rfl rfl (.there Sel.here) rfl (.own Sel.here) rfl (all1 rfl) (all1 rfl) (by omega) (by omega)) ?_
                          rintro ⟨A141, c141⟩ -
                          refine run_q (.none rfl) rfl rfl (q_assign rfl rfl) ?_
                          refine run_nil ?_
                          refine run_sub (subMk (.cons (s := 2) rfl (.cons (s := 4) rfl (.cons (s := 6) rfl (.cons (s := 7) rfl (.cons (s := 8) rfl (.cons (s := 9) rfl (.cons (s := 10) rfl (.cons (s := 12) rfl (.cons (s := 13) rfl (.cons (s := 14) rfl (.cons (s := 15) rfl .nil))))))))))) .refl) ?_
                          refine run_region ?_
                          refine run_q (.none rfl) rfl rfl (q_move rfl rfl) ?_
                          refine run_q (.none rfl) rfl rfl (q_add rfl rfl rfl (by omega)) ?_
                          refine run_q (.none rfl) rfl rfl (q_assign rfl rfl) ?_
                          refine run_nil ?_
                          refine run_blk ?_
                          refine run_blk ?_
                          refine run_region ?_
                          refine run_q (.none rfl) rfl rfl (q_move rfl rfl) ?_
                          refine run_q (.none rfl) rfl rfl (q_add rfl rfl rfl (by omega)) ?_
                          refine run_q (.none rfl) rfl rfl (q_assign rfl rfl) ?_
                          refine run_nil ?_
                          refine run_sub (subMk (.cons (s := 2) rfl (.cons (s := 4) rfl (.cons (s := 6) rfl (.cons (s := 7) rfl (.cons (s := 8) rfl (.cons (s := 9) rfl (.cons (s := 10) rfl (.cons (s := 12) rfl (.cons (s := 13) rfl (.cons (s := 14) rfl (.cons (s := 15) rfl .nil))))))))))) .refl) ?_
                          exact run_again (i + 1, k, m + 1, A141, c141, o ++ [⟨3, i, -1⟩]) (by (try dsimp only); exact ⟨by omega, by omega, fun r => by rw [List.append_assoc, hv]; exact errC_3 (by omega), by simp; omega, by omega⟩) (by (try dsimp only); omega) (subMk (.cons' (s := 13) rfl rfl (.cons' (s := 14) rfl rfl (.cons' (s := 15) rfl rfl (.cons' (s := 12) rfl (by simp) (.cons (s := 2) rfl (.cons (s := 4) rfl (.cons (s := 6) rfl (.cons (s := 7) rfl (.cons (s := 8) rfl (.cons (s := 9) rfl (.cons (s := 10) rfl .nil))))))))))) (.cons Sel.here (.own rfl (by simp) rfl (by simp [Pair.enc, vlist])) (.cons (.there Sel.here) .refl (.cons (.there Sel.here) .refl (.cons (.there Sel.here) .refl .nil)))))
                        · have g122' := g122
                          try simp only [decide_eq_true_eq, decide_eq_false_iff_not, beq_iff_eq, beq_eq_false_iff_ne, bne_iff_ne, bne_eq_false_iff_eq, Bool.not_eq_true', Bool.not_eq_false', ne_eq, Int.not_lt, Int.not_le, Decidable.not_not] at g122'
                          refine run_seq ?_
                          refine run_region ?_
                          refine run_q (.none rfl) rfl rfl (q_move rfl rfl) ?_
                          refine run_q (.none rfl) rfl rfl (q_move rfl rfl) ?_
                          refine run_q (.none rfl) rfl rfl (q_len rfl Try.underlying22 rfl) ?_
                          refine run_q (.none rfl) rfl rfl (q_lss rfl rfl rfl) ?_
                          refine run_q (.none rfl) rfl rfl (q_assign rfl rfl) ?_
                          refine run_nil ?_
                          refine run_sub (subMk (.cons (s := 2) rfl (.cons (s := 4) rfl (.cons (s := 6) rfl (.cons (s := 7) rfl (.cons (s := 8) rfl (.cons (s := 9) rfl (.cons (s := 10) rfl (.cons (s := 12) rfl (.cons (s := 13) rfl (.cons (s := 14) rfl (.cons (s := 15) rfl (.cons (s := 144) rfl .nil)))))))))))) .refl) ?_
                          refine run_condT rfl (decide_eq_true (by omega)) ?_
                          refine run_seq ?_
                          refine run_region ?_
                          refine run_q (.none rfl) rfl rfl (q_move rfl rfl) ?_
                          refine run_q (.none rfl) rfl rfl (q_move rfl rfl) ?_
                          refine run_q (.none rfl) rfl rfl (q_build rfl (.cons rfl (.cons rfl (.cons rfl PV.nil))) (built40p0p1p2 _ _ _)) ?_
                          refine run_h (.none rfl) (h_buildSlice rfl rfl rfl Try.underlying28 info40 (.cons rfl rfl rfl rfl Parts.nil) rfl (by omega)) ?_
                          rintro b152 -
                          refine run_h (.none rfl) (h_append rfl rfl rfl Try.underlying28 info40 rfl rfl (.there Sel.here) rfl (.own Sel.here) rfl (all1 rfl) (all1 rfl) (by omega) (by omega)) ?_
                          rintro ⟨A153, c153⟩ -
                          refine run_q (.none rfl) rfl rfl (q_assign rfl rfl) ?_
                          refine run_nil ?_
                          refine run_sub (subMk (.cons (s := 2) rfl (.cons (s := 4) rfl (.cons (s := 6) rfl (.cons (s := 7) rfl (.cons (s := 8) rfl (.cons (s := 9) rfl (.cons (s := 10) rfl (.cons (s := 12) rfl (.cons (s := 13) rfl (.cons (s := 14) rfl (.cons (s := 15) rfl .nil))))))))))) .refl) ?_
                          refine run_region ?_
                          refine run_q (.none rfl) rfl rfl (q_move rfl rfl) ?_
                          refine run_q (.none rfl) rfl rfl (q_add rfl rfl rfl (by omega)) ?_
                          refine run_q (.none rfl) rfl rfl (q_assign rfl rfl) ?_
                          refine run_nil ?_
                          refine run_blk ?_
                          refine run_blk ?_
                          refine run_region ?_
                          refine run_q (.none rfl) rfl rfl (q_move rfl rfl) ?_
                          refine run_q (.none rfl) rfl rfl (q_add rfl rfl rfl (by omega)) ?_
                          refine run_q (.none rfl) rfl rfl (q_assign rfl rfl) ?_
                          refine run_nil ?_
                          refine run_sub (subMk (.cons (s := 2) rfl (.cons (s := 4) rfl (.cons (s := 6) rfl (.cons (s := 7) rfl (.cons (s := 8) rfl (.cons (s := 9) rfl (.cons (s := 10) rfl (.cons (s := 12) rfl (.cons (s := 13) rfl (.cons (s := 14) rfl (.cons (s := 15) rfl .nil))))))))))) .refl) ?_
                          exact run_again (i, k + 1, m + 1, A153, c153, o ++ [⟨4, -1, k⟩]) (by (try dsimp only); exact ⟨by omega, by omega, fun r => by rw [List.append_assoc, hv]; exact errC_4 (by omega), by simp; omega, by omega⟩) (by (try dsimp only); omega) (subMk (.cons' (s := 13) rfl rfl (.cons' (s := 14) rfl rfl (.cons' (s := 15) rfl rfl (.cons' (s := 12) rfl (by simp) (.cons (s := 2) rfl (.cons (s := 4) rfl (.cons (s := 6) rfl (.cons (s := 7) rfl (.cons (s := 8) rfl (.cons (s := 9) rfl (.cons (s := 10) rfl .nil))))))))))) (.cons Sel.here (.own rfl (by simp) rfl (by simp [Pair.enc, vlist])) (.cons (.there Sel.here) .refl (.cons (.there Sel.here) .refl (.cons (.there Sel.here) .refl .nil)))))
                      · have g131' := g131
                        try simp only [decide_eq_true_eq, decide_eq_false_iff_not, beq_iff_eq, beq_eq_false_iff_ne, bne_iff_ne, bne_eq_false_iff_eq, Bool.not_eq_true', Bool.not_eq_false', ne_eq, Int.not_lt, Int.not_le, Decidable.not_not] at g131'
                        refine run_off (.no rfl rfl rfl g131) rfl rfl ?_
                        refine run_off (.no rfl rfl rfl g131) rfl rfl ?_
                        refine run_off (.no rfl rfl rfl g131) rfl rfl ?_
                        refine run_off (.no rfl rfl rfl g131) rfl rfl ?_
                        refine run_q (.none rfl) rfl rfl (q_pickF rfl rfl g131 rfl) ?_
                        refine run_q (.none rfl) rfl rfl (q_assign rfl rfl) ?_
                        refine run_nil ?_
                        refine run_sub (subMk (.cons (s := 2) rfl (.cons (s := 4) rfl (.cons (s := 6) rfl (.cons (s := 7) rfl (.cons (s := 8) rfl (.cons (s := 9) rfl (.cons (s := 10) rfl (.cons (s := 12) rfl (.cons (s := 13) rfl (.cons (s := 14) rfl (.cons (s := 15) rfl (.cons (s := 122) rfl .nil)))))))))))) .refl) ?_
                        refine run_condF rfl rfl ?_
                        refine run_seq ?_
                        refine run_region ?_
                        refine run_q (.none rfl) rfl rfl (q_move rfl rfl) ?_
                        refine run_q (.none rfl) rfl rfl (q_move rfl rfl) ?_
                        refine run_q (.none rfl) rfl rfl (q_len rfl Try.underlying22 rfl) ?_
                        refine run_q (.none rfl) rfl rfl (q_lss rfl rfl rfl) ?_
                        refine run_q (.none rfl) rfl rfl (q_assign rfl rfl) ?_
                        refine run_nil ?_
                        refine run_sub (subMk (.cons (s := 2) rfl (.cons (s := 4) rfl (.cons (s := 6) rfl (.cons (s := 7) rfl (.cons (s := 8) rfl (.cons (s := 9) rfl (.cons (s := 10) rfl (.cons (s := 12) rfl (.cons (s := 13) rfl (.cons (s := 14) rfl (.cons (s := 15) rfl (.cons (s := 144) rfl .nil)))))))))))) .refl) ?_
                        refine run_condT rfl (decide_eq_true (by omega)) ?_
                        refine run_seq ?_
                        refine run_region ?_
                        refine run_q (.none rfl) rfl rfl (q_move rfl rfl) ?_
                        refine run_q (.none rfl) rfl rfl (q_move rfl rfl) ?_
                        refine run_q (.none rfl) rfl rfl (q_build rfl (.cons rfl (.cons rfl (.cons rfl PV.nil))) (built40p0p1p2 _ _ _)) ?_
                        refine run_h (.none rfl) (h_buildSlice rfl rfl rfl Try.underlying28 info40 (.cons rfl rfl rfl rfl Parts.nil) rfl (by omega)) ?_
                        rintro b152 -
                        refine run_h (.none rfl) (h_append rfl rfl rfl Try.underlying28 info40 rfl rfl (.there Sel.here) rfl (.own Sel.here) rfl (all1 rfl) (all1 rfl) (by omega) (by omega)) ?_
                        rintro ⟨A153, c153⟩ -
                        refine run_q (.none rfl) rfl rfl (q_assign rfl rfl) ?_
                        refine run_nil ?_
                        refine run_sub (subMk (.cons (s := 2) rfl (.cons (s := 4) rfl (.cons (s := 6) rfl (.cons (s := 7) rfl (.cons (s := 8) rfl (.cons (s := 9) rfl (.cons (s := 10) rfl (.cons (s := 12) rfl (.cons (s := 13) rfl (.cons (s := 14) rfl (.cons (s := 15) rfl .nil))))))))))) .refl) ?_
                        refine run_region ?_
                        refine run_q (.none rfl) rfl rfl (q_move rfl rfl) ?_
                        refine run_q (.none rfl) rfl rfl (q_add rfl rfl rfl (by omega)) ?_
                        refine run_q (.none rfl) rfl rfl (q_assign rfl rfl) ?_
                        refine run_nil ?_
                        refine run_blk ?_
                        refine run_blk ?_
                        refine run_region ?_
                        refine run_q (.none rfl) rfl rfl (q_move rfl rfl) ?_
                        refine run_q (.none rfl) rfl rfl (q_add rfl rfl rfl (by omega)) ?_
                        refine run_q (.none rfl) rfl rfl (q_assign rfl rfl) ?_
                        refine run_nil ?_
                        refine run_sub (subMk (.cons (s := 2) rfl (.cons (s := 4) rfl (.cons (s := 6) rfl (.cons (s := 7) rfl (.cons (s := 8) rfl (.cons (s := 9) rfl (.cons (s := 10) rfl (.cons (s := 12) rfl (.cons (s := 13) rfl (.cons (s := 14) rfl (.cons (s := 15) rfl .nil))))))))))) .refl) ?_
                        exact run_again (i, k + 1, m + 1, A153, c153, o ++ [⟨4, -1, k⟩]) (by (try dsimp only); exact ⟨by omega, by omega, fun r => by rw [List.append_assoc, hv]; exact errC_4 (by omega), by simp; omega, by omega⟩) (by (try dsimp only); omega) (subMk (.cons' (s := 13) rfl rfl (.cons' (s := 14) rfl rfl (.cons' (s := 15) rfl rfl (.cons' (s := 12) rfl (by simp) (.cons (s := 2) rfl (.cons (s := 4) rfl (.cons (s := 6) rfl (.cons (s := 7) rfl (.cons (s := 8) rfl (.cons (s := 9) rfl (.cons (s := 10) rfl .nil))))))))))) (.cons Sel.here (.own rfl (by simp) rfl (by simp [Pair.enc, vlist])) (.cons (.there Sel.here) .refl (.cons (.there Sel.here) .refl (.cons (.there Sel.here) .refl .nil)))))
                · have g94' := g94
                  try simp only [decide_eq_true_eq, decide_eq_false_iff_not, beq_iff_eq, beq_eq_false_iff_ne, bne_iff_ne, bne_eq_false_iff_eq, Bool.not_eq_true', Bool.not_eq_false', ne_eq, Int.not_lt, Int.not_le, Decidable.not_not] at g94'
                  refine run_off (.no rfl rfl rfl g94) rfl rfl ?_
                  refine run_off (.no rfl rfl rfl g94) rfl rfl ?_
                  refine run_off (.no rfl rfl rfl g94) rfl rfl ?_
                  refine run_off (.no rfl rfl rfl g94) rfl rfl ?_
                  refine run_q (.none rfl) rfl rfl (q_pickF rfl rfl g94 rfl) ?_
                  refine run_q (.none rfl) rfl rfl (q_assign rfl rfl) ?_
                  refine run_nil ?_
                  refine run_sub (subMk (.cons (s := 2) rfl (.cons (s := 4) rfl (.cons (s := 6) rfl (.cons (s := 7) rfl (.cons (s := 8) rfl (.cons (s := 9) rfl (.cons (s := 10) rfl (.cons (s := 12) rfl (.cons (s := 13) rfl (.cons (s := 14) rfl (.cons (s := 15) rfl (.cons (s := 16) rfl (.cons (s := 85) rfl .nil))))))))))))) .refl) ?_
                  refine run_condF rfl rfl ?_
                  refine run_seq ?_
                  refine run_region ?_
                  refine run_q (.none rfl) rfl rfl (q_move rfl rfl) ?_
                  refine run_q (.none rfl) rfl rfl (q_eql rfl rfl rfl) ?_
                  refine run_q (.none rfl) rfl rfl (q_move rfl rfl) ?_
                  refine run_split 125 rfl (fun g125 => ?_) (fun g125 => ?_)
                  · have g125' := g125
                    try simp only [decide_eq_true_eq, decide_eq_false_iff_not, beq_iff_eq, beq_eq_false_iff_ne, bne_iff_ne, bne_eq_false_iff_eq, Bool.not_eq_true', Bool.not_eq_false', ne_eq, Int.not_lt, Int.not_le, Decidable.not_not] at g125'
                    refine run_off (.no rfl rfl rfl g125) rfl rfl ?_
                    refine run_off (.no rfl rfl rfl g125) rfl rfl ?_
                    refine run_off (.no rfl rfl rfl g125) rfl rfl ?_
                    refine run_off (.no rfl rfl rfl g125) rfl rfl ?_
                    refine run_q (.none rfl) rfl rfl (q_pickT rfl rfl g125 rfl) ?_
                    refine run_q (.none rfl) rfl rfl (q_move rfl rfl) ?_
                    refine run_q (.on rfl rfl rfl rfl) rfl rfl (q_move rfl rfl) ?_
                    refine run_q (.on rfl rfl rfl rfl) rfl rfl (q_move rfl rfl) ?_
                    refine run_q (.on rfl rfl rfl rfl) rfl rfl (q_len rfl Try.underlying22 rfl) ?_
                    refine run_q (.on rfl rfl rfl rfl) rfl rfl (q_lss rfl rfl rfl) ?_
                    refine run_q (.none rfl) rfl rfl (q_pickT rfl rfl rfl rfl) ?_
                    refine run_q (.none rfl) rfl rfl (q_assign rfl rfl) ?_
                    refine run_nil ?_
                    refine run_sub (subMk (.cons (s := 2) rfl (.cons (s := 4) rfl (.cons (s := 6) rfl (.cons (s := 7) rfl (.cons (s := 8) rfl (.cons (s := 9) rfl (.cons (s := 10) rfl (.cons (s := 12) rfl (.cons (s := 13) rfl (.cons (s := 14) rfl (.cons (s := 15) rfl (.cons (s := 122) rfl .nil)))))))))))) .refl) ?_
                    refine run_cond rfl (fun g122 => ?_) (fun g122 => ?_)
                    · have g122' := g122
                      try simp only [decide_eq_true_eq, decide_eq_false_iff_not, beq_iff_eq, beq_eq_false_iff_ne, bne_iff_ne, bne_eq_false_iff_eq, Bool.not_eq_true', Bool.not_eq_false', ne_eq, Int.not_lt, Int.not_le, Decidable.not_not] at g122'
                      refine run_seq ?_
                      refine run_region ?_
                      refine run_q (.none rfl) rfl rfl (q_move rfl rfl) ?_
                      refine run_q (.none rfl) rfl rfl (q_move rfl rfl) ?_
                      refine run_q (.none rfl) rfl rfl (q_build rfl (.cons rfl (.cons rfl (.cons rfl PV.nil))) (built40p0p1p2 _ _ _)) ?_
                      refine run_h (.none rfl) (h_buildSlice rfl rfl rfl Try.underlying28 info40 (.cons rfl rfl rfl rfl Parts.nil) rfl (by omega)) ?_
                      rintro b140 -
                      refine run_h (.none rfl) (h_append rfl rfl rfl Try.underlying28 info40 rfl rfl (.there Sel.here) rfl (.own Sel.here) rfl (all1 rfl) (all1 rfl) (by omega) (by omega)) ?_
                      rintro ⟨A141, c141⟩ -
                      refine run_q (.none rfl) rfl rfl (q_assign rfl rfl) ?_
                      refine run_nil ?_
                      refine run_sub (subMk (.cons (s := 2) rfl (.cons (s := 4) rfl (.cons (s := 6) rfl (.cons (s := 7) rfl (.cons (s := 8) rfl (.cons (s := 9) rfl (.cons (s := 10) rfl (.cons (s := 12) rfl (.cons (s := 13) rfl (.cons (s := 14) rfl (.cons (s := 15) rfl .nil))))))))))) .refl) ?_
                      refine run_region ?_
                      refine run_q (.none rfl) rfl rfl (q_move rfl rfl) ?_
                      refine run_q (.none rfl) rfl rfl (q_add rfl rfl rfl (by omega)) ?_
                      refine run_q (.none rfl) rfl rfl (q_assign rfl rfl) ?_
                      refine run_nil ?_
                      refine run_blk ?_
                      refine run_blk ?_
                      refine run_region ?_
                      refine run_q (.none rfl) rfl rfl (q_move rfl rfl) ?_
                      refine run_q (.none rfl) rfl rfl (q_add rfl rfl rfl (by omega)) ?_
                      refine run_q (.none rfl) rfl rfl (q_assign rfl rfl) ?_
                      refine run_nil ?_
                      refine run_sub (subMk (.cons (s := 2) rfl (.cons (s := 4) rfl (.cons (s := 6) rfl (.cons (s := 7) rfl (.cons (s := 8) rfl (.cons (s := 9) rfl (.cons (s := 10) rfl (.cons (s := 12) rfl (.cons (s := 13) rfl (.cons (s := 14) rfl (.cons (s := 15) rfl .nil))))))))))) .refl) ?_
                      exact run_again (i + 1, k, m + 1, A141, c141, o ++ [⟨3, i, -1⟩]) (by (try dsimp only); exact ⟨by omega, by omega, fun r => by rw [List.append_assoc, hv]; exact errC_3 (by omega), by simp; omega, by omega⟩) (by (try dsimp only); omega) (subMk (.cons' (s := 13) rfl rfl (.cons' (s := 14) rfl rfl (.cons' (s := 15) rfl rfl (.cons' (s := 12) rfl (by simp) (.cons (s := 2) rfl (.cons (s := 4) rfl (.cons (s := 6) rfl (.cons (s := 7) rfl (.cons (s := 8) rfl (.cons (s := 9) rfl (.cons (s := 10) rfl .nil))))))))))) (.cons Sel.here (.own rfl (by simp) rfl (by simp [Pair.enc, vlist])) (.cons (.there Sel.here) .refl (.cons (.there Sel.here) .refl (.cons (.there Sel.here) .refl .nil)))))
                    · have g122' := g122
                      try simp only [decide_eq_true_eq, decide_eq_false_iff_not, beq_iff_eq, beq_eq_false_iff_ne, bne_iff_ne, bne_eq_false_iff_eq, Bool.not_eq_true', Bool.not_eq_false', ne_eq, Int.not_lt, Int.not_le, Decidable.not_not] at g122'
                      refine run_seq ?_
                      refine run_region ?_
                      refine run_q (.none rfl) rfl rfl (q_move rfl rfl) ?_
                      refine run_q (.none rfl) rfl rfl (q_move rfl rfl) ?_
                      refine run_q (.none rfl) rfl rfl (q_len rfl Try.underlying22 rfl) ?_
                      refine run_q (.none rfl) rfl rfl (q_lss rfl rfl rfl) ?_
                      refine run_q (.none rfl) rfl rfl (q_assign rfl rfl) ?_
                      refine run_nil ?_
                      refine run_sub (subMk (.cons (s := 2) rfl (.cons (s := 4) rfl (.cons (s := 6) rfl (.cons (s := 7) rfl (.cons (s := 8) rfl (.cons (s := 9) rfl (.cons (s := 10) rfl (.cons (s := 12) rfl (.cons (s := 13) rfl (.cons (s := 14) rfl (.cons (s := 15) rfl (.cons (s := 144) rfl .nil)))))))))))) .refl) ?_
                      refine run_condT rfl (decide_eq_true (by omega)) ?_
                      refine run_seq ?_
                      refine run_region ?_
                      refine run_q (.none rfl) rfl rfl (q_move rfl rfl) ?_
                      refine run_q (.none rfl) rfl rfl (q_move rfl rfl) ?_
                      refine run_q (.none rfl) rfl rfl (q_build rfl (.cons rfl (.cons rfl (.cons rfl PV.nil))) (built40p0p1p2 _ _ _)) ?_
                      refine run_h (.none rfl) (h_buildSlice rfl rfl rfl Try.underlying28 info40 (.cons rfl rfl rfl rfl Parts.nil) rfl (by omega)) ?_
                      rintro b152 -
                      refine run_h (.none rfl) (h_append rfl rfl rfl Try.underlying28 info40 rfl rfl (.there Sel.here) rfl (.own Sel.here) rfl (all1 rfl) (all1 rfl) (by omega) (by omega)) ?_
                      rintro ⟨A153, c153⟩ -
                      refine run_q (.none rfl) rfl rfl (q_assign rfl rfl) ?_
                      refine run_nil ?_
                      refine run_sub (subMk (.cons (s := 2) rfl (.cons (s := 4) rfl (.cons (s := 6) rfl (.cons (s := 7) rfl (.cons (s := 8) rfl (.cons (s := 9) rfl (.cons (s := 10) rfl (.cons (s := 12) rfl (.cons (s := 13) rfl (.cons (s := 14) rfl (.cons (s := 15) rfl .nil))))))))))) .refl) ?_
                      refine run_region ?_
                      refine run_q (.none rfl) rfl rfl (q_move rfl rfl) ?_
                      refine run_q (.none rfl) rfl rfl (q_add rfl rfl rfl (by omega)) ?_
                      refine run_q (.none rfl) rfl rfl (q_assign rfl rfl) ?_
                      refine run_nil ?_
                      refine run_blk ?_
                      refine run_blk ?_
                      refine run_region ?_
                      refine run_q (.none rfl) rfl rfl (q_move rfl rfl) ?_
                      refine run_q (.none rfl) rfl rfl (q_add rfl rfl rfl (by omega)) ?_
                      refine run_q (.none rfl) rfl rfl (q_assign rfl rfl) ?_
                      refine run_nil ?_
                      refine run_sub (subMk (.cons (s := 2) rfl (.cons (s := 4) rfl (.cons (s := 6) rfl (.cons (s := 7) rfl (.cons (s := 8) rfl (.cons (s := 9) rfl (.cons (s := 10) rfl (.cons (s := 12) rfl (.cons (s := 13) rfl (.cons (s := 14) rfl (.cons (s := 15) rfl .nil))))))))))) .refl) ?_
                      exact run_again (i, k + 1, m + 1, A153, c153, o ++ [⟨4, -1, k⟩]) (by (try dsimp only); exact ⟨by omega, by omega, fun r => by rw [List.append_assoc, hv]; exact errC_4 (by omega), by simp; omega, by omega⟩) (by (try dsimp only); omega) (subMk (.cons' (s := 13) rfl rfl (.cons' (s := 14) rfl rfl (.cons' (s := 15) rfl rfl (.cons' (s := 12) rfl (by simp) (.cons (s := 2) rfl (.cons (s := 4) rfl (.cons (s := 6) rfl (.cons (s := 7) rfl (.cons (s := 8) rfl (.cons (s := 9) rfl (.cons (s := 10) rfl .nil))))))))))) (.cons Sel.here (.own rfl (by simp) rfl (by simp [Pair.enc, vlist])) (.cons (.there Sel.here) .refl (.cons (.there Sel.here) .refl (.cons (.there Sel.here) .refl .nil)))))
                  · have g125' := g125
                    try simp only [decide_eq_true_eq, decide_eq_false_iff_not, beq_iff_eq, beq_eq_false_iff_ne, bne_iff_ne, bne_eq_false_iff_eq, Bool.not_eq_true', Bool.not_eq_false', ne_eq, Int.not_lt, Int.not_le, Decidable.not_not] at g125'
                    refine run_q (.on rfl rfl rfl g125) rfl rfl (q_move rfl rfl) ?_
                    refine run_q (.on rfl rfl rfl g125) rfl rfl (q_move rfl rfl) ?_
                    refine run_q (.on rfl rfl rfl g125) rfl rfl (q_len rfl Try.underlying22 rfl) ?_
                    refine run_q (.on rfl rfl rfl g125) rfl rfl (q_eql rfl rfl rfl) ?_
                    refine run_q (.none rfl) rfl rfl (q_pickF rfl rfl g125 rfl) ?_
                    refine run_q (.none rfl) rfl rfl (q_move rfl rfl) ?_
                    refine run_split 131 rfl (fun g131 => ?_) (fun g131 => ?_)
                    · have g131' := g131
                      try simp only [decide_eq_true_eq, decide_eq_false_iff_not, beq_iff_eq, beq_eq_false_iff_ne, bne_iff_ne, bne_eq_false_iff_eq, Bool.not_eq_true', Bool.not_eq_false', ne_eq, Int.not_lt, Int.not_le, Decidable.not_not] at g131'
                      refine run_q (.on rfl rfl rfl g131) rfl rfl (q_move rfl rfl) ?_
                      refine run_q (.on rfl rfl rfl g131) rfl rfl (q_move rfl rfl) ?_
                      refine run_q (.on rfl rfl rfl g131) rfl rfl (q_len rfl Try.underlying22 rfl) ?_
                      refine run_q (.on rfl rfl rfl g131) rfl rfl (q_lss rfl rfl rfl) ?_
                      refine run_q (.none rfl) rfl rfl (q_pickT rfl rfl g131 rfl) ?_
                      refine run_q (.none rfl) rfl rfl (q_assign rfl rfl) ?_
                      refine run_nil ?_
                      refine run_sub (subMk (.cons (s := 2) rfl (.cons (s := 4) rfl (.cons (s := 6) rfl (.cons (s := 7) rfl (.cons (s := 8) rfl (.cons (s := 9) rfl (.cons (s := 10) rfl (.cons (s := 12) rfl (.cons (s := 13) rfl (.cons (s := 14) rfl (.cons (s := 15) rfl (.cons (s := 122) rfl .nil)))))))))))) .refl) ?_
                      refine run_cond rfl (fun g122 => ?_) (fun g122 => ?_)
                      · have g122' := g122
                        try simp only [decide_eq_true_eq, decide_eq_false_iff_not, beq_iff_eq, beq_eq_false_iff_ne, bne_iff_ne, bne_eq_false_iff_eq, Bool.not_eq_true', Bool.not_eq_false', ne_eq, Int.not_lt, Int.not_le, Decidable.not_not] at g122'
                        refine run_seq ?_
                        refine run_region ?_
                        refine run_q (.none rfl) rfl rfl (q_move rfl rfl) ?_
                        refine run_q (.none rfl) rfl rfl (q_move rfl rfl) ?_
                        refine run_q (.none rfl) rfl rfl (q_build rfl (.cons rfl (.cons rfl (.cons rfl PV.nil))) (built40p0p1p2 _ _ _)) ?_
                        refine run_h (.none rfl) (h_buildSlice rfl rfl rfl Try.underlying28 info40 (.cons rfl rfl rfl rfl Parts.nil) rfl (by omega)) ?_
                        rintro b140 -
                        refine run_h (.none rfl) (h_append rfl rfl rfl Try.underlying28 info40 rfl rfl (.there Sel.here) rfl (.own Sel.here) rfl (all1 rfl) (all1 rfl) (by omega) (by omega)) ?_
                        rintro ⟨A141, c141⟩ -
                        refine run_q (.none rfl) rfl rfl (q_assign rfl rfl) ?_
                        refine run_nil ?_
                        refine run_sub (subMk (.cons (s := 2) rfl (.cons (s := 4) rfl (.cons (s := 6) rfl (.cons (s := 7) rfl (.cons (s := 8) rfl (.cons (s := 9) rfl (.cons (s := 10) rfl (.cons (s := 12) rfl (.cons (s := 13) rfl (.cons (s := 14) rfl (.cons (s := 15) rfl .nil))))))))))) .refl) ?_
                        refine run_region ?_
                        refine run_q (.none rfl) rfl rfl (q_move rfl rfl) ?_
                        refine run_q (.none rfl) rfl rfl (q_add rfl rfl rfl (by omega)) ?_
                        refine run_q (.none rfl) rfl rfl (q_assign rfl rfl) ?_
                        refine run_nil ?_
                        refine run_blk ?_
                        refine run_blk ?_
                        refine run_region ?_
                        refine run_q (.none rfl) rfl rfl (q_move rfl rfl) ?_
                        refine run_q (.none rfl) rfl rfl (q_add rfl rfl rfl (by omega)) ?_
                        refine run_q (.none rfl) rfl rfl (q_assign rfl rfl) ?_
                        refine run_nil ?_
                        refine run_sub (subMk (.cons (s := 2) rfl (.cons (s := 4) rfl (.cons (s := 6) rfl (.cons (s := 7) rfl (.cons (s := 8) rfl (.cons (s := 9) rfl (.cons (s := 10) rfl (.cons (s := 12) rfl (.cons (s := 13) rfl (.cons (s := 14) rfl (.cons (s := 15) rfl .nil))))))))))) .refl) ?_
                        exact run_again (i + 1, k, m + 1, A141, c141, o ++ [⟨3, i, -1⟩]) (by (try dsimp only); exact ⟨by omega, by omega, fun r => by rw [List.append_assoc, hv]; exact errC_3 (by omega), by simp; omega, by omega⟩) (by (try dsimp only); omega) (subMk (.cons' (s := 13) rfl rfl (.cons' (s := 14) rfl rfl (.cons' (s := 15) rfl rfl (.cons' (s := 12) rfl (by simp) (.cons (s := 2) rfl (.cons (s := 4) rfl (.cons (s := 6) rfl (.cons (s := 7) rfl (.cons (s := 8) rfl (.cons (s := 9) rfl (.cons (s := 10) rfl .nil))))))))))) (.cons Sel.here (.own rfl (by simp) rfl (by simp [Pair.enc, vlist])) (.cons (.there Sel.here) .refl (.cons (.there Sel.here) .refl (.cons (.there Sel.here) .refl .nil)))))
                      · have g122' := g122
                        try simp only [decide_eq_true_eq, decide_eq_false_iff_not, beq_iff_eq, beq_eq_false_iff_ne, bne_iff_ne, bne_eq_false_iff_eq, Bool.not_eq_true', Bool.not_eq_false', ne_eq, Int.not_lt, Int.not_le, Decidable.not_not] at g122'
                        refine run_seq ?_
                        refine run_region ?_
                        refine run_q (.none rfl) rfl rfl (q_move rfl rfl) ?_
                        refine run_q (.none rfl) rfl rfl (q_move rfl rfl) ?_
                        refine run_q (.none rfl) rfl rfl (q_len rfl Try.underlying22 rfl) ?_
                        refine run_q (.none rfl) rfl rfl (q_lss rfl rfl rfl) ?_
                        refine run_q (.none rfl) rfl rfl (q_assign rfl rfl) ?_
                        refine run_nil ?_
                        refine run_sub (subMk (.cons (s := 2) rfl (.cons (s := 4) rfl (.cons (s := 6) rfl (.cons (s := 7) rfl (.cons (s := 8) rfl (.cons (s := 9) rfl (.cons (s := 10) rfl (.cons (s := 12) rfl (.cons (s := 13) rfl (.cons (s := 14) rfl (.cons (s := 15) rfl (.cons (s := 144) rfl .nil)))))))))))) .refl) ?_
                        refine run_condT rfl (decide_eq_true (by omega)) ?_
                        refine run_seq ?_
                        refine run_region ?_
                        refine run_q (.none rfl) rfl rfl (q_move rfl rfl) ?_
                        refine run_q (.none rfl) rfl rfl (q_move rfl rfl) ?_
                        refine run_q (.none rfl) rfl rfl (q_build rfl (.cons rfl (.cons rfl (.cons rfl PV.nil))) (built40p0p1p2 _ _ _)) ?_
                        refine run_h (.none rfl) (h_buildSlice rfl rfl rfl Try.underlying28 info40 (.cons rfl rfl rfl rfl Parts.nil) rfl (by omega)) ?_
                        rintro b152 -
                        refine run_h (.none rfl) (h_append rfl rfl rfl Try.underlying28 info40 rfl rfl (.there Sel.here) rfl (.own Sel.here) rfl (all1 rfl) (all1 rfl) (by omega) (by omega)) ?_
                        rintro ⟨A153, c153⟩ -
                        refine run_q (.none rfl) rfl rfl (q_assign rfl rfl) ?_
                        refine run_nil ?_
                        refine run_sub (subMk (.cons (s := 2) rfl (.cons (s := 4) rfl (.cons (s := 6) rfl (.cons (s := 7) rfl (.cons (s := 8) rfl (.cons (s := 9) rfl (.cons (s := 10) rfl (.cons (s := 12) rfl (.cons (s := 13) rfl (.cons (s := 14) rfl (.cons (s := 15) rfl .nil))))))))))) .refl) ?_
                        refine run_region ?_
                        refine run_q (.none rfl) rfl rfl (q_move rfl rfl) ?_
                        refine run_q (.none rfl) rfl rfl (q_add rfl rfl rfl (by omega)) ?_
                        refine run_q (.none rfl) rfl rfl (q_assign rfl rfl) ?_
                        refine run_nil ?_
                        refine run_blk ?_
                        refine run_blk ?_
                        refine run_region ?_
                        refine run_q (.none rfl) rfl rfl (q_move rfl rfl) ?_
                        refine run_q (.none rfl) rfl rfl (q_add rfl rfl rfl (by omega)) ?_
                        refine run_q (.none rfl) rfl rfl (q_assign rfl rfl) ?_
                        refine run_nil ?_
                        refine run_sub (subMk (.cons (s := 2) rfl (.cons (s := 4) rfl (.cons (s := 6) rfl (.cons (s := 7) rfl (.cons (s := 8) rfl (.cons (s := 9) rfl (.cons (s := 10) rfl (.cons (s := 12) rfl (.cons (s := 13) rfl (.cons (s := 14) rfl (.cons (s := 15) rfl .nil))))))))))) .refl) ?_
                        exact run_again (i, k + 1, m + 1, A153, c153, o ++ [⟨4, -1, k⟩]) (by (try dsimp only); exact ⟨by omega, by omega, fun r => by rw [List.append_assoc, hv]; exact errC_4 (by omega), by simp; omega, by omega⟩) (by (try dsimp only); omega) (subMk (.cons' (s := 13) rfl rfl (.cons' (s := 14) rfl rfl (.cons' (s := 15) rfl rfl (.cons' (s := 12) rfl (by simp) (.cons (s := 2) rfl (.cons (s := 4) rfl (.cons (s := 6) rfl (.cons (s := 7) rfl (.cons (s := 8) rfl (.cons (s := 9) rfl (.cons (s := 10) rfl .nil))))))))))) (.cons Sel.here (.own rfl (by simp) rfl (by simp [Pair.enc, vlist])) (.cons (.there Sel.here) .refl (.cons (.there Sel.here) .refl (.cons (.there Sel.here) .refl .nil)))))
                    · have g131' := g131
                      try simp only [decide_eq_true_eq, decide_eq_false_iff_not, beq_iff_eq, beq_eq_false_iff_ne, bne_iff_ne, bne_eq_false_iff_eq, Bool.not_eq_true', Bool.not_eq_false', ne_eq, Int.not_lt, Int.not_le, Decidable.not_not] at g131'
                      refine run_off (.no rfl rfl rfl g131) rfl rfl ?_
                      refine run_off (.no rfl rfl rfl g131) rfl rfl ?_
                      refine run_off (.no rfl rfl rfl g131) rfl rfl ?_
                      refine run_off (.no rfl rfl rfl g131) rfl rfl ?_
                      refine run_q (.none rfl) rfl rfl (q_pickF rfl rfl g131 rfl) ?_
                      refine run_q (.none rfl) rfl rfl (q_assign rfl rfl) ?_
                      refine run_nil ?_
                      refine run_sub (subMk (.cons (s := 2) rfl (.cons (s := 4) rfl (.cons (s := 6) rfl (.cons (s := 7) rfl (.cons (s := 8) rfl (.cons (s := 9) rfl (.cons (s := 10) rfl (.cons (s := 12) rfl (.cons (s := 13) rfl (.cons (s := 14) rfl (.cons (s := 15) rfl (.cons (s := 122) rfl .nil)))))))))))) .refl) ?_
                      refine run_condF rfl rfl ?_
                      refine run_seq ?_
                      refine run_region ?_
                      refine run_q (.none rfl) rfl rfl (q_move rfl rfl) ?_
                      refine run_q (.none rfl) rfl rfl (q_move rfl rfl) ?_
                      refine run_q (.none rfl) rfl rfl (q_len rfl Try.underlying22 rfl) ?_
                      refine run_q (.none rfl) rfl rfl (q_lss rfl rfl rfl) ?_
                      refine run_q (.none rfl) rfl rfl (q_assign rfl rfl) ?_
                      refine run_nil ?_
                      refine run_sub (subMk (.cons (s := 2) rfl (.cons (s := 4) rfl (.cons (s := 6) rfl (.cons (s := 7) rfl (.cons (s := 8) rfl (.cons (s := 9) rfl (.cons (s := 10) rfl (.cons (s := 12) rfl (.cons (s := 13) rfl (.cons (s := 14) rfl (.cons (s := 15) rfl (.cons (s := 144) rfl .nil)))))))))))) .refl) ?_
                      refine run_condT rfl (decide_eq_true (by omega)) ?_
                      refine run_seq ?_
                      refine run_region ?_
                      refine run_q (.none rfl) rfl rfl (q_move rfl rfl) ?_
                      refine run_q (.none rfl) rfl rfl (q_move rfl rfl) ?_
                      refine run_q (.none rfl) rfl rfl (q_build rfl (.cons rfl (.cons rfl (.cons rfl PV.nil))) (built40p0p1p2 _ _ _)) ?_
                      refine run_h (.none rfl) (h_buildSlice rfl rfl rfl Try.underlying28 info40 (.cons rfl rfl rfl rfl Parts.nil) rfl (by omega)) ?_
                      rintro b152 -
                      refine run_h (.none rfl) (h_append rfl rfl rfl Try.underlying28 info40 rfl rfl (.there Sel.here) rfl (.own Sel.here) rfl (all1 rfl) (all1 rfl) (by omega) (by omega)) ?_
                      rintro ⟨A153, c153⟩ -
                      refine run_q (.none rfl) rfl rfl (q_assign rfl rfl) ?_
                      refine run_nil ?_
                      refine run_sub (subMk (.cons (s := 2) rfl (.cons (s := 4) rfl (.cons (s := 6) rfl (.cons (s := 7) rfl (.cons (s := 8) rfl (.cons (s := 9) rfl (.cons (s := 10) rfl (.cons (s := 12) rfl (.cons (s := 13) rfl (.cons (s := 14) rfl (.cons (s := 15) rfl .nil))))))))))) .refl) ?_
                      refine run_region ?_
                      refine run_q (.none rfl) rfl rfl (q_move rfl rfl) ?_
                      refine run_q (.none rfl) rfl rfl (q_add rfl rfl rfl (by omega)) ?_
                      refine run_q (.none rfl) rfl rfl (q_assign rfl rfl) ?_
                      refine run_nil ?_
                      refine run_blk ?_
                      refine run_blk ?_
                      refine run_region ?_
                      refine run_q (.none rfl) rfl rfl (q_move rfl rfl) ?_
                      refine run_q (.none rfl) rfl rfl (q_add rfl rfl rfl (by omega)) ?_
                      refine run_q (.none rfl) rfl rfl (q_assign rfl rfl) ?_
                      refine run_nil ?_
                      refine run_sub (subMk (.cons (s := 2) rfl (.cons (s := 4) rfl (.cons (s := 6) rfl (.cons (s := 7) rfl (.cons (s := 8) rfl (.cons (s := 9) rfl (.cons (s := 10) rfl (.cons (s := 12) rfl (.cons (s := 13) rfl (.cons (s := 14) rfl (.cons (s := 15) rfl .nil))))))))))) .refl) ?_
                      exact run_again (i, k + 1, m + 1, A153, c153, o ++ [⟨4, -1, k⟩]) (by (try dsimp only); exact ⟨by omega, by omega, fun r => by rw [List.append_assoc, hv]; exact errC_4 (by omega), by simp; omega, by omega⟩) (by (try dsimp only); omega) (subMk (.cons' (s := 13) rfl rfl (.cons' (s := 14) rfl rfl (.cons' (s := 15) rfl rfl (.cons' (s := 12) rfl (by simp) (.cons (s := 2) rfl (.cons (s := 4) rfl (.cons (s := 6) rfl (.cons (s := 7) rfl (.cons (s := 8) rfl (.cons (s := 9) rfl (.cons (s := 10) rfl .nil))))))))))) (.cons Sel.here (.own rfl (by simp) rfl (by simp [Pair.enc, vlist])) (.cons (.there Sel.here) .refl (.cons (.there Sel.here) .refl (.cons (.there Sel.here) .refl .nil)))))
              · have g88' := g88
                try simp only [decide_eq_true_eq, decide_eq_false_iff_not, beq_iff_eq, beq_eq_false_iff_ne, bne_iff_ne, bne_eq_false_iff_eq, Bool.not_eq_true', Bool.not_eq_false', ne_eq, Int.not_lt, Int.not_le, Decidable.not_not] at g88'
                refine run_off (.no rfl rfl rfl g88) rfl rfl ?_
                refine run_off (.no rfl rfl rfl g88) rfl rfl ?_
                refine run_off (.no rfl rfl rfl g88) rfl rfl ?_
                refine run_off (.no rfl rfl rfl g88) rfl rfl ?_
                refine run_q (.none rfl) rfl rfl (q_pickF rfl rfl g88 rfl) ?_
                refine run_q (.none rfl) rfl rfl (q_move rfl rfl) ?_
                refine run_off (.no rfl rfl rfl rfl) rfl rfl ?_
                refine run_off (.no rfl rfl rfl rfl) rfl rfl ?_
                refine run_off (.no rfl rfl rfl rfl) rfl rfl ?_
                refine run_off (.no rfl rfl rfl rfl) rfl rfl ?_
                refine run_q (.none rfl) rfl rfl (q_pickF rfl rfl rfl rfl) ?_
                refine run_q (.none rfl) rfl rfl (q_assign rfl rfl) ?_
                refine run_nil ?_
                refine run_sub (subMk (.cons (s := 2) rfl (.cons (s := 4) rfl (.cons (s := 6) rfl (.cons (s := 7) rfl (.cons (s := 8) rfl (.cons (s := 9) rfl (.cons (s := 10) rfl (.cons (s := 12) rfl (.cons (s := 13) rfl (.cons (s := 14) rfl (.cons (s := 15) rfl (.cons (s := 16) rfl (.cons (s := 85) rfl .nil))))))))))))) .refl) ?_
                refine run_condF rfl rfl ?_
                refine run_seq ?_
                refine run_region ?_
                refine run_q (.none rfl) rfl rfl (q_move rfl rfl) ?_
                refine run_q (.none rfl) rfl rfl (q_eql rfl rfl rfl) ?_
                refine run_q (.none rfl) rfl rfl (q_move rfl rfl) ?_
                refine run_split 125 rfl (fun g125 => ?_) (fun g125 => ?_)
                · have g125' := g125
                  try simp only [decide_eq_true_eq, decide_eq_false_iff_not, beq_iff_eq, beq_eq_false_iff_ne, bne_iff_ne, bne_eq_false_iff_eq, Bool.not_eq_true', Bool.not_eq_false', ne_eq, Int.not_lt, Int.not_le, Decidable.not_not] at g125'
                  refine run_off (.no rfl rfl rfl g125) rfl rfl ?_
                  refine run_off (.no rfl rfl rfl g125) rfl rfl ?_
                  refine run_off (.no rfl rfl rfl g125) rfl rfl ?_
                  refine run_off (.no rfl rfl rfl g125) rfl rfl ?_
                  refine run_q (.none rfl) rfl rfl (q_pickT rfl rfl g125 rfl) ?_
                  refine run_q (.none rfl) rfl rfl (q_move rfl rfl) ?_
                  refine run_q (.on rfl rfl rfl rfl) rfl rfl (q_move rfl rfl) ?_
                  refine run_q (.on rfl rfl rfl rfl) rfl rfl (q_move rfl rfl) ?_
                  refine run_q (.on rfl rfl rfl rfl) rfl rfl (q_len rfl Try.underlying22 rfl) ?_
                  refine run_q (.on rfl rfl rfl rfl) rfl rfl (q_lss rfl rfl rfl) ?_
                  refine run_q (.none rfl) rfl rfl (q_pickT rfl rfl rfl rfl) ?_
                  refine run_q (.none rfl) rfl rfl (q_assign rfl rfl) ?_
                  refine run_nil ?_
                  refine run_sub (subMk (.cons (s := 2) rfl (.cons (s := 4) rfl (.cons (s := 6) rfl (.cons (s := 7) rfl (.cons (s := 8) rfl (.cons (s := 9) rfl (.cons (s := 10) rfl (.cons (s := 12) rfl (.cons (s := 13) rfl (.cons (s := 14) rfl (.cons (s := 15) rfl (.cons (s := 122) rfl .nil)))))))))))) .refl) ?_
                  refine run_cond rfl (fun g122 => ?_) (fun g122 => ?_)
                  · have g122' := g122
                    try simp only [decide_eq_true_eq, decide_eq_false_iff_not, beq_iff_eq, beq_eq_false_iff_ne, bne_iff_ne, bne_eq_false_iff_eq, Bool.not_eq_true', Bool.not_eq_false', ne_eq, Int.not_lt, Int.not_le, Decidable.not_not] at g122'
                    refine run_seq ?_
                    refine run_region ?_
                    refine run_q (.none rfl) rfl rfl (q_move rfl rfl) ?_
                    refine run_q (.none rfl) rfl rfl (q_move rfl rfl) ?_
                    refine run_q (.none rfl) rfl rfl (q_build rfl (.cons rfl (.cons rfl (.cons rfl PV.nil))) (built40p0p1p2 _ _ _)) ?_
                    refine run_h (.none rfl) (h_buildSlice rfl rfl rfl Try.underlying28 info40 (.cons rfl rfl rfl rfl Parts.nil) rfl (by omega)) ?_
                    rintro b140 -
                    refine run_h (.none rfl) (h_append rfl rfl rfl Try.underlying28 info40 rfl rfl (.there Sel.here) rfl (.own Sel.here) rfl (all1 rfl) (all1 rfl) (by omega) (by omega)) ?_
                    rintro ⟨A141, c141⟩ -
                    refine run_q (.none rfl) rfl rfl (q_assign rfl rfl) ?_
                    refine run_nil ?_
                    refine run_sub (subMk (.cons (s := 2) rfl (.cons (s := 4) rfl (.cons (s := 6) rfl (.cons (s := 7) rfl (.cons (s := 8) rfl (.cons (s := 9) rfl (.cons (s := 10) rfl (.cons (s := 12) rfl (.cons (s := 13) rfl (.cons (s := 14) rfl (.cons (s := 15) rfl .nil))))))))))) .refl) ?_
                    refine run_region ?_
                    refine run_q (.none rfl) rfl rfl (q_move rfl rfl) ?_
                    refine run_q (.none rfl) rfl rfl (q_add rfl rfl rfl (by omega)) ?_
                    refine run_q (.none rfl) rfl rfl (q_assign rfl rfl) ?_
                    refine run_nil ?_
                    refine run_blk ?_
                    refine run_blk ?_
                    refine run_region ?_
                    refine run_q (.none rfl) rfl rfl (q_move rfl rfl) ?_
                    refine run_q (.none rfl) rfl rfl (q_add rfl rfl rfl (by omega)) ?_
                    refine run_q (.none rfl) rfl rfl (q_assign rfl rfl) ?_
                    refine run_nil ?_
                    refine run_sub (subMk (.cons (s := 2) rfl (.cons (s := 4) rfl (.cons (s := 6) rfl (.cons (s := 7) rfl (.cons (s := 8) rfl (.cons (s := 9) rfl (.cons (s := 10) rfl (.cons (s := 12) rfl (.cons (s := 13) rfl (.cons (s := 14) rfl (.cons (s := 15) rfl .nil))))))))))) .refl) ?_
                    exact run_again (i + 1, k, m + 1, A141, c141, o ++ [⟨3, i, -1⟩]) (by (try dsimp only); exact ⟨by omega, by omega, fun r => by rw [List.append_assoc, hv]; exact errC_3 (by omega), by simp; omega, by omega⟩) (by (try dsimp only); omega) (subMk (.cons' (s := 13) rfl rfl (.cons' (s := 14) rfl rfl (.cons' (s := 15) rfl rfl (.cons' (s := 12) rfl (by simp) (.cons (s := 2) rfl (.cons (s := 4) rfl (.cons (s := 6) rfl (.cons (s := 7) rfl (.cons (s := 8) rfl (.cons (s := 9) rfl (.cons (s := 10) rfl .nil))))))))))) (.cons Sel.here (.own rfl (by simp) rfl (by simp [Pair.enc, vlist])) (.cons (.there Sel.here) .refl (.cons (.there Sel.here) .refl (.cons (.there Sel.here) .refl .nil)))))
                  · have g122' := g122
                    try simp only [decide_eq_true_eq, decide_eq_false_iff_not, beq_iff_eq, beq_eq_false_iff_ne, bne_iff_ne, bne_eq_false_iff_eq, Bool.not_eq_true', Bool.not_eq_false', ne_eq, Int.not_lt, Int.not_le, Decidable.not_not] at g122'
                    refine run_seq ?_
                    refine run_region ?_
                    refine run_q (.none rfl) rfl rfl (q_move rfl rfl) ?_
                    refine run_q (.none rfl) rfl rfl (q_move rfl rfl) ?_
                    refine run_q (.none rfl) rfl rfl (q_len rfl Try.underlying22 rfl) ?_
                    refine run_q (.none rfl) rfl rfl (q_lss rfl rfl rfl) ?_
                    refine run_q (.none rfl) rfl rfl (q_assign rfl rfl) ?_
                    refine run_nil ?_
                    refine run_sub (subMk (.cons (s := 2) rfl (.cons (s := 4) rfl (.cons (s := 6) rfl (.cons (s := 7) rfl (.cons (s := 8) rfl (.cons (s := 9) rfl (.cons (s := 10) rfl (.cons (s := 12) rfl (.cons (s := 13) rfl (.cons (s := 14) rfl (.cons (s := 15) rfl (.cons (s := 144) rfl .nil)))))))))))) .refl) ?_
                    refine run_condT rfl (decide_eq_true (by omega)) ?_
                    refine run_seq ?_
                    refine run_region ?_
                    refine run_q (.none rfl) rfl rfl (q_move rfl rfl) ?_
                    refine run_q (.none rfl) rfl rfl (q_move rfl rfl) ?_
                    refine run_q (.none rfl) rfl rfl (q_build rfl (.cons rfl (.cons rfl (.cons rfl PV.nil))) (built40p0p1p2 _ _ _)) ?_
                    refine run_h (.none rfl) (h_buildSlice rfl rfl rfl Try.underlying28 info40 (.cons rfl rfl rfl rfl Parts.nil) rfl (by omega)) ?_
                    rintro b152 -
                    refine run_h (.none rfl) (h_append rfl rfl rfl Try.underlying28 info40 rfl rfl (.there Sel.here) rfl (.own Sel.here) rfl (all1 rfl) (all1 rfl) (by omega) (by omega)) ?_
                    rintro ⟨A153, c153⟩ -
                    refine run_q (.none rfl) rfl rfl (q_assign rfl rfl) ?_
                    refine run_nil ?_
                    refine run_sub (subMk (.cons (s := 2) rfl (.cons (s := 4) rfl (.cons (s := 6) rfl (.cons (s := 7) rfl (.cons (s := 8) rfl (.cons (s := 9) rfl (.cons (s := 10) rfl (.cons (s := 12) rfl (.cons (s := 13) rfl (.cons (s := 14) rfl (.cons (s := 15) rfl .nil))))))))))) .refl) ?_
                    refine run_region ?_
                    refine run_q (.none rfl) rfl rfl (q_move rfl rfl) ?_
                    refine run_q (.none rfl) rfl rfl (q_add rfl rfl rfl (by omega)) ?_
                    refine run_q (.none rfl) rfl rfl (q_assign rfl rfl) ?_
                    refine run_nil ?_
                    refine run_blk ?_
                    refine run_blk ?_
                    refine run_region ?_
                    refine run_q (.none rfl) rfl rfl (q_move rfl rfl) ?_
                    refine run_q (.none rfl) rfl rfl (q_add rfl rfl rfl (by omega)) ?_
                    refine run_q (.none rfl) rfl rfl (q_assign rfl rfl) ?_
                    refine run_nil ?_
                    refine run_sub (subMk (.cons (s := 2) rfl (.cons (s := 4) rfl (.cons (s := 6) rfl (.cons (s := 7) rfl (.cons (s := 8) rfl (.cons (s := 9) rfl (.cons (s := 10) rfl (.cons (s := 12) rfl (.cons (s := 13) rfl (.cons (s := 14) rfl (.cons (s := 15) rfl .nil))))))))))) .refl) ?_
                    exact run_again (i, k + 1, m + 1, A153, c153, o ++ [⟨4, -1, k⟩]) (by (try dsimp only); exact ⟨by omega, by omega, fun r => by rw [List.append_assoc, hv]; exact errC_4 (by omega), by simp; omega, by omega⟩) (by (try dsimp only); omega) (subMk (.cons' (s := 13) rfl rfl (.cons' (s := 14) rfl rfl (.cons' (s := 15) rfl rfl (.cons' (s := 12) rfl (by simp) (.cons (s := 2) rfl (.cons (s := 4) rfl (.cons (s := 6) rfl (.cons (s := 7) rfl (.cons (s := 8) rfl (.cons (s := 9) rfl (.cons (s := 10) rfl .nil))))))))))) (.cons Sel.here (.own rfl (by simp) rfl (by simp [Pair.enc, vlist])) (.cons (.there Sel.here) .refl (.cons (.there Sel.here) .refl (.cons (.there Sel.here) .refl .nil)))))
                · have g125' := g125
                  try simp only [decide_eq_true_eq, decide_eq_false_iff_not, beq_iff_eq, beq_eq_false_iff_ne, bne_iff_ne, bne_eq_false_iff_eq, Bool.not_eq_true', Bool.not_eq_false', ne_eq, Int.not_lt, Int.not_le, Decidable.not_not] at g125'
                  refine run_q (.on rfl rfl rfl g125) rfl rfl (q_move rfl rfl) ?_
                  refine run_q (.on rfl rfl rfl g125) rfl rfl (q_move rfl rfl) ?_
                  refine run_q (.on rfl rfl rfl g125) rfl rfl (q_len rfl Try.underlying22 rfl) ?_
                  refine run_q (.on rfl rfl rfl g125) rfl rfl (q_eql rfl rfl rfl) ?_
                  refine run_q (.none rfl) rfl rfl (q_pickF rfl rfl g125 rfl) ?_
                  refine run_q (.none rfl) rfl rfl (q_move rfl rfl) ?_
                  refine run_split 131 rfl (fun g131 => ?_) (fun g131 => ?_)
                  · have g131' := g131
                    try simp only [decide_eq_true_eq, decide_eq_false_iff_not, beq_iff_eq, beq_eq_false_iff_ne, bne_iff_ne, bne_eq_false_iff_eq, Bool.not_eq_true', Bool.not_eq_false', ne_eq, Int.not_lt, Int.not_le, Decidable.not_not] at g131'
                    refine run_q (.on rfl rfl rfl g131) rfl rfl (q_move rfl rfl) ?_
                    refine run_q (.on rfl rfl rfl g131) rfl rfl (q_move rfl rfl) ?_
                    refine run_q (.on rfl rfl rfl g131) rfl rfl (q_len rfl Try.underlying22 rfl) ?_
                    refine run_q (.on rfl rfl rfl g131) rfl rfl (q_lss rfl rfl rfl) ?_
                    refine run_q (.none rfl) rfl rfl (q_pickT rfl rfl g131 rfl) ?_
                    refine run_q (.none rfl) rfl rfl (q_assign rfl rfl) ?_
                    refine run_nil ?_
                    refine run_sub (subMk (.cons (s := 2) rfl (.cons (s := 4) rfl (.cons (s := 6) rfl (.cons (s := 7) rfl (.cons (s := 8) rfl (.cons (s := 9) rfl (.cons (s := 10) rfl (.cons (s := 12) rfl (.cons (s := 13) rfl (.cons (s := 14) rfl (.cons (s := 15) rfl (.cons (s := 122) rfl .nil)))))))))))) .refl) ?_
                    refine run_cond rfl (fun g122 => ?_) (fun g122 => ?_)
                    · have g122' := g122
                      try simp only [decide_eq_true_eq, decide_eq_false_iff_not, beq_iff_eq, beq_eq_false_iff_ne, bne_iff_ne, bne_eq_false_iff_eq, Bool.not_eq_true', Bool.not_eq_false', ne_eq, Int.not_lt, Int.not_le, Decidable.not_not] at g122'
                      refine run_seq ?_
                      refine run_region ?_
                      refine run_q (.none rfl) rfl rfl (q_move rfl rfl) ?_
                      refine run_q (.none rfl) rfl rfl (q_move rfl rfl) ?_
                      refine run_q (.none rfl) rfl rfl (q_build rfl (.cons rfl (.cons rfl (.cons rfl PV.nil))) (built40p0p1p2 _ _ _)) ?_
                      refine run_h (.none rfl) (h_buildSlice rfl rfl rfl Try.underlying28 info40 (.cons rfl rfl rfl rfl Parts.nil) rfl (by omega)) ?_
                      rintro b140 -
                      refine run_h (.none rfl) (h_append rfl rfl rfl Try.underlying28 info40 rfl rfl (.there Sel.here) rfl (.own Sel.here) rfl (all1 rfl) (all1 rfl) (by omega) (by omega)) ?_
                      rintro ⟨A141, c141⟩ -
                      refine run_q (.none rfl) rfl rfl (q_assign rfl rfl) ?_
                      refine run_nil ?_
                      refine run_sub (subMk (.cons (s := 2) rfl (.cons (s := 4) rfl (.cons (s := 6) rfl (.cons (s := 7) rfl (.cons (s := 8) rfl (.cons (s := 9) rfl (.cons (s := 10) rfl (.cons (s := 12) rfl (.cons (s := 13) rfl (.cons (s := 14) rfl (.cons (s := 15) rfl .nil))))))))))) .refl) ?_
                      refine run_region ?_
                      refine run_q (.none rfl) rfl rfl (q_move rfl rfl) ?_
                      refine run_q (.none rfl) rfl rfl (q_add rfl rfl rfl (by omega)) ?_
                      refine run_q (.none rfl) rfl rfl (q_assign rfl rfl) ?_
                      refine run_nil ?_
                      refine run_blk ?_
                      refine run_blk ?_
                      refine run_region ?_
                      refine run_q (.none rfl) rfl rfl (q_move rfl rfl) ?_
                      refine run_q (.none rfl) rfl rfl (q_add rfl rfl rfl (by omega)) ?_
                      refine run_q (.none rfl) rfl rfl (q_assign rfl rfl) ?_
                      refine run_nil ?_
                      refine run_sub (subMk (.cons (s := 2) rfl (.cons (s := 4) rfl (.cons (s := 6) rfl (.cons (s := 7) rfl (.cons (s := 8) rfl (.cons (s := 9) rfl (.cons (s := 10) rfl (.cons (s := 12) rfl (.cons (s := 13) rfl (.cons (s := 14) rfl (.cons (s := 15) rfl .nil))))))))))) .refl) ?_
                      exact run_again (i + 1, k, m + 1, A141, c141, o ++ [⟨3, i, -1⟩]) (by (try dsimp only); exact ⟨by omega, by omega, fun r => by rw [List.append_assoc, hv]; exact errC_3 (by omega), by simp; omega, by omega⟩) (by (try dsimp only); omega) (subMk (.cons' (s := 13) rfl rfl (.cons' (s := 14) rfl rfl (.cons' (s := 15) rfl rfl (.cons' (s := 12) rfl (by simp) (.cons (s := 2) rfl (.cons (s := 4) rfl (.cons (s := 6) rfl (.cons (s := 7) rfl (.cons (s := 8) rfl (.cons (s := 9) rfl (.cons (s := 10) rfl .nil))))))))))) (.cons Sel.here (.own rfl (by simp) rfl (by simp [Pair.enc, vlist])) (.cons (.there Sel.here) .refl (.cons (.there Sel.here) .refl (.cons (.there Sel.here) .refl .nil)))))
                    · have g122' := g122
                      try simp only [decide_eq_true_eq, decide_eq_false_iff_not, beq_iff_eq, beq_eq_false_iff_ne, bne_iff_ne, bne_eq_false_iff_eq, Bool.not_eq_true', Bool.not_eq_false', ne_eq, Int.not_lt, Int.not_le, Decidable.not_not] at g122'
                      refine run_seq ?_
                      refine run_region ?_
                      refine run_q (.none rfl) rfl rfl (q_move rfl rfl) ?_
                      refine run_q (.none rfl) rfl rfl (q_move rfl rfl) ?_
                      refine run_q (.none rfl) rfl rfl (q_len rfl Try.underlying22 rfl) ?_
                      refine run_q (.none rfl) rfl rfl (q_lss rfl rfl rfl) ?_
                      refine run_q (.none rfl) rfl rfl (q_assign rfl rfl) ?_
                      refine run_nil ?_
                      refine run_sub (subMk (.cons (s := 2) rfl (.cons (s := 4) rfl (.cons (s := 6) rfl (.cons (s := 7) rfl (.cons (s := 8) rfl (.cons (s := 9) rfl (.cons (s := 10) rfl (.cons (s := 12) rfl (.cons (s := 13) rfl (.cons (s := 14) rfl (.cons (s := 15) rfl (.cons (s := 144) rfl .nil)))))))))))) .refl) ?_
                      refine run_condT rfl (decide_eq_true (by omega)) ?_
                      refine run_seq ?_
                      refine run_region ?_
                      refine run_q (.none rfl) rfl rfl (q_move rfl rfl) ?_
                      refine run_q (.none rfl) rfl rfl (q_move rfl rfl) ?_
                      refine run_q (.none rfl) rfl rfl (q_build rfl (.cons rfl (.cons rfl (.cons rfl PV.nil))) (built40p0p1p2 _ _ _)) ?_
                      refine run_h (.none rfl) (h_buildSlice rfl rfl rfl Try.underlying28 info40 (.cons rfl rfl rfl rfl Parts.nil) rfl (by omega)) ?_
                      rintro b152 -
                      refine run_h (.none rfl) (h_append rfl rfl rfl Try.underlying28 info40 rfl rfl (.there Sel.here) rfl (.own Sel.here) rfl (all1 rfl) (all1 rfl) (by omega) (by omega)) ?_
                      rintro ⟨A153, c153⟩ -
                      refine run_q (.none rfl) rfl rfl (q_assign rfl rfl) ?_
                      refine run_nil ?_
                      refine run_sub (subMk (.cons (s := 2) rfl (.cons (s := 4) rfl (.cons (s := 6) rfl (.cons (s := 7) rfl (.cons (s := 8) rfl (.cons (s := 9) rfl (.cons (s := 10) rfl (.cons (s := 12) rfl (.cons (s := 13) rfl (.cons (s := 14) rfl (.cons (s := 15) rfl .nil))))))))))) .refl) ?_
                      refine run_region ?_
                      refine run_q (.none rfl) rfl rfl (q_move rfl rfl) ?_
                      refine run_q (.none rfl) rfl rfl (q_add rfl rfl rfl (by omega)) ?_
                      refine run_q (.none rfl) rfl rfl (q_assign rfl rfl) ?_
                      refine run_nil ?_
                      refine run_blk ?_
                      refine run_blk ?_
                      refine run_region ?_
                      refine run_q (.none rfl) rfl rfl (q_move rfl rfl) ?_
                      refine run_q (.none rfl) rfl rfl (q_add rfl rfl rfl (by omega)) ?_
                      refine run_q (.none rfl) rfl rfl (q_assign rfl rfl) ?_
                      refine run_nil ?_
                      refine run_sub (subMk (.cons (s := 2) rfl (.cons (s := 4) rfl (.cons (s := 6) rfl (.cons (s := 7) rfl (.cons (s := 8) rfl (.cons (s := 9) rfl (.cons (s := 10) rfl (.cons (s := 12) rfl (.cons (s := 13) rfl (.cons (s := 14) rfl (.cons (s := 15) rfl .nil))))))))))) .refl) ?_
                      exact run_again (i, k + 1, m + 1, A153, c153, o ++ [⟨4, -1, k⟩]) (by (try dsimp only); exact ⟨by omega, by omega, fun r => by rw [List.append_assoc, hv]; exact errC_4 (by omega), by simp; omega, by omega⟩) (by (try dsimp only); omega) (subMk (.cons' (s := 13) rfl rfl (.cons' (s := 14) rfl rfl (.cons' (s := 15) rfl rfl (.cons' (s := 12) rfl (by simp) (.cons (s := 2) rfl (.cons (s := 4) rfl (.cons (s := 6) rfl (.cons (s := 7) rfl (.cons (s := 8) rfl (.cons (s := 9) rfl (.cons (s := 10) rfl .nil))))))))))) (.cons Sel.here (.own rfl (by simp) rfl (by simp [Pair.enc, vlist])) (.cons (.there Sel.here) .refl (.cons (.there Sel.here) .refl (.cons (.there Sel.here) .refl .nil)))))
                  · have g131' := g131
                    try simp only [decide_eq_true_eq, decide_eq_false_iff_not, beq_iff_eq, beq_eq_false_iff_ne, bne_iff_ne, bne_eq_false_iff_eq, Bool.not_eq_true', Bool.not_eq_false', ne_eq, Int.not_lt, Int.not_le, Decidable.not_not] at g131'
                    refine run_off (.no rfl rfl rfl g131) rfl rfl ?_
                    refine run_off (.no rfl rfl rfl g131) rfl rfl ?_
                    refine run_off (.no rfl rfl rfl g131) rfl rfl ?_
                    refine run_off (.no rfl rfl rfl g131) rfl rfl ?_
                    refine run_q (.none rfl) rfl rfl (q_pickF rfl rfl g131 rfl) ?_
                    refine run_q (.none rfl) rfl rfl (q_assign rfl rfl) ?_
                    refine run_nil ?_
                    refine run_sub (subMk (.cons (s := 2) rfl (.cons (s := 4) rfl (.cons (s := 6) rfl (.cons (s := 7) rfl (.cons (s := 8) rfl (.cons (s := 9) rfl (.cons (s := 10) rfl (.cons (s := 12) rfl (.cons (s := 13) rfl (.cons (s := 14) rfl (.cons (s := 15) rfl (.cons (s := 122) rfl .nil)))))))))))) .refl) ?_
                    refine run_condF rfl rfl ?_
                    refine run_seq ?_
                    refine run_region ?_
                    refine run_q (.none rfl) rfl rfl (q_move rfl rfl) ?_
                    refine run_q (.none rfl) rfl rfl (q_move rfl rfl) ?_
                    refine run_q (.none rfl) rfl rfl (q_len rfl Try.underlying22 rfl) ?_
                    refine run_q (.none rfl) rfl rfl (q_lss rfl rfl rfl) ?_
                    refine run_q (.none rfl) rfl rfl (q_assign rfl rfl) ?_
                    refine run_nil ?_
                    refine run_sub (subMk (.cons (s := 2) rfl (.cons (s := 4) rfl (.cons (s := 6) rfl (.cons (s := 7) rfl (.cons (s := 8) rfl (.cons (s := 9) rfl (.cons (s := 10) rfl (.cons (s := 12) rfl (.cons (s := 13) rfl (.cons (s := 14) rfl (.cons (s := 15) rfl (.cons (s := 144) rfl .nil)))))))))))) .refl) ?_
                    refine run_condT rfl (decide_eq_true (by omega)) ?_
                    refine run_seq ?_
                    refine run_region ?_
                    refine run_q (.none rfl) rfl rfl (q_move rfl rfl) ?_
                    refine run_q (.none rfl) rfl rfl (q_move rfl rfl) ?_
                    refine run_q (.none rfl) rfl rfl (q_build rfl (.cons rfl (.cons rfl (.cons rfl PV.nil))) (built40p0p1p2 _ _ _)) ?_
                    refine run_h (.none rfl) (h_buildSlice rfl rfl rfl Try.underlying28 info40 (.cons rfl rfl rfl rfl Parts.nil) rfl (by omega)) ?_
                    rintro b152 -
                    refine run_h (.none rfl) (h_append rfl rfl rfl Try.underlying28 info40 rfl rfl (.there Sel.here) rfl (.own Sel.here) rfl (all1 rfl) (all1 rfl) (by omega) (by omega)) ?_
                    rintro ⟨A153, c153⟩ -
                    refine run_q (.none rfl) rfl rfl (q_assign rfl rfl) ?_
                    refine run_nil ?_
                    refine run_sub (subMk (.cons (s := 2) rfl (.cons (s := 4) rfl (.cons (s := 6) rfl (.cons (s := 7) rfl (.cons (s := 8) rfl (.cons (s := 9) rfl (.cons (s := 10) rfl (.cons (s := 12) rfl (.cons (s := 13) rfl (.cons (s := 14) rfl (.cons (s := 15) rfl .nil))))))))))) .refl) ?_
                    refine run_region ?_
                    refine run_q (.none rfl) rfl rfl (q_move rfl rfl) ?_
                    refine run_q (.none rfl) rfl rfl (q_add rfl rfl rfl (by omega)) ?_
                    refine run_q (.none rfl) rfl rfl (q_assign rfl rfl) ?_
                    refine run_nil ?_
                    refine run_blk ?_
                    refine run_blk ?_
                    refine run_region ?_
                    refine run_q (.none rfl) rfl rfl (q_move rfl rfl) ?_
                    refine run_q (.none rfl) rfl rfl (q_add rfl rfl rfl (by omega)) ?_
                    refine run_q (.none rfl) rfl rfl (q_assign rfl rfl) ?_
                    refine run_nil ?_
                    refine run_sub (subMk (.cons (s := 2) rfl (.cons (s := 4) rfl (.cons (s := 6) rfl (.cons (s := 7) rfl (.cons (s := 8) rfl (.cons (s := 9) rfl (.cons (s := 10) rfl (.cons (s := 12) rfl (.cons (s := 13) rfl (.cons (s := 14) rfl (.cons (s := 15) rfl .nil))))))))))) .refl) ?_
                    exact run_again (i, k + 1, m + 1, A153, c153, o ++ [⟨4, -1, k⟩]) (by (try dsimp only); exact ⟨by omega, by omega, fun r => by rw [List.append_assoc, hv]; exact errC_4 (by omega), by simp; omega, by omega⟩) (by (try dsimp only); omega) (subMk (.cons' (s := 13) rfl rfl (.cons' (s := 14) rfl rfl (.cons' (s := 15) rfl rfl (.cons' (s := 12) rfl (by simp) (.cons (s := 2) rfl (.cons (s := 4) rfl (.cons (s := 6) rfl (.cons (s := 7) rfl (.cons (s := 8) rfl (.cons (s := 9) rfl (.cons (s := 10) rfl .nil))))))))))) (.cons Sel.here (.own rfl (by simp) rfl (by simp [Pair.enc, vlist])) (.cons (.there Sel.here) .refl (.cons (.there Sel.here) .refl (.cons (.there Sel.here) .refl .nil)))))
          · have g72' := g72
            try simp only [decide_eq_true_eq, decide_eq_false_iff_not, beq_iff_eq, beq_eq_false_iff_ne, bne_iff_ne, bne_eq_false_iff_eq, Bool.not_eq_true', Bool.not_eq_false', ne_eq, Int.not_lt, Int.not_le, Decidable.not_not] at g72'
            refine run_exit rfl ?_
            refine run_sub (subMk (.cons (s := 4) rfl (.cons (s := 6) rfl (.cons (s := 7) rfl (.cons (s := 8) rfl (.cons (s := 9) rfl (.cons (s := 10) rfl (.cons (s := 12) rfl .nil))))))) .refl) ?_
            refine run_seq ?_
            have herr : errPs a b o 0 0 = 0 := by have h0 := hv []; rw [List.append_nil] at h0; rw [h0, errPs, if_neg (by omega)]
            have hck : checkV a b o = 0 := by rw [checkV_ok hwa hwb]; exact herr
            have hmin := best_le hc o 0 0 herr
            rw [List.drop_zero, List.drop_zero] at hmin
            refine run_region ?_
            refine run_q (.none rfl) rfl rfl (q_move rfl rfl) ?_
            refine run_q (.none rfl) rfl rfl (q_move rfl rfl) ?_
            refine run_q (.none rfl) rfl rfl (q_loadBN rfl agg26 rfl (.there (.there Sel.here)) (.cons rfl (.cons rfl (.cons rfl (.cons rfl (.cons rfl CellsAt.nil))))) rfl) ?_
            refine run_q (.none rfl) rfl rfl (q_move rfl rfl) ?_
            refine run_q (.none rfl) rfl rfl (q_call rfl call19 (.cons rfl (.cons rfl (.cons rfl (.cons rfl Evs.nil)))) (fun w hk hm => costOk_just c a b A B ca cb o A' cp w (hra.kept0 hk) (hrb.kept0 hk) (own_rd (Sel.here.holds hm)) (by omega) (by omega) (by omega) hck hcc (by omega))) ?_
            refine run_q (.none rfl) rfl rfl (q_move rfl rfl) ?_
            refine run_q (.none rfl) rfl rfl (q_extract rfl rfl rfl) ?_
            refine run_q (.none rfl) rfl rfl (q_extract rfl rfl rfl) ?_
            refine run_q (.none rfl) rfl rfl (q_assign rfl rfl) ?_
            refine run_q (.none rfl) rfl rfl (q_assign rfl rfl) ?_
            refine run_nil ?_
            refine run_sub (subMk (.cons (s := 4) rfl (.cons (s := 6) rfl (.cons (s := 7) rfl (.cons (s := 8) rfl (.cons (s := 9) rfl (.cons (s := 10) rfl (.cons (s := 12) rfl (.cons (s := 18) rfl (.cons (s := 19) rfl .nil))))))))) .refl) ?_
            refine run_seq ?_
            refine run_seq ?_
            refine run_region ?_
            refine run_q (.none rfl) rfl rfl (q_move rfl rfl) ?_
            refine run_q (.none rfl) rfl rfl (q_neq rfl rfl rfl) ?_
            refine run_q (.none rfl) rfl rfl (q_move rfl rfl) ?_
            refine run_q (.on rfl rfl rfl rfl) rfl rfl (q_move rfl rfl) ?_
            refine run_q (.on rfl rfl rfl rfl) rfl rfl (q_move rfl rfl) ?_
            refine run_q (.on rfl rfl rfl rfl) rfl rfl (q_move rfl rfl) ?_
            refine run_q (.on rfl rfl rfl rfl) rfl rfl (q_loadBN rfl agg26 rfl (.there (.there Sel.here)) (.cons rfl (.cons rfl (.cons rfl (.cons rfl (.cons rfl CellsAt.nil))))) rfl) ?_
            refine run_q (.on rfl rfl rfl rfl) rfl rfl (q_move rfl rfl) ?_
            refine run_q (.on rfl rfl rfl rfl) rfl rfl (q_call rfl call20 (.cons rfl (.cons rfl (.cons rfl (.cons rfl Evs.nil)))) (fun w hk hm => cost_just c a b A B ca cb o A' cp w (hra.kept0 hk) (hrb.kept0 hk) (own_rd (Sel.here.holds hm)) (by omega) (by omega) (by omega) hck hcc (by omega))) ?_
            refine run_q (.on rfl rfl rfl rfl) rfl rfl (q_neq rfl rfl rfl) ?_
            refine run_q (.none rfl) rfl rfl (q_pickF rfl rfl rfl rfl) ?_
            refine run_q (.none rfl) rfl rfl (q_move rfl rfl) ?_
            refine run_q (.on rfl rfl rfl (by simp)) rfl rfl (q_move rfl rfl) ?_
            refine run_q (.on rfl rfl rfl (by simp)) rfl rfl (q_move rfl rfl) ?_
            refine run_q (.on rfl rfl rfl (by simp)) rfl rfl (q_lss rfl rfl rfl) ?_
            refine run_q (.none rfl) rfl rfl (q_pickF rfl rfl (by simp) rfl) ?_
            refine run_nil ?_
            refine run_sub (subMk (.cons (s := 6) rfl (.cons (s := 9) rfl (.cons (s := 10) rfl (.cons (s := 12) rfl (.cons (s := 18) rfl (.cons (s := 179) rfl .nil)))))) .refl) ?_
            refine run_condF rfl (decide_eq_false (by omega)) ?_
            refine run_skip ?_
            refine run_seq ?_
            refine run_seq ?_
            refine run_region ?_
            refine run_q (.none rfl) rfl rfl (q_assign rfl rfl) ?_
            refine run_nil ?_
            refine run_block ?_
            refine run_sub (subMk (.cons (s := 20) rfl (.cons (s := 6) rfl (.cons (s := 9) rfl (.cons (s := 10) rfl (.cons (s := 12) rfl (.cons (s := 18) rfl .nil)))))) (.cons Sel.here .refl (.cons Sel.here .refl (.cons Sel.here .refl (.cons Sel.here .refl .nil))))) ?_
            refine run_loopC1M0 (ι := Nat) (fun n => costPs c a b o 0 0 = best c a b → Along c a b o n) (fun n => .int .i64 (n : Int))  (fun n => o.length - n) 0 (by (try dsimp only); exact (fun e => ⟨0, 0, by simpa using herr, by simpa using e, by simp⟩)) rfl  ?_
            rintro n hal
            (try dsimp only at hal)
            show Run _ _ _ _ _ _ _ ⟨(20, .int .i64 (n : Int)) :: _, _⟩
            refine run_seq ?_
            refine run_seq ?_
            refine run_region ?_
            refine run_q (.none rfl) rfl rfl (q_move rfl rfl) ?_
            refine run_q (.none rfl) rfl rfl (q_move rfl rfl) ?_
            refine run_q (.none rfl) rfl rfl (q_eql rfl rfl rfl) ?_
            refine run_q (.none rfl) rfl rfl (q_move rfl rfl) ?_
            refine run_split 183 rfl (fun g183 => ?_) (fun g183 => ?_)
            · have g183' := g183
              try simp only [decide_eq_true_eq, decide_eq_false_iff_not, beq_iff_eq, beq_eq_false_iff_ne, bne_iff_ne, bne_eq_false_iff_eq, Bool.not_eq_true', Bool.not_eq_false', ne_eq, Int.not_lt, Int.not_le, Decidable.not_not] at g183'
              refine run_q (.on rfl rfl rfl g183) rfl rfl (q_move rfl rfl) ?_
              refine run_q (.on rfl rfl rfl g183) rfl rfl (q_move rfl rfl) ?_
              refine run_q (.on rfl rfl rfl g183) rfl rfl (q_len rfl Try.underlying28 rfl) ?_
              refine run_q (.on rfl rfl rfl g183) rfl rfl (q_lss rfl rfl rfl) ?_
              refine run_q (.none rfl) rfl rfl (q_pickT rfl rfl g183 rfl) ?_
              refine run_q (.none rfl) rfl rfl (q_move rfl rfl) ?_
              refine run_split 189 rfl (fun g189 => ?_) (fun g189 => ?_)
              · have g189' := g189
                try simp only [decide_eq_true_eq, decide_eq_false_iff_not, beq_iff_eq, beq_eq_false_iff_ne, bne_iff_ne, bne_eq_false_iff_eq, Bool.not_eq_true', Bool.not_eq_false', ne_eq, Int.not_lt, Int.not_le, Decidable.not_not] at g189'
                refine run_q (.on rfl rfl rfl g189) rfl rfl (q_move rfl rfl) ?_
                refine run_q (.on rfl rfl rfl g189) rfl rfl (q_move rfl rfl) ?_
                refine run_q (.on rfl rfl rfl g189) rfl rfl (q_len rfl Try.underlying28 rfl) ?_
                refine run_q (.on rfl rfl rfl g189) rfl rfl (q_lss rfl rfl rfl) ?_
                refine run_q (.none rfl) rfl rfl (q_pickT rfl rfl g189 rfl) ?_
                refine run_nil ?_
                refine run_sub (subMk (.cons (s := 6) rfl (.cons (s := 9) rfl (.cons (s := 10) rfl (.cons (s := 12) rfl (.cons (s := 18) rfl (.cons (s := 20) rfl (.cons (s := 194) rfl .nil))))))) .refl) ?_
                refine run_cond rfl (fun g194 => ?_) (fun g194 => ?_)
                · have g194' := g194
                  try simp only [decide_eq_true_eq, decide_eq_false_iff_not, beq_iff_eq, beq_eq_false_iff_ne, bne_iff_ne, bne_eq_false_iff_eq, Bool.not_eq_true', Bool.not_eq_false', ne_eq, Int.not_lt, Int.not_le, Decidable.not_not] at g194'
                  have hstep := along_step hc (hal (by simpa using g183)) (by omega) (by omega)
                  refine run_skip ?_
                  refine run_seq ?_
                  refine run_block ?_
                  refine run_seq ?_
                  refine run_draw [(0, 0), (1, 0), (2, 0), (3, 0), (4, 0), (5, 0), (6, 0), (7, 0), (8, 0)] mixed (by kernel_rfl) .refl ?_
                  refine d_q rfl rfl (.none rfl) rfl rfl (q_move rfl rfl) ?_
                  refine d_q rfl rfl (.none rfl) rfl rfl (q_move rfl rfl) ?_
                  refine d_q rfl rfl (.none rfl) rfl rfl (q_indexS (q := n) rfl Try.underlying28 sz40 rfl rfl (.own (.there Sel.here)) (by simp <;> omega) rfl (by omega)) ?_
                  refine d_q rfl rfl (.none rfl) rfl rfl (q_loadE rfl agg40 rfl (.own (.there Sel.here)) (getmap (by omega)) rfl) ?_
                  refine d_q rfl rfl (.none rfl) rfl rfl (q_move rfl rfl) ?_
                  refine d_q rfl rfl (.none rfl) rfl rfl (q_move rfl rfl) ?_
                  refine d_q rfl rfl (.none rfl) rfl rfl (q_indexS (q := n) rfl Try.underlying28 sz40 rfl rfl (.own Sel.here) (by simp <;> omega) rfl (by omega)) ?_
                  refine d_q rfl rfl (.none rfl) rfl rfl (q_loadE rfl agg40 rfl (.own Sel.here) (getmap (by omega)) rfl) ?_
                  refine d_q rfl rfl (.none rfl) rfl rfl (q_neqS rfl rfl rfl eqg40 (fun w => eqs40 _ _ _ _ _ _ w)) ?_
                  refine d_nil ?_
                  refine run_sub (subMk (.cons (s := 6) rfl (.cons (s := 9) rfl (.cons (s := 10) rfl (.cons (s := 12) rfl (.cons (s := 18) rfl (.cons (s := 20) rfl (.cons (s := 205) rfl .nil))))))) .refl) ?_
                  refine run_cond rfl (fun g205 => ?_) (fun g205 => ?_)
                  · have g205' := g205
                    try simp only [decide_eq_true_eq, decide_eq_false_iff_not, beq_iff_eq, beq_eq_false_iff_ne, bne_iff_ne, bne_eq_false_iff_eq, Bool.not_eq_true', Bool.not_eq_false', ne_eq, Int.not_lt, Int.not_le, Decidable.not_not] at g205'
                    refine run_seq ?_
                    refine run_draw [(0, 0), (1, 0), (2, 0), (3, 0), (4, 0), (5, 0), (6, 0), (7, 0), (8, 0), (9, 0), (10, 0), (11, 0), (12, 0), (13, 0)] mixed (by kernel_rfl) .refl ?_
                    refine d_q rfl rfl (.none rfl) rfl rfl (q_move rfl rfl) ?_
                    refine d_q rfl rfl (.none rfl) rfl rfl (q_move rfl rfl) ?_
                    refine d_q rfl rfl (.none rfl) rfl rfl (q_indexS (q := n) rfl Try.underlying28 sz40 rfl rfl (.own (.there Sel.here)) (by simp <;> omega) rfl (by omega)) ?_
                    refine d_q rfl rfl (.none rfl) rfl rfl (q_fieldAddr (d := 0) rfl Try.underlying40 rfl rfl sz3 rfl) ?_
                    refine d_q rfl rfl (.none rfl) rfl rfl (q_loadF rfl one3 rfl (.own (.there Sel.here)) (getmap (by omega)) rfl) ?_
                    refine d_q rfl rfl (.none rfl) rfl rfl (q_max2 rfl rfl rfl) ?_
                    refine d_q rfl rfl (.none rfl) rfl rfl (q_move rfl rfl) ?_
                    refine d_q rfl rfl (.none rfl) rfl rfl (q_move rfl rfl) ?_
                    refine d_q rfl rfl (.none rfl) rfl rfl (q_indexS (q := n) rfl Try.underlying28 sz40 rfl rfl (.own Sel.here) (by simp <;> omega) rfl (by omega)) ?_
                    refine d_q rfl rfl (.none rfl) rfl rfl (q_fieldAddr (d := 0) rfl Try.underlying40 rfl rfl sz3 rfl) ?_
                    refine d_q rfl rfl (.none rfl) rfl rfl (q_loadF rfl one3 rfl (.own Sel.here) (getmap (by omega)) rfl) ?_
                    refine d_q rfl rfl (.none rfl) rfl rfl (q_max2 rfl rfl rfl) ?_
                    refine d_q rfl rfl (.none rfl) rfl rfl (q_lss rfl rfl rfl) ?_
                    refine d_q rfl rfl (.none rfl) rfl rfl (q_assign rfl rfl) ?_
                    refine d_nil ?_
                    refine run_sub (subMk (.cons (s := 6) rfl (.cons (s := 9) rfl (.cons (s := 10) rfl (.cons (s := 12) rfl (.cons (s := 18) rfl (.cons (s := 20) rfl .nil)))))) .refl) ?_
                    refine run_ret ?_
                    exact end1 rfl rfl (by rw [decide_eq_true (hstep.2 (pair_ne g205))])
                  · have g205' := g205
                    try simp only [decide_eq_true_eq, decide_eq_false_iff_not, beq_iff_eq, beq_eq_false_iff_ne, bne_iff_ne, bne_eq_false_iff_eq, Bool.not_eq_true', Bool.not_eq_false', ne_eq, Int.not_lt, Int.not_le, Decidable.not_not] at g205'
                    refine run_skip ?_
                    refine run_blk ?_
                    refine run_region ?_
                    refine run_q (.none rfl) rfl rfl (q_move rfl rfl) ?_
                    refine run_q (.none rfl) rfl rfl (q_add rfl rfl rfl (by omega)) ?_
                    refine run_q (.none rfl) rfl rfl (q_assign rfl rfl) ?_
                    refine run_nil ?_
                    refine run_sub (subMk (.cons (s := 6) rfl (.cons (s := 9) rfl (.cons (s := 10) rfl (.cons (s := 12) rfl (.cons (s := 18) rfl (.cons (s := 20) rfl .nil)))))) .refl) ?_
                    exact run_again (n + 1) (by (try dsimp only); exact (fun _ => hstep.1 (pair_eq g205))) (by (try dsimp only); omega) (subMk (.cons' (s := 20) rfl rfl (.cons (s := 6) rfl (.cons (s := 9) rfl (.cons (s := 10) rfl (.cons (s := 12) rfl (.cons (s := 18) rfl .nil)))))) (.cons Sel.here .refl (.cons Sel.here .refl (.cons Sel.here .refl (.cons Sel.here .refl .nil)))))
                · have g194' := g194
                  try simp only [decide_eq_true_eq, decide_eq_false_iff_not, beq_iff_eq, beq_eq_false_iff_ne, bne_iff_ne, bne_eq_false_iff_eq, Bool.not_eq_true', Bool.not_eq_false', ne_eq, Int.not_lt, Int.not_le, Decidable.not_not] at g194'
                  refine run_exit rfl ?_
                  refine run_sub (subMk (.cons (s := 6) rfl .nil) .refl) ?_
                  refine run_seq ?_
                  refine run_region ?_
                  refine run_q (.none rfl) rfl rfl (q_assign rfl rfl) ?_
                  refine run_nil ?_
                  refine run_ret ?_
                  exact end1 rfl rfl rfl
              · have g189' := g189
                try simp only [decide_eq_true_eq, decide_eq_false_iff_not, beq_iff_eq, beq_eq_false_iff_ne, bne_iff_ne, bne_eq_false_iff_eq, Bool.not_eq_true', Bool.not_eq_false', ne_eq, Int.not_lt, Int.not_le, Decidable.not_not] at g189'
                refine run_off (.no rfl rfl rfl g189) rfl rfl ?_
                refine run_off (.no rfl rfl rfl g189) rfl rfl ?_
                refine run_off (.no rfl rfl rfl g189) rfl rfl ?_
                refine run_off (.no rfl rfl rfl g189) rfl rfl ?_
                refine run_q (.none rfl) rfl rfl (q_pickF rfl rfl g189 rfl) ?_
                refine run_nil ?_
                refine run_sub (subMk (.cons (s := 6) rfl (.cons (s := 9) rfl (.cons (s := 10) rfl (.cons (s := 12) rfl (.cons (s := 18) rfl (.cons (s := 20) rfl (.cons (s := 194) rfl .nil))))))) .refl) ?_
                refine run_condF rfl rfl ?_
                refine run_exit rfl ?_
                refine run_sub (subMk (.cons (s := 6) rfl .nil) .refl) ?_
                refine run_seq ?_
                refine run_region ?_
                refine run_q (.none rfl) rfl rfl (q_assign rfl rfl) ?_
                refine run_nil ?_
                refine run_ret ?_
                exact end1 rfl rfl rfl
            · have g183' := g183
              try simp only [decide_eq_true_eq, decide_eq_false_iff_not, beq_iff_eq, beq_eq_false_iff_ne, bne_iff_ne, bne_eq_false_iff_eq, Bool.not_eq_true', Bool.not_eq_false', ne_eq, Int.not_lt, Int.not_le, Decidable.not_not] at g183'
              refine run_off (.no rfl rfl rfl g183) rfl rfl ?_
              refine run_off (.no rfl rfl rfl g183) rfl rfl ?_
              refine run_off (.no rfl rfl rfl g183) rfl rfl ?_
              refine run_off (.no rfl rfl rfl g183) rfl rfl ?_
              refine run_q (.none rfl) rfl rfl (q_pickF rfl rfl g183 rfl) ?_
              refine run_q (.none rfl) rfl rfl (q_move rfl rfl) ?_
              refine run_off (.no rfl rfl rfl rfl) rfl rfl ?_
              refine run_off (.no rfl rfl rfl rfl) rfl rfl ?_
              refine run_off (.no rfl rfl rfl rfl) rfl rfl ?_
              refine run_off (.no rfl rfl rfl rfl) rfl rfl ?_
              refine run_q (.none rfl) rfl rfl (q_pickF rfl rfl rfl rfl) ?_
              refine run_nil ?_
              refine run_sub (subMk (.cons (s := 6) rfl (.cons (s := 9) rfl (.cons (s := 10) rfl (.cons (s := 12) rfl (.cons (s := 18) rfl (.cons (s := 20) rfl (.cons (s := 194) rfl .nil))))))) .refl) ?_
              refine run_condF rfl rfl ?_
              refine run_exit rfl ?_
              refine run_sub (subMk (.cons (s := 6) rfl .nil) .refl) ?_
              refine run_seq ?_
              refine run_region ?_
              refine run_q (.none rfl) rfl rfl (q_assign rfl rfl) ?_
              refine run_nil ?_
              refine run_ret ?_
              exact end1 rfl rfl rfl

theorem law6_just (c : Cost) (l l2 : List Note) (A B : Option Addr) (ca cb : Nat) (bs : List Int) (C : Option Addr) (cc : Nat) (W : World) (hr : Rd W A 7 (l.map Note.enc)) (hr2 : Rd W B 7 (l2.map Note.enc)) (hca : l.length ≤ ca) (hcb : l2.length ≤ cb) (hrc : Rd W C 1 (bs.map encU8)) (hbs : ∀ x ∈ bs, 0 ≤ x ∧ x ≤ 255) : Calls Try.prog 6 #[.agg #[.slice A l.length ca, .slice B l2.length cb], c.val, .slice C bs.length cc] W (Just W (.bool true)) :=
  law6_at c l l2 A B ca cb bs C cc W hr hr2 hca hcb hrc hbs _ _ rfl rfl

end Go.Proofs.Ytbkmmjpklkallaa
