/- The law on sides, heights out of bounds and two sides. -/
import Derived.Test.YtomhegnaojejnaaL
import Derived.Test.YtomhegnaojejnaaSides
set_option linter.unusedSimpArgs false
set_option linter.unusedVariables false
namespace Go.Proofs.Ytomhegnaojejnaa
open Go Go.RowKit Hr

theorem call29 : Hr.Callable Try.prog 29 := fun args w => by kernel_rfl
theorem call28 : Hr.Callable Try.prog 28 := fun args w => by kernel_rfl

theorem Side_just (up : Bool) (v vs : Int) (W : World)  : Calls Try.prog 29 #[.bool up, .int .i64 v, .int .i64 vs] W (Hr.Just W (.int .i64 (sideV up v vs))) := by
  refine Just.of_ret ?_
  refine enterA (X := nX) (vs := [.bool up, .int .i64 v, .int .i64 vs]) Try.func29 Try.ntmps29 rfl rfl Mem.nil ?_
  refine run_seq ?_
  refine run_region ?_
  refine run_q (.none rfl) rfl rfl (q_assign rfl rfl) ?_
  refine run_nil ?_
  refine run_seq ?_
  refine run_block ?_
  refine run_seq ?_
  refine run_region ?_
  refine run_q (.none rfl) rfl rfl (q_move rfl rfl) ?_
  refine run_q (.none rfl) rfl rfl (q_geq rfl rfl rfl) ?_
  refine run_q (.none rfl) rfl rfl (q_move rfl rfl) ?_
  refine run_split 10 rfl (fun g10 => ?_) (fun g10 => ?_)
  · have g10' := g10
    try simp only [decide_eq_true_eq, decide_eq_false_iff_not, beq_iff_eq, beq_eq_false_iff_ne, bne_iff_ne, bne_eq_false_iff_eq, Bool.not_eq_true', Bool.not_eq_false', ne_eq, Int.not_lt, Int.not_le, Decidable.not_not] at g10'
    refine run_q (.on rfl rfl rfl g10) rfl rfl (q_move rfl rfl) ?_
    refine run_q (.on rfl rfl rfl g10) rfl rfl (q_eql rfl rfl rfl) ?_
    refine run_q (.none rfl) rfl rfl (q_pickT rfl rfl g10 rfl) ?_
    refine run_q (.none rfl) rfl rfl (q_assign rfl rfl) ?_
    refine run_nil ?_
    refine run_sub (subMk (.cons (s := 0) rfl (.cons (s := 2) rfl (.cons (s := 6) rfl (.cons (s := 7) rfl .nil)))) .refl) ?_
    refine run_cond rfl (fun g7 => ?_) (fun g7 => ?_)
    · have g7' := g7
      try simp only [decide_eq_true_eq, decide_eq_false_iff_not, beq_iff_eq, beq_eq_false_iff_ne, bne_iff_ne, bne_eq_false_iff_eq, Bool.not_eq_true', Bool.not_eq_false', ne_eq, Int.not_lt, Int.not_le, Decidable.not_not] at g7'
      refine run_seq ?_
      refine run_region ?_
      refine run_q (.none rfl) rfl rfl (q_assign rfl rfl) ?_
      refine run_nil ?_
      refine run_sub (subMk (.cons (s := 6) rfl .nil) .refl) ?_
      refine run_ret ?_
      exact end1 rfl rfl (by first | (exfalso; omega) | rw [sideV_1 (by omega)] | rw [sideV_2 (by omega) (.inl (by omega))] | rw [sideV_2 (by omega) (.inr g14)] | rw [sideV_3 (by omega) (by rintro (h | h); (· omega); (· rw [g14] at h; cases h))])
    · have g7' := g7
      try simp only [decide_eq_true_eq, decide_eq_false_iff_not, beq_iff_eq, beq_eq_false_iff_ne, bne_iff_ne, bne_eq_false_iff_eq, Bool.not_eq_true', Bool.not_eq_false', ne_eq, Int.not_lt, Int.not_le, Decidable.not_not] at g7'
      refine run_seq ?_
      refine run_region ?_
      refine run_q (.none rfl) rfl rfl (q_move rfl rfl) ?_
      refine run_q (.none rfl) rfl rfl (q_geq rfl rfl rfl) ?_
      refine run_q (.none rfl) rfl rfl (q_move rfl rfl) ?_
      refine run_split 17 rfl (fun g17 => ?_) (fun g17 => ?_)
      · have g17' := g17
        try simp only [decide_eq_true_eq, decide_eq_false_iff_not, beq_iff_eq, beq_eq_false_iff_ne, bne_iff_ne, bne_eq_false_iff_eq, Bool.not_eq_true', Bool.not_eq_false', ne_eq, Int.not_lt, Int.not_le, Decidable.not_not] at g17'
        refine run_off (.no rfl rfl rfl g17) rfl rfl ?_
        refine run_q (.none rfl) rfl rfl (q_pickT rfl rfl g17 rfl) ?_
        refine run_q (.none rfl) rfl rfl (q_assign rfl rfl) ?_
        refine run_nil ?_
        refine run_sub (subMk (.cons (s := 6) rfl (.cons (s := 14) rfl .nil)) .refl) ?_
        refine run_condT rfl rfl ?_
        refine run_seq ?_
        refine run_region ?_
        refine run_q (.none rfl) rfl rfl (q_assign rfl rfl) ?_
        refine run_nil ?_
        refine run_ret ?_
        exact end1 rfl rfl (by first | (exfalso; omega) | rw [sideV_1 (by omega)] | rw [sideV_2 (by omega) (.inl (by omega))] | rw [sideV_2 (by omega) (.inr g14)] | rw [sideV_3 (by omega) (by rintro (h | h); (· omega); (· rw [g14] at h; cases h))])
      · have g17' := g17
        try simp only [decide_eq_true_eq, decide_eq_false_iff_not, beq_iff_eq, beq_eq_false_iff_ne, bne_iff_ne, bne_eq_false_iff_eq, Bool.not_eq_true', Bool.not_eq_false', ne_eq, Int.not_lt, Int.not_le, Decidable.not_not] at g17'
        refine run_q (.on rfl rfl rfl g17) rfl rfl (q_move rfl rfl) ?_
        refine run_q (.none rfl) rfl rfl (q_pickF rfl rfl g17 rfl) ?_
        refine run_q (.none rfl) rfl rfl (q_assign rfl rfl) ?_
        refine run_nil ?_
        refine run_sub (subMk (.cons (s := 6) rfl (.cons (s := 14) rfl .nil)) .refl) ?_
        refine run_cond rfl (fun g14 => ?_) (fun g14 => ?_)
        · have g14' := g14
          try simp only [decide_eq_true_eq, decide_eq_false_iff_not, beq_iff_eq, beq_eq_false_iff_ne, bne_iff_ne, bne_eq_false_iff_eq, Bool.not_eq_true', Bool.not_eq_false', ne_eq, Int.not_lt, Int.not_le, Decidable.not_not] at g14'
          refine run_seq ?_
          refine run_region ?_
          refine run_q (.none rfl) rfl rfl (q_assign rfl rfl) ?_
          refine run_nil ?_
          refine run_ret ?_
          exact end1 rfl rfl (by first | (exfalso; omega) | rw [sideV_1 (by omega)] | rw [sideV_2 (by omega) (.inl (by omega))] | rw [sideV_2 (by omega) (.inr g14)] | rw [sideV_3 (by omega) (by rintro (h | h); (· omega); (· rw [g14] at h; cases h))])
        · have g14' := g14
          try simp only [decide_eq_true_eq, decide_eq_false_iff_not, beq_iff_eq, beq_eq_false_iff_ne, bne_iff_ne, bne_eq_false_iff_eq, Bool.not_eq_true', Bool.not_eq_false', ne_eq, Int.not_lt, Int.not_le, Decidable.not_not] at g14'
          refine run_skip ?_
          refine run_blk ?_
          refine run_seq ?_
          refine run_region ?_
          refine run_q (.none rfl) rfl rfl (q_assign rfl rfl) ?_
          refine run_nil ?_
          refine run_ret ?_
          exact end1 rfl rfl (by first | (exfalso; omega) | rw [sideV_1 (by omega)] | rw [sideV_2 (by omega) (.inl (by omega))] | rw [sideV_2 (by omega) (.inr g14)] | rw [sideV_3 (by omega) (by rintro (h | h); (· omega); (· rw [g14] at h; cases h))])
  · have g10' := g10
    try simp only [decide_eq_true_eq, decide_eq_false_iff_not, beq_iff_eq, beq_eq_false_iff_ne, bne_iff_ne, bne_eq_false_iff_eq, Bool.not_eq_true', Bool.not_eq_false', ne_eq, Int.not_lt, Int.not_le, Decidable.not_not] at g10'
    refine run_off (.no rfl rfl rfl g10) rfl rfl ?_
    refine run_off (.no rfl rfl rfl g10) rfl rfl ?_
    refine run_q (.none rfl) rfl rfl (q_pickF rfl rfl g10 rfl) ?_
    refine run_q (.none rfl) rfl rfl (q_assign rfl rfl) ?_
    refine run_nil ?_
    refine run_sub (subMk (.cons (s := 0) rfl (.cons (s := 2) rfl (.cons (s := 6) rfl (.cons (s := 7) rfl .nil)))) .refl) ?_
    refine run_condF rfl rfl ?_
    refine run_seq ?_
    refine run_region ?_
    refine run_q (.none rfl) rfl rfl (q_move rfl rfl) ?_
    refine run_q (.none rfl) rfl rfl (q_geq rfl rfl rfl) ?_
    refine run_q (.none rfl) rfl rfl (q_move rfl rfl) ?_
    refine run_split 17 rfl (fun g17 => ?_) (fun g17 => ?_)
    · have g17' := g17
      try simp only [decide_eq_true_eq, decide_eq_false_iff_not, beq_iff_eq, beq_eq_false_iff_ne, bne_iff_ne, bne_eq_false_iff_eq, Bool.not_eq_true', Bool.not_eq_false', ne_eq, Int.not_lt, Int.not_le, Decidable.not_not] at g17'
      refine run_off (.no rfl rfl rfl g17) rfl rfl ?_
      refine run_q (.none rfl) rfl rfl (q_pickT rfl rfl g17 rfl) ?_
      refine run_q (.none rfl) rfl rfl (q_assign rfl rfl) ?_
      refine run_nil ?_
      refine run_sub (subMk (.cons (s := 6) rfl (.cons (s := 14) rfl .nil)) .refl) ?_
      refine run_condT rfl rfl ?_
      refine run_seq ?_
      refine run_region ?_
      refine run_q (.none rfl) rfl rfl (q_assign rfl rfl) ?_
      refine run_nil ?_
      refine run_ret ?_
      exact end1 rfl rfl (by first | (exfalso; omega) | rw [sideV_1 (by omega)] | rw [sideV_2 (by omega) (.inl (by omega))] | rw [sideV_2 (by omega) (.inr g14)] | rw [sideV_3 (by omega) (by rintro (h | h); (· omega); (· rw [g14] at h; cases h))])
    · have g17' := g17
      try simp only [decide_eq_true_eq, decide_eq_false_iff_not, beq_iff_eq, beq_eq_false_iff_ne, bne_iff_ne, bne_eq_false_iff_eq, Bool.not_eq_true', Bool.not_eq_false', ne_eq, Int.not_lt, Int.not_le, Decidable.not_not] at g17'
      refine run_q (.on rfl rfl rfl g17) rfl rfl (q_move rfl rfl) ?_
      refine run_q (.none rfl) rfl rfl (q_pickF rfl rfl g17 rfl) ?_
      refine run_q (.none rfl) rfl rfl (q_assign rfl rfl) ?_
      refine run_nil ?_
      refine run_sub (subMk (.cons (s := 6) rfl (.cons (s := 14) rfl .nil)) .refl) ?_
      refine run_cond rfl (fun g14 => ?_) (fun g14 => ?_)
      · have g14' := g14
        try simp only [decide_eq_true_eq, decide_eq_false_iff_not, beq_iff_eq, beq_eq_false_iff_ne, bne_iff_ne, bne_eq_false_iff_eq, Bool.not_eq_true', Bool.not_eq_false', ne_eq, Int.not_lt, Int.not_le, Decidable.not_not] at g14'
        refine run_seq ?_
        refine run_region ?_
        refine run_q (.none rfl) rfl rfl (q_assign rfl rfl) ?_
        refine run_nil ?_
        refine run_ret ?_
        exact end1 rfl rfl (by first | (exfalso; omega) | rw [sideV_1 (by omega)] | rw [sideV_2 (by omega) (.inl (by omega))] | rw [sideV_2 (by omega) (.inr g14)] | rw [sideV_3 (by omega) (by rintro (h | h); (· omega); (· rw [g14] at h; cases h))])
      · have g14' := g14
        try simp only [decide_eq_true_eq, decide_eq_false_iff_not, beq_iff_eq, beq_eq_false_iff_ne, bne_iff_ne, bne_eq_false_iff_eq, Bool.not_eq_true', Bool.not_eq_false', ne_eq, Int.not_lt, Int.not_le, Decidable.not_not] at g14'
        refine run_skip ?_
        refine run_blk ?_
        refine run_seq ?_
        refine run_region ?_
        refine run_q (.none rfl) rfl rfl (q_assign rfl rfl) ?_
        refine run_nil ?_
        refine run_ret ?_
        exact end1 rfl rfl (by first | (exfalso; omega) | rw [sideV_1 (by omega)] | rw [sideV_2 (by omega) (.inl (by omega))] | rw [sideV_2 (by omega) (.inr g14)] | rw [sideV_3 (by omega) (by rintro (h | h); (· omega); (· rw [g14] at h; cases h))])

theorem tie_none (h : Int) (up : Bool) (v vs : Int) (W : World) (hh : ¬ (1 ≤ h ∧ h ≤ 10)) : Calls Try.prog 28 #[.int .i64 h, .bool up, .int .i64 v, .int .i64 vs] W (Hr.Just W (.slice none 0 0)) := by
  refine Just.of_ret ?_
  refine enterA (X := nX) (vs := [.int .i64 h, .bool up, .int .i64 v, .int .i64 vs]) Try.func28 Try.ntmps28 rfl rfl Mem.nil ?_
  refine run_seq ?_
  refine run_region ?_
  refine run_q (.none rfl) rfl rfl (q_assign rfl rfl) ?_
  refine run_nil ?_
  refine run_seq ?_
  refine run_seq ?_
  refine run_region ?_
  refine run_q (.none rfl) rfl rfl (q_move rfl rfl) ?_
  refine run_q (.none rfl) rfl rfl (q_lss rfl rfl rfl) ?_
  refine run_q (.none rfl) rfl rfl (q_move rfl rfl) ?_
  refine run_split 13 rfl (fun g13 => ?_) (fun g13 => ?_)
  · have g13' := g13
    try simp only [decide_eq_true_eq, decide_eq_false_iff_not, beq_iff_eq, beq_eq_false_iff_ne, bne_iff_ne, bne_eq_false_iff_eq, Bool.not_eq_true', Bool.not_eq_false', ne_eq, Int.not_lt, Int.not_le, Decidable.not_not] at g13'
    refine run_off (.no rfl rfl rfl g13) rfl rfl ?_
    refine run_off (.no rfl rfl rfl g13) rfl rfl ?_
    refine run_q (.none rfl) rfl rfl (q_pickT rfl rfl g13 rfl) ?_
    refine run_nil ?_
    refine run_sub (subMk (.cons (s := 0) rfl (.cons (s := 1) rfl (.cons (s := 2) rfl (.cons (s := 3) rfl (.cons (s := 8) rfl (.cons (s := 16) rfl .nil)))))) .refl) ?_
    refine run_condT rfl rfl ?_
    refine run_seq ?_
    refine run_region ?_
    refine run_q (.none rfl) rfl rfl (q_assign rfl rfl) ?_
    refine run_nil ?_
    refine run_ret ?_
    exact end1 rfl rfl rfl
  · have g13' := g13
    try simp only [decide_eq_true_eq, decide_eq_false_iff_not, beq_iff_eq, beq_eq_false_iff_ne, bne_iff_ne, bne_eq_false_iff_eq, Bool.not_eq_true', Bool.not_eq_false', ne_eq, Int.not_lt, Int.not_le, Decidable.not_not] at g13'
    refine run_q (.on rfl rfl rfl g13) rfl rfl (q_move rfl rfl) ?_
    refine run_q (.on rfl rfl rfl g13) rfl rfl (q_gtr rfl rfl rfl) ?_
    refine run_q (.none rfl) rfl rfl (q_pickF rfl rfl g13 rfl) ?_
    refine run_nil ?_
    refine run_sub (subMk (.cons (s := 0) rfl (.cons (s := 1) rfl (.cons (s := 2) rfl (.cons (s := 3) rfl (.cons (s := 8) rfl (.cons (s := 16) rfl .nil)))))) .refl) ?_
    refine run_condT rfl (decide_eq_true (by omega)) ?_
    refine run_seq ?_
    refine run_region ?_
    refine run_q (.none rfl) rfl rfl (q_assign rfl rfl) ?_
    refine run_nil ?_
    refine run_ret ?_
    exact end1 rfl rfl rfl

set_option maxHeartbeats 1000000 in
set_option maxRecDepth 100000 in
theorem tie_some (n : Nat) (up : Bool) (v vs : Int) (W : World) (hn : 1 ≤ n ∧ n ≤ 10) : Calls Try.prog 28 #[.int .i64 (n : Int), .bool up, .int .i64 v, .int .i64 vs] W (Ret W nX (fun v' m => ∃ A c, v' = .slice A n c ∧ m = [.own 3 1 A n c ((tieL (sideV up v vs) vs n).map encI)])) := by
  refine enterA (X := nX) (vs := [.int .i64 (n : Int), .bool up, .int .i64 v, .int .i64 vs]) Try.func28 Try.ntmps28 rfl rfl Mem.nil ?_
  refine run_seq ?_
  refine run_region ?_
  refine run_q (.none rfl) rfl rfl (q_assign rfl rfl) ?_
  refine run_nil ?_
  refine run_seq ?_
  refine run_seq ?_
  refine run_region ?_
  refine run_q (.none rfl) rfl rfl (q_move rfl rfl) ?_
  refine run_q (.none rfl) rfl rfl (q_lss rfl rfl rfl) ?_
  refine run_q (.none rfl) rfl rfl (q_move rfl rfl) ?_
  refine run_q (.on rfl rfl rfl (decide_eq_false (by omega))) rfl rfl (q_move rfl rfl) ?_
  refine run_q (.on rfl rfl rfl (decide_eq_false (by omega))) rfl rfl (q_gtr rfl rfl rfl) ?_
  refine run_q (.none rfl) rfl rfl (q_pickF rfl rfl (decide_eq_false (by omega)) rfl) ?_
  refine run_nil ?_
  refine run_sub (subMk (.cons (s := 0) rfl (.cons (s := 1) rfl (.cons (s := 2) rfl (.cons (s := 3) rfl (.cons (s := 8) rfl (.cons (s := 16) rfl .nil)))))) .refl) ?_
  refine run_condF rfl (decide_eq_false (by omega)) ?_
  refine run_skip ?_
  refine run_seq ?_
  refine run_region ?_
  refine run_q (.none rfl) rfl rfl (q_move rfl rfl) ?_
  refine run_q (.none rfl) rfl rfl (q_move rfl rfl) ?_
  refine run_q (.none rfl) rfl rfl (q_move rfl rfl) ?_
  refine run_q (.none rfl) rfl rfl (q_call rfl call29 (.cons rfl (.cons rfl (.cons rfl Evs.nil))) (fun w hk hm => Side_just up v vs w)) ?_
  refine run_h (.none rfl) (h_buildSlice rfl rfl rfl Try.underlying38 info3 (.cons rfl rfl rfl rfl Parts.nil) rfl (by omega)) ?_
  rintro b21 -
  refine run_q (.none rfl) rfl rfl (q_move rfl rfl) ?_
  refine run_h (.none rfl) (h_call rfl rfl rfl call49 (.cons rfl (.cons rfl Evs.nil)) (fun w hk hm => repeat_ret (sideV up v vs) n (some ⟨b21, 0, none⟩) w (own_rd (Sel.here.holds hm)) ⟨by omega, by omega⟩)) ?_
  rintro ⟨v', m⟩ ⟨A, c, rfl, rfl⟩
  show Run _ _ _ _ _ _ _ ⟨(23, .slice A n c) :: _, _ :: _⟩
  refine run_q (.none rfl) rfl rfl (q_assign rfl rfl) ?_
  refine run_nil ?_
  refine run_sub (subMk (.cons (s := 0) rfl (.cons (s := 3) rfl (.cons (s := 8) rfl (.cons (s := 9) rfl .nil)))) .refl) ?_
  refine run_seq ?_
  refine run_seq ?_
  refine run_region ?_
  refine run_q (.none rfl) rfl rfl (q_move rfl rfl) ?_
  refine run_q (.none rfl) rfl rfl (q_geq rfl rfl rfl) ?_
  refine run_nil ?_
  refine run_cond rfl (fun g25 => ?_) (fun g25 => ?_)
  · have g25' := g25
    try simp only [decide_eq_true_eq, decide_eq_false_iff_not, beq_iff_eq, beq_eq_false_iff_ne, bne_iff_ne, bne_eq_false_iff_eq, Bool.not_eq_true', Bool.not_eq_false', ne_eq, Int.not_lt, Int.not_le, Decidable.not_not] at g25'
    refine run_seq ?_
    refine run_region ?_
    refine run_q (.none rfl) rfl rfl (q_move rfl rfl) ?_
    refine run_q (.none rfl) rfl rfl (q_assign rfl rfl) ?_
    refine run_nil ?_
    refine run_sub (subMk (.cons (s := 0) rfl (.cons (s := 8) rfl (.cons (s := 9) rfl .nil))) .refl) ?_
    refine run_ret ?_
    refine run_sub (subMk .refl (.cons Sel.here (.own (xs' := (tieL (sideV up v vs) vs n).map encI) rfl rfl rfl (by rw [tieL, if_pos (by omega)])) .nil)) ?_
    exact end1 rfl rfl ⟨A, c, rfl, rfl⟩
  · have g25' := g25
    try simp only [decide_eq_true_eq, decide_eq_false_iff_not, beq_iff_eq, beq_eq_false_iff_ne, bne_iff_ne, bne_eq_false_iff_eq, Bool.not_eq_true', Bool.not_eq_false', ne_eq, Int.not_lt, Int.not_le, Decidable.not_not] at g25'
    refine run_skip ?_
    refine run_seq ?_
    refine run_seq ?_
    refine run_region ?_
    refine run_q (.none rfl) rfl rfl (q_move rfl rfl) ?_
    refine run_q (.none rfl) rfl rfl (q_quo rfl rfl rfl (by omega)) ?_
    refine run_q (.none rfl) rfl rfl (q_move rfl rfl) ?_
    refine run_nil ?_
    refine run_sub (subMk (.cons (s := 0) rfl (.cons (s := 8) rfl (.cons (s := 9) rfl (.cons (s := 28) rfl (.cons (s := 29) rfl .nil))))) .refl) ?_
    refine run_block ?_
    refine run_sub (subMk (.cons (s := 29) rfl (.cons (s := 0) rfl (.cons (s := 8) rfl (.cons (s := 9) rfl (.cons (s := 28) rfl .nil))))) (.cons Sel.here .refl (.cons Sel.here .refl .nil))) ?_
    refine run_loopC1M1 (ι := Nat) (fun k => 2 * k ≤ n) (fun k => .int .i64 (k : Int)) (fun k => .own 3 1 A n c ((tieN (sideV up v vs) n k).map encI)) (fun k => n - k) 0 (by (try dsimp only); exact (by omega)) rfl (.own rfl rfl rfl (by rw [tieN_zero])) ?_
    rintro k hk
    (try dsimp only at hk)
    show Run _ _ _ _ _ _ _ ⟨(29, .int .i64 (k : Int)) :: _, .own 3 1 A n c ((tieN (sideV up v vs) n k).map encI) :: _⟩
    refine run_seq ?_
    refine run_region ?_
    refine run_q (.none rfl) rfl rfl (q_lss rfl rfl rfl) ?_
    refine run_nil ?_
    refine run_seq ?_
    refine run_cond rfl (fun g30 => ?_) (fun g30 => ?_)
    · have g30' := g30
      try simp only [decide_eq_true_eq, decide_eq_false_iff_not, beq_iff_eq, beq_eq_false_iff_ne, bne_iff_ne, bne_eq_false_iff_eq, Bool.not_eq_true', Bool.not_eq_false', ne_eq, Int.not_lt, Int.not_le, Decidable.not_not] at g30'
      refine run_skip ?_
      refine run_seq ?_
      refine run_block ?_
      refine run_seq ?_
      refine run_region ?_
      refine run_q (.none rfl) rfl rfl (q_move rfl rfl) ?_
      refine run_q (.none rfl) rfl rfl (q_assign rfl rfl) ?_
      refine run_nil ?_
      refine run_region ?_
      refine run_q (.none rfl) rfl rfl (q_move rfl rfl) ?_
      refine run_q (.none rfl) rfl rfl (q_move rfl rfl) ?_
      refine run_q (.none rfl) rfl rfl (q_move rfl rfl) ?_
      refine run_q (.none rfl) rfl rfl (q_move rfl rfl) ?_
      refine run_q (.none rfl) rfl rfl (q_sub rfl rfl rfl (by omega)) ?_
      refine run_q (.none rfl) rfl rfl (q_move rfl rfl) ?_
      refine run_q (.none rfl) rfl rfl (q_sub rfl rfl rfl (by omega)) ?_
      refine run_q (.none rfl) rfl rfl (q_indexS (q := k) rfl Try.underlying38 sz3 rfl rfl (.own Sel.here) (by rw [List.length_map, tieN_len]) rfl (by omega)) ?_
      refine run_h (.none rfl) (h_storeE rfl rfl sz3 rfl rfl rfl rfl rfl Sel.here (by omega)) ?_
      rintro - -
      refine run_q (.none rfl) rfl rfl (q_indexS (q := (n - 1 - k)) rfl Try.underlying38 sz3 rfl rfl (.own Sel.here) (by rw [List.length_set, List.length_map, tieN_len]) (by omega) (by omega)) ?_
      refine run_h (.none rfl) (h_storeE rfl rfl sz3 rfl rfl rfl rfl rfl Sel.here (by omega)) ?_
      rintro - -
      refine run_nil ?_
      refine run_sub (subMk (.cons (s := 0) rfl (.cons (s := 8) rfl (.cons (s := 9) rfl (.cons (s := 28) rfl (.cons (s := 29) rfl .nil))))) .refl) ?_
      refine run_blk ?_
      refine run_region ?_
      refine run_q (.none rfl) rfl rfl (q_add rfl rfl rfl (by omega)) ?_
      refine run_q (.none rfl) rfl rfl (q_move rfl rfl) ?_
      refine run_nil ?_
      exact run_again (k + 1) (by (try dsimp only); exact (by omega)) (by (try dsimp only); omega) (subMk (.cons' (s := 29) rfl (vint (by omega)) (.cons (s := 0) rfl (.cons (s := 8) rfl (.cons (s := 9) rfl (.cons (s := 28) rfl .nil))))) (.cons Sel.here (.own rfl rfl rfl (by rw [← tieN_step (by omega), List.map_set, List.map_set]; rfl)) (.cons Sel.here .refl .nil)))
    · have g30' := g30
      try simp only [decide_eq_true_eq, decide_eq_false_iff_not, beq_iff_eq, beq_eq_false_iff_ne, bne_iff_ne, bne_eq_false_iff_eq, Bool.not_eq_true', Bool.not_eq_false', ne_eq, Int.not_lt, Int.not_le, Decidable.not_not] at g30'
      refine run_exit rfl ?_
      refine run_sub (subMk (.cons (s := 8) rfl (.cons (s := 9) rfl .nil)) .refl) ?_
      refine run_seq ?_
      refine run_region ?_
      refine run_q (.none rfl) rfl rfl (q_move rfl rfl) ?_
      refine run_q (.none rfl) rfl rfl (q_assign rfl rfl) ?_
      refine run_nil ?_
      refine run_ret ?_
      refine run_sub (subMk .refl (.cons Sel.here (.own (xs' := (tieL (sideV up v vs) vs n).map encI) rfl rfl rfl (by rw [tieL, if_neg (by omega), show k = n / 2 from by omega])) .nil)) ?_
      exact end1 rfl rfl ⟨A, c, rfl, rfl⟩

set_option maxHeartbeats 2000000 in
set_option maxRecDepth 100000 in
theorem law9_0f (h : Int) (up : Bool) (v0 v1 : Int) (W : World) (hr : ¬ (1 ≤ h ∧ h ≤ 10)) (hc : 2 ≤ v1) (hd : v0 ≠ 0) : Calls Try.prog 9 #[.int .i64 h, .bool up, .agg #[.int .i64 v0, .int .i64 v1]] W (Hr.Just W (.bool true)) := by
  refine Just.of_ret ?_
  refine enterA (X := nX) (vs := [.int .i64 h, .bool up, .agg #[.int .i64 v0, .int .i64 v1]]) Try.func9 Try.ntmps9 rfl rfl Mem.nil ?_
  refine run_seq ?_
  refine run_region ?_
  refine run_h (.none rfl) (h_box rfl rfl rfl rfl rfl) ?_
  rintro b5 -
  refine run_q (.none rfl) rfl rfl (q_assign rfl rfl) ?_
  refine run_nil ?_
  refine run_seq ?_
  refine run_seq ?_
  refine run_region ?_
  refine run_q (.none rfl) rfl rfl (q_call rfl call12 Evs.nil (fun w hk hm => known_just w)) ?_
  refine run_q (.none rfl) rfl rfl (q_not rfl rfl) ?_
  refine run_nil ?_
  refine run_condF rfl rfl ?_
  refine run_skip ?_
  refine run_seq ?_
  refine run_region ?_
  refine run_q (.none rfl) rfl rfl (q_assign rfl rfl) ?_
  refine run_nil ?_
  refine run_sub (subMk (.cons (s := 0) rfl (.cons (s := 1) rfl (.cons (s := 5) rfl (.cons (s := 6) rfl (.cons (s := 7) rfl .nil))))) .refl) ?_
  refine run_seq ?_
  refine run_seq ?_
  refine run_region ?_
  refine run_q (.none rfl) rfl rfl (q_indexB (q := 1) (d := 1) rfl Try.underlying64 sz3 rfl rfl rfl (by decide) rfl) ?_
  refine run_q (.none rfl) rfl rfl (q_loadB rfl one3 rfl Sel.here rfl) ?_
  refine run_q (.none rfl) rfl rfl (q_geq rfl rfl rfl) ?_
  refine run_q (.none rfl) rfl rfl (q_move rfl rfl) ?_
  refine run_q (.on rfl rfl rfl (decide_eq_true (by omega))) rfl rfl (q_indexB (q := 0) (d := 0) rfl Try.underlying64 sz3 rfl rfl rfl (by decide) rfl) ?_
  refine run_q (.on rfl rfl rfl (decide_eq_true (by omega))) rfl rfl (q_loadB rfl one3 rfl Sel.here rfl) ?_
  refine run_q (.on rfl rfl rfl (decide_eq_true (by omega))) rfl rfl (q_neq rfl rfl rfl) ?_
  refine run_q (.none rfl) rfl rfl (q_pickT rfl rfl (decide_eq_true (by omega)) rfl) ?_
  refine run_q (.none rfl) rfl rfl (q_move rfl rfl) ?_
  refine run_off (.no rfl rfl rfl (by first | exact decide_eq_true hd | simpa using hd)) rfl rfl ?_
  refine run_off (.no rfl rfl rfl (by first | exact decide_eq_true hd | simpa using hd)) rfl rfl ?_
  refine run_off (.no rfl rfl rfl (by first | exact decide_eq_true hd | simpa using hd)) rfl rfl ?_
  refine run_off (.no rfl rfl rfl (by first | exact decide_eq_true hd | simpa using hd)) rfl rfl ?_
  refine run_off (.off rfl rfl rfl) rfl rfl ?_
  refine run_off (.no rfl rfl rfl (by first | exact decide_eq_true hd | simpa using hd)) rfl rfl ?_
  refine run_q (.none rfl) rfl rfl (q_pickT rfl rfl (by first | exact decide_eq_true hd | simpa using hd) rfl) ?_
  refine run_nil ?_
  refine run_sub (subMk (.cons (s := 0) rfl (.cons (s := 1) rfl (.cons (s := 5) rfl (.cons (s := 6) rfl (.cons (s := 7) rfl (.cons (s := 28) rfl .nil)))))) .refl) ?_
  refine run_condT rfl rfl ?_
  refine run_region ?_
  refine run_q (.none rfl) rfl rfl (q_assign rfl rfl) ?_
  refine run_nil ?_
  refine run_seq ?_
  have hS : (sideV up v0 v1) = (-1) := (sideV_2 (by omega) (.inl (by omega)))
  refine run_sub (subMk (.cons (s := 0) rfl (.cons (s := 1) rfl (.cons (s := 5) rfl (.cons (s := 6) rfl (.cons' (s := 7) (v' := .int .i64 (sideV up v0 v1)) rfl (vint hS.symm) (.cons (s := 28) rfl .nil)))))) .refl) ?_
  refine run_region ?_
  refine run_q (.none rfl) rfl rfl (q_move rfl rfl) ?_
  refine run_q (.none rfl) rfl rfl (q_move rfl rfl) ?_
  refine run_q (.none rfl) rfl rfl (q_indexB (q := 0) (d := 0) rfl Try.underlying64 sz3 rfl rfl rfl (by decide) rfl) ?_
  refine run_q (.none rfl) rfl rfl (q_loadB rfl one3 rfl Sel.here rfl) ?_
  refine run_q (.none rfl) rfl rfl (q_indexB (q := 1) (d := 1) rfl Try.underlying64 sz3 rfl rfl rfl (by decide) rfl) ?_
  refine run_q (.none rfl) rfl rfl (q_loadB rfl one3 rfl Sel.here rfl) ?_
  refine run_q (.none rfl) rfl rfl (q_call rfl call28 (.cons rfl (.cons rfl (.cons rfl (.cons rfl Evs.nil)))) (fun w hk hm => tie_none h up v0 v1 w hr)) ?_
  refine run_q (.none rfl) rfl rfl (q_assign rfl rfl) ?_
  refine run_nil ?_
  refine run_sub (subMk (.cons (s := 0) rfl (.cons (s := 1) rfl (.cons (s := 5) rfl (.cons (s := 6) rfl (.cons (s := 7) rfl (.cons (s := 8) rfl .nil)))))) .refl) ?_
  refine run_seq ?_
  refine run_seq ?_
  refine run_region ?_
  refine run_q (.none rfl) rfl rfl (q_move rfl rfl) ?_
  refine run_q (.none rfl) rfl rfl (q_indexB (q := 0) (d := 0) rfl Try.underlying64 sz3 rfl rfl rfl (by decide) rfl) ?_
  refine run_q (.none rfl) rfl rfl (q_loadB rfl one3 rfl Sel.here rfl) ?_
  refine run_q (.none rfl) rfl rfl (q_indexB (q := 1) (d := 1) rfl Try.underlying64 sz3 rfl rfl rfl (by decide) rfl) ?_
  refine run_q (.none rfl) rfl rfl (q_loadB rfl one3 rfl Sel.here rfl) ?_
  refine run_q (.none rfl) rfl rfl (q_call rfl call29 (.cons rfl (.cons rfl (.cons rfl Evs.nil))) (fun w hk hm => Side_just up v0 v1 w)) ?_
  refine run_q (.none rfl) rfl rfl (q_move rfl rfl) ?_
  refine run_q (.none rfl) rfl rfl (q_neq rfl rfl rfl) ?_
  refine run_nil ?_
  refine run_sub (subMk (.cons (s := 0) rfl (.cons (s := 5) rfl (.cons (s := 6) rfl (.cons (s := 7) rfl (.cons (s := 8) rfl (.cons (s := 43) rfl .nil)))))) .refl) ?_
  refine run_condF rfl (by simp) ?_
  refine run_skip ?_
  refine run_seq ?_
  refine run_seq ?_
  refine run_region ?_
  refine run_q (.none rfl) rfl rfl (q_move rfl rfl) ?_
  refine run_q (.none rfl) rfl rfl (q_lss rfl rfl rfl) ?_
  refine run_q (.none rfl) rfl rfl (q_move rfl rfl) ?_
  refine run_split 46 rfl (fun g46 => ?_) (fun g46 => ?_)
  · have g46' := g46
    try simp only [decide_eq_true_eq, decide_eq_false_iff_not, beq_iff_eq, beq_eq_false_iff_ne, bne_iff_ne, bne_eq_false_iff_eq, Bool.not_eq_true', Bool.not_eq_false', ne_eq, Int.not_lt, Int.not_le, Decidable.not_not] at g46'
    refine run_off (.no rfl rfl rfl g46) rfl rfl ?_
    refine run_off (.no rfl rfl rfl g46) rfl rfl ?_
    refine run_q (.none rfl) rfl rfl (q_pickT rfl rfl g46 rfl) ?_
    refine run_nil ?_
    refine run_sub (subMk (.cons (s := 0) rfl (.cons (s := 5) rfl (.cons (s := 6) rfl (.cons (s := 7) rfl (.cons (s := 8) rfl (.cons (s := 49) rfl .nil)))))) .refl) ?_
    refine run_condT rfl rfl ?_
    refine run_seq ?_
    refine run_region ?_
    refine run_q (.none rfl) rfl rfl (q_move rfl rfl) ?_
    refine run_q (.none rfl) rfl rfl (q_len rfl Try.underlying38 rfl) ?_
    refine run_q (.none rfl) rfl rfl (q_eql rfl rfl rfl) ?_
    refine run_q (.none rfl) rfl rfl (q_assign rfl rfl) ?_
    refine run_nil ?_
    refine run_sub (subMk (.cons (s := 0) rfl (.cons (s := 5) rfl (.cons (s := 6) rfl (.cons (s := 7) rfl (.cons (s := 8) rfl .nil))))) .refl) ?_
    refine run_ret ?_
    exact end1 rfl rfl (by simp)
  · have g46' := g46
    try simp only [decide_eq_true_eq, decide_eq_false_iff_not, beq_iff_eq, beq_eq_false_iff_ne, bne_iff_ne, bne_eq_false_iff_eq, Bool.not_eq_true', Bool.not_eq_false', ne_eq, Int.not_lt, Int.not_le, Decidable.not_not] at g46'
    refine run_q (.on rfl rfl rfl g46) rfl rfl (q_move rfl rfl) ?_
    refine run_q (.on rfl rfl rfl g46) rfl rfl (q_gtr rfl rfl rfl) ?_
    refine run_q (.none rfl) rfl rfl (q_pickF rfl rfl g46 rfl) ?_
    refine run_nil ?_
    refine run_sub (subMk (.cons (s := 0) rfl (.cons (s := 5) rfl (.cons (s := 6) rfl (.cons (s := 7) rfl (.cons (s := 8) rfl (.cons (s := 49) rfl .nil)))))) .refl) ?_
    refine run_condT rfl (decide_eq_true (by omega)) ?_
    refine run_seq ?_
    refine run_region ?_
    refine run_q (.none rfl) rfl rfl (q_move rfl rfl) ?_
    refine run_q (.none rfl) rfl rfl (q_len rfl Try.underlying38 rfl) ?_
    refine run_q (.none rfl) rfl rfl (q_eql rfl rfl rfl) ?_
    refine run_q (.none rfl) rfl rfl (q_assign rfl rfl) ?_
    refine run_nil ?_
    refine run_sub (subMk (.cons (s := 0) rfl (.cons (s := 5) rfl (.cons (s := 6) rfl (.cons (s := 7) rfl (.cons (s := 8) rfl .nil))))) .refl) ?_
    refine run_ret ?_
    exact end1 rfl rfl (by simp)

set_option maxHeartbeats 2000000 in
set_option maxRecDepth 100000 in
theorem law9_1f (h : Int) (up : Bool) (v0 v1 : Int) (W : World) (hr : ¬ (1 ≤ h ∧ h ≤ 10)) (hc : 2 ≤ v1) (hd : v0 = 0) : Calls Try.prog 9 #[.int .i64 h, .bool up, .agg #[.int .i64 v0, .int .i64 v1]] W (Hr.Just W (.bool true)) := by
  refine Just.of_ret ?_
  refine enterA (X := nX) (vs := [.int .i64 h, .bool up, .agg #[.int .i64 v0, .int .i64 v1]]) Try.func9 Try.ntmps9 rfl rfl Mem.nil ?_
  refine run_seq ?_
  refine run_region ?_
  refine run_h (.none rfl) (h_box rfl rfl rfl rfl rfl) ?_
  rintro b5 -
  refine run_q (.none rfl) rfl rfl (q_assign rfl rfl) ?_
  refine run_nil ?_
  refine run_seq ?_
  refine run_seq ?_
  refine run_region ?_
  refine run_q (.none rfl) rfl rfl (q_call rfl call12 Evs.nil (fun w hk hm => known_just w)) ?_
  refine run_q (.none rfl) rfl rfl (q_not rfl rfl) ?_
  refine run_nil ?_
  refine run_condF rfl rfl ?_
  refine run_skip ?_
  refine run_seq ?_
  refine run_region ?_
  refine run_q (.none rfl) rfl rfl (q_assign rfl rfl) ?_
  refine run_nil ?_
  refine run_sub (subMk (.cons (s := 0) rfl (.cons (s := 1) rfl (.cons (s := 5) rfl (.cons (s := 6) rfl (.cons (s := 7) rfl .nil))))) .refl) ?_
  refine run_seq ?_
  refine run_seq ?_
  refine run_region ?_
  refine run_q (.none rfl) rfl rfl (q_indexB (q := 1) (d := 1) rfl Try.underlying64 sz3 rfl rfl rfl (by decide) rfl) ?_
  refine run_q (.none rfl) rfl rfl (q_loadB rfl one3 rfl Sel.here rfl) ?_
  refine run_q (.none rfl) rfl rfl (q_geq rfl rfl rfl) ?_
  refine run_q (.none rfl) rfl rfl (q_move rfl rfl) ?_
  refine run_q (.on rfl rfl rfl (decide_eq_true (by omega))) rfl rfl (q_indexB (q := 0) (d := 0) rfl Try.underlying64 sz3 rfl rfl rfl (by decide) rfl) ?_
  refine run_q (.on rfl rfl rfl (decide_eq_true (by omega))) rfl rfl (q_loadB rfl one3 rfl Sel.here rfl) ?_
  refine run_q (.on rfl rfl rfl (decide_eq_true (by omega))) rfl rfl (q_neq rfl rfl rfl) ?_
  refine run_q (.none rfl) rfl rfl (q_pickT rfl rfl (decide_eq_true (by omega)) rfl) ?_
  refine run_q (.none rfl) rfl rfl (q_move rfl rfl) ?_
  refine run_q (.on rfl rfl rfl (by first | rfl | (exact decide_eq_false (by omega)) | simp [hd])) rfl rfl (q_indexB (q := 1) (d := 1) rfl Try.underlying64 sz3 rfl rfl rfl (by decide) rfl) ?_
  refine run_q (.on rfl rfl rfl (by first | rfl | (exact decide_eq_false (by omega)) | simp [hd])) rfl rfl (q_loadB rfl one3 rfl Sel.here rfl) ?_
  refine run_q (.on rfl rfl rfl (by first | rfl | (exact decide_eq_false (by omega)) | simp [hd])) rfl rfl (q_lss rfl rfl rfl) ?_
  refine run_q (.on rfl rfl rfl (by first | rfl | (exact decide_eq_false (by omega)) | simp [hd])) rfl rfl (q_move rfl rfl) ?_
  refine run_off (.no rfl rfl rfl (decide_eq_false (by omega))) rfl rfl ?_
  refine run_q (.on rfl rfl rfl (by first | rfl | (exact decide_eq_false (by omega)) | simp [hd])) rfl rfl (q_pickF rfl rfl (decide_eq_false (by omega)) rfl) ?_
  refine run_q (.none rfl) rfl rfl (q_pickF rfl rfl (by first | rfl | (exact decide_eq_false (by omega)) | simp [hd]) rfl) ?_
  refine run_nil ?_
  refine run_sub (subMk (.cons (s := 0) rfl (.cons (s := 1) rfl (.cons (s := 5) rfl (.cons (s := 6) rfl (.cons (s := 7) rfl (.cons (s := 28) rfl .nil)))))) .refl) ?_
  refine run_condF rfl rfl ?_
  refine run_skip ?_
  refine run_seq ?_
  have hS : (sideV up v0 v1) = 1 := (sideV_1 (by omega))
  refine run_sub (subMk (.cons (s := 0) rfl (.cons (s := 1) rfl (.cons (s := 5) rfl (.cons (s := 6) rfl (.cons' (s := 7) (v' := .int .i64 (sideV up v0 v1)) rfl (vint hS.symm) (.cons (s := 28) rfl .nil)))))) .refl) ?_
  refine run_region ?_
  refine run_q (.none rfl) rfl rfl (q_move rfl rfl) ?_
  refine run_q (.none rfl) rfl rfl (q_move rfl rfl) ?_
  refine run_q (.none rfl) rfl rfl (q_indexB (q := 0) (d := 0) rfl Try.underlying64 sz3 rfl rfl rfl (by decide) rfl) ?_
  refine run_q (.none rfl) rfl rfl (q_loadB rfl one3 rfl Sel.here rfl) ?_
  refine run_q (.none rfl) rfl rfl (q_indexB (q := 1) (d := 1) rfl Try.underlying64 sz3 rfl rfl rfl (by decide) rfl) ?_
  refine run_q (.none rfl) rfl rfl (q_loadB rfl one3 rfl Sel.here rfl) ?_
  refine run_q (.none rfl) rfl rfl (q_call rfl call28 (.cons rfl (.cons rfl (.cons rfl (.cons rfl Evs.nil)))) (fun w hk hm => tie_none h up v0 v1 w hr)) ?_
  refine run_q (.none rfl) rfl rfl (q_assign rfl rfl) ?_
  refine run_nil ?_
  refine run_sub (subMk (.cons (s := 0) rfl (.cons (s := 1) rfl (.cons (s := 5) rfl (.cons (s := 6) rfl (.cons (s := 7) rfl (.cons (s := 8) rfl .nil)))))) .refl) ?_
  refine run_seq ?_
  refine run_seq ?_
  refine run_region ?_
  refine run_q (.none rfl) rfl rfl (q_move rfl rfl) ?_
  refine run_q (.none rfl) rfl rfl (q_indexB (q := 0) (d := 0) rfl Try.underlying64 sz3 rfl rfl rfl (by decide) rfl) ?_
  refine run_q (.none rfl) rfl rfl (q_loadB rfl one3 rfl Sel.here rfl) ?_
  refine run_q (.none rfl) rfl rfl (q_indexB (q := 1) (d := 1) rfl Try.underlying64 sz3 rfl rfl rfl (by decide) rfl) ?_
  refine run_q (.none rfl) rfl rfl (q_loadB rfl one3 rfl Sel.here rfl) ?_
  refine run_q (.none rfl) rfl rfl (q_call rfl call29 (.cons rfl (.cons rfl (.cons rfl Evs.nil))) (fun w hk hm => Side_just up v0 v1 w)) ?_
  refine run_q (.none rfl) rfl rfl (q_move rfl rfl) ?_
  refine run_q (.none rfl) rfl rfl (q_neq rfl rfl rfl) ?_
  refine run_nil ?_
  refine run_sub (subMk (.cons (s := 0) rfl (.cons (s := 5) rfl (.cons (s := 6) rfl (.cons (s := 7) rfl (.cons (s := 8) rfl (.cons (s := 43) rfl .nil)))))) .refl) ?_
  refine run_condF rfl (by simp) ?_
  refine run_skip ?_
  refine run_seq ?_
  refine run_seq ?_
  refine run_region ?_
  refine run_q (.none rfl) rfl rfl (q_move rfl rfl) ?_
  refine run_q (.none rfl) rfl rfl (q_lss rfl rfl rfl) ?_
  refine run_q (.none rfl) rfl rfl (q_move rfl rfl) ?_
  refine run_split 46 rfl (fun g46 => ?_) (fun g46 => ?_)
  · have g46' := g46
    try simp only [decide_eq_true_eq, decide_eq_false_iff_not, beq_iff_eq, beq_eq_false_iff_ne, bne_iff_ne, bne_eq_false_iff_eq, Bool.not_eq_true', Bool.not_eq_false', ne_eq, Int.not_lt, Int.not_le, Decidable.not_not] at g46'
    refine run_off (.no rfl rfl rfl g46) rfl rfl ?_
    refine run_off (.no rfl rfl rfl g46) rfl rfl ?_
    refine run_q (.none rfl) rfl rfl (q_pickT rfl rfl g46 rfl) ?_
    refine run_nil ?_
    refine run_sub (subMk (.cons (s := 0) rfl (.cons (s := 5) rfl (.cons (s := 6) rfl (.cons (s := 7) rfl (.cons (s := 8) rfl (.cons (s := 49) rfl .nil)))))) .refl) ?_
    refine run_condT rfl rfl ?_
    refine run_seq ?_
    refine run_region ?_
    refine run_q (.none rfl) rfl rfl (q_move rfl rfl) ?_
    refine run_q (.none rfl) rfl rfl (q_len rfl Try.underlying38 rfl) ?_
    refine run_q (.none rfl) rfl rfl (q_eql rfl rfl rfl) ?_
    refine run_q (.none rfl) rfl rfl (q_assign rfl rfl) ?_
    refine run_nil ?_
    refine run_sub (subMk (.cons (s := 0) rfl (.cons (s := 5) rfl (.cons (s := 6) rfl (.cons (s := 7) rfl (.cons (s := 8) rfl .nil))))) .refl) ?_
    refine run_ret ?_
    exact end1 rfl rfl (by simp)
  · have g46' := g46
    try simp only [decide_eq_true_eq, decide_eq_false_iff_not, beq_iff_eq, beq_eq_false_iff_ne, bne_iff_ne, bne_eq_false_iff_eq, Bool.not_eq_true', Bool.not_eq_false', ne_eq, Int.not_lt, Int.not_le, Decidable.not_not] at g46'
    refine run_q (.on rfl rfl rfl g46) rfl rfl (q_move rfl rfl) ?_
    refine run_q (.on rfl rfl rfl g46) rfl rfl (q_gtr rfl rfl rfl) ?_
    refine run_q (.none rfl) rfl rfl (q_pickF rfl rfl g46 rfl) ?_
    refine run_nil ?_
    refine run_sub (subMk (.cons (s := 0) rfl (.cons (s := 5) rfl (.cons (s := 6) rfl (.cons (s := 7) rfl (.cons (s := 8) rfl (.cons (s := 49) rfl .nil)))))) .refl) ?_
    refine run_condT rfl (decide_eq_true (by omega)) ?_
    refine run_seq ?_
    refine run_region ?_
    refine run_q (.none rfl) rfl rfl (q_move rfl rfl) ?_
    refine run_q (.none rfl) rfl rfl (q_len rfl Try.underlying38 rfl) ?_
    refine run_q (.none rfl) rfl rfl (q_eql rfl rfl rfl) ?_
    refine run_q (.none rfl) rfl rfl (q_assign rfl rfl) ?_
    refine run_nil ?_
    refine run_sub (subMk (.cons (s := 0) rfl (.cons (s := 5) rfl (.cons (s := 6) rfl (.cons (s := 7) rfl (.cons (s := 8) rfl .nil))))) .refl) ?_
    refine run_ret ?_
    exact end1 rfl rfl (by simp)

set_option maxHeartbeats 2000000 in
set_option maxRecDepth 100000 in
theorem law9_2f (h : Int) (v0 v1 : Int) (W : World) (hr : ¬ (1 ≤ h ∧ h ≤ 10)) (hc : v1 < 2) : Calls Try.prog 9 #[.int .i64 h, .bool true, .agg #[.int .i64 v0, .int .i64 v1]] W (Hr.Just W (.bool true)) := by
  refine Just.of_ret ?_
  refine enterA (X := nX) (vs := [.int .i64 h, .bool true, .agg #[.int .i64 v0, .int .i64 v1]]) Try.func9 Try.ntmps9 rfl rfl Mem.nil ?_
  refine run_seq ?_
  refine run_region ?_
  refine run_h (.none rfl) (h_box rfl rfl rfl rfl rfl) ?_
  rintro b5 -
  refine run_q (.none rfl) rfl rfl (q_assign rfl rfl) ?_
  refine run_nil ?_
  refine run_seq ?_
  refine run_seq ?_
  refine run_region ?_
  refine run_q (.none rfl) rfl rfl (q_call rfl call12 Evs.nil (fun w hk hm => known_just w)) ?_
  refine run_q (.none rfl) rfl rfl (q_not rfl rfl) ?_
  refine run_nil ?_
  refine run_condF rfl rfl ?_
  refine run_skip ?_
  refine run_seq ?_
  refine run_region ?_
  refine run_q (.none rfl) rfl rfl (q_assign rfl rfl) ?_
  refine run_nil ?_
  refine run_sub (subMk (.cons (s := 0) rfl (.cons (s := 1) rfl (.cons (s := 5) rfl (.cons (s := 6) rfl (.cons (s := 7) rfl .nil))))) .refl) ?_
  refine run_seq ?_
  refine run_seq ?_
  refine run_region ?_
  refine run_q (.none rfl) rfl rfl (q_indexB (q := 1) (d := 1) rfl Try.underlying64 sz3 rfl rfl rfl (by decide) rfl) ?_
  refine run_q (.none rfl) rfl rfl (q_loadB rfl one3 rfl Sel.here rfl) ?_
  refine run_q (.none rfl) rfl rfl (q_geq rfl rfl rfl) ?_
  refine run_q (.none rfl) rfl rfl (q_move rfl rfl) ?_
  refine run_off (.no rfl rfl rfl (decide_eq_false (by omega))) rfl rfl ?_
  refine run_off (.no rfl rfl rfl (decide_eq_false (by omega))) rfl rfl ?_
  refine run_off (.no rfl rfl rfl (decide_eq_false (by omega))) rfl rfl ?_
  refine run_q (.none rfl) rfl rfl (q_pickF rfl rfl (decide_eq_false (by omega)) rfl) ?_
  refine run_q (.none rfl) rfl rfl (q_move rfl rfl) ?_
  refine run_q (.on rfl rfl rfl rfl) rfl rfl (q_indexB (q := 1) (d := 1) rfl Try.underlying64 sz3 rfl rfl rfl (by decide) rfl) ?_
  refine run_q (.on rfl rfl rfl rfl) rfl rfl (q_loadB rfl one3 rfl Sel.here rfl) ?_
  refine run_q (.on rfl rfl rfl rfl) rfl rfl (q_lss rfl rfl rfl) ?_
  refine run_q (.on rfl rfl rfl rfl) rfl rfl (q_move rfl rfl) ?_
  refine run_q (.on rfl rfl rfl (decide_eq_true (by omega))) rfl rfl (q_move rfl rfl) ?_
  refine run_q (.on rfl rfl rfl rfl) rfl rfl (q_pickT rfl rfl (decide_eq_true (by omega)) rfl) ?_
  refine run_q (.none rfl) rfl rfl (q_pickF rfl rfl rfl rfl) ?_
  refine run_nil ?_
  refine run_sub (subMk (.cons (s := 0) rfl (.cons (s := 1) rfl (.cons (s := 5) rfl (.cons (s := 6) rfl (.cons (s := 7) rfl (.cons (s := 28) rfl .nil)))))) .refl) ?_
  refine run_condT rfl rfl ?_
  refine run_region ?_
  refine run_q (.none rfl) rfl rfl (q_assign rfl rfl) ?_
  refine run_nil ?_
  refine run_seq ?_
  have hS : (sideV true v0 v1) = (-1) := (sideV_2 (by omega) (.inr rfl))
  refine run_sub (subMk (.cons (s := 0) rfl (.cons (s := 1) rfl (.cons (s := 5) rfl (.cons (s := 6) rfl (.cons' (s := 7) (v' := .int .i64 (sideV true v0 v1)) rfl (vint hS.symm) (.cons (s := 28) rfl .nil)))))) .refl) ?_
  refine run_region ?_
  refine run_q (.none rfl) rfl rfl (q_move rfl rfl) ?_
  refine run_q (.none rfl) rfl rfl (q_move rfl rfl) ?_
  refine run_q (.none rfl) rfl rfl (q_indexB (q := 0) (d := 0) rfl Try.underlying64 sz3 rfl rfl rfl (by decide) rfl) ?_
  refine run_q (.none rfl) rfl rfl (q_loadB rfl one3 rfl Sel.here rfl) ?_
  refine run_q (.none rfl) rfl rfl (q_indexB (q := 1) (d := 1) rfl Try.underlying64 sz3 rfl rfl rfl (by decide) rfl) ?_
  refine run_q (.none rfl) rfl rfl (q_loadB rfl one3 rfl Sel.here rfl) ?_
  refine run_q (.none rfl) rfl rfl (q_call rfl call28 (.cons rfl (.cons rfl (.cons rfl (.cons rfl Evs.nil)))) (fun w hk hm => tie_none h true v0 v1 w hr)) ?_
  refine run_q (.none rfl) rfl rfl (q_assign rfl rfl) ?_
  refine run_nil ?_
  refine run_sub (subMk (.cons (s := 0) rfl (.cons (s := 1) rfl (.cons (s := 5) rfl (.cons (s := 6) rfl (.cons (s := 7) rfl (.cons (s := 8) rfl .nil)))))) .refl) ?_
  refine run_seq ?_
  refine run_seq ?_
  refine run_region ?_
  refine run_q (.none rfl) rfl rfl (q_move rfl rfl) ?_
  refine run_q (.none rfl) rfl rfl (q_indexB (q := 0) (d := 0) rfl Try.underlying64 sz3 rfl rfl rfl (by decide) rfl) ?_
  refine run_q (.none rfl) rfl rfl (q_loadB rfl one3 rfl Sel.here rfl) ?_
  refine run_q (.none rfl) rfl rfl (q_indexB (q := 1) (d := 1) rfl Try.underlying64 sz3 rfl rfl rfl (by decide) rfl) ?_
  refine run_q (.none rfl) rfl rfl (q_loadB rfl one3 rfl Sel.here rfl) ?_
  refine run_q (.none rfl) rfl rfl (q_call rfl call29 (.cons rfl (.cons rfl (.cons rfl Evs.nil))) (fun w hk hm => Side_just true v0 v1 w)) ?_
  refine run_q (.none rfl) rfl rfl (q_move rfl rfl) ?_
  refine run_q (.none rfl) rfl rfl (q_neq rfl rfl rfl) ?_
  refine run_nil ?_
  refine run_sub (subMk (.cons (s := 0) rfl (.cons (s := 5) rfl (.cons (s := 6) rfl (.cons (s := 7) rfl (.cons (s := 8) rfl (.cons (s := 43) rfl .nil)))))) .refl) ?_
  refine run_condF rfl (by simp) ?_
  refine run_skip ?_
  refine run_seq ?_
  refine run_seq ?_
  refine run_region ?_
  refine run_q (.none rfl) rfl rfl (q_move rfl rfl) ?_
  refine run_q (.none rfl) rfl rfl (q_lss rfl rfl rfl) ?_
  refine run_q (.none rfl) rfl rfl (q_move rfl rfl) ?_
  refine run_split 46 rfl (fun g46 => ?_) (fun g46 => ?_)
  · have g46' := g46
    try simp only [decide_eq_true_eq, decide_eq_false_iff_not, beq_iff_eq, beq_eq_false_iff_ne, bne_iff_ne, bne_eq_false_iff_eq, Bool.not_eq_true', Bool.not_eq_false', ne_eq, Int.not_lt, Int.not_le, Decidable.not_not] at g46'
    refine run_off (.no rfl rfl rfl g46) rfl rfl ?_
    refine run_off (.no rfl rfl rfl g46) rfl rfl ?_
    refine run_q (.none rfl) rfl rfl (q_pickT rfl rfl g46 rfl) ?_
    refine run_nil ?_
    refine run_sub (subMk (.cons (s := 0) rfl (.cons (s := 5) rfl (.cons (s := 6) rfl (.cons (s := 7) rfl (.cons (s := 8) rfl (.cons (s := 49) rfl .nil)))))) .refl) ?_
    refine run_condT rfl rfl ?_
    refine run_seq ?_
    refine run_region ?_
    refine run_q (.none rfl) rfl rfl (q_move rfl rfl) ?_
    refine run_q (.none rfl) rfl rfl (q_len rfl Try.underlying38 rfl) ?_
    refine run_q (.none rfl) rfl rfl (q_eql rfl rfl rfl) ?_
    refine run_q (.none rfl) rfl rfl (q_assign rfl rfl) ?_
    refine run_nil ?_
    refine run_sub (subMk (.cons (s := 0) rfl (.cons (s := 5) rfl (.cons (s := 6) rfl (.cons (s := 7) rfl (.cons (s := 8) rfl .nil))))) .refl) ?_
    refine run_ret ?_
    exact end1 rfl rfl (by simp)
  · have g46' := g46
    try simp only [decide_eq_true_eq, decide_eq_false_iff_not, beq_iff_eq, beq_eq_false_iff_ne, bne_iff_ne, bne_eq_false_iff_eq, Bool.not_eq_true', Bool.not_eq_false', ne_eq, Int.not_lt, Int.not_le, Decidable.not_not] at g46'
    refine run_q (.on rfl rfl rfl g46) rfl rfl (q_move rfl rfl) ?_
    refine run_q (.on rfl rfl rfl g46) rfl rfl (q_gtr rfl rfl rfl) ?_
    refine run_q (.none rfl) rfl rfl (q_pickF rfl rfl g46 rfl) ?_
    refine run_nil ?_
    refine run_sub (subMk (.cons (s := 0) rfl (.cons (s := 5) rfl (.cons (s := 6) rfl (.cons (s := 7) rfl (.cons (s := 8) rfl (.cons (s := 49) rfl .nil)))))) .refl) ?_
    refine run_condT rfl (decide_eq_true (by omega)) ?_
    refine run_seq ?_
    refine run_region ?_
    refine run_q (.none rfl) rfl rfl (q_move rfl rfl) ?_
    refine run_q (.none rfl) rfl rfl (q_len rfl Try.underlying38 rfl) ?_
    refine run_q (.none rfl) rfl rfl (q_eql rfl rfl rfl) ?_
    refine run_q (.none rfl) rfl rfl (q_assign rfl rfl) ?_
    refine run_nil ?_
    refine run_sub (subMk (.cons (s := 0) rfl (.cons (s := 5) rfl (.cons (s := 6) rfl (.cons (s := 7) rfl (.cons (s := 8) rfl .nil))))) .refl) ?_
    refine run_ret ?_
    exact end1 rfl rfl (by simp)

set_option maxHeartbeats 2000000 in
set_option maxRecDepth 100000 in
theorem law9_3f (h : Int) (v0 v1 : Int) (W : World) (hr : ¬ (1 ≤ h ∧ h ≤ 10)) (hc : v1 < 2) : Calls Try.prog 9 #[.int .i64 h, .bool false, .agg #[.int .i64 v0, .int .i64 v1]] W (Hr.Just W (.bool true)) := by
  refine Just.of_ret ?_
  refine enterA (X := nX) (vs := [.int .i64 h, .bool false, .agg #[.int .i64 v0, .int .i64 v1]]) Try.func9 Try.ntmps9 rfl rfl Mem.nil ?_
  refine run_seq ?_
  refine run_region ?_
  refine run_h (.none rfl) (h_box rfl rfl rfl rfl rfl) ?_
  rintro b5 -
  refine run_q (.none rfl) rfl rfl (q_assign rfl rfl) ?_
  refine run_nil ?_
  refine run_seq ?_
  refine run_seq ?_
  refine run_region ?_
  refine run_q (.none rfl) rfl rfl (q_call rfl call12 Evs.nil (fun w hk hm => known_just w)) ?_
  refine run_q (.none rfl) rfl rfl (q_not rfl rfl) ?_
  refine run_nil ?_
  refine run_condF rfl rfl ?_
  refine run_skip ?_
  refine run_seq ?_
  refine run_region ?_
  refine run_q (.none rfl) rfl rfl (q_assign rfl rfl) ?_
  refine run_nil ?_
  refine run_sub (subMk (.cons (s := 0) rfl (.cons (s := 1) rfl (.cons (s := 5) rfl (.cons (s := 6) rfl (.cons (s := 7) rfl .nil))))) .refl) ?_
  refine run_seq ?_
  refine run_seq ?_
  refine run_region ?_
  refine run_q (.none rfl) rfl rfl (q_indexB (q := 1) (d := 1) rfl Try.underlying64 sz3 rfl rfl rfl (by decide) rfl) ?_
  refine run_q (.none rfl) rfl rfl (q_loadB rfl one3 rfl Sel.here rfl) ?_
  refine run_q (.none rfl) rfl rfl (q_geq rfl rfl rfl) ?_
  refine run_q (.none rfl) rfl rfl (q_move rfl rfl) ?_
  refine run_off (.no rfl rfl rfl (decide_eq_false (by omega))) rfl rfl ?_
  refine run_off (.no rfl rfl rfl (decide_eq_false (by omega))) rfl rfl ?_
  refine run_off (.no rfl rfl rfl (decide_eq_false (by omega))) rfl rfl ?_
  refine run_q (.none rfl) rfl rfl (q_pickF rfl rfl (decide_eq_false (by omega)) rfl) ?_
  refine run_q (.none rfl) rfl rfl (q_move rfl rfl) ?_
  refine run_q (.on rfl rfl rfl rfl) rfl rfl (q_indexB (q := 1) (d := 1) rfl Try.underlying64 sz3 rfl rfl rfl (by decide) rfl) ?_
  refine run_q (.on rfl rfl rfl rfl) rfl rfl (q_loadB rfl one3 rfl Sel.here rfl) ?_
  refine run_q (.on rfl rfl rfl rfl) rfl rfl (q_lss rfl rfl rfl) ?_
  refine run_q (.on rfl rfl rfl rfl) rfl rfl (q_move rfl rfl) ?_
  refine run_q (.on rfl rfl rfl (decide_eq_true (by omega))) rfl rfl (q_move rfl rfl) ?_
  refine run_q (.on rfl rfl rfl rfl) rfl rfl (q_pickT rfl rfl (decide_eq_true (by omega)) rfl) ?_
  refine run_q (.none rfl) rfl rfl (q_pickF rfl rfl rfl rfl) ?_
  refine run_nil ?_
  refine run_sub (subMk (.cons (s := 0) rfl (.cons (s := 1) rfl (.cons (s := 5) rfl (.cons (s := 6) rfl (.cons (s := 7) rfl (.cons (s := 28) rfl .nil)))))) .refl) ?_
  refine run_condF rfl rfl ?_
  refine run_skip ?_
  refine run_seq ?_
  have hS : (sideV false v0 v1) = 1 := (sideV_3 (by omega) (by rintro (h | h); (· omega); (· cases h)))
  refine run_sub (subMk (.cons (s := 0) rfl (.cons (s := 1) rfl (.cons (s := 5) rfl (.cons (s := 6) rfl (.cons' (s := 7) (v' := .int .i64 (sideV false v0 v1)) rfl (vint hS.symm) (.cons (s := 28) rfl .nil)))))) .refl) ?_
  refine run_region ?_
  refine run_q (.none rfl) rfl rfl (q_move rfl rfl) ?_
  refine run_q (.none rfl) rfl rfl (q_move rfl rfl) ?_
  refine run_q (.none rfl) rfl rfl (q_indexB (q := 0) (d := 0) rfl Try.underlying64 sz3 rfl rfl rfl (by decide) rfl) ?_
  refine run_q (.none rfl) rfl rfl (q_loadB rfl one3 rfl Sel.here rfl) ?_
  refine run_q (.none rfl) rfl rfl (q_indexB (q := 1) (d := 1) rfl Try.underlying64 sz3 rfl rfl rfl (by decide) rfl) ?_
  refine run_q (.none rfl) rfl rfl (q_loadB rfl one3 rfl Sel.here rfl) ?_
  refine run_q (.none rfl) rfl rfl (q_call rfl call28 (.cons rfl (.cons rfl (.cons rfl (.cons rfl Evs.nil)))) (fun w hk hm => tie_none h false v0 v1 w hr)) ?_
  refine run_q (.none rfl) rfl rfl (q_assign rfl rfl) ?_
  refine run_nil ?_
  refine run_sub (subMk (.cons (s := 0) rfl (.cons (s := 1) rfl (.cons (s := 5) rfl (.cons (s := 6) rfl (.cons (s := 7) rfl (.cons (s := 8) rfl .nil)))))) .refl) ?_
  refine run_seq ?_
  refine run_seq ?_
  refine run_region ?_
  refine run_q (.none rfl) rfl rfl (q_move rfl rfl) ?_
  refine run_q (.none rfl) rfl rfl (q_indexB (q := 0) (d := 0) rfl Try.underlying64 sz3 rfl rfl rfl (by decide) rfl) ?_
  refine run_q (.none rfl) rfl rfl (q_loadB rfl one3 rfl Sel.here rfl) ?_
  refine run_q (.none rfl) rfl rfl (q_indexB (q := 1) (d := 1) rfl Try.underlying64 sz3 rfl rfl rfl (by decide) rfl) ?_
  refine run_q (.none rfl) rfl rfl (q_loadB rfl one3 rfl Sel.here rfl) ?_
  refine run_q (.none rfl) rfl rfl (q_call rfl call29 (.cons rfl (.cons rfl (.cons rfl Evs.nil))) (fun w hk hm => Side_just false v0 v1 w)) ?_
  refine run_q (.none rfl) rfl rfl (q_move rfl rfl) ?_
  refine run_q (.none rfl) rfl rfl (q_neq rfl rfl rfl) ?_
  refine run_nil ?_
  refine run_sub (subMk (.cons (s := 0) rfl (.cons (s := 5) rfl (.cons (s := 6) rfl (.cons (s := 7) rfl (.cons (s := 8) rfl (.cons (s := 43) rfl .nil)))))) .refl) ?_
  refine run_condF rfl (by simp) ?_
  refine run_skip ?_
  refine run_seq ?_
  refine run_seq ?_
  refine run_region ?_
  refine run_q (.none rfl) rfl rfl (q_move rfl rfl) ?_
  refine run_q (.none rfl) rfl rfl (q_lss rfl rfl rfl) ?_
  refine run_q (.none rfl) rfl rfl (q_move rfl rfl) ?_
  refine run_split 46 rfl (fun g46 => ?_) (fun g46 => ?_)
  · have g46' := g46
    try simp only [decide_eq_true_eq, decide_eq_false_iff_not, beq_iff_eq, beq_eq_false_iff_ne, bne_iff_ne, bne_eq_false_iff_eq, Bool.not_eq_true', Bool.not_eq_false', ne_eq, Int.not_lt, Int.not_le, Decidable.not_not] at g46'
    refine run_off (.no rfl rfl rfl g46) rfl rfl ?_
    refine run_off (.no rfl rfl rfl g46) rfl rfl ?_
    refine run_q (.none rfl) rfl rfl (q_pickT rfl rfl g46 rfl) ?_
    refine run_nil ?_
    refine run_sub (subMk (.cons (s := 0) rfl (.cons (s := 5) rfl (.cons (s := 6) rfl (.cons (s := 7) rfl (.cons (s := 8) rfl (.cons (s := 49) rfl .nil)))))) .refl) ?_
    refine run_condT rfl rfl ?_
    refine run_seq ?_
    refine run_region ?_
    refine run_q (.none rfl) rfl rfl (q_move rfl rfl) ?_
    refine run_q (.none rfl) rfl rfl (q_len rfl Try.underlying38 rfl) ?_
    refine run_q (.none rfl) rfl rfl (q_eql rfl rfl rfl) ?_
    refine run_q (.none rfl) rfl rfl (q_assign rfl rfl) ?_
    refine run_nil ?_
    refine run_sub (subMk (.cons (s := 0) rfl (.cons (s := 5) rfl (.cons (s := 6) rfl (.cons (s := 7) rfl (.cons (s := 8) rfl .nil))))) .refl) ?_
    refine run_ret ?_
    exact end1 rfl rfl (by simp)
  · have g46' := g46
    try simp only [decide_eq_true_eq, decide_eq_false_iff_not, beq_iff_eq, beq_eq_false_iff_ne, bne_iff_ne, bne_eq_false_iff_eq, Bool.not_eq_true', Bool.not_eq_false', ne_eq, Int.not_lt, Int.not_le, Decidable.not_not] at g46'
    refine run_q (.on rfl rfl rfl g46) rfl rfl (q_move rfl rfl) ?_
    refine run_q (.on rfl rfl rfl g46) rfl rfl (q_gtr rfl rfl rfl) ?_
    refine run_q (.none rfl) rfl rfl (q_pickF rfl rfl g46 rfl) ?_
    refine run_nil ?_
    refine run_sub (subMk (.cons (s := 0) rfl (.cons (s := 5) rfl (.cons (s := 6) rfl (.cons (s := 7) rfl (.cons (s := 8) rfl (.cons (s := 49) rfl .nil)))))) .refl) ?_
    refine run_condT rfl (decide_eq_true (by omega)) ?_
    refine run_seq ?_
    refine run_region ?_
    refine run_q (.none rfl) rfl rfl (q_move rfl rfl) ?_
    refine run_q (.none rfl) rfl rfl (q_len rfl Try.underlying38 rfl) ?_
    refine run_q (.none rfl) rfl rfl (q_eql rfl rfl rfl) ?_
    refine run_q (.none rfl) rfl rfl (q_assign rfl rfl) ?_
    refine run_nil ?_
    refine run_sub (subMk (.cons (s := 0) rfl (.cons (s := 5) rfl (.cons (s := 6) rfl (.cons (s := 7) rfl (.cons (s := 8) rfl .nil))))) .refl) ?_
    refine run_ret ?_
    exact end1 rfl rfl (by simp)

set_option maxHeartbeats 2000000 in
set_option maxRecDepth 100000 in
theorem law9_0t (n : Nat) (up : Bool) (v0 v1 : Int) (W : World) (hr : 1 ≤ n ∧ n ≤ 10) (hc : 2 ≤ v1) (hd : v0 ≠ 0) : Calls Try.prog 9 #[.int .i64 (n : Int), .bool up, .agg #[.int .i64 v0, .int .i64 v1]] W (Hr.Just W (.bool true)) := by
  refine Just.of_ret ?_
  refine enterA (X := nX) (vs := [.int .i64 (n : Int), .bool up, .agg #[.int .i64 v0, .int .i64 v1]]) Try.func9 Try.ntmps9 rfl rfl Mem.nil ?_
  refine run_seq ?_
  refine run_region ?_
  refine run_h (.none rfl) (h_box rfl rfl rfl rfl rfl) ?_
  rintro b5 -
  refine run_q (.none rfl) rfl rfl (q_assign rfl rfl) ?_
  refine run_nil ?_
  refine run_seq ?_
  refine run_seq ?_
  refine run_region ?_
  refine run_q (.none rfl) rfl rfl (q_call rfl call12 Evs.nil (fun w hk hm => known_just w)) ?_
  refine run_q (.none rfl) rfl rfl (q_not rfl rfl) ?_
  refine run_nil ?_
  refine run_condF rfl rfl ?_
  refine run_skip ?_
  refine run_seq ?_
  refine run_region ?_
  refine run_q (.none rfl) rfl rfl (q_assign rfl rfl) ?_
  refine run_nil ?_
  refine run_sub (subMk (.cons (s := 0) rfl (.cons (s := 1) rfl (.cons (s := 5) rfl (.cons (s := 6) rfl (.cons (s := 7) rfl .nil))))) .refl) ?_
  refine run_seq ?_
  refine run_seq ?_
  refine run_region ?_
  refine run_q (.none rfl) rfl rfl (q_indexB (q := 1) (d := 1) rfl Try.underlying64 sz3 rfl rfl rfl (by decide) rfl) ?_
  refine run_q (.none rfl) rfl rfl (q_loadB rfl one3 rfl Sel.here rfl) ?_
  refine run_q (.none rfl) rfl rfl (q_geq rfl rfl rfl) ?_
  refine run_q (.none rfl) rfl rfl (q_move rfl rfl) ?_
  refine run_q (.on rfl rfl rfl (decide_eq_true (by omega))) rfl rfl (q_indexB (q := 0) (d := 0) rfl Try.underlying64 sz3 rfl rfl rfl (by decide) rfl) ?_
  refine run_q (.on rfl rfl rfl (decide_eq_true (by omega))) rfl rfl (q_loadB rfl one3 rfl Sel.here rfl) ?_
  refine run_q (.on rfl rfl rfl (decide_eq_true (by omega))) rfl rfl (q_neq rfl rfl rfl) ?_
  refine run_q (.none rfl) rfl rfl (q_pickT rfl rfl (decide_eq_true (by omega)) rfl) ?_
  refine run_q (.none rfl) rfl rfl (q_move rfl rfl) ?_
  refine run_off (.no rfl rfl rfl (by first | exact decide_eq_true hd | simpa using hd)) rfl rfl ?_
  refine run_off (.no rfl rfl rfl (by first | exact decide_eq_true hd | simpa using hd)) rfl rfl ?_
  refine run_off (.no rfl rfl rfl (by first | exact decide_eq_true hd | simpa using hd)) rfl rfl ?_
  refine run_off (.no rfl rfl rfl (by first | exact decide_eq_true hd | simpa using hd)) rfl rfl ?_
  refine run_off (.off rfl rfl rfl) rfl rfl ?_
  refine run_off (.no rfl rfl rfl (by first | exact decide_eq_true hd | simpa using hd)) rfl rfl ?_
  refine run_q (.none rfl) rfl rfl (q_pickT rfl rfl (by first | exact decide_eq_true hd | simpa using hd) rfl) ?_
  refine run_nil ?_
  refine run_sub (subMk (.cons (s := 0) rfl (.cons (s := 1) rfl (.cons (s := 5) rfl (.cons (s := 6) rfl (.cons (s := 7) rfl (.cons (s := 28) rfl .nil)))))) .refl) ?_
  refine run_condT rfl rfl ?_
  refine run_region ?_
  refine run_q (.none rfl) rfl rfl (q_assign rfl rfl) ?_
  refine run_nil ?_
  refine run_seq ?_
  have hS : (sideV up v0 v1) = (-1) := (sideV_2 (by omega) (.inl (by omega)))
  refine run_sub (subMk (.cons (s := 0) rfl (.cons (s := 1) rfl (.cons (s := 5) rfl (.cons (s := 6) rfl (.cons' (s := 7) (v' := .int .i64 (sideV up v0 v1)) rfl (vint hS.symm) (.cons (s := 28) rfl .nil)))))) .refl) ?_
  refine run_region ?_
  refine run_q (.none rfl) rfl rfl (q_move rfl rfl) ?_
  refine run_q (.none rfl) rfl rfl (q_move rfl rfl) ?_
  refine run_q (.none rfl) rfl rfl (q_indexB (q := 0) (d := 0) rfl Try.underlying64 sz3 rfl rfl rfl (by decide) rfl) ?_
  refine run_q (.none rfl) rfl rfl (q_loadB rfl one3 rfl Sel.here rfl) ?_
  refine run_q (.none rfl) rfl rfl (q_indexB (q := 1) (d := 1) rfl Try.underlying64 sz3 rfl rfl rfl (by decide) rfl) ?_
  refine run_q (.none rfl) rfl rfl (q_loadB rfl one3 rfl Sel.here rfl) ?_
  refine run_h (.none rfl) (h_call rfl rfl rfl call28 (.cons rfl (.cons rfl (.cons rfl (.cons rfl Evs.nil)))) (fun w hk hm => tie_some n up v0 v1 w hr)) ?_
  rintro ⟨v', m⟩ ⟨A, c, rfl, rfl⟩
  show Run _ _ _ _ _ _ _ ⟨(35, .slice A n c) :: _, _ :: _⟩
  refine run_q (.none rfl) rfl rfl (q_assign rfl rfl) ?_
  refine run_nil ?_
  refine run_sub (subMk (.cons (s := 0) rfl (.cons (s := 1) rfl (.cons (s := 5) rfl (.cons (s := 6) rfl (.cons (s := 7) rfl (.cons (s := 8) rfl .nil)))))) .refl) ?_
  refine run_seq ?_
  refine run_seq ?_
  refine run_region ?_
  refine run_q (.none rfl) rfl rfl (q_move rfl rfl) ?_
  refine run_q (.none rfl) rfl rfl (q_indexB (q := 0) (d := 0) rfl Try.underlying64 sz3 rfl rfl rfl (by decide) rfl) ?_
  refine run_q (.none rfl) rfl rfl (q_loadB rfl one3 rfl (.there Sel.here) rfl) ?_
  refine run_q (.none rfl) rfl rfl (q_indexB (q := 1) (d := 1) rfl Try.underlying64 sz3 rfl rfl rfl (by decide) rfl) ?_
  refine run_q (.none rfl) rfl rfl (q_loadB rfl one3 rfl (.there Sel.here) rfl) ?_
  refine run_q (.none rfl) rfl rfl (q_call rfl call29 (.cons rfl (.cons rfl (.cons rfl Evs.nil))) (fun w hk hm => Side_just up v0 v1 w)) ?_
  refine run_q (.none rfl) rfl rfl (q_move rfl rfl) ?_
  refine run_q (.none rfl) rfl rfl (q_neq rfl rfl rfl) ?_
  refine run_nil ?_
  refine run_sub (subMk (.cons (s := 0) rfl (.cons (s := 5) rfl (.cons (s := 6) rfl (.cons (s := 7) rfl (.cons (s := 8) rfl (.cons (s := 43) rfl .nil)))))) .refl) ?_
  refine run_condF rfl (by simp) ?_
  refine run_skip ?_
  refine run_seq ?_
  refine run_seq ?_
  refine run_region ?_
  refine run_q (.none rfl) rfl rfl (q_move rfl rfl) ?_
  refine run_q (.none rfl) rfl rfl (q_lss rfl rfl rfl) ?_
  refine run_q (.none rfl) rfl rfl (q_move rfl rfl) ?_
  refine run_q (.on rfl rfl rfl (decide_eq_false (by omega))) rfl rfl (q_move rfl rfl) ?_
  refine run_q (.on rfl rfl rfl (decide_eq_false (by omega))) rfl rfl (q_gtr rfl rfl rfl) ?_
  refine run_q (.none rfl) rfl rfl (q_pickF rfl rfl (decide_eq_false (by omega)) rfl) ?_
  refine run_nil ?_
  refine run_sub (subMk (.cons (s := 0) rfl (.cons (s := 5) rfl (.cons (s := 6) rfl (.cons (s := 7) rfl (.cons (s := 8) rfl (.cons (s := 49) rfl .nil)))))) .refl) ?_
  refine run_condF rfl (decide_eq_false (by omega)) ?_
  refine run_skip ?_
  refine run_seq ?_
  refine run_seq ?_
  refine run_region ?_
  refine run_q (.none rfl) rfl rfl (q_assign rfl rfl) ?_
  refine run_nil ?_
  refine run_block ?_
  refine run_sub (subMk (.cons (s := 9) rfl (.cons (s := 0) rfl (.cons (s := 5) rfl (.cons (s := 6) rfl (.cons (s := 7) rfl (.cons (s := 8) rfl .nil)))))) (.cons Sel.here .refl (.cons Sel.here .refl .nil))) ?_
  refine run_loopC1M0 (ι := Nat) (fun i => i ≤ n) (fun i => .int .i64 (i : Int))  (fun i => n - i) 0 (by (try dsimp only); exact (by omega)) rfl  ?_
  rintro i hi
  (try dsimp only at hi)
  show Run _ _ _ _ _ _ _ ⟨(9, .int .i64 (i : Int)) :: _, _⟩
  refine run_seq ?_
  refine run_seq ?_
  refine run_region ?_
  refine run_q (.none rfl) rfl rfl (q_move rfl rfl) ?_
  refine run_q (.none rfl) rfl rfl (q_move rfl rfl) ?_
  refine run_q (.none rfl) rfl rfl (q_lss rfl rfl rfl) ?_
  refine run_nil ?_
  refine run_cond rfl (fun g55 => ?_) (fun g55 => ?_)
  · have g55' := g55
    try simp only [decide_eq_true_eq, decide_eq_false_iff_not, beq_iff_eq, beq_eq_false_iff_ne, bne_iff_ne, bne_eq_false_iff_eq, Bool.not_eq_true', Bool.not_eq_false', ne_eq, Int.not_lt, Int.not_le, Decidable.not_not] at g55'
    have hil : i < n := by omega
    refine run_skip ?_
    refine run_seq ?_
    refine run_block ?_
    refine run_seq ?_
    refine run_region ?_
    refine run_q (.none rfl) rfl rfl (q_move rfl rfl) ?_
    refine run_q (.none rfl) rfl rfl (q_assign rfl rfl) ?_
    refine run_nil ?_
    refine run_sub (subMk (.cons (s := 0) rfl (.cons (s := 5) rfl (.cons (s := 6) rfl (.cons (s := 7) rfl (.cons (s := 8) rfl (.cons (s := 9) rfl (.cons (s := 10) rfl .nil))))))) .refl) ?_
    refine run_seq ?_
    refine run_seq ?_
    refine run_region ?_
    refine run_q (.none rfl) rfl rfl (q_indexB (q := 1) (d := 1) rfl Try.underlying64 sz3 rfl rfl rfl (by decide) rfl) ?_
    refine run_q (.none rfl) rfl rfl (q_loadB rfl one3 rfl (.there Sel.here) rfl) ?_
    refine run_q (.none rfl) rfl rfl (q_lss rfl rfl rfl) ?_
    refine run_q (.none rfl) rfl rfl (q_move rfl rfl) ?_
    refine run_off (.no rfl rfl rfl (decide_eq_false (by omega))) rfl rfl ?_
    refine run_off (.no rfl rfl rfl (decide_eq_false (by omega))) rfl rfl ?_
    refine run_off (.no rfl rfl rfl (decide_eq_false (by omega))) rfl rfl ?_
    refine run_off (.no rfl rfl rfl (decide_eq_false (by omega))) rfl rfl ?_
    refine run_off (.no rfl rfl rfl (decide_eq_false (by omega))) rfl rfl ?_
    refine run_q (.none rfl) rfl rfl (q_pickF rfl rfl (decide_eq_false (by omega)) rfl) ?_
    refine run_nil ?_
    refine run_sub (subMk (.cons (s := 0) rfl (.cons (s := 5) rfl (.cons (s := 6) rfl (.cons (s := 7) rfl (.cons (s := 8) rfl (.cons (s := 9) rfl (.cons (s := 10) rfl (.cons (s := 68) rfl .nil)))))))) .refl) ?_
    refine run_condF rfl rfl ?_
    refine run_skip ?_
    refine run_seq ?_
    refine run_seq ?_
    refine run_region ?_
    refine run_q (.none rfl) rfl rfl (q_indexB (q := 1) (d := 1) rfl Try.underlying64 sz3 rfl rfl rfl (by decide) rfl) ?_
    refine run_q (.none rfl) rfl rfl (q_loadB rfl one3 rfl (.there Sel.here) rfl) ?_
    refine run_q (.none rfl) rfl rfl (q_lss rfl rfl rfl) ?_
    refine run_q (.none rfl) rfl rfl (q_move rfl rfl) ?_
    refine run_off (.no rfl rfl rfl (decide_eq_false (by omega))) rfl rfl ?_
    refine run_off (.no rfl rfl rfl (decide_eq_false (by omega))) rfl rfl ?_
    refine run_off (.no rfl rfl rfl (decide_eq_false (by omega))) rfl rfl ?_
    refine run_off (.no rfl rfl rfl (decide_eq_false (by omega))) rfl rfl ?_
    refine run_off (.no rfl rfl rfl (decide_eq_false (by omega))) rfl rfl ?_
    refine run_q (.none rfl) rfl rfl (q_pickF rfl rfl (decide_eq_false (by omega)) rfl) ?_
    refine run_nil ?_
    refine run_sub (subMk (.cons (s := 0) rfl (.cons (s := 5) rfl (.cons (s := 6) rfl (.cons (s := 7) rfl (.cons (s := 8) rfl (.cons (s := 9) rfl (.cons (s := 10) rfl (.cons (s := 78) rfl .nil)))))))) .refl) ?_
    refine run_condF rfl rfl ?_
    refine run_skip ?_
    refine run_seq ?_
    refine run_sub (subMk (.cons (s := 0) rfl (.cons (s := 5) rfl (.cons (s := 6) rfl (.cons (s := 7) rfl (.cons (s := 8) rfl (.cons (s := 9) rfl (.cons' (s := 10) (v' := .int .i64 (nth (tieL (sideV up v0 v1) v1 n) i)) rfl (vint (by first | (exfalso; omega) | rw [tieL_2 (by omega) hil] | (rw [tieL_2 (by omega) hil]; exact hS.symm) | rw [tieL_1 (by omega) hil, if_pos (by omega)] | rw [tieL_1 (by omega) hil, if_neg (by omega), if_pos (by omega)] | (rw [tieL_1 (by omega) hil, if_neg (by omega), if_neg (by omega)]) | (rw [tieL_1 (by omega) hil, if_neg (by omega), if_neg (by omega)]; exact hS.symm))) (.cons (s := 78) rfl .nil)))))))) .refl) ?_
    refine run_region ?_
    refine run_q (.none rfl) rfl rfl (q_move rfl rfl) ?_
    refine run_q (.none rfl) rfl rfl (q_move rfl rfl) ?_
    refine run_q (.none rfl) rfl rfl (q_len rfl Try.underlying38 rfl) ?_
    refine run_q (.none rfl) rfl rfl (q_geq rfl rfl rfl) ?_
    refine run_q (.none rfl) rfl rfl (q_move rfl rfl) ?_
    refine run_q (.on rfl rfl rfl (decide_eq_false (by omega))) rfl rfl (q_move rfl rfl) ?_
    refine run_q (.on rfl rfl rfl (decide_eq_false (by omega))) rfl rfl (q_move rfl rfl) ?_
    refine run_q (.on rfl rfl rfl (decide_eq_false (by omega))) rfl rfl (q_indexS (q := i) rfl Try.underlying38 sz3 rfl rfl (.own Sel.here) (by rw [List.length_map, tieL_len]) rfl (by omega)) ?_
    refine run_q (.on rfl rfl rfl (decide_eq_false (by omega))) rfl rfl (q_loadC rfl one3 rfl (.own Sel.here) (getmap (by rw [tieL_len]; omega))) ?_
    refine run_q (.on rfl rfl rfl (decide_eq_false (by omega))) rfl rfl (q_move rfl rfl) ?_
    refine run_q (.on rfl rfl rfl (decide_eq_false (by omega))) rfl rfl (q_neq rfl rfl rfl) ?_
    refine run_q (.none rfl) rfl rfl (q_pickF rfl rfl (decide_eq_false (by omega)) rfl) ?_
    refine run_nil ?_
    refine run_sub (subMk (.cons (s := 0) rfl (.cons (s := 5) rfl (.cons (s := 6) rfl (.cons (s := 7) rfl (.cons (s := 8) rfl (.cons (s := 9) rfl (.cons (s := 90) rfl .nil))))))) .refl) ?_
    refine run_condF rfl (by simp) ?_
    refine run_skip ?_
    refine run_blk ?_
    refine run_region ?_
    refine run_q (.none rfl) rfl rfl (q_move rfl rfl) ?_
    refine run_q (.none rfl) rfl rfl (q_add rfl rfl rfl (by omega)) ?_
    refine run_q (.none rfl) rfl rfl (q_assign rfl rfl) ?_
    refine run_nil ?_
    refine run_sub (subMk (.cons (s := 0) rfl (.cons (s := 5) rfl (.cons (s := 6) rfl (.cons (s := 7) rfl (.cons (s := 8) rfl (.cons (s := 9) rfl .nil)))))) .refl) ?_
    exact run_again (i + 1) (by (try dsimp only); exact (by omega)) (by (try dsimp only); omega) (subMk (.cons' (s := 9) rfl (vint (by omega)) (.cons (s := 0) rfl (.cons (s := 5) rfl (.cons (s := 6) rfl (.cons (s := 7) rfl (.cons (s := 8) rfl .nil)))))) (.cons Sel.here .refl (.cons Sel.here .refl .nil)))
  · have g55' := g55
    try simp only [decide_eq_true_eq, decide_eq_false_iff_not, beq_iff_eq, beq_eq_false_iff_ne, bne_iff_ne, bne_eq_false_iff_eq, Bool.not_eq_true', Bool.not_eq_false', ne_eq, Int.not_lt, Int.not_le, Decidable.not_not] at g55'
    refine run_exit rfl ?_
    refine run_sub (subMk (.cons (s := 0) rfl (.cons (s := 6) rfl (.cons (s := 8) rfl .nil))) .refl) ?_
    refine run_seq ?_
    refine run_region ?_
    refine run_q (.none rfl) rfl rfl (q_move rfl rfl) ?_
    refine run_q (.none rfl) rfl rfl (q_len rfl Try.underlying38 rfl) ?_
    refine run_q (.none rfl) rfl rfl (q_move rfl rfl) ?_
    refine run_q (.none rfl) rfl rfl (q_eql rfl rfl rfl) ?_
    refine run_q (.none rfl) rfl rfl (q_assign rfl rfl) ?_
    refine run_nil ?_
    refine run_sub (subMk (.cons (s := 6) rfl .nil) .refl) ?_
    refine run_ret ?_
    exact end1 rfl rfl (by simp)

set_option maxHeartbeats 2000000 in
set_option maxRecDepth 100000 in
theorem law9_1t (n : Nat) (up : Bool) (v0 v1 : Int) (W : World) (hr : 1 ≤ n ∧ n ≤ 10) (hc : 2 ≤ v1) (hd : v0 = 0) : Calls Try.prog 9 #[.int .i64 (n : Int), .bool up, .agg #[.int .i64 v0, .int .i64 v1]] W (Hr.Just W (.bool true)) := by
  refine Just.of_ret ?_
  refine enterA (X := nX) (vs := [.int .i64 (n : Int), .bool up, .agg #[.int .i64 v0, .int .i64 v1]]) Try.func9 Try.ntmps9 rfl rfl Mem.nil ?_
  refine run_seq ?_
  refine run_region ?_
  refine run_h (.none rfl) (h_box rfl rfl rfl rfl rfl) ?_
  rintro b5 -
  refine run_q (.none rfl) rfl rfl (q_assign rfl rfl) ?_
  refine run_nil ?_
  refine run_seq ?_
  refine run_seq ?_
  refine run_region ?_
  refine run_q (.none rfl) rfl rfl (q_call rfl call12 Evs.nil (fun w hk hm => known_just w)) ?_
  refine run_q (.none rfl) rfl rfl (q_not rfl rfl) ?_
  refine run_nil ?_
  refine run_condF rfl rfl ?_
  refine run_skip ?_
  refine run_seq ?_
  refine run_region ?_
  refine run_q (.none rfl) rfl rfl (q_assign rfl rfl) ?_
  refine run_nil ?_
  refine run_sub (subMk (.cons (s := 0) rfl (.cons (s := 1) rfl (.cons (s := 5) rfl (.cons (s := 6) rfl (.cons (s := 7) rfl .nil))))) .refl) ?_
  refine run_seq ?_
  refine run_seq ?_
  refine run_region ?_
  refine run_q (.none rfl) rfl rfl (q_indexB (q := 1) (d := 1) rfl Try.underlying64 sz3 rfl rfl rfl (by decide) rfl) ?_
  refine run_q (.none rfl) rfl rfl (q_loadB rfl one3 rfl Sel.here rfl) ?_
  refine run_q (.none rfl) rfl rfl (q_geq rfl rfl rfl) ?_
  refine run_q (.none rfl) rfl rfl (q_move rfl rfl) ?_
  refine run_q (.on rfl rfl rfl (decide_eq_true (by omega))) rfl rfl (q_indexB (q := 0) (d := 0) rfl Try.underlying64 sz3 rfl rfl rfl (by decide) rfl) ?_
  refine run_q (.on rfl rfl rfl (decide_eq_true (by omega))) rfl rfl (q_loadB rfl one3 rfl Sel.here rfl) ?_
  refine run_q (.on rfl rfl rfl (decide_eq_true (by omega))) rfl rfl (q_neq rfl rfl rfl) ?_
  refine run_q (.none rfl) rfl rfl (q_pickT rfl rfl (decide_eq_true (by omega)) rfl) ?_
  refine run_q (.none rfl) rfl rfl (q_move rfl rfl) ?_
  refine run_q (.on rfl rfl rfl (by first | rfl | (exact decide_eq_false (by omega)) | simp [hd])) rfl rfl (q_indexB (q := 1) (d := 1) rfl Try.underlying64 sz3 rfl rfl rfl (by decide) rfl) ?_
  refine run_q (.on rfl rfl rfl (by first | rfl | (exact decide_eq_false (by omega)) | simp [hd])) rfl rfl (q_loadB rfl one3 rfl Sel.here rfl) ?_
  refine run_q (.on rfl rfl rfl (by first | rfl | (exact decide_eq_false (by omega)) | simp [hd])) rfl rfl (q_lss rfl rfl rfl) ?_
  refine run_q (.on rfl rfl rfl (by first | rfl | (exact decide_eq_false (by omega)) | simp [hd])) rfl rfl (q_move rfl rfl) ?_
  refine run_off (.no rfl rfl rfl (decide_eq_false (by omega))) rfl rfl ?_
  refine run_q (.on rfl rfl rfl (by first | rfl | (exact decide_eq_false (by omega)) | simp [hd])) rfl rfl (q_pickF rfl rfl (decide_eq_false (by omega)) rfl) ?_
  refine run_q (.none rfl) rfl rfl (q_pickF rfl rfl (by first | rfl | (exact decide_eq_false (by omega)) | simp [hd]) rfl) ?_
  refine run_nil ?_
  refine run_sub (subMk (.cons (s := 0) rfl (.cons (s := 1) rfl (.cons (s := 5) rfl (.cons (s := 6) rfl (.cons (s := 7) rfl (.cons (s := 28) rfl .nil)))))) .refl) ?_
  refine run_condF rfl rfl ?_
  refine run_skip ?_
  refine run_seq ?_
  have hS : (sideV up v0 v1) = 1 := (sideV_1 (by omega))
  refine run_sub (subMk (.cons (s := 0) rfl (.cons (s := 1) rfl (.cons (s := 5) rfl (.cons (s := 6) rfl (.cons' (s := 7) (v' := .int .i64 (sideV up v0 v1)) rfl (vint hS.symm) (.cons (s := 28) rfl .nil)))))) .refl) ?_
  refine run_region ?_
  refine run_q (.none rfl) rfl rfl (q_move rfl rfl) ?_
  refine run_q (.none rfl) rfl rfl (q_move rfl rfl) ?_
  refine run_q (.none rfl) rfl rfl (q_indexB (q := 0) (d := 0) rfl Try.underlying64 sz3 rfl rfl rfl (by decide) rfl) ?_
  refine run_q (.none rfl) rfl rfl (q_loadB rfl one3 rfl Sel.here rfl) ?_
  refine run_q (.none rfl) rfl rfl (q_indexB (q := 1) (d := 1) rfl Try.underlying64 sz3 rfl rfl rfl (by decide) rfl) ?_
  refine run_q (.none rfl) rfl rfl (q_loadB rfl one3 rfl Sel.here rfl) ?_
  refine run_h (.none rfl) (h_call rfl rfl rfl call28 (.cons rfl (.cons rfl (.cons rfl (.cons rfl Evs.nil)))) (fun w hk hm => tie_some n up v0 v1 w hr)) ?_
  rintro ⟨v', m⟩ ⟨A, c, rfl, rfl⟩
  show Run _ _ _ _ _ _ _ ⟨(35, .slice A n c) :: _, _ :: _⟩
  refine run_q (.none rfl) rfl rfl (q_assign rfl rfl) ?_
  refine run_nil ?_
  refine run_sub (subMk (.cons (s := 0) rfl (.cons (s := 1) rfl (.cons (s := 5) rfl (.cons (s := 6) rfl (.cons (s := 7) rfl (.cons (s := 8) rfl .nil)))))) .refl) ?_
  refine run_seq ?_
  refine run_seq ?_
  refine run_region ?_
  refine run_q (.none rfl) rfl rfl (q_move rfl rfl) ?_
  refine run_q (.none rfl) rfl rfl (q_indexB (q := 0) (d := 0) rfl Try.underlying64 sz3 rfl rfl rfl (by decide) rfl) ?_
  refine run_q (.none rfl) rfl rfl (q_loadB rfl one3 rfl (.there Sel.here) rfl) ?_
  refine run_q (.none rfl) rfl rfl (q_indexB (q := 1) (d := 1) rfl Try.underlying64 sz3 rfl rfl rfl (by decide) rfl) ?_
  refine run_q (.none rfl) rfl rfl (q_loadB rfl one3 rfl (.there Sel.here) rfl) ?_
  refine run_q (.none rfl) rfl rfl (q_call rfl call29 (.cons rfl (.cons rfl (.cons rfl Evs.nil))) (fun w hk hm => Side_just up v0 v1 w)) ?_
  refine run_q (.none rfl) rfl rfl (q_move rfl rfl) ?_
  refine run_q (.none rfl) rfl rfl (q_neq rfl rfl rfl) ?_
  refine run_nil ?_
  refine run_sub (subMk (.cons (s := 0) rfl (.cons (s := 5) rfl (.cons (s := 6) rfl (.cons (s := 7) rfl (.cons (s := 8) rfl (.cons (s := 43) rfl .nil)))))) .refl) ?_
  refine run_condF rfl (by simp) ?_
  refine run_skip ?_
  refine run_seq ?_
  refine run_seq ?_
  refine run_region ?_
  refine run_q (.none rfl) rfl rfl (q_move rfl rfl) ?_
  refine run_q (.none rfl) rfl rfl (q_lss rfl rfl rfl) ?_
  refine run_q (.none rfl) rfl rfl (q_move rfl rfl) ?_
  refine run_q (.on rfl rfl rfl (decide_eq_false (by omega))) rfl rfl (q_move rfl rfl) ?_
  refine run_q (.on rfl rfl rfl (decide_eq_false (by omega))) rfl rfl (q_gtr rfl rfl rfl) ?_
  refine run_q (.none rfl) rfl rfl (q_pickF rfl rfl (decide_eq_false (by omega)) rfl) ?_
  refine run_nil ?_
  refine run_sub (subMk (.cons (s := 0) rfl (.cons (s := 5) rfl (.cons (s := 6) rfl (.cons (s := 7) rfl (.cons (s := 8) rfl (.cons (s := 49) rfl .nil)))))) .refl) ?_
  refine run_condF rfl (decide_eq_false (by omega)) ?_
  refine run_skip ?_
  refine run_seq ?_
  refine run_seq ?_
  refine run_region ?_
  refine run_q (.none rfl) rfl rfl (q_assign rfl rfl) ?_
  refine run_nil ?_
  refine run_block ?_
  refine run_sub (subMk (.cons (s := 9) rfl (.cons (s := 0) rfl (.cons (s := 5) rfl (.cons (s := 6) rfl (.cons (s := 7) rfl (.cons (s := 8) rfl .nil)))))) (.cons Sel.here .refl (.cons Sel.here .refl .nil))) ?_
  refine run_loopC1M0 (ι := Nat) (fun i => i ≤ n) (fun i => .int .i64 (i : Int))  (fun i => n - i) 0 (by (try dsimp only); exact (by omega)) rfl  ?_
  rintro i hi
  (try dsimp only at hi)
  show Run _ _ _ _ _ _ _ ⟨(9, .int .i64 (i : Int)) :: _, _⟩
  refine run_seq ?_
  refine run_seq ?_
  refine run_region ?_
  refine run_q (.none rfl) rfl rfl (q_move rfl rfl) ?_
  refine run_q (.none rfl) rfl rfl (q_move rfl rfl) ?_
  refine run_q (.none rfl) rfl rfl (q_lss rfl rfl rfl) ?_
  refine run_nil ?_
  refine run_cond rfl (fun g55 => ?_) (fun g55 => ?_)
  · have g55' := g55
    try simp only [decide_eq_true_eq, decide_eq_false_iff_not, beq_iff_eq, beq_eq_false_iff_ne, bne_iff_ne, bne_eq_false_iff_eq, Bool.not_eq_true', Bool.not_eq_false', ne_eq, Int.not_lt, Int.not_le, Decidable.not_not] at g55'
    have hil : i < n := by omega
    refine run_skip ?_
    refine run_seq ?_
    refine run_block ?_
    refine run_seq ?_
    refine run_region ?_
    refine run_q (.none rfl) rfl rfl (q_move rfl rfl) ?_
    refine run_q (.none rfl) rfl rfl (q_assign rfl rfl) ?_
    refine run_nil ?_
    refine run_sub (subMk (.cons (s := 0) rfl (.cons (s := 5) rfl (.cons (s := 6) rfl (.cons (s := 7) rfl (.cons (s := 8) rfl (.cons (s := 9) rfl (.cons (s := 10) rfl .nil))))))) .refl) ?_
    refine run_seq ?_
    refine run_seq ?_
    refine run_region ?_
    refine run_q (.none rfl) rfl rfl (q_indexB (q := 1) (d := 1) rfl Try.underlying64 sz3 rfl rfl rfl (by decide) rfl) ?_
    refine run_q (.none rfl) rfl rfl (q_loadB rfl one3 rfl (.there Sel.here) rfl) ?_
    refine run_q (.none rfl) rfl rfl (q_lss rfl rfl rfl) ?_
    refine run_q (.none rfl) rfl rfl (q_move rfl rfl) ?_
    refine run_off (.no rfl rfl rfl (decide_eq_false (by omega))) rfl rfl ?_
    refine run_off (.no rfl rfl rfl (decide_eq_false (by omega))) rfl rfl ?_
    refine run_off (.no rfl rfl rfl (decide_eq_false (by omega))) rfl rfl ?_
    refine run_off (.no rfl rfl rfl (decide_eq_false (by omega))) rfl rfl ?_
    refine run_off (.no rfl rfl rfl (decide_eq_false (by omega))) rfl rfl ?_
    refine run_q (.none rfl) rfl rfl (q_pickF rfl rfl (decide_eq_false (by omega)) rfl) ?_
    refine run_nil ?_
    refine run_sub (subMk (.cons (s := 0) rfl (.cons (s := 5) rfl (.cons (s := 6) rfl (.cons (s := 7) rfl (.cons (s := 8) rfl (.cons (s := 9) rfl (.cons (s := 10) rfl (.cons (s := 68) rfl .nil)))))))) .refl) ?_
    refine run_condF rfl rfl ?_
    refine run_skip ?_
    refine run_seq ?_
    refine run_seq ?_
    refine run_region ?_
    refine run_q (.none rfl) rfl rfl (q_indexB (q := 1) (d := 1) rfl Try.underlying64 sz3 rfl rfl rfl (by decide) rfl) ?_
    refine run_q (.none rfl) rfl rfl (q_loadB rfl one3 rfl (.there Sel.here) rfl) ?_
    refine run_q (.none rfl) rfl rfl (q_lss rfl rfl rfl) ?_
    refine run_q (.none rfl) rfl rfl (q_move rfl rfl) ?_
    refine run_off (.no rfl rfl rfl (decide_eq_false (by omega))) rfl rfl ?_
    refine run_off (.no rfl rfl rfl (decide_eq_false (by omega))) rfl rfl ?_
    refine run_off (.no rfl rfl rfl (decide_eq_false (by omega))) rfl rfl ?_
    refine run_off (.no rfl rfl rfl (decide_eq_false (by omega))) rfl rfl ?_
    refine run_off (.no rfl rfl rfl (decide_eq_false (by omega))) rfl rfl ?_
    refine run_q (.none rfl) rfl rfl (q_pickF rfl rfl (decide_eq_false (by omega)) rfl) ?_
    refine run_nil ?_
    refine run_sub (subMk (.cons (s := 0) rfl (.cons (s := 5) rfl (.cons (s := 6) rfl (.cons (s := 7) rfl (.cons (s := 8) rfl (.cons (s := 9) rfl (.cons (s := 10) rfl (.cons (s := 78) rfl .nil)))))))) .refl) ?_
    refine run_condF rfl rfl ?_
    refine run_skip ?_
    refine run_seq ?_
    refine run_sub (subMk (.cons (s := 0) rfl (.cons (s := 5) rfl (.cons (s := 6) rfl (.cons (s := 7) rfl (.cons (s := 8) rfl (.cons (s := 9) rfl (.cons' (s := 10) (v' := .int .i64 (nth (tieL (sideV up v0 v1) v1 n) i)) rfl (vint (by first | (exfalso; omega) | rw [tieL_2 (by omega) hil] | (rw [tieL_2 (by omega) hil]; exact hS.symm) | rw [tieL_1 (by omega) hil, if_pos (by omega)] | rw [tieL_1 (by omega) hil, if_neg (by omega), if_pos (by omega)] | (rw [tieL_1 (by omega) hil, if_neg (by omega), if_neg (by omega)]) | (rw [tieL_1 (by omega) hil, if_neg (by omega), if_neg (by omega)]; exact hS.symm))) (.cons (s := 78) rfl .nil)))))))) .refl) ?_
    refine run_region ?_
    refine run_q (.none rfl) rfl rfl (q_move rfl rfl) ?_
    refine run_q (.none rfl) rfl rfl (q_move rfl rfl) ?_
    refine run_q (.none rfl) rfl rfl (q_len rfl Try.underlying38 rfl) ?_
    refine run_q (.none rfl) rfl rfl (q_geq rfl rfl rfl) ?_
    refine run_q (.none rfl) rfl rfl (q_move rfl rfl) ?_
    refine run_q (.on rfl rfl rfl (decide_eq_false (by omega))) rfl rfl (q_move rfl rfl) ?_
    refine run_q (.on rfl rfl rfl (decide_eq_false (by omega))) rfl rfl (q_move rfl rfl) ?_
    refine run_q (.on rfl rfl rfl (decide_eq_false (by omega))) rfl rfl (q_indexS (q := i) rfl Try.underlying38 sz3 rfl rfl (.own Sel.here) (by rw [List.length_map, tieL_len]) rfl (by omega)) ?_
    refine run_q (.on rfl rfl rfl (decide_eq_false (by omega))) rfl rfl (q_loadC rfl one3 rfl (.own Sel.here) (getmap (by rw [tieL_len]; omega))) ?_
    refine run_q (.on rfl rfl rfl (decide_eq_false (by omega))) rfl rfl (q_move rfl rfl) ?_
    refine run_q (.on rfl rfl rfl (decide_eq_false (by omega))) rfl rfl (q_neq rfl rfl rfl) ?_
    refine run_q (.none rfl) rfl rfl (q_pickF rfl rfl (decide_eq_false (by omega)) rfl) ?_
    refine run_nil ?_
    refine run_sub (subMk (.cons (s := 0) rfl (.cons (s := 5) rfl (.cons (s := 6) rfl (.cons (s := 7) rfl (.cons (s := 8) rfl (.cons (s := 9) rfl (.cons (s := 90) rfl .nil))))))) .refl) ?_
    refine run_condF rfl (by simp) ?_
    refine run_skip ?_
    refine run_blk ?_
    refine run_region ?_
    refine run_q (.none rfl) rfl rfl (q_move rfl rfl) ?_
    refine run_q (.none rfl) rfl rfl (q_add rfl rfl rfl (by omega)) ?_
    refine run_q (.none rfl) rfl rfl (q_assign rfl rfl) ?_
    refine run_nil ?_
    refine run_sub (subMk (.cons (s := 0) rfl (.cons (s := 5) rfl (.cons (s := 6) rfl (.cons (s := 7) rfl (.cons (s := 8) rfl (.cons (s := 9) rfl .nil)))))) .refl) ?_
    exact run_again (i + 1) (by (try dsimp only); exact (by omega)) (by (try dsimp only); omega) (subMk (.cons' (s := 9) rfl (vint (by omega)) (.cons (s := 0) rfl (.cons (s := 5) rfl (.cons (s := 6) rfl (.cons (s := 7) rfl (.cons (s := 8) rfl .nil)))))) (.cons Sel.here .refl (.cons Sel.here .refl .nil)))
  · have g55' := g55
    try simp only [decide_eq_true_eq, decide_eq_false_iff_not, beq_iff_eq, beq_eq_false_iff_ne, bne_iff_ne, bne_eq_false_iff_eq, Bool.not_eq_true', Bool.not_eq_false', ne_eq, Int.not_lt, Int.not_le, Decidable.not_not] at g55'
    refine run_exit rfl ?_
    refine run_sub (subMk (.cons (s := 0) rfl (.cons (s := 6) rfl (.cons (s := 8) rfl .nil))) .refl) ?_
    refine run_seq ?_
    refine run_region ?_
    refine run_q (.none rfl) rfl rfl (q_move rfl rfl) ?_
    refine run_q (.none rfl) rfl rfl (q_len rfl Try.underlying38 rfl) ?_
    refine run_q (.none rfl) rfl rfl (q_move rfl rfl) ?_
    refine run_q (.none rfl) rfl rfl (q_eql rfl rfl rfl) ?_
    refine run_q (.none rfl) rfl rfl (q_assign rfl rfl) ?_
    refine run_nil ?_
    refine run_sub (subMk (.cons (s := 6) rfl .nil) .refl) ?_
    refine run_ret ?_
    exact end1 rfl rfl (by simp)

end Go.Proofs.Ytomhegnaojejnaa
