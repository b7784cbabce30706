/- The check of the layer. -/
import Derived.Test.YticofkkkafhpiaaProg
import Derived.Test.YticofkkkafhpiaaPlain
set_option linter.unusedSimpArgs false
set_option linter.unusedVariables false
namespace Go.Proofs.Yticofkkkafhpiaa
open Go Go.RowKit Hr

theorem sz3 : Hr.Sz Try.prog 3 1 := Hr.Sz.of (by kernel_rfl)
theorem one3 : Hr.One Try.prog 3 := ⟨fun w => by simp [isAgg, run_underlying Try.underlying3], Hr.Sz.of (by kernel_rfl)⟩
theorem mixed : Try.prog.follows .mixedOrders = true := by kernel_rfl
theorem one22 : Hr.One Try.prog 22 := ⟨fun w => by simp [isAgg, run_underlying Try.underlying22], Hr.Sz.of (by kernel_rfl)⟩
theorem sz46 : Hr.Sz Try.prog 46 4 := Hr.Sz.of (by kernel_rfl)
theorem agg46 : Hr.Agg Try.prog 46 4 := ⟨fun w => by simp [isAgg, run_underlying Try.underlying46], Hr.Sz.of (by kernel_rfl)⟩
theorem call36 : Hr.Callable Try.prog 36 := fun args w => by kernel_rfl
theorem sz22 : Hr.Sz Try.prog 22 1 := Hr.Sz.of (by kernel_rfl)
theorem info46 : Hr.Info Try.prog 46 [.int .i64 0, .int .i64 0, .int .i64 0, .int .i64 0] 4 32 := Hr.Info.of (by kernel_rfl)
theorem info22 : Hr.Info Try.prog 22 [.slice none 0 0] 1 24 := Hr.Info.of (by kernel_rfl)
theorem call37 : Hr.Callable Try.prog 37 := fun args w => by kernel_rfl
theorem call38 : Hr.Callable Try.prog 38 := fun args w => by kernel_rfl
theorem call35 : Hr.Callable Try.prog 35 := fun args w => by kernel_rfl

theorem end_just (t : Tup) (W : World) (ht : TupOk t) : Calls Try.prog 36 #[t.val] W (Hr.Just W (.int .i64 (tend t))) := by
  unfold TupOk at ht
  refine Just.of_ret ?_
  refine enterA (X := nX) (vs := [t.val]) Try.func36 Try.ntmps36 rfl rfl Mem.nil ?_
  refine run_seq ?_
  refine run_region ?_
  refine run_h (.none rfl) (h_box rfl rfl rfl rfl rfl) ?_
  rintro b1 -
  refine run_q (.none rfl) rfl rfl (q_assign rfl rfl) ?_
  refine run_nil ?_
  refine run_seq ?_
  refine run_region ?_
  refine run_q (.none rfl) rfl rfl (q_fieldB (d := 0) rfl Try.underlying46 rfl rfl sz3 rfl) ?_
  refine run_q (.none rfl) rfl rfl (q_loadB rfl one3 rfl Sel.here rfl) ?_
  refine run_q (.none rfl) rfl rfl (q_fieldB (d := 1) rfl Try.underlying46 rfl rfl sz3 rfl) ?_
  refine run_q (.none rfl) rfl rfl (q_loadB rfl one3 rfl Sel.here rfl) ?_
  refine run_q (.none rfl) rfl rfl (q_add rfl rfl rfl (by omega)) ?_
  refine run_q (.none rfl) rfl rfl (q_assign rfl rfl) ?_
  refine run_nil ?_
  refine run_sub (subMk (.cons (s := 2) rfl .nil) .refl) ?_
  refine run_ret ?_
  exact end1 rfl rfl rfl

theorem ratio_just (n : Int) (W : World)  : Calls Try.prog 37 #[.int .i64 n] W (Hr.Just W (.bool (ratioB n))) := by
  refine Just.of_ret ?_
  refine enterA (X := nX) (vs := [.int .i64 n]) Try.func37 Try.ntmps37 rfl rfl Mem.nil ?_
  refine run_seq ?_
  refine run_region ?_
  refine run_q (.none rfl) rfl rfl (q_assign rfl rfl) ?_
  refine run_nil ?_
  refine run_seq ?_
  refine run_region ?_
  refine run_q (.none rfl) rfl rfl (q_move rfl rfl) ?_
  refine run_q (.none rfl) rfl rfl (q_geq rfl rfl rfl) ?_
  refine run_q (.none rfl) rfl rfl (q_move rfl rfl) ?_
  refine run_split 5 rfl (fun g5 => ?_) (fun g5 => ?_)
  · have g5' := g5
    try simp only [decide_eq_true_eq, decide_eq_false_iff_not, beq_iff_eq, beq_eq_false_iff_ne, bne_iff_ne, bne_eq_false_iff_eq, Bool.not_eq_true', Bool.not_eq_false', ne_eq, Int.not_lt, Int.not_le, Decidable.not_not] at g5'
    refine run_q (.on rfl rfl rfl g5) rfl rfl (q_move rfl rfl) ?_
    refine run_q (.on rfl rfl rfl g5) rfl rfl (q_leq rfl rfl rfl) ?_
    refine run_q (.none rfl) rfl rfl (q_pickT rfl rfl g5 rfl) ?_
    refine run_q (.none rfl) rfl rfl (q_assign rfl rfl) ?_
    refine run_nil ?_
    refine run_sub (subMk (.cons (s := 2) rfl .nil) .refl) ?_
    refine run_ret ?_
    exact end1 rfl rfl (by simp [ratioB, *])
  · have g5' := g5
    try simp only [decide_eq_true_eq, decide_eq_false_iff_not, beq_iff_eq, beq_eq_false_iff_ne, bne_iff_ne, bne_eq_false_iff_eq, Bool.not_eq_true', Bool.not_eq_false', ne_eq, Int.not_lt, Int.not_le, Decidable.not_not] at g5'
    refine run_off (.no rfl rfl rfl g5) rfl rfl ?_
    refine run_off (.no rfl rfl rfl g5) rfl rfl ?_
    refine run_q (.none rfl) rfl rfl (q_pickF rfl rfl g5 rfl) ?_
    refine run_q (.none rfl) rfl rfl (q_assign rfl rfl) ?_
    refine run_nil ?_
    refine run_sub (subMk (.cons (s := 2) rfl .nil) .refl) ?_
    refine run_ret ?_
    exact end1 rfl rfl (by simp [ratioB, *])

theorem order_just (p t : Tup) (W : World)  : Calls Try.prog 38 #[p.val, t.val] W (Hr.Just W (.int .i64 (ordV p t))) := by
  refine Just.of_ret ?_
  refine enterA (X := nX) (vs := [p.val, t.val]) Try.func38 Try.ntmps38 rfl rfl Mem.nil ?_
  refine run_seq ?_
  refine run_region ?_
  refine run_h (.none rfl) (h_box rfl rfl rfl rfl rfl) ?_
  rintro b2 -
  refine run_h (.none rfl) (h_box rfl rfl rfl rfl rfl) ?_
  rintro b3 -
  refine run_q (.none rfl) rfl rfl (q_assign rfl rfl) ?_
  refine run_nil ?_
  refine run_seq ?_
  refine run_seq ?_
  refine run_region ?_
  refine run_q (.none rfl) rfl rfl (q_fieldB (d := 0) rfl Try.underlying46 rfl rfl sz3 rfl) ?_
  refine run_q (.none rfl) rfl rfl (q_loadB rfl one3 rfl (.there Sel.here) rfl) ?_
  refine run_q (.none rfl) rfl rfl (q_fieldB (d := 0) rfl Try.underlying46 rfl rfl sz3 rfl) ?_
  refine run_q (.none rfl) rfl rfl (q_loadB rfl one3 rfl Sel.here rfl) ?_
  refine run_q (.none rfl) rfl rfl (q_neq rfl rfl rfl) ?_
  refine run_nil ?_
  refine run_sub (subMk (.cons (s := 2) rfl (.cons (s := 3) rfl (.cons (s := 4) rfl (.cons (s := 9) rfl .nil)))) .refl) ?_
  refine run_cond rfl (fun g9 => ?_) (fun g9 => ?_)
  · have g9' := g9
    try simp only [decide_eq_true_eq, decide_eq_false_iff_not, beq_iff_eq, beq_eq_false_iff_ne, bne_iff_ne, bne_eq_false_iff_eq, Bool.not_eq_true', Bool.not_eq_false', ne_eq, Int.not_lt, Int.not_le, Decidable.not_not] at g9'
    refine run_seq ?_
    refine run_seq ?_
    refine run_region ?_
    refine run_q (.none rfl) rfl rfl (q_fieldB (d := 0) rfl Try.underlying46 rfl rfl sz3 rfl) ?_
    refine run_q (.none rfl) rfl rfl (q_loadB rfl one3 rfl (.there Sel.here) rfl) ?_
    refine run_q (.none rfl) rfl rfl (q_fieldB (d := 0) rfl Try.underlying46 rfl rfl sz3 rfl) ?_
    refine run_q (.none rfl) rfl rfl (q_loadB rfl one3 rfl Sel.here rfl) ?_
    refine run_q (.none rfl) rfl rfl (q_lss rfl rfl rfl) ?_
    refine run_nil ?_
    refine run_sub (subMk (.cons (s := 2) rfl (.cons (s := 3) rfl (.cons (s := 4) rfl (.cons (s := 14) rfl .nil)))) .refl) ?_
    refine run_cond rfl (fun g14 => ?_) (fun g14 => ?_)
    · have g14' := g14
      try simp only [decide_eq_true_eq, decide_eq_false_iff_not, beq_iff_eq, beq_eq_false_iff_ne, bne_iff_ne, bne_eq_false_iff_eq, Bool.not_eq_true', Bool.not_eq_false', ne_eq, Int.not_lt, Int.not_le, Decidable.not_not] at g14'
      refine run_seq ?_
      refine run_region ?_
      refine run_q (.none rfl) rfl rfl (q_assign rfl rfl) ?_
      refine run_nil ?_
      refine run_ret ?_
      exact end1 rfl rfl (by rw [ordV]; simp_all; try omega)
    · have g14' := g14
      try simp only [decide_eq_true_eq, decide_eq_false_iff_not, beq_iff_eq, beq_eq_false_iff_ne, bne_iff_ne, bne_eq_false_iff_eq, Bool.not_eq_true', Bool.not_eq_false', ne_eq, Int.not_lt, Int.not_le, Decidable.not_not] at g14'
      refine run_skip ?_
      refine run_seq ?_
      refine run_region ?_
      refine run_q (.none rfl) rfl rfl (q_assign rfl rfl) ?_
      refine run_nil ?_
      refine run_ret ?_
      exact end1 rfl rfl (by rw [ordV]; simp_all; try omega)
  · have g9' := g9
    try simp only [decide_eq_true_eq, decide_eq_false_iff_not, beq_iff_eq, beq_eq_false_iff_ne, bne_iff_ne, bne_eq_false_iff_eq, Bool.not_eq_true', Bool.not_eq_false', ne_eq, Int.not_lt, Int.not_le, Decidable.not_not] at g9'
    refine run_skip ?_
    refine run_seq ?_
    refine run_seq ?_
    refine run_region ?_
    refine run_q (.none rfl) rfl rfl (q_fieldB (d := 1) rfl Try.underlying46 rfl rfl sz3 rfl) ?_
    refine run_q (.none rfl) rfl rfl (q_loadB rfl one3 rfl (.there Sel.here) rfl) ?_
    refine run_q (.none rfl) rfl rfl (q_fieldB (d := 1) rfl Try.underlying46 rfl rfl sz3 rfl) ?_
    refine run_q (.none rfl) rfl rfl (q_loadB rfl one3 rfl Sel.here rfl) ?_
    refine run_q (.none rfl) rfl rfl (q_neq rfl rfl rfl) ?_
    refine run_nil ?_
    refine run_sub (subMk (.cons (s := 2) rfl (.cons (s := 3) rfl (.cons (s := 4) rfl (.cons (s := 19) rfl .nil)))) .refl) ?_
    refine run_cond rfl (fun g19 => ?_) (fun g19 => ?_)
    · have g19' := g19
      try simp only [decide_eq_true_eq, decide_eq_false_iff_not, beq_iff_eq, beq_eq_false_iff_ne, bne_iff_ne, bne_eq_false_iff_eq, Bool.not_eq_true', Bool.not_eq_false', ne_eq, Int.not_lt, Int.not_le, Decidable.not_not] at g19'
      refine run_seq ?_
      refine run_seq ?_
      refine run_region ?_
      refine run_q (.none rfl) rfl rfl (q_fieldB (d := 1) rfl Try.underlying46 rfl rfl sz3 rfl) ?_
      refine run_q (.none rfl) rfl rfl (q_loadB rfl one3 rfl (.there Sel.here) rfl) ?_
      refine run_q (.none rfl) rfl rfl (q_fieldB (d := 1) rfl Try.underlying46 rfl rfl sz3 rfl) ?_
      refine run_q (.none rfl) rfl rfl (q_loadB rfl one3 rfl Sel.here rfl) ?_
      refine run_q (.none rfl) rfl rfl (q_gtr rfl rfl rfl) ?_
      refine run_nil ?_
      refine run_sub (subMk (.cons (s := 4) rfl (.cons (s := 24) rfl .nil)) .refl) ?_
      refine run_cond rfl (fun g24 => ?_) (fun g24 => ?_)
      · have g24' := g24
        try simp only [decide_eq_true_eq, decide_eq_false_iff_not, beq_iff_eq, beq_eq_false_iff_ne, bne_iff_ne, bne_eq_false_iff_eq, Bool.not_eq_true', Bool.not_eq_false', ne_eq, Int.not_lt, Int.not_le, Decidable.not_not] at g24'
        refine run_seq ?_
        refine run_region ?_
        refine run_q (.none rfl) rfl rfl (q_assign rfl rfl) ?_
        refine run_nil ?_
        refine run_ret ?_
        exact end1 rfl rfl (by rw [ordV]; simp_all; try omega)
      · have g24' := g24
        try simp only [decide_eq_true_eq, decide_eq_false_iff_not, beq_iff_eq, beq_eq_false_iff_ne, bne_iff_ne, bne_eq_false_iff_eq, Bool.not_eq_true', Bool.not_eq_false', ne_eq, Int.not_lt, Int.not_le, Decidable.not_not] at g24'
        refine run_skip ?_
        refine run_seq ?_
        refine run_region ?_
        refine run_q (.none rfl) rfl rfl (q_assign rfl rfl) ?_
        refine run_nil ?_
        refine run_ret ?_
        exact end1 rfl rfl (by rw [ordV]; simp_all; try omega)
    · have g19' := g19
      try simp only [decide_eq_true_eq, decide_eq_false_iff_not, beq_iff_eq, beq_eq_false_iff_ne, bne_iff_ne, bne_eq_false_iff_eq, Bool.not_eq_true', Bool.not_eq_false', ne_eq, Int.not_lt, Int.not_le, Decidable.not_not] at g19'
      refine run_skip ?_
      refine run_seq ?_
      refine run_region ?_
      refine run_q (.none rfl) rfl rfl (q_assign rfl rfl) ?_
      refine run_nil ?_
      refine run_sub (subMk (.cons (s := 4) rfl .nil) .refl) ?_
      refine run_ret ?_
      exact end1 rfl rfl (by rw [ordV]; simp_all; try omega)

theorem push_ret (t : Tup) (s : List Tup) (b : Nat) (Q : Option Addr) (cq : Nat) (W : World) (hm : Mem (atAny [.blk b 22 [(0, .slice Q s.length cq)], .own 46 4 Q s.length cq (s.map Tup.enc)]) W [.blk b 22 [(0, .slice Q s.length cq)], .own 46 4 Q s.length cq (s.map Tup.enc)] W) (hs : s.length ≤ 3) (ht : TupOk t) (hso : ∀ u ∈ s, TupOk u) : Calls Try.prog 35 #[t.val, .pointer (some ⟨b, 0, none⟩)] W (Ret W (atAny [.blk b 22 [(0, .slice Q s.length cq)], .own 46 4 Q s.length cq (s.map Tup.enc)]) (fun v m => ∃ Q' c', v = .bool (okP s t) ∧ m = [.blk b 22 [(0, .slice Q' (pushS s t).length c')], .own 46 4 Q' (pushS s t).length c' ((pushS s t).map Tup.enc)])) := by
  refine enterA (X := _) (vs := [t.val, .pointer (some ⟨b, 0, none⟩)]) Try.func35 Try.ntmps35 rfl rfl hm ?_
  refine run_seq ?_
  refine run_region ?_
  refine run_h (.none rfl) (h_box rfl rfl rfl rfl rfl) ?_
  rintro b2 -
  refine run_q (.none rfl) rfl rfl (q_assign rfl rfl) ?_
  refine run_nil ?_
  refine run_seq ?_
  refine run_block ?_
  refine run_sub (subMk (.cons (s := 1) rfl (.cons (s := 2) rfl (.cons (s := 3) rfl .nil))) (.cons (.there Sel.here) .refl (.cons (.there Sel.here) .refl (.cons Sel.here .refl .nil)))) ?_
  refine run_loopC0M2 (ι := Nat) (fun k => k ≤ s.length ∧ popN s t.first s.length = popN s t.first k)  (fun k => .blk b 22 [(0, .slice Q k cq)]) (fun k => .own 46 4 Q k cq ((s.take k).map Tup.enc)) (fun k => k) s.length (by (try dsimp only); exact ⟨by omega, rfl⟩)  .refl (.own rfl rfl rfl (by rw [List.take_length])) ?_
  rintro k hq
  (try dsimp only at hq)
  obtain ⟨hk, hpop⟩ := hq
  show Run _ _ _ _ _ _ _ ⟨_, .blk b 22 [(0, .slice Q k cq)] :: .own 46 4 Q k cq ((s.take k).map Tup.enc) :: _⟩
  refine run_seq ?_
  refine run_seq ?_
  refine run_draw [(0, 0), (1, 0), (2, 0), (3, 0), (4, 0), (5, 0), (6, 0), (7, 0), (8, 0), (9, 0), (10, 0), (11, 0), (12, 0), (13, 0), (14, 0)] mixed (by kernel_rfl) .refl ?_
  refine d_q rfl rfl (.none rfl) rfl rfl (q_loadB rfl one22 rfl Sel.here rfl) ?_
  refine d_q rfl rfl (.none rfl) rfl rfl (q_len rfl Try.underlying22 rfl) ?_
  refine d_q rfl rfl (.none rfl) rfl rfl (q_gtr rfl rfl rfl) ?_
  refine d_q rfl rfl (.none rfl) rfl rfl (q_move rfl rfl) ?_
  refine d_split 8 rfl (fun g8 => ?_) (fun g8 => ?_)
  · have g8' := g8
    try simp only [decide_eq_true_eq, decide_eq_false_iff_not, beq_iff_eq, beq_eq_false_iff_ne, bne_iff_ne, bne_eq_false_iff_eq, Bool.not_eq_true', Bool.not_eq_false', ne_eq, Int.not_lt, Int.not_le, Decidable.not_not] at g8'
    obtain ⟨j, rfl⟩ : ∃ j, k = j + 1 := ⟨k - 1, by omega⟩
    refine d_q rfl rfl (.on rfl rfl rfl g8) rfl rfl (q_loadB rfl one22 rfl Sel.here rfl) ?_
    refine d_q rfl rfl (.on rfl rfl rfl g8) rfl rfl (q_loadB rfl one22 rfl Sel.here rfl) ?_
    refine d_q rfl rfl (.on rfl rfl rfl g8) rfl rfl (q_len rfl Try.underlying22 rfl) ?_
    refine d_q rfl rfl (.on rfl rfl rfl g8) rfl rfl (q_sub rfl rfl rfl (by omega)) ?_
    refine d_q rfl rfl (.on rfl rfl rfl g8) rfl rfl (q_indexS (q := j) rfl Try.underlying22 sz46 rfl rfl (.own (.there Sel.here)) (by simp; omega) (by omega) (by omega)) ?_
    refine d_q rfl rfl (.on rfl rfl rfl g8) rfl rfl (q_loadE rfl agg46 rfl (.own (.there Sel.here)) (get_take (by omega) (by omega)) rfl) ?_
    refine d_q rfl rfl (.on rfl rfl rfl g8) rfl rfl (q_call rfl call36 (.cons rfl Evs.nil) (fun w hk hm => end_just (nth s j) w (hso _ (nth_mem (by omega))))) ?_
    refine d_q rfl rfl (.on rfl rfl rfl g8) rfl rfl (q_fieldB (d := 0) rfl Try.underlying46 rfl rfl sz3 rfl) ?_
    refine d_q rfl rfl (.on rfl rfl rfl g8) rfl rfl (q_loadB rfl one3 rfl (.there (.there Sel.here)) rfl) ?_
    refine d_q rfl rfl (.on rfl rfl rfl g8) rfl rfl (q_leq rfl rfl rfl) ?_
    refine d_q rfl rfl (.none rfl) rfl rfl (q_pickT rfl rfl g8 rfl) ?_
    refine d_nil ?_
    refine run_sub (subMk (.cons (s := 1) rfl (.cons (s := 2) rfl (.cons (s := 3) rfl (.cons (s := 19) rfl .nil)))) .refl) ?_
    refine run_cond rfl (fun g19 => ?_) (fun g19 => ?_)
    · have g19' := g19
      try simp only [decide_eq_true_eq, decide_eq_false_iff_not, beq_iff_eq, beq_eq_false_iff_ne, bne_iff_ne, bne_eq_false_iff_eq, Bool.not_eq_true', Bool.not_eq_false', ne_eq, Int.not_lt, Int.not_le, Decidable.not_not] at g19'
      refine run_skip ?_
      refine run_block ?_
      refine run_ownLe (.there Sel.here) (fun hle => ?_)
      refine run_region ?_
      refine run_q (.none rfl) rfl rfl (q_loadB rfl one22 rfl Sel.here rfl) ?_
      refine run_q (.none rfl) rfl rfl (q_loadB rfl one22 rfl Sel.here rfl) ?_
      refine run_q (.none rfl) rfl rfl (q_len rfl Try.underlying22 rfl) ?_
      refine run_q (.none rfl) rfl rfl (q_sub rfl rfl rfl (by omega)) ?_
      refine run_q (.none rfl) rfl rfl (q_sliceH rfl Try.underlying22 sz46 rfl rfl (by omega)) ?_
      refine run_h (.none rfl) (h_storeB rfl rfl sz22 rfl rfl rfl rfl rfl Sel.here rfl) ?_
      rintro - -
      refine run_nil ?_
      refine run_sub (subMk (.cons (s := 1) rfl (.cons (s := 2) rfl (.cons (s := 3) rfl .nil))) .refl) ?_
      refine run_blk ?_
      exact run_again j (by (try dsimp only); exact ⟨by omega, by rw [hpop, popN, if_pos (by omega)]⟩) (by (try dsimp only); omega) (subMk (.cons (s := 1) rfl (.cons (s := 2) rfl (.cons (s := 3) rfl .nil))) (.cons Sel.here (.blk (.cons' rfl (by congr 1; omega) .nil)) (.cons Sel.here (.ownTake rfl rfl (by omega) (by rw [← List.map_take, List.take_take, Nat.min_eq_left (by omega)])) (.cons Sel.here .refl .nil))))
    · have g19' := g19
      try simp only [decide_eq_true_eq, decide_eq_false_iff_not, beq_iff_eq, beq_eq_false_iff_ne, bne_iff_ne, bne_eq_false_iff_eq, Bool.not_eq_true', Bool.not_eq_false', ne_eq, Int.not_lt, Int.not_le, Decidable.not_not] at g19'
      have hN : popN s t.first s.length = j + 1 := by rw [hpop, popN, if_neg (by omega)]
      refine run_exit rfl ?_
      refine run_seq ?_
      refine run_seq ?_
      refine run_region ?_
      refine run_q (.none rfl) rfl rfl (q_loadB rfl one22 rfl Sel.here rfl) ?_
      refine run_q (.none rfl) rfl rfl (q_len rfl Try.underlying22 rfl) ?_
      refine run_q (.none rfl) rfl rfl (q_assign rfl rfl) ?_
      refine run_nil ?_
      refine run_sub (subMk (.cons (s := 1) rfl (.cons (s := 2) rfl (.cons (s := 3) rfl (.cons (s := 4) rfl .nil)))) .refl) ?_
      refine run_seq ?_
      refine run_draw [(0, 0), (1, 0), (2, 0), (3, 0), (4, 0), (5, 0), (6, 0), (7, 0), (8, 0), (9, 0), (10, 0), (11, 0), (12, 0), (13, 0), (14, 0), (15, 0), (16, 0)] mixed (by kernel_rfl) .refl ?_
      refine d_q rfl rfl (.none rfl) rfl rfl (q_move rfl rfl) ?_
      refine d_q rfl rfl (.none rfl) rfl rfl (q_eql rfl rfl rfl) ?_
      refine d_q rfl rfl (.none rfl) rfl rfl (q_move rfl rfl) ?_
      refine d_split 29 rfl (fun g29 => ?_) (fun g29 => ?_)
      · have g29' := g29
        try simp only [decide_eq_true_eq, decide_eq_false_iff_not, beq_iff_eq, beq_eq_false_iff_ne, bne_iff_ne, bne_eq_false_iff_eq, Bool.not_eq_true', Bool.not_eq_false', ne_eq, Int.not_lt, Int.not_le, Decidable.not_not] at g29'
        refine d_off rfl rfl (.no rfl rfl rfl g29) rfl rfl ?_
        refine d_off rfl rfl (.no rfl rfl rfl g29) rfl rfl ?_
        refine d_off rfl rfl (.no rfl rfl rfl g29) rfl rfl ?_
        refine d_off rfl rfl (.off rfl rfl rfl) rfl rfl ?_
        refine d_off rfl rfl (.off rfl rfl rfl) rfl rfl ?_
        refine d_off rfl rfl (.off rfl rfl rfl) rfl rfl ?_
        refine d_off rfl rfl (.off rfl rfl rfl) rfl rfl ?_
        refine d_off rfl rfl (.off rfl rfl rfl) rfl rfl ?_
        refine d_off rfl rfl (.off rfl rfl rfl) rfl rfl ?_
        refine d_off rfl rfl (.off rfl rfl rfl) rfl rfl ?_
        refine d_off rfl rfl (.off rfl rfl rfl) rfl rfl ?_
        refine d_off rfl rfl (.off rfl rfl rfl) rfl rfl ?_
        refine d_off rfl rfl (.no rfl rfl rfl g29) rfl rfl ?_
        refine d_q rfl rfl (.none rfl) rfl rfl (q_pickT rfl rfl g29 rfl) ?_
        refine d_nil ?_
        refine run_sub (subMk (.cons (s := 1) rfl (.cons (s := 2) rfl (.cons (s := 3) rfl (.cons (s := 43) rfl .nil)))) .refl) ?_
        refine run_condT rfl rfl ?_
        refine run_seq ?_
        refine run_region ?_
        refine run_q (.none rfl) rfl rfl (q_assign rfl rfl) ?_
        refine run_nil ?_
        refine run_ret ?_
        refine run_sub (subMk .refl (.cons Sel.here (.blk (.cons (s := 0) rfl .nil)) (.cons Sel.here .refl .nil))) ?_
        exact end1 rfl rfl ⟨Q, cq, by rw [(push_no hN (by omega)).1], by rw [(push_no hN (by omega)).2]; simp [List.length_take]; omega⟩
      · have g29' := g29
        try simp only [decide_eq_true_eq, decide_eq_false_iff_not, beq_iff_eq, beq_eq_false_iff_ne, bne_iff_ne, bne_eq_false_iff_eq, Bool.not_eq_true', Bool.not_eq_false', ne_eq, Int.not_lt, Int.not_le, Decidable.not_not] at g29'
        refine d_q rfl rfl (.on rfl rfl rfl g29) rfl rfl (q_move rfl rfl) ?_
        refine d_q rfl rfl (.on rfl rfl rfl g29) rfl rfl (q_gtr rfl rfl rfl) ?_
        refine d_q rfl rfl (.on rfl rfl rfl g29) rfl rfl (q_move rfl rfl) ?_
        refine d_q rfl rfl (.on rfl rfl rfl (decide_eq_true (by omega))) rfl rfl (q_loadBN rfl agg46 rfl (.there (.there Sel.here)) (.cons rfl (.cons rfl (.cons rfl (.cons rfl CellsAt.nil)))) rfl) ?_
        refine d_q rfl rfl (.on rfl rfl rfl (decide_eq_true (by omega))) rfl rfl (q_call rfl call36 (.cons rfl Evs.nil) (fun w hk hm => end_just t w ht)) ?_
        refine d_q rfl rfl (.on rfl rfl rfl (decide_eq_true (by omega))) rfl rfl (q_loadB rfl one22 rfl Sel.here rfl) ?_
        refine d_q rfl rfl (.on rfl rfl rfl (decide_eq_true (by omega))) rfl rfl (q_move rfl rfl) ?_
        refine d_q rfl rfl (.on rfl rfl rfl (decide_eq_true (by omega))) rfl rfl (q_sub rfl rfl rfl (by omega)) ?_
        refine d_q rfl rfl (.on rfl rfl rfl (decide_eq_true (by omega))) rfl rfl (q_indexS (q := j) rfl Try.underlying22 sz46 rfl rfl (.own (.there Sel.here)) (by simp; omega) (by omega) (by omega)) ?_
        refine d_q rfl rfl (.on rfl rfl rfl (decide_eq_true (by omega))) rfl rfl (q_loadE rfl agg46 rfl (.own (.there Sel.here)) (get_take (by omega) (by omega)) rfl) ?_
        refine d_q rfl rfl (.on rfl rfl rfl (decide_eq_true (by omega))) rfl rfl (q_call rfl call36 (.cons rfl Evs.nil) (fun w hk hm => end_just (nth s j) w (hso _ (nth_mem (by omega))))) ?_
        refine d_q rfl rfl (.on rfl rfl rfl (decide_eq_true (by omega))) rfl rfl (q_gtr rfl rfl rfl) ?_
        refine d_q rfl rfl (.on rfl rfl rfl g29) rfl rfl (q_pickT rfl rfl (decide_eq_true (by omega)) rfl) ?_
        refine d_q rfl rfl (.none rfl) rfl rfl (q_pickF rfl rfl g29 rfl) ?_
        refine d_nil ?_
        refine run_sub (subMk (.cons (s := 1) rfl (.cons (s := 2) rfl (.cons (s := 3) rfl (.cons (s := 43) rfl .nil)))) .refl) ?_
        refine run_cond rfl (fun g43 => ?_) (fun g43 => ?_)
        · have g43' := g43
          try simp only [decide_eq_true_eq, decide_eq_false_iff_not, beq_iff_eq, beq_eq_false_iff_ne, bne_iff_ne, bne_eq_false_iff_eq, Bool.not_eq_true', Bool.not_eq_false', ne_eq, Int.not_lt, Int.not_le, Decidable.not_not] at g43'
          refine run_seq ?_
          refine run_region ?_
          refine run_q (.none rfl) rfl rfl (q_assign rfl rfl) ?_
          refine run_nil ?_
          refine run_ret ?_
          refine run_sub (subMk .refl (.cons Sel.here (.blk (.cons (s := 0) rfl .nil)) (.cons Sel.here .refl .nil))) ?_
          exact end1 rfl rfl ⟨Q, cq, by rw [(push_no hN (by right; rw [Nat.add_sub_cancel]; omega)).1], by rw [(push_no hN (by right; rw [Nat.add_sub_cancel]; omega)).2]; simp [List.length_take]; omega⟩
        · have g43' := g43
          try simp only [decide_eq_true_eq, decide_eq_false_iff_not, beq_iff_eq, beq_eq_false_iff_ne, bne_iff_ne, bne_eq_false_iff_eq, Bool.not_eq_true', Bool.not_eq_false', ne_eq, Int.not_lt, Int.not_le, Decidable.not_not] at g43'
          refine run_skip ?_
          refine run_seq ?_
          refine run_region ?_
          refine run_q (.none rfl) rfl rfl (q_loadB rfl one22 rfl Sel.here rfl) ?_
          refine run_q (.none rfl) rfl rfl (q_loadBN rfl agg46 rfl (.there (.there Sel.here)) (.cons rfl (.cons rfl (.cons rfl (.cons rfl CellsAt.nil)))) rfl) ?_
          refine run_h (.none rfl) (h_buildSlice rfl rfl rfl Try.underlying22 info46 (.cons rfl rfl rfl rfl Parts.nil) rfl (by omega)) ?_
          rintro b46 -
          refine run_h (.none rfl) (h_append rfl rfl rfl Try.underlying22 info46 rfl rfl (.there (.there Sel.here)) rfl (.own Sel.here) rfl (all1 rfl) (all1 rfl) (by omega) (by omega)) ?_
          rintro ⟨A47, c47⟩ -
          refine run_h (.none rfl) (h_storeB rfl rfl sz22 rfl rfl rfl rfl rfl (.there (.there Sel.here)) rfl) ?_
          rintro - -
          refine run_nil ?_
          refine run_sub (subMk (.cons (s := 3) rfl .nil) .refl) ?_
          refine run_seq ?_
          refine run_region ?_
          refine run_q (.none rfl) rfl rfl (q_assign rfl rfl) ?_
          refine run_nil ?_
          refine run_ret ?_
          refine run_sub (subMk .refl (.cons Sel.here (.blk (.cons (s := 0) rfl .nil)) (.cons Sel.here .refl .nil))) ?_
          exact end1 rfl rfl ⟨A47, c47, by rw [(push_yes hN (by omega) (by rw [Nat.add_sub_cancel]; omega)).1], by rw [(push_yes hN (by omega) (by rw [Nat.add_sub_cancel]; omega)).2]; simp [List.length_take, vlist, Tup.enc]; try omega⟩
  · have g8' := g8
    try simp only [decide_eq_true_eq, decide_eq_false_iff_not, beq_iff_eq, beq_eq_false_iff_ne, bne_iff_ne, bne_eq_false_iff_eq, Bool.not_eq_true', Bool.not_eq_false', ne_eq, Int.not_lt, Int.not_le, Decidable.not_not] at g8'
    obtain rfl : k = 0 := by omega
    have hN : popN s t.first s.length = 0 := by rw [hpop]; rfl
    refine d_off rfl rfl (.no rfl rfl rfl g8) rfl rfl ?_
    refine d_off rfl rfl (.no rfl rfl rfl g8) rfl rfl ?_
    refine d_off rfl rfl (.no rfl rfl rfl g8) rfl rfl ?_
    refine d_off rfl rfl (.no rfl rfl rfl g8) rfl rfl ?_
    refine d_off rfl rfl (.no rfl rfl rfl g8) rfl rfl ?_
    refine d_off rfl rfl (.no rfl rfl rfl g8) rfl rfl ?_
    refine d_off rfl rfl (.no rfl rfl rfl g8) rfl rfl ?_
    refine d_off rfl rfl (.no rfl rfl rfl g8) rfl rfl ?_
    refine d_off rfl rfl (.no rfl rfl rfl g8) rfl rfl ?_
    refine d_off rfl rfl (.no rfl rfl rfl g8) rfl rfl ?_
    refine d_q rfl rfl (.none rfl) rfl rfl (q_pickF rfl rfl g8 rfl) ?_
    refine d_nil ?_
    refine run_sub (subMk (.cons (s := 1) rfl (.cons (s := 2) rfl (.cons (s := 3) rfl (.cons (s := 19) rfl .nil)))) .refl) ?_
    refine run_condF rfl rfl ?_
    refine run_exit rfl ?_
    refine run_seq ?_
    refine run_seq ?_
    refine run_region ?_
    refine run_q (.none rfl) rfl rfl (q_loadB rfl one22 rfl Sel.here rfl) ?_
    refine run_q (.none rfl) rfl rfl (q_len rfl Try.underlying22 rfl) ?_
    refine run_q (.none rfl) rfl rfl (q_assign rfl rfl) ?_
    refine run_nil ?_
    refine run_sub (subMk (.cons (s := 1) rfl (.cons (s := 2) rfl (.cons (s := 3) rfl (.cons (s := 4) rfl .nil)))) .refl) ?_
    refine run_seq ?_
    refine run_draw [(0, 0), (1, 0), (2, 0), (3, 0), (4, 0), (5, 0), (6, 0), (7, 0), (8, 0), (9, 0), (10, 0), (11, 0), (12, 0), (13, 0), (14, 0), (15, 0), (16, 0)] mixed (by kernel_rfl) .refl ?_
    refine d_q rfl rfl (.none rfl) rfl rfl (q_move rfl rfl) ?_
    refine d_q rfl rfl (.none rfl) rfl rfl (q_eql rfl rfl rfl) ?_
    refine d_q rfl rfl (.none rfl) rfl rfl (q_move rfl rfl) ?_
    refine d_q rfl rfl (.on rfl rfl rfl rfl) rfl rfl (q_move rfl rfl) ?_
    refine d_q rfl rfl (.on rfl rfl rfl rfl) rfl rfl (q_gtr rfl rfl rfl) ?_
    refine d_q rfl rfl (.on rfl rfl rfl rfl) rfl rfl (q_move rfl rfl) ?_
    refine d_off rfl rfl (.no rfl rfl rfl rfl) rfl rfl ?_
    refine d_off rfl rfl (.no rfl rfl rfl rfl) rfl rfl ?_
    refine d_off rfl rfl (.no rfl rfl rfl rfl) rfl rfl ?_
    refine d_off rfl rfl (.no rfl rfl rfl rfl) rfl rfl ?_
    refine d_off rfl rfl (.no rfl rfl rfl rfl) rfl rfl ?_
    refine d_off rfl rfl (.no rfl rfl rfl rfl) rfl rfl ?_
    refine d_off rfl rfl (.no rfl rfl rfl rfl) rfl rfl ?_
    refine d_off rfl rfl (.no rfl rfl rfl rfl) rfl rfl ?_
    refine d_off rfl rfl (.no rfl rfl rfl rfl) rfl rfl ?_
    refine d_q rfl rfl (.on rfl rfl rfl rfl) rfl rfl (q_pickF rfl rfl rfl rfl) ?_
    refine d_q rfl rfl (.none rfl) rfl rfl (q_pickF rfl rfl rfl rfl) ?_
    refine d_nil ?_
    refine run_sub (subMk (.cons (s := 1) rfl (.cons (s := 2) rfl (.cons (s := 3) rfl (.cons (s := 43) rfl .nil)))) .refl) ?_
    refine run_condF rfl rfl ?_
    refine run_skip ?_
    refine run_seq ?_
    refine run_region ?_
    refine run_q (.none rfl) rfl rfl (q_loadB rfl one22 rfl Sel.here rfl) ?_
    refine run_q (.none rfl) rfl rfl (q_loadBN rfl agg46 rfl (.there (.there Sel.here)) (.cons rfl (.cons rfl (.cons rfl (.cons rfl CellsAt.nil)))) rfl) ?_
    refine run_h (.none rfl) (h_buildSlice rfl rfl rfl Try.underlying22 info46 (.cons rfl rfl rfl rfl Parts.nil) rfl (by omega)) ?_
    rintro b46 -
    refine run_h (.none rfl) (h_append rfl rfl rfl Try.underlying22 info46 rfl rfl (.there (.there Sel.here)) rfl (.own Sel.here) rfl (all1 rfl) (all1 rfl) (by omega) (by omega)) ?_
    rintro ⟨A47, c47⟩ -
    refine run_h (.none rfl) (h_storeB rfl rfl sz22 rfl rfl rfl rfl rfl (.there (.there Sel.here)) rfl) ?_
    rintro - -
    refine run_nil ?_
    refine run_sub (subMk (.cons (s := 3) rfl .nil) .refl) ?_
    refine run_seq ?_
    refine run_region ?_
    refine run_q (.none rfl) rfl rfl (q_assign rfl rfl) ?_
    refine run_nil ?_
    refine run_ret ?_
    refine run_sub (subMk .refl (.cons Sel.here (.blk (.cons (s := 0) rfl .nil)) (.cons Sel.here .refl .nil))) ?_
    exact end1 rfl rfl ⟨A47, c47, by rw [(push_yes hN (by omega) (by omega)).1], by rw [(push_yes hN (by omega) (by omega)).2]; simp [List.length_take, vlist, Tup.enc]; try omega⟩

set_option maxHeartbeats 2000000 in
set_option maxRecDepth 100000 in
theorem check_just (ts : List Tup) (A : Option Addr) (ca : Nat) (n : Int) (W : World) (hr : Rd W A 4 (ts.map Tup.enc)) (hl : ts.length ≤ 1000000000000) : Calls Try.prog 13 #[.slice A ts.length ca, .int .i64 n] W (Hr.Just W (.int .i64 (checkV ts n))) := by
  refine Just.of_ret ?_
  refine enterA (X := nX) (vs := [.slice A ts.length ca, .int .i64 n]) Try.func13 Try.ntmps13 rfl rfl Mem.nil ?_
  refine run_seq ?_
  refine run_region ?_
  refine run_q (.none rfl) rfl rfl (q_assign rfl rfl) ?_
  refine run_nil ?_
  refine run_seq ?_
  refine run_seq ?_
  refine run_region ?_
  refine run_q (.none rfl) rfl rfl (q_move rfl rfl) ?_
  refine run_q (.none rfl) rfl rfl (q_lss rfl rfl rfl) ?_
  refine run_q (.none rfl) rfl rfl (q_move rfl rfl) ?_
  refine run_split 11 rfl (fun g11 => ?_) (fun g11 => ?_)
  · have g11' := g11
    try simp only [decide_eq_true_eq, decide_eq_false_iff_not, beq_iff_eq, beq_eq_false_iff_ne, bne_iff_ne, bne_eq_false_iff_eq, Bool.not_eq_true', Bool.not_eq_false', ne_eq, Int.not_lt, Int.not_le, Decidable.not_not] at g11'
    refine run_off (.no rfl rfl rfl g11) rfl rfl ?_
    refine run_off (.no rfl rfl rfl g11) rfl rfl ?_
    refine run_q (.none rfl) rfl rfl (q_pickT rfl rfl g11 rfl) ?_
    refine run_nil ?_
    refine run_sub (subMk (.cons (s := 0) rfl (.cons (s := 1) rfl (.cons (s := 4) rfl (.cons (s := 14) rfl .nil)))) .refl) ?_
    refine run_condT rfl rfl ?_
    refine run_seq ?_
    refine run_region ?_
    refine run_q (.none rfl) rfl rfl (q_assign rfl rfl) ?_
    refine run_nil ?_
    refine run_ret ?_
    exact end1 rfl rfl (by rw [checkV, if_pos (by omega)])
  · have g11' := g11
    try simp only [decide_eq_true_eq, decide_eq_false_iff_not, beq_iff_eq, beq_eq_false_iff_ne, bne_iff_ne, bne_eq_false_iff_eq, Bool.not_eq_true', Bool.not_eq_false', ne_eq, Int.not_lt, Int.not_le, Decidable.not_not] at g11'
    refine run_q (.on rfl rfl rfl g11) rfl rfl (q_move rfl rfl) ?_
    refine run_q (.on rfl rfl rfl g11) rfl rfl (q_gtr rfl rfl rfl) ?_
    refine run_q (.none rfl) rfl rfl (q_pickF rfl rfl g11 rfl) ?_
    refine run_nil ?_
    refine run_sub (subMk (.cons (s := 0) rfl (.cons (s := 1) rfl (.cons (s := 4) rfl (.cons (s := 14) rfl .nil)))) .refl) ?_
    refine run_cond rfl (fun g14 => ?_) (fun g14 => ?_)
    · have g14' := g14
      try simp only [decide_eq_true_eq, decide_eq_false_iff_not, beq_iff_eq, beq_eq_false_iff_ne, bne_iff_ne, bne_eq_false_iff_eq, Bool.not_eq_true', Bool.not_eq_false', ne_eq, Int.not_lt, Int.not_le, Decidable.not_not] at g14'
      refine run_seq ?_
      refine run_region ?_
      refine run_q (.none rfl) rfl rfl (q_assign rfl rfl) ?_
      refine run_nil ?_
      refine run_ret ?_
      exact end1 rfl rfl (by rw [checkV, if_pos (by omega)])
    · have g14' := g14
      try simp only [decide_eq_true_eq, decide_eq_false_iff_not, beq_iff_eq, beq_eq_false_iff_ne, bne_iff_ne, bne_eq_false_iff_eq, Bool.not_eq_true', Bool.not_eq_false', ne_eq, Int.not_lt, Int.not_le, Decidable.not_not] at g14'
      refine run_skip ?_
      refine run_seq ?_
      refine run_seq ?_
      refine run_region ?_
      refine run_q (.none rfl) rfl rfl (q_move rfl rfl) ?_
      refine run_q (.none rfl) rfl rfl (q_len rfl Try.underlying22 rfl) ?_
      refine run_q (.none rfl) rfl rfl (q_gtr rfl rfl rfl) ?_
      refine run_nil ?_
      refine run_sub (subMk (.cons (s := 0) rfl (.cons (s := 1) rfl (.cons (s := 4) rfl (.cons (s := 17) rfl .nil)))) .refl) ?_
      refine run_cond rfl (fun g17 => ?_) (fun g17 => ?_)
      · have g17' := g17
        try simp only [decide_eq_true_eq, decide_eq_false_iff_not, beq_iff_eq, beq_eq_false_iff_ne, bne_iff_ne, bne_eq_false_iff_eq, Bool.not_eq_true', Bool.not_eq_false', ne_eq, Int.not_lt, Int.not_le, Decidable.not_not] at g17'
        refine run_seq ?_
        refine run_region ?_
        refine run_q (.none rfl) rfl rfl (q_assign rfl rfl) ?_
        refine run_nil ?_
        refine run_ret ?_
        exact end1 rfl rfl (by rw [checkV, if_neg (by omega), if_pos (by omega)])
      · have g17' := g17
        try simp only [decide_eq_true_eq, decide_eq_false_iff_not, beq_iff_eq, beq_eq_false_iff_ne, bne_iff_ne, bne_eq_false_iff_eq, Bool.not_eq_true', Bool.not_eq_false', ne_eq, Int.not_lt, Int.not_le, Decidable.not_not] at g17'
        refine run_skip ?_
        refine run_seq ?_
        refine run_region ?_
        refine run_h (.none rfl) (h_alloc rfl rfl rfl info22) ?_
        rintro b5 -
        refine run_nil ?_
        refine run_seq ?_
        refine run_region ?_
        refine run_q (.none rfl) rfl rfl (q_makeFunc rfl (.cons rfl Evs.nil)) ?_
        refine run_q (.none rfl) rfl rfl (q_assign rfl rfl) ?_
        refine run_nil ?_
        refine run_sub (subMk (.cons (s := 0) rfl (.cons (s := 1) rfl (.cons (s := 4) rfl (.cons (s := 6) rfl .nil)))) .refl) ?_
        refine run_seq ?_
        refine run_seq ?_
        refine run_region ?_
        refine run_q (.none rfl) rfl rfl (q_move rfl rfl) ?_
        refine run_q (.none rfl) rfl rfl (q_len rfl Try.underlying22 rfl) ?_
        refine run_q (.none rfl) rfl rfl (q_move rfl rfl) ?_
        refine run_nil ?_
        refine run_block ?_
        refine run_sub (subMk .refl (MemSub.nilOwn 46 4)) ?_
        refine run_sub (subMk (.cons (s := 21) rfl (.cons (s := 0) rfl (.cons (s := 1) rfl (.cons (s := 4) rfl (.cons (s := 6) rfl (.cons (s := 19) rfl (.cons (s := 20) rfl .nil))))))) (.cons (.there Sel.here) .refl (.cons Sel.here .refl .nil))) ?_
        refine run_loopC1M2 (ι := Nat × (Option Addr) × Nat) (fun gg => gg.1 ≤ ts.length ∧ Good n ts gg.1 ∧ Nest (stk ts gg.1) ∧ (stk ts gg.1).length ≤ 3) (fun gg => .int .i64 (gg.1 : Int)) (fun gg => .blk b5 22 [(0, .slice gg.2.1 (stk ts gg.1).length gg.2.2)]) (fun gg => .own 46 4 gg.2.1 (stk ts gg.1).length gg.2.2 ((stk ts gg.1).map Tup.enc)) (fun gg => ts.length - gg.1) (0, none, 0) (by (try dsimp only); exact ⟨by omega, Good.zero, .nil, by simp [stk]⟩) rfl .refl .refl ?_
        rintro ⟨i, Q, cq⟩ hq
        (try dsimp only at hq)
        obtain ⟨hi, hg, hn, hl3⟩ := hq
        show Run _ _ _ _ _ _ _ ⟨(21, .int .i64 (i : Int)) :: _, .blk b5 22 [(0, .slice Q (stk ts i).length cq)] :: .own 46 4 Q (stk ts i).length cq ((stk ts i).map Tup.enc) :: _⟩
        refine run_seq ?_
        refine run_region ?_
        refine run_q (.none rfl) rfl rfl (q_lss rfl rfl rfl) ?_
        refine run_nil ?_
        refine run_seq ?_
        refine run_cond rfl (fun g22 => ?_) (fun g22 => ?_)
        · have g22' := g22
          try simp only [decide_eq_true_eq, decide_eq_false_iff_not, beq_iff_eq, beq_eq_false_iff_ne, bne_iff_ne, bne_eq_false_iff_eq, Bool.not_eq_true', Bool.not_eq_false', ne_eq, Int.not_lt, Int.not_le, Decidable.not_not] at g22'
          refine run_skip ?_
          refine run_seq ?_
          refine run_block ?_
          refine run_seq ?_
          refine run_region ?_
          refine run_q (.none rfl) rfl rfl (q_move rfl rfl) ?_
          refine run_q (.none rfl) rfl rfl (q_indexS (q := i) rfl Try.underlying22 sz46 rfl rfl (.inp hr .no) (by simp <;> omega) rfl (by omega)) ?_
          refine run_q (.none rfl) rfl rfl (q_loadE rfl agg46 rfl (.inp hr .no) (getmap (by omega)) rfl) ?_
          refine run_h (.none rfl) (h_alloc rfl rfl rfl info46) ?_
          rintro b8 -
          refine run_q (.none rfl) rfl rfl (q_assign rfl rfl) ?_
          refine run_h (.none rfl) (h_storeB rfl rfl sz46 rfl rfl rfl rfl rfl Sel.here rfl) ?_
          rintro - -
          refine run_nil ?_
          refine run_sub (subMk (.cons (s := 0) rfl (.cons (s := 1) rfl (.cons (s := 4) rfl (.cons (s := 6) rfl (.cons (s := 7) rfl (.cons (s := 8) rfl (.cons (s := 19) rfl (.cons (s := 20) rfl (.cons (s := 21) rfl .nil))))))))) .refl) ?_
          refine run_seq ?_
          refine run_seq ?_
          refine run_region ?_
          refine run_q (.none rfl) rfl rfl (q_fieldB (d := 1) rfl Try.underlying46 rfl rfl sz3 rfl) ?_
          refine run_q (.none rfl) rfl rfl (q_loadB rfl one3 rfl Sel.here rfl) ?_
          refine run_q (.none rfl) rfl rfl (q_lss rfl rfl rfl) ?_
          refine run_q (.none rfl) rfl rfl (q_move rfl rfl) ?_
          refine run_split 29 rfl (fun g29 => ?_) (fun g29 => ?_)
          · have g29' := g29
            try simp only [decide_eq_true_eq, decide_eq_false_iff_not, beq_iff_eq, beq_eq_false_iff_ne, bne_iff_ne, bne_eq_false_iff_eq, Bool.not_eq_true', Bool.not_eq_false', ne_eq, Int.not_lt, Int.not_le, Decidable.not_not] at g29'
            refine run_off (.no rfl rfl rfl g29) rfl rfl ?_
            refine run_off (.no rfl rfl rfl g29) rfl rfl ?_
            refine run_off (.no rfl rfl rfl g29) rfl rfl ?_
            refine run_off (.no rfl rfl rfl g29) rfl rfl ?_
            refine run_q (.none rfl) rfl rfl (q_pickT rfl rfl g29 rfl) ?_
            refine run_q (.none rfl) rfl rfl (q_move rfl rfl) ?_
            refine run_off (.no rfl rfl rfl rfl) rfl rfl ?_
            refine run_off (.no rfl rfl rfl rfl) rfl rfl ?_
            refine run_off (.no rfl rfl rfl rfl) rfl rfl ?_
            refine run_q (.none rfl) rfl rfl (q_pickT rfl rfl rfl rfl) ?_
            refine run_q (.none rfl) rfl rfl (q_move rfl rfl) ?_
            refine run_off (.no rfl rfl rfl rfl) rfl rfl ?_
            refine run_off (.no rfl rfl rfl rfl) rfl rfl ?_
            refine run_off (.no rfl rfl rfl rfl) rfl rfl ?_
            refine run_off (.no rfl rfl rfl rfl) rfl rfl ?_
            refine run_off (.no rfl rfl rfl rfl) rfl rfl ?_
            refine run_off (.no rfl rfl rfl rfl) rfl rfl ?_
            refine run_off (.no rfl rfl rfl rfl) rfl rfl ?_
            refine run_q (.none rfl) rfl rfl (q_pickT rfl rfl rfl rfl) ?_
            refine run_q (.none rfl) rfl rfl (q_move rfl rfl) ?_
            refine run_off (.no rfl rfl rfl rfl) rfl rfl ?_
            refine run_off (.no rfl rfl rfl rfl) rfl rfl ?_
            refine run_off (.no rfl rfl rfl rfl) rfl rfl ?_
            refine run_off (.no rfl rfl rfl rfl) rfl rfl ?_
            refine run_q (.none rfl) rfl rfl (q_pickT rfl rfl rfl rfl) ?_
            refine run_q (.none rfl) rfl rfl (q_move rfl rfl) ?_
            refine run_off (.no rfl rfl rfl rfl) rfl rfl ?_
            refine run_off (.no rfl rfl rfl rfl) rfl rfl ?_
            refine run_off (.no rfl rfl rfl rfl) rfl rfl ?_
            refine run_off (.no rfl rfl rfl rfl) rfl rfl ?_
            refine run_q (.none rfl) rfl rfl (q_pickT rfl rfl rfl rfl) ?_
            refine run_q (.none rfl) rfl rfl (q_move rfl rfl) ?_
            refine run_off (.no rfl rfl rfl rfl) rfl rfl ?_
            refine run_off (.no rfl rfl rfl rfl) rfl rfl ?_
            refine run_off (.no rfl rfl rfl rfl) rfl rfl ?_
            refine run_off (.no rfl rfl rfl rfl) rfl rfl ?_
            refine run_off (.no rfl rfl rfl rfl) rfl rfl ?_
            refine run_q (.none rfl) rfl rfl (q_pickT rfl rfl rfl rfl) ?_
            refine run_nil ?_
            refine run_sub (subMk (.cons (s := 0) rfl (.cons (s := 1) rfl (.cons (s := 4) rfl (.cons (s := 6) rfl (.cons (s := 7) rfl (.cons (s := 8) rfl (.cons (s := 19) rfl (.cons (s := 20) rfl (.cons (s := 21) rfl (.cons (s := 67) rfl .nil)))))))))) .refl) ?_
            refine run_condT rfl rfl ?_
            refine run_seq ?_
            refine run_region ?_
            refine run_q (.none rfl) rfl rfl (q_assign rfl rfl) ?_
            refine run_nil ?_
            refine run_ret ?_
            exact end1 rfl rfl (by rw [checkV_hit (by omega) (by omega) (by omega) hg (by omega) (errT_2 (by unfold propT; omega)) (by omega)])
          · have g29' := g29
            try simp only [decide_eq_true_eq, decide_eq_false_iff_not, beq_iff_eq, beq_eq_false_iff_ne, bne_iff_ne, bne_eq_false_iff_eq, Bool.not_eq_true', Bool.not_eq_false', ne_eq, Int.not_lt, Int.not_le, Decidable.not_not] at g29'
            refine run_q (.on rfl rfl rfl g29) rfl rfl (q_fieldB (d := 1) rfl Try.underlying46 rfl rfl sz3 rfl) ?_
            refine run_q (.on rfl rfl rfl g29) rfl rfl (q_loadB rfl one3 rfl Sel.here rfl) ?_
            refine run_q (.on rfl rfl rfl g29) rfl rfl (q_move rfl rfl) ?_
            refine run_q (.on rfl rfl rfl g29) rfl rfl (q_gtr rfl rfl rfl) ?_
            refine run_q (.none rfl) rfl rfl (q_pickF rfl rfl g29 rfl) ?_
            refine run_q (.none rfl) rfl rfl (q_move rfl rfl) ?_
            refine run_split 35 rfl (fun g35 => ?_) (fun g35 => ?_)
            · have g35' := g35
              try simp only [decide_eq_true_eq, decide_eq_false_iff_not, beq_iff_eq, beq_eq_false_iff_ne, bne_iff_ne, bne_eq_false_iff_eq, Bool.not_eq_true', Bool.not_eq_false', ne_eq, Int.not_lt, Int.not_le, Decidable.not_not] at g35'
              refine run_off (.no rfl rfl rfl g35) rfl rfl ?_
              refine run_off (.no rfl rfl rfl g35) rfl rfl ?_
              refine run_off (.no rfl rfl rfl g35) rfl rfl ?_
              refine run_q (.none rfl) rfl rfl (q_pickT rfl rfl g35 rfl) ?_
              refine run_q (.none rfl) rfl rfl (q_move rfl rfl) ?_
              refine run_off (.no rfl rfl rfl rfl) rfl rfl ?_
              refine run_off (.no rfl rfl rfl rfl) rfl rfl ?_
              refine run_off (.no rfl rfl rfl rfl) rfl rfl ?_
              refine run_off (.no rfl rfl rfl rfl) rfl rfl ?_
              refine run_off (.no rfl rfl rfl rfl) rfl rfl ?_
              refine run_off (.no rfl rfl rfl rfl) rfl rfl ?_
              refine run_off (.no rfl rfl rfl rfl) rfl rfl ?_
              refine run_q (.none rfl) rfl rfl (q_pickT rfl rfl rfl rfl) ?_
              refine run_q (.none rfl) rfl rfl (q_move rfl rfl) ?_
              refine run_off (.no rfl rfl rfl rfl) rfl rfl ?_
              refine run_off (.no rfl rfl rfl rfl) rfl rfl ?_
              refine run_off (.no rfl rfl rfl rfl) rfl rfl ?_
              refine run_off (.no rfl rfl rfl rfl) rfl rfl ?_
              refine run_q (.none rfl) rfl rfl (q_pickT rfl rfl rfl rfl) ?_
              refine run_q (.none rfl) rfl rfl (q_move rfl rfl) ?_
              refine run_off (.no rfl rfl rfl rfl) rfl rfl ?_
              refine run_off (.no rfl rfl rfl rfl) rfl rfl ?_
              refine run_off (.no rfl rfl rfl rfl) rfl rfl ?_
              refine run_off (.no rfl rfl rfl rfl) rfl rfl ?_
              refine run_q (.none rfl) rfl rfl (q_pickT rfl rfl rfl rfl) ?_
              refine run_q (.none rfl) rfl rfl (q_move rfl rfl) ?_
              refine run_off (.no rfl rfl rfl rfl) rfl rfl ?_
              refine run_off (.no rfl rfl rfl rfl) rfl rfl ?_
              refine run_off (.no rfl rfl rfl rfl) rfl rfl ?_
              refine run_off (.no rfl rfl rfl rfl) rfl rfl ?_
              refine run_off (.no rfl rfl rfl rfl) rfl rfl ?_
              refine run_q (.none rfl) rfl rfl (q_pickT rfl rfl rfl rfl) ?_
              refine run_nil ?_
              refine run_sub (subMk (.cons (s := 0) rfl (.cons (s := 1) rfl (.cons (s := 4) rfl (.cons (s := 6) rfl (.cons (s := 7) rfl (.cons (s := 8) rfl (.cons (s := 19) rfl (.cons (s := 20) rfl (.cons (s := 21) rfl (.cons (s := 67) rfl .nil)))))))))) .refl) ?_
              refine run_condT rfl rfl ?_
              refine run_seq ?_
              refine run_region ?_
              refine run_q (.none rfl) rfl rfl (q_assign rfl rfl) ?_
              refine run_nil ?_
              refine run_ret ?_
              exact end1 rfl rfl (by rw [checkV_hit (by omega) (by omega) (by omega) hg (by omega) (errT_2 (by unfold propT; omega)) (by omega)])
            · have g35' := g35
              try simp only [decide_eq_true_eq, decide_eq_false_iff_not, beq_iff_eq, beq_eq_false_iff_ne, bne_iff_ne, bne_eq_false_iff_eq, Bool.not_eq_true', Bool.not_eq_false', ne_eq, Int.not_lt, Int.not_le, Decidable.not_not] at g35'
              refine run_q (.on rfl rfl rfl g35) rfl rfl (q_fieldB (d := 0) rfl Try.underlying46 rfl rfl sz3 rfl) ?_
              refine run_q (.on rfl rfl rfl g35) rfl rfl (q_loadB rfl one3 rfl Sel.here rfl) ?_
              refine run_q (.on rfl rfl rfl g35) rfl rfl (q_lss rfl rfl rfl) ?_
              refine run_q (.none rfl) rfl rfl (q_pickF rfl rfl g35 rfl) ?_
              refine run_q (.none rfl) rfl rfl (q_move rfl rfl) ?_
              refine run_split 40 rfl (fun g40 => ?_) (fun g40 => ?_)
              · have g40' := g40
                try simp only [decide_eq_true_eq, decide_eq_false_iff_not, beq_iff_eq, beq_eq_false_iff_ne, bne_iff_ne, bne_eq_false_iff_eq, Bool.not_eq_true', Bool.not_eq_false', ne_eq, Int.not_lt, Int.not_le, Decidable.not_not] at g40'
                refine run_off (.no rfl rfl rfl g40) rfl rfl ?_
                refine run_off (.no rfl rfl rfl g40) rfl rfl ?_
                refine run_off (.no rfl rfl rfl g40) rfl rfl ?_
                refine run_off (.no rfl rfl rfl g40) rfl rfl ?_
                refine run_off (.no rfl rfl rfl g40) rfl rfl ?_
                refine run_off (.no rfl rfl rfl g40) rfl rfl ?_
                refine run_off (.no rfl rfl rfl g40) rfl rfl ?_
                refine run_q (.none rfl) rfl rfl (q_pickT rfl rfl g40 rfl) ?_
                refine run_q (.none rfl) rfl rfl (q_move rfl rfl) ?_
                refine run_off (.no rfl rfl rfl rfl) rfl rfl ?_
                refine run_off (.no rfl rfl rfl rfl) rfl rfl ?_
                refine run_off (.no rfl rfl rfl rfl) rfl rfl ?_
                refine run_off (.no rfl rfl rfl rfl) rfl rfl ?_
                refine run_q (.none rfl) rfl rfl (q_pickT rfl rfl rfl rfl) ?_
                refine run_q (.none rfl) rfl rfl (q_move rfl rfl) ?_
                refine run_off (.no rfl rfl rfl rfl) rfl rfl ?_
                refine run_off (.no rfl rfl rfl rfl) rfl rfl ?_
                refine run_off (.no rfl rfl rfl rfl) rfl rfl ?_
                refine run_off (.no rfl rfl rfl rfl) rfl rfl ?_
                refine run_q (.none rfl) rfl rfl (q_pickT rfl rfl rfl rfl) ?_
                refine run_q (.none rfl) rfl rfl (q_move rfl rfl) ?_
                refine run_off (.no rfl rfl rfl rfl) rfl rfl ?_
                refine run_off (.no rfl rfl rfl rfl) rfl rfl ?_
                refine run_off (.no rfl rfl rfl rfl) rfl rfl ?_
                refine run_off (.no rfl rfl rfl rfl) rfl rfl ?_
                refine run_off (.no rfl rfl rfl rfl) rfl rfl ?_
                refine run_q (.none rfl) rfl rfl (q_pickT rfl rfl rfl rfl) ?_
                refine run_nil ?_
                refine run_sub (subMk (.cons (s := 0) rfl (.cons (s := 1) rfl (.cons (s := 4) rfl (.cons (s := 6) rfl (.cons (s := 7) rfl (.cons (s := 8) rfl (.cons (s := 19) rfl (.cons (s := 20) rfl (.cons (s := 21) rfl (.cons (s := 67) rfl .nil)))))))))) .refl) ?_
                refine run_condT rfl rfl ?_
                refine run_seq ?_
                refine run_region ?_
                refine run_q (.none rfl) rfl rfl (q_assign rfl rfl) ?_
                refine run_nil ?_
                refine run_ret ?_
                exact end1 rfl rfl (by rw [checkV_hit (by omega) (by omega) (by omega) hg (by omega) (errT_2 (by unfold propT; omega)) (by omega)])
              · have g40' := g40
                try simp only [decide_eq_true_eq, decide_eq_false_iff_not, beq_iff_eq, beq_eq_false_iff_ne, bne_iff_ne, bne_eq_false_iff_eq, Bool.not_eq_true', Bool.not_eq_false', ne_eq, Int.not_lt, Int.not_le, Decidable.not_not] at g40'
                refine run_q (.on rfl rfl rfl g40) rfl rfl (q_fieldB (d := 0) rfl Try.underlying46 rfl rfl sz3 rfl) ?_
                refine run_q (.on rfl rfl rfl g40) rfl rfl (q_loadB rfl one3 rfl Sel.here rfl) ?_
                refine run_q (.on rfl rfl rfl g40) rfl rfl (q_move rfl rfl) ?_
                refine run_q (.on rfl rfl rfl g40) rfl rfl (q_fieldB (d := 1) rfl Try.underlying46 rfl rfl sz3 rfl) ?_
                refine run_q (.on rfl rfl rfl g40) rfl rfl (q_loadB rfl one3 rfl Sel.here rfl) ?_
                refine run_q (.on rfl rfl rfl g40) rfl rfl (q_sub rfl rfl rfl (by omega)) ?_
                refine run_q (.on rfl rfl rfl g40) rfl rfl (q_gtr rfl rfl rfl) ?_
                refine run_q (.none rfl) rfl rfl (q_pickF rfl rfl g40 rfl) ?_
                refine run_q (.none rfl) rfl rfl (q_move rfl rfl) ?_
                refine run_split 49 rfl (fun g49 => ?_) (fun g49 => ?_)
                · have g49' := g49
                  try simp only [decide_eq_true_eq, decide_eq_false_iff_not, beq_iff_eq, beq_eq_false_iff_ne, bne_iff_ne, bne_eq_false_iff_eq, Bool.not_eq_true', Bool.not_eq_false', ne_eq, Int.not_lt, Int.not_le, Decidable.not_not] at g49'
                  refine run_off (.no rfl rfl rfl g49) rfl rfl ?_
                  refine run_off (.no rfl rfl rfl g49) rfl rfl ?_
                  refine run_off (.no rfl rfl rfl g49) rfl rfl ?_
                  refine run_off (.no rfl rfl rfl g49) rfl rfl ?_
                  refine run_q (.none rfl) rfl rfl (q_pickT rfl rfl g49 rfl) ?_
                  refine run_q (.none rfl) rfl rfl (q_move rfl rfl) ?_
                  refine run_off (.no rfl rfl rfl rfl) rfl rfl ?_
                  refine run_off (.no rfl rfl rfl rfl) rfl rfl ?_
                  refine run_off (.no rfl rfl rfl rfl) rfl rfl ?_
                  refine run_off (.no rfl rfl rfl rfl) rfl rfl ?_
                  refine run_q (.none rfl) rfl rfl (q_pickT rfl rfl rfl rfl) ?_
                  refine run_q (.none rfl) rfl rfl (q_move rfl rfl) ?_
                  refine run_off (.no rfl rfl rfl rfl) rfl rfl ?_
                  refine run_off (.no rfl rfl rfl rfl) rfl rfl ?_
                  refine run_off (.no rfl rfl rfl rfl) rfl rfl ?_
                  refine run_off (.no rfl rfl rfl rfl) rfl rfl ?_
                  refine run_off (.no rfl rfl rfl rfl) rfl rfl ?_
                  refine run_q (.none rfl) rfl rfl (q_pickT rfl rfl rfl rfl) ?_
                  refine run_nil ?_
                  refine run_sub (subMk (.cons (s := 0) rfl (.cons (s := 1) rfl (.cons (s := 4) rfl (.cons (s := 6) rfl (.cons (s := 7) rfl (.cons (s := 8) rfl (.cons (s := 19) rfl (.cons (s := 20) rfl (.cons (s := 21) rfl (.cons (s := 67) rfl .nil)))))))))) .refl) ?_
                  refine run_condT rfl rfl ?_
                  refine run_seq ?_
                  refine run_region ?_
                  refine run_q (.none rfl) rfl rfl (q_assign rfl rfl) ?_
                  refine run_nil ?_
                  refine run_ret ?_
                  exact end1 rfl rfl (by rw [checkV_hit (by omega) (by omega) (by omega) hg (by omega) (errT_2 (by unfold propT; omega)) (by omega)])
                · have g49' := g49
                  try simp only [decide_eq_true_eq, decide_eq_false_iff_not, beq_iff_eq, beq_eq_false_iff_ne, bne_iff_ne, bne_eq_false_iff_eq, Bool.not_eq_true', Bool.not_eq_false', ne_eq, Int.not_lt, Int.not_le, Decidable.not_not] at g49'
                  refine run_q (.on rfl rfl rfl g49) rfl rfl (q_fieldB (d := 2) rfl Try.underlying46 rfl rfl sz3 rfl) ?_
                  refine run_q (.on rfl rfl rfl g49) rfl rfl (q_loadB rfl one3 rfl Sel.here rfl) ?_
                  refine run_q (.on rfl rfl rfl g49) rfl rfl (q_call rfl call37 (.cons rfl Evs.nil) (fun w hk hm => ratio_just _ _)) ?_
                  refine run_q (.on rfl rfl rfl g49) rfl rfl (q_not rfl rfl) ?_
                  refine run_q (.none rfl) rfl rfl (q_pickF rfl rfl g49 rfl) ?_
                  refine run_q (.none rfl) rfl rfl (q_move rfl rfl) ?_
                  refine run_split 55 rfl (fun g55 => ?_) (fun g55 => ?_)
                  · have g55' := g55
                    try simp only [decide_eq_true_eq, decide_eq_false_iff_not, beq_iff_eq, beq_eq_false_iff_ne, bne_iff_ne, bne_eq_false_iff_eq, Bool.not_eq_true', Bool.not_eq_false', ne_eq, Int.not_lt, Int.not_le, Decidable.not_not] at g55'
                    have r55 := g55
                    simp [ratioB] at r55
                    refine run_off (.no rfl rfl rfl g55) rfl rfl ?_
                    refine run_off (.no rfl rfl rfl g55) rfl rfl ?_
                    refine run_off (.no rfl rfl rfl g55) rfl rfl ?_
                    refine run_off (.no rfl rfl rfl g55) rfl rfl ?_
                    refine run_q (.none rfl) rfl rfl (q_pickT rfl rfl g55 rfl) ?_
                    refine run_q (.none rfl) rfl rfl (q_move rfl rfl) ?_
                    refine run_off (.no rfl rfl rfl rfl) rfl rfl ?_
                    refine run_off (.no rfl rfl rfl rfl) rfl rfl ?_
                    refine run_off (.no rfl rfl rfl rfl) rfl rfl ?_
                    refine run_off (.no rfl rfl rfl rfl) rfl rfl ?_
                    refine run_off (.no rfl rfl rfl rfl) rfl rfl ?_
                    refine run_q (.none rfl) rfl rfl (q_pickT rfl rfl rfl rfl) ?_
                    refine run_nil ?_
                    refine run_sub (subMk (.cons (s := 0) rfl (.cons (s := 1) rfl (.cons (s := 4) rfl (.cons (s := 6) rfl (.cons (s := 7) rfl (.cons (s := 8) rfl (.cons (s := 19) rfl (.cons (s := 20) rfl (.cons (s := 21) rfl (.cons (s := 67) rfl .nil)))))))))) .refl) ?_
                    refine run_condT rfl rfl ?_
                    refine run_seq ?_
                    refine run_region ?_
                    refine run_q (.none rfl) rfl rfl (q_assign rfl rfl) ?_
                    refine run_nil ?_
                    refine run_ret ?_
                    exact end1 rfl rfl (by rw [checkV_hit (by omega) (by omega) (by omega) hg (by omega) (errT_2 (by unfold propT; omega)) (by omega)])
                  · have g55' := g55
                    try simp only [decide_eq_true_eq, decide_eq_false_iff_not, beq_iff_eq, beq_eq_false_iff_ne, bne_iff_ne, bne_eq_false_iff_eq, Bool.not_eq_true', Bool.not_eq_false', ne_eq, Int.not_lt, Int.not_le, Decidable.not_not] at g55'
                    have r55 := g55
                    simp [ratioB] at r55
                    refine run_q (.on rfl rfl rfl g55) rfl rfl (q_fieldB (d := 3) rfl Try.underlying46 rfl rfl sz3 rfl) ?_
                    refine run_q (.on rfl rfl rfl g55) rfl rfl (q_loadB rfl one3 rfl Sel.here rfl) ?_
                    refine run_q (.on rfl rfl rfl g55) rfl rfl (q_call rfl call37 (.cons rfl Evs.nil) (fun w hk hm => ratio_just _ _)) ?_
                    refine run_q (.on rfl rfl rfl g55) rfl rfl (q_not rfl rfl) ?_
                    refine run_q (.none rfl) rfl rfl (q_pickF rfl rfl g55 rfl) ?_
                    refine run_q (.none rfl) rfl rfl (q_move rfl rfl) ?_
                    refine run_split 61 rfl (fun g61 => ?_) (fun g61 => ?_)
                    · have g61' := g61
                      try simp only [decide_eq_true_eq, decide_eq_false_iff_not, beq_iff_eq, beq_eq_false_iff_ne, bne_iff_ne, bne_eq_false_iff_eq, Bool.not_eq_true', Bool.not_eq_false', ne_eq, Int.not_lt, Int.not_le, Decidable.not_not] at g61'
                      have r61 := g61
                      simp [ratioB] at r61
                      refine run_off (.no rfl rfl rfl g61) rfl rfl ?_
                      refine run_off (.no rfl rfl rfl g61) rfl rfl ?_
                      refine run_off (.no rfl rfl rfl g61) rfl rfl ?_
                      refine run_off (.no rfl rfl rfl g61) rfl rfl ?_
                      refine run_off (.no rfl rfl rfl g61) rfl rfl ?_
                      refine run_q (.none rfl) rfl rfl (q_pickT rfl rfl g61 rfl) ?_
                      refine run_nil ?_
                      refine run_sub (subMk (.cons (s := 0) rfl (.cons (s := 1) rfl (.cons (s := 4) rfl (.cons (s := 6) rfl (.cons (s := 7) rfl (.cons (s := 8) rfl (.cons (s := 19) rfl (.cons (s := 20) rfl (.cons (s := 21) rfl (.cons (s := 67) rfl .nil)))))))))) .refl) ?_
                      refine run_condT rfl rfl ?_
                      refine run_seq ?_
                      refine run_region ?_
                      refine run_q (.none rfl) rfl rfl (q_assign rfl rfl) ?_
                      refine run_nil ?_
                      refine run_ret ?_
                      exact end1 rfl rfl (by rw [checkV_hit (by omega) (by omega) (by omega) hg (by omega) (errT_2 (by unfold propT; omega)) (by omega)])
                    · have g61' := g61
                      try simp only [decide_eq_true_eq, decide_eq_false_iff_not, beq_iff_eq, beq_eq_false_iff_ne, bne_iff_ne, bne_eq_false_iff_eq, Bool.not_eq_true', Bool.not_eq_false', ne_eq, Int.not_lt, Int.not_le, Decidable.not_not] at g61'
                      have r61 := g61
                      simp [ratioB] at r61
                      refine run_q (.on rfl rfl rfl g61) rfl rfl (q_fieldB (d := 2) rfl Try.underlying46 rfl rfl sz3 rfl) ?_
                      refine run_q (.on rfl rfl rfl g61) rfl rfl (q_loadB rfl one3 rfl Sel.here rfl) ?_
                      refine run_q (.on rfl rfl rfl g61) rfl rfl (q_fieldB (d := 3) rfl Try.underlying46 rfl rfl sz3 rfl) ?_
                      refine run_q (.on rfl rfl rfl g61) rfl rfl (q_loadB rfl one3 rfl Sel.here rfl) ?_
                      refine run_q (.on rfl rfl rfl g61) rfl rfl (q_eql rfl rfl rfl) ?_
                      refine run_q (.none rfl) rfl rfl (q_pickF rfl rfl g61 rfl) ?_
                      refine run_nil ?_
                      refine run_sub (subMk (.cons (s := 0) rfl (.cons (s := 1) rfl (.cons (s := 4) rfl (.cons (s := 6) rfl (.cons (s := 7) rfl (.cons (s := 8) rfl (.cons (s := 19) rfl (.cons (s := 20) rfl (.cons (s := 21) rfl (.cons (s := 67) rfl .nil)))))))))) .refl) ?_
                      refine run_cond rfl (fun g67 => ?_) (fun g67 => ?_)
                      · have g67' := g67
                        try simp only [decide_eq_true_eq, decide_eq_false_iff_not, beq_iff_eq, beq_eq_false_iff_ne, bne_iff_ne, bne_eq_false_iff_eq, Bool.not_eq_true', Bool.not_eq_false', ne_eq, Int.not_lt, Int.not_le, Decidable.not_not] at g67'
                        refine run_seq ?_
                        refine run_region ?_
                        refine run_q (.none rfl) rfl rfl (q_assign rfl rfl) ?_
                        refine run_nil ?_
                        refine run_ret ?_
                        exact end1 rfl rfl (by rw [checkV_hit (by omega) (by omega) (by omega) hg (by omega) (errT_2 (by unfold propT; omega)) (by omega)])
                      · have g67' := g67
                        try simp only [decide_eq_true_eq, decide_eq_false_iff_not, beq_iff_eq, beq_eq_false_iff_ne, bne_iff_ne, bne_eq_false_iff_eq, Bool.not_eq_true', Bool.not_eq_false', ne_eq, Int.not_lt, Int.not_le, Decidable.not_not] at g67'
                        have hp : propT n (nth ts i) := by unfold propT; omega
                        refine run_skip ?_
                        refine run_seq ?_
                        refine run_seq ?_
                        refine run_draw [(0, 0), (1, 0), (2, 0), (3, 0), (4, 0), (5, 0), (6, 0), (7, 0), (8, 0), (9, 0), (10, 0), (11, 0)] mixed (by kernel_rfl) .refl ?_
                        refine d_q rfl rfl (.none rfl) rfl rfl (q_move rfl rfl) ?_
                        refine d_q rfl rfl (.none rfl) rfl rfl (q_gtr rfl rfl rfl) ?_
                        refine d_q rfl rfl (.none rfl) rfl rfl (q_move rfl rfl) ?_
                        refine d_split 70 rfl (fun g70 => ?_) (fun g70 => ?_)
                        · have g70' := g70
                          try simp only [decide_eq_true_eq, decide_eq_false_iff_not, beq_iff_eq, beq_eq_false_iff_ne, bne_iff_ne, bne_eq_false_iff_eq, Bool.not_eq_true', Bool.not_eq_false', ne_eq, Int.not_lt, Int.not_le, Decidable.not_not] at g70'
                          refine d_q rfl rfl (.on rfl rfl rfl g70) rfl rfl (q_move rfl rfl) ?_
                          refine d_q rfl rfl (.on rfl rfl rfl g70) rfl rfl (q_move rfl rfl) ?_
                          refine d_q rfl rfl (.on rfl rfl rfl g70) rfl rfl (q_sub rfl rfl rfl (by omega)) ?_
                          refine d_q rfl rfl (.on rfl rfl rfl g70) rfl rfl (q_indexS (q := (i - 1)) rfl Try.underlying22 sz46 rfl rfl (.inp hr .no) (by simp <;> omega) (by omega) (by omega)) ?_
                          refine d_q rfl rfl (.on rfl rfl rfl g70) rfl rfl (q_loadE rfl agg46 rfl (.inp hr .no) (getmap (by omega)) rfl) ?_
                          refine d_q rfl rfl (.on rfl rfl rfl g70) rfl rfl (q_loadBN rfl agg46 rfl Sel.here (.cons rfl (.cons rfl (.cons rfl (.cons rfl CellsAt.nil)))) rfl) ?_
                          refine d_q rfl rfl (.on rfl rfl rfl g70) rfl rfl (q_call rfl call38 (.cons rfl (.cons rfl Evs.nil)) (fun w hk hm => order_just _ _ _)) ?_
                          refine d_q rfl rfl (.on rfl rfl rfl g70) rfl rfl (q_gtr rfl rfl rfl) ?_
                          refine d_q rfl rfl (.none rfl) rfl rfl (q_pickT rfl rfl g70 rfl) ?_
                          refine d_nil ?_
                          refine run_sub (subMk (.cons (s := 0) rfl (.cons (s := 1) rfl (.cons (s := 4) rfl (.cons (s := 6) rfl (.cons (s := 8) rfl (.cons (s := 19) rfl (.cons (s := 20) rfl (.cons (s := 21) rfl (.cons (s := 79) rfl .nil))))))))) .refl) ?_
                          refine run_cond rfl (fun g79 => ?_) (fun g79 => ?_)
                          · have g79' := g79
                            try simp only [decide_eq_true_eq, decide_eq_false_iff_not, beq_iff_eq, beq_eq_false_iff_ne, bne_iff_ne, bne_eq_false_iff_eq, Bool.not_eq_true', Bool.not_eq_false', ne_eq, Int.not_lt, Int.not_le, Decidable.not_not] at g79'
                            refine run_seq ?_
                            refine run_region ?_
                            refine run_q (.none rfl) rfl rfl (q_assign rfl rfl) ?_
                            refine run_nil ?_
                            refine run_ret ?_
                            exact end1 rfl rfl (by rw [checkV_hit (by omega) (by omega) (by omega) hg (by omega) (errT_25 hp (by omega) (ordV_pos.1 (by omega))) (by omega)])
                          · have g79' := g79
                            try simp only [decide_eq_true_eq, decide_eq_false_iff_not, beq_iff_eq, beq_eq_false_iff_ne, bne_iff_ne, bne_eq_false_iff_eq, Bool.not_eq_true', Bool.not_eq_false', ne_eq, Int.not_lt, Int.not_le, Decidable.not_not] at g79'
                            refine run_skip ?_
                            refine run_seq ?_
                            have ha : 0 < i → ¬ aftT (nth ts i) (nth ts (i - 1)) := by first | (intro h0; exact absurd h0 (by omega)) | (intro _ hx; have := ordV_pos.2 hx; omega)
                            refine run_region ?_
                            refine run_q (.none rfl) rfl rfl (q_move rfl rfl) ?_
                            refine run_q (.none rfl) rfl rfl (q_loadBN rfl agg46 rfl Sel.here (.cons rfl (.cons rfl (.cons rfl (.cons rfl CellsAt.nil)))) rfl) ?_
                            refine run_h (.none rfl) (h_callvX [_, _] _ rfl rfl rfl rfl call35 (.cons rfl Evs.nil) ((Sel.perm (.there Sel.here)).trans (.cons _ (Sel.perm (.there Sel.here)))) (Y := fun _ => atAny [_, _]) (fun _ _ h => h) (fun w hk hm => push_ret (nth ts i) (stk ts i) b5 Q cq w ((hm.perm ((Sel.perm (.there Sel.here)).trans (.cons _ (Sel.perm (.there Sel.here))))).give (rs := [_, _])) hl3 (propT_ok hp (by omega)) (stk_ok hg (by omega)))) ?_
                            rintro ⟨v, m⟩ ⟨Q', c', rfl, rfl⟩
                            show Run _ _ _ _ _ _ _ ⟨(82, .bool (okP (stk ts i) (nth ts i))) :: _, _ :: _ :: _⟩
                            refine run_q (.none rfl) rfl rfl (q_not rfl rfl) ?_
                            refine run_nil ?_
                            refine run_sub (subMk (.cons (s := 0) rfl (.cons (s := 1) rfl (.cons (s := 4) rfl (.cons (s := 6) rfl (.cons (s := 19) rfl (.cons (s := 20) rfl (.cons (s := 21) rfl (.cons (s := 83) rfl .nil)))))))) .refl) ?_
                            refine run_cond rfl (fun g83 => ?_) (fun g83 => ?_)
                            · have g83' := g83
                              try simp only [decide_eq_true_eq, decide_eq_false_iff_not, beq_iff_eq, beq_eq_false_iff_ne, bne_iff_ne, bne_eq_false_iff_eq, Bool.not_eq_true', Bool.not_eq_false', ne_eq, Int.not_lt, Int.not_le, Decidable.not_not] at g83'
                              have hb : badN ts i := Decidable.byContradiction fun hx => by simp [(okP_iff hg ha hn hl3).2 hx] at g83
                              refine run_seq ?_
                              refine run_region ?_
                              refine run_q (.none rfl) rfl rfl (q_assign rfl rfl) ?_
                              refine run_nil ?_
                              refine run_ret ?_
                              exact end1 rfl rfl (by rw [checkV_hit (by omega) (by omega) (by omega) hg (by omega) (errT_21 hp ha hb) (by omega)])
                            · have g83' := g83
                              try simp only [decide_eq_true_eq, decide_eq_false_iff_not, beq_iff_eq, beq_eq_false_iff_ne, bne_iff_ne, bne_eq_false_iff_eq, Bool.not_eq_true', Bool.not_eq_false', ne_eq, Int.not_lt, Int.not_le, Decidable.not_not] at g83'
                              have hb : ¬ badN ts i := (okP_iff hg ha hn hl3).1 (by simpa using g83)
                              have he := errT_of hp ha hb
                              obtain ⟨hs1, hs2, hs3⟩ := stk_next (by omega) hg he hn hl3
                              refine run_skip ?_
                              refine run_blk ?_
                              refine run_region ?_
                              refine run_q (.none rfl) rfl rfl (q_add rfl rfl rfl (by omega)) ?_
                              refine run_q (.none rfl) rfl rfl (q_move rfl rfl) ?_
                              refine run_nil ?_
                              exact run_again (i + 1, Q', c') (by (try dsimp only); exact ⟨by omega, hg.succ he, hs2, hs3⟩) (by (try dsimp only); omega) (subMk (.cons' (s := 21) rfl rfl (.cons (s := 0) rfl (.cons (s := 1) rfl (.cons (s := 4) rfl (.cons (s := 6) rfl (.cons (s := 19) rfl (.cons (s := 20) rfl .nil))))))) (.cons Sel.here (.blk (.cons' rfl (by rw [hs1]) .nil)) (.cons Sel.here (.own rfl (by rw [hs1]) rfl (by rw [hs1])) .nil)))
                        · have g70' := g70
                          try simp only [decide_eq_true_eq, decide_eq_false_iff_not, beq_iff_eq, beq_eq_false_iff_ne, bne_iff_ne, bne_eq_false_iff_eq, Bool.not_eq_true', Bool.not_eq_false', ne_eq, Int.not_lt, Int.not_le, Decidable.not_not] at g70'
                          refine d_off rfl rfl (.no rfl rfl rfl g70) rfl rfl ?_
                          refine d_off rfl rfl (.no rfl rfl rfl g70) rfl rfl ?_
                          refine d_off rfl rfl (.no rfl rfl rfl g70) rfl rfl ?_
                          refine d_off rfl rfl (.no rfl rfl rfl g70) rfl rfl ?_
                          refine d_off rfl rfl (.no rfl rfl rfl g70) rfl rfl ?_
                          refine d_off rfl rfl (.no rfl rfl rfl g70) rfl rfl ?_
                          refine d_off rfl rfl (.no rfl rfl rfl g70) rfl rfl ?_
                          refine d_off rfl rfl (.no rfl rfl rfl g70) rfl rfl ?_
                          refine d_q rfl rfl (.none rfl) rfl rfl (q_pickF rfl rfl g70 rfl) ?_
                          refine d_nil ?_
                          refine run_sub (subMk (.cons (s := 0) rfl (.cons (s := 1) rfl (.cons (s := 4) rfl (.cons (s := 6) rfl (.cons (s := 8) rfl (.cons (s := 19) rfl (.cons (s := 20) rfl (.cons (s := 21) rfl (.cons (s := 79) rfl .nil))))))))) .refl) ?_
                          refine run_condF rfl rfl ?_
                          refine run_skip ?_
                          refine run_seq ?_
                          have ha : 0 < i → ¬ aftT (nth ts i) (nth ts (i - 1)) := by first | (intro h0; exact absurd h0 (by omega)) | (intro _ hx; have := ordV_pos.2 hx; omega)
                          refine run_region ?_
                          refine run_q (.none rfl) rfl rfl (q_move rfl rfl) ?_
                          refine run_q (.none rfl) rfl rfl (q_loadBN rfl agg46 rfl Sel.here (.cons rfl (.cons rfl (.cons rfl (.cons rfl CellsAt.nil)))) rfl) ?_
                          refine run_h (.none rfl) (h_callvX [_, _] _ rfl rfl rfl rfl call35 (.cons rfl Evs.nil) ((Sel.perm (.there Sel.here)).trans (.cons _ (Sel.perm (.there Sel.here)))) (Y := fun _ => atAny [_, _]) (fun _ _ h => h) (fun w hk hm => push_ret (nth ts i) (stk ts i) b5 Q cq w ((hm.perm ((Sel.perm (.there Sel.here)).trans (.cons _ (Sel.perm (.there Sel.here))))).give (rs := [_, _])) hl3 (propT_ok hp (by omega)) (stk_ok hg (by omega)))) ?_
                          rintro ⟨v, m⟩ ⟨Q', c', rfl, rfl⟩
                          show Run _ _ _ _ _ _ _ ⟨(82, .bool (okP (stk ts i) (nth ts i))) :: _, _ :: _ :: _⟩
                          refine run_q (.none rfl) rfl rfl (q_not rfl rfl) ?_
                          refine run_nil ?_
                          refine run_sub (subMk (.cons (s := 0) rfl (.cons (s := 1) rfl (.cons (s := 4) rfl (.cons (s := 6) rfl (.cons (s := 19) rfl (.cons (s := 20) rfl (.cons (s := 21) rfl (.cons (s := 83) rfl .nil)))))))) .refl) ?_
                          refine run_cond rfl (fun g83 => ?_) (fun g83 => ?_)
                          · have g83' := g83
                            try simp only [decide_eq_true_eq, decide_eq_false_iff_not, beq_iff_eq, beq_eq_false_iff_ne, bne_iff_ne, bne_eq_false_iff_eq, Bool.not_eq_true', Bool.not_eq_false', ne_eq, Int.not_lt, Int.not_le, Decidable.not_not] at g83'
                            have hb : badN ts i := Decidable.byContradiction fun hx => by simp [(okP_iff hg ha hn hl3).2 hx] at g83
                            refine run_seq ?_
                            refine run_region ?_
                            refine run_q (.none rfl) rfl rfl (q_assign rfl rfl) ?_
                            refine run_nil ?_
                            refine run_ret ?_
                            exact end1 rfl rfl (by rw [checkV_hit (by omega) (by omega) (by omega) hg (by omega) (errT_21 hp ha hb) (by omega)])
                          · have g83' := g83
                            try simp only [decide_eq_true_eq, decide_eq_false_iff_not, beq_iff_eq, beq_eq_false_iff_ne, bne_iff_ne, bne_eq_false_iff_eq, Bool.not_eq_true', Bool.not_eq_false', ne_eq, Int.not_lt, Int.not_le, Decidable.not_not] at g83'
                            have hb : ¬ badN ts i := (okP_iff hg ha hn hl3).1 (by simpa using g83)
                            have he := errT_of hp ha hb
                            obtain ⟨hs1, hs2, hs3⟩ := stk_next (by omega) hg he hn hl3
                            refine run_skip ?_
                            refine run_blk ?_
                            refine run_region ?_
                            refine run_q (.none rfl) rfl rfl (q_add rfl rfl rfl (by omega)) ?_
                            refine run_q (.none rfl) rfl rfl (q_move rfl rfl) ?_
                            refine run_nil ?_
                            exact run_again (i + 1, Q', c') (by (try dsimp only); exact ⟨by omega, hg.succ he, hs2, hs3⟩) (by (try dsimp only); omega) (subMk (.cons' (s := 21) rfl rfl (.cons (s := 0) rfl (.cons (s := 1) rfl (.cons (s := 4) rfl (.cons (s := 6) rfl (.cons (s := 19) rfl (.cons (s := 20) rfl .nil))))))) (.cons Sel.here (.blk (.cons' rfl (by rw [hs1]) .nil)) (.cons Sel.here (.own rfl (by rw [hs1]) rfl (by rw [hs1])) .nil)))
        · have g22' := g22
          try simp only [decide_eq_true_eq, decide_eq_false_iff_not, beq_iff_eq, beq_eq_false_iff_ne, bne_iff_ne, bne_eq_false_iff_eq, Bool.not_eq_true', Bool.not_eq_false', ne_eq, Int.not_lt, Int.not_le, Decidable.not_not] at g22'
          refine run_exit rfl ?_
          refine run_sub (subMk (.cons (s := 4) rfl .nil) .refl) ?_
          refine run_seq ?_
          refine run_region ?_
          refine run_q (.none rfl) rfl rfl (q_assign rfl rfl) ?_
          refine run_nil ?_
          refine run_ret ?_
          exact end1 rfl rfl (by rw [checkV_of (by omega) (by omega) (by omega) (fun j hj => hg j (by omega))])

end Go.Proofs.Yticofkkkafhpiaa
