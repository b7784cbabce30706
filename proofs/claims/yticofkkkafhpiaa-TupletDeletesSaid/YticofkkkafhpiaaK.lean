/- The law on order, in the program. -/
import Derived.Test.YticofkkkafhpiaaJ
set_option linter.unusedSimpArgs false
set_option linter.unusedVariables false
namespace Go.Proofs.Yticofkkkafhpiaa
open Go Go.RowKit Hr

theorem call30 : Hr.Callable Try.prog 30 := fun args w => by kernel_rfl
theorem call31 : Hr.Callable Try.prog 31 := fun args w => by kernel_rfl
theorem call28 : Hr.Callable Try.prog 28 := fun args w => by kernel_rfl
theorem call32 : Hr.Callable Try.prog 32 := fun args w => by kernel_rfl

set_option maxRecDepth 100000 in
theorem refsort_ret (l : List Tup) (A : Option Addr) (ca : Nat) (W : World) (hr : Rd W A 4 (l.map Tup.enc)) (hl : l.length ≤ 20) : Calls Try.prog 31 #[.slice A l.length ca] W (Ret W nX (fun v m => ∃ O co, v = .slice O l.length co ∧ m = [.own 45 4 O l.length co ((sortR l l.length).map Tup.enc)])) := by
  refine enterA (X := nX) (vs := [.slice A l.length ca]) Try.func31 Try.ntmps31 rfl rfl Mem.nil ?_
  refine run_seq ?_
  refine run_region ?_
  refine run_q (.none rfl) rfl rfl (q_assign rfl rfl) ?_
  refine run_nil ?_
  refine run_seq ?_
  refine run_region ?_
  refine run_q (.none rfl) rfl rfl (q_assign rfl rfl) ?_
  refine run_nil ?_
  refine run_seq ?_
  refine run_seq ?_
  refine run_region ?_
  refine run_q (.none rfl) rfl rfl (q_assign rfl rfl) ?_
  refine run_nil ?_
  refine run_block ?_
  refine run_sub (subMk .refl (MemSub.nilOwn 45 4)) ?_
  refine run_sub (subMk (.cons (s := 4) rfl (.cons (s := 3) rfl (.cons (s := 0) rfl (.cons (s := 2) rfl .nil)))) (.cons Sel.here .refl .nil)) ?_
  refine run_loopC2M1 (ι := Nat × (Option Addr) × Nat) (fun gg => gg.1 ≤ l.length) (fun gg => .int .i64 (gg.1 : Int)) (fun gg => .slice gg.2.1 gg.1 gg.2.2) (fun gg => .own 45 4 gg.2.1 gg.1 gg.2.2 ((sortR l gg.1).map Tup.enc)) (fun gg => l.length - gg.1) (0, none, 0) (by (try dsimp only); exact (by omega)) rfl rfl .refl ?_
  rintro ⟨i, O, co⟩ hi
  (try dsimp only at hi)
  show Run _ _ _ _ _ _ _ ⟨(4, .int .i64 (i : Int)) :: (3, .slice O i co) :: _, .own 45 4 O i co ((sortR l i).map Tup.enc) :: _⟩
  refine run_seq ?_
  refine run_seq ?_
  refine run_region ?_
  refine run_q (.none rfl) rfl rfl (q_move rfl rfl) ?_
  refine run_q (.none rfl) rfl rfl (q_move rfl rfl) ?_
  refine run_q (.none rfl) rfl rfl (q_len rfl Try.underlying27 rfl) ?_
  refine run_q (.none rfl) rfl rfl (q_lss rfl rfl rfl) ?_
  refine run_nil ?_
  refine run_sub (subMk (.cons (s := 0) rfl (.cons (s := 2) rfl (.cons (s := 3) rfl (.cons (s := 4) rfl (.cons (s := 10) rfl .nil))))) .refl) ?_
  refine run_cond rfl (fun g10 => ?_) (fun g10 => ?_)
  · have g10' := g10
    try simp only [decide_eq_true_eq, decide_eq_false_iff_not, beq_iff_eq, beq_eq_false_iff_ne, bne_iff_ne, bne_eq_false_iff_eq, Bool.not_eq_true', Bool.not_eq_false', ne_eq, Int.not_lt, Int.not_le, Decidable.not_not] at g10'
    refine run_skip ?_
    refine run_seq ?_
    refine run_block ?_
    refine run_seq ?_
    refine run_region ?_
    refine run_q (.none rfl) rfl rfl (q_move rfl rfl) ?_
    refine run_q (.none rfl) rfl rfl (q_len rfl Try.underlying27 rfl) ?_
    refine run_q (.none rfl) rfl rfl (q_assign rfl rfl) ?_
    refine run_nil ?_
    refine run_sub (subMk (.cons (s := 0) rfl (.cons (s := 2) rfl (.cons (s := 3) rfl (.cons (s := 4) rfl (.cons (s := 5) rfl .nil))))) .refl) ?_
    refine run_seq ?_
    refine run_block ?_
    refine run_sub (subMk (.cons (s := 5) rfl (.cons (s := 0) rfl (.cons (s := 2) rfl (.cons (s := 3) rfl (.cons (s := 4) rfl .nil))))) (.cons Sel.here .refl .nil)) ?_
    refine run_loopC1M0 (ι := Nat) (fun j => j ≤ i ∧ posN (sortR l i) (nth l i) i = posN (sortR l i) (nth l i) j) (fun j => .int .i64 (j : Int))  (fun j => j) i (by (try dsimp only); exact ⟨by omega, rfl⟩) rfl  ?_
    rintro j hq
    (try dsimp only at hq)
    obtain ⟨hj, hpos⟩ := hq
    show Run _ _ _ _ _ _ _ ⟨(5, .int .i64 (j : Int)) :: _, _⟩
    refine run_seq ?_
    refine run_seq ?_
    refine run_draw [(0, 0), (1, 0), (2, 0), (3, 0), (4, 0), (5, 0), (6, 0), (7, 0), (8, 0), (9, 0), (10, 0), (11, 0), (12, 0), (13, 0)] mixed (by kernel_rfl) .refl ?_
    refine d_q rfl rfl (.none rfl) rfl rfl (q_move rfl rfl) ?_
    refine d_q rfl rfl (.none rfl) rfl rfl (q_gtr rfl rfl rfl) ?_
    refine d_q rfl rfl (.none rfl) rfl rfl (q_move rfl rfl) ?_
    refine d_split 17 rfl (fun g17 => ?_) (fun g17 => ?_)
    · have g17' := g17
      try simp only [decide_eq_true_eq, decide_eq_false_iff_not, beq_iff_eq, beq_eq_false_iff_ne, bne_iff_ne, bne_eq_false_iff_eq, Bool.not_eq_true', Bool.not_eq_false', ne_eq, Int.not_lt, Int.not_le, Decidable.not_not] at g17'
      refine d_q rfl rfl (.on rfl rfl rfl g17) rfl rfl (q_move rfl rfl) ?_
      refine d_q rfl rfl (.on rfl rfl rfl g17) rfl rfl (q_move rfl rfl) ?_
      refine d_q rfl rfl (.on rfl rfl rfl g17) rfl rfl (q_indexS (q := i) rfl Try.underlying27 sz45 rfl rfl (.inp hr .no) (by simp <;> omega) rfl (by omega)) ?_
      refine d_q rfl rfl (.on rfl rfl rfl g17) rfl rfl (q_loadE rfl agg45 rfl (.inp hr .no) (getmap (by omega)) rfl) ?_
      refine d_q rfl rfl (.on rfl rfl rfl g17) rfl rfl (q_move rfl rfl) ?_
      refine d_q rfl rfl (.on rfl rfl rfl g17) rfl rfl (q_move rfl rfl) ?_
      refine d_q rfl rfl (.on rfl rfl rfl g17) rfl rfl (q_sub rfl rfl rfl (by omega)) ?_
      refine d_q rfl rfl (.on rfl rfl rfl g17) rfl rfl (q_indexS (q := (j - 1)) rfl Try.underlying27 sz45 rfl rfl (.own Sel.here) (by rw [List.length_map, sortR_len]) (by omega) (by omega)) ?_
      refine d_q rfl rfl (.on rfl rfl rfl g17) rfl rfl (q_loadE rfl agg45 rfl (.own Sel.here) (getmap (by rw [sortR_len]; omega)) rfl) ?_
      refine d_q rfl rfl (.on rfl rfl rfl g17) rfl rfl (q_call rfl call39 (.cons rfl (.cons rfl Evs.nil)) (fun w hk hm => after_just (nth l i) (nth (sortR l i) (j - 1)) w)) ?_
      refine d_q rfl rfl (.none rfl) rfl rfl (q_pickT rfl rfl g17 rfl) ?_
      refine d_nil ?_
      refine run_sub (subMk (.cons (s := 0) rfl (.cons (s := 2) rfl (.cons (s := 3) rfl (.cons (s := 4) rfl (.cons (s := 5) rfl (.cons (s := 28) rfl .nil)))))) .refl) ?_
      refine run_cond rfl (fun g28 => ?_) (fun g28 => ?_)
      · have g28' := g28
        try simp only [decide_eq_true_eq, decide_eq_false_iff_not, beq_iff_eq, beq_eq_false_iff_ne, bne_iff_ne, bne_eq_false_iff_eq, Bool.not_eq_true', Bool.not_eq_false', ne_eq, Int.not_lt, Int.not_le, Decidable.not_not] at g28'
        refine run_skip ?_
        refine run_block ?_
        refine run_region ?_
        refine run_q (.none rfl) rfl rfl (q_move rfl rfl) ?_
        refine run_q (.none rfl) rfl rfl (q_sub rfl rfl rfl (by omega)) ?_
        refine run_q (.none rfl) rfl rfl (q_assign rfl rfl) ?_
        refine run_nil ?_
        refine run_sub (subMk (.cons (s := 0) rfl (.cons (s := 2) rfl (.cons (s := 3) rfl (.cons (s := 4) rfl (.cons (s := 5) rfl .nil))))) .refl) ?_
        refine run_blk ?_
        exact run_again (j - 1) (by (try dsimp only); exact ⟨by omega, by rw [hpos, posN_skip' (by omega) (by simpa using g28)]⟩) (by (try dsimp only); omega) (subMk (.cons' (s := 5) rfl (vint (by omega)) (.cons (s := 0) rfl (.cons (s := 2) rfl (.cons (s := 3) rfl (.cons (s := 4) rfl .nil))))) (.cons Sel.here .refl .nil))
      · have g28' := g28
        try simp only [decide_eq_true_eq, decide_eq_false_iff_not, beq_iff_eq, beq_eq_false_iff_ne, bne_iff_ne, bne_eq_false_iff_eq, Bool.not_eq_true', Bool.not_eq_false', ne_eq, Int.not_lt, Int.not_le, Decidable.not_not] at g28'
        have hpe : posN (sortR l i) (nth l i) i = j := by rw [hpos, posN_stop' (by omega) (by simpa using g28)]
        refine run_exit rfl ?_
        refine run_seq ?_
        refine run_ownLe Sel.here (fun hle => ?_)
        refine run_fork mixed (by kernel_rfl) .refl ?_
        refine b_q (i := 1) rfl (by kernel_rfl) (.none rfl) rfl rfl (q_move rfl rfl) ?_
        refine b_q (i := 2) rfl (by kernel_rfl) (.none rfl) rfl rfl (q_move rfl rfl) ?_
        refine b_q (i := 3) rfl (by kernel_rfl) (.none rfl) rfl rfl (q_sliceH rfl Try.underlying27 sz45 rfl rfl (by omega)) ?_
        refine b_q (i := 5) rfl (by kernel_rfl) (.none rfl) rfl rfl (q_move rfl rfl) ?_
        refine b_q (i := 6) rfl (by kernel_rfl) (.none rfl) rfl rfl (q_move rfl rfl) ?_
        refine b_q (i := 7) rfl (by kernel_rfl) (.none rfl) rfl rfl (q_indexS (q := i) rfl Try.underlying27 sz45 rfl rfl (.inp hr .no) (by simp <;> omega) rfl (by omega)) ?_
        refine b_q (i := 8) rfl (by kernel_rfl) (.none rfl) rfl rfl (q_loadE rfl agg45 rfl (.inp hr .no) (getmap (by omega)) rfl) ?_
        refine b_two 0 9 (by kernel_rfl) ?_ ?_
        · refine b_h rfl (.none rfl) (h_buildSlice rfl rfl rfl Try.underlying27 info45 Parts.nil rfl (by omega)) (fun _ _ => (.sub (by repeat (first | exact List.Sublist.refl _ | apply List.Sublist.cons)))) ?_
          rintro b31 -
          refine b_two 4 9 (by kernel_rfl) ?_ ?_
          · refine b_h rfl (.none rfl) (h_append rfl rfl rfl Try.underlying27 info45 rfl rfl Sel.here rfl ((RdS.own (.there Sel.here)).take j) (by simp [sortR_len]; omega) (fun z hz => enc_len (List.mem_of_mem_take hz)) (fun z hz => enc_all (List.mem_of_mem_take hz)) (by omega) (by omega)) (fun _ _ => (.sub (by repeat (first | exact List.Sublist.refl _ | apply List.Sublist.cons)))) ?_
            rintro ⟨A35, c35⟩ -
            refine b_one 9 (by kernel_rfl) ?_
            refine b_h rfl (.none rfl) (h_buildSlice rfl rfl rfl Try.underlying27 info45 (.cons rfl rfl rfl rfl Parts.nil) rfl (by omega)) (fun _ _ => (.sub (by repeat (first | exact List.Sublist.refl _ | apply List.Sublist.cons)))) ?_
            rintro b40 -
            refine b_one 10 (by kernel_rfl) ?_
            refine b_h rfl (.none rfl) (h_append rfl rfl rfl Try.underlying27 info45 rfl rfl (.there Sel.here) rfl (.own Sel.here) rfl (all1 rfl) (all1 rfl) (by omega) (by omega)) (fun _ _ => (.sub (by repeat (first | exact List.Sublist.refl _ | apply List.Sublist.cons)))) ?_
            rintro ⟨A41, c41⟩ -
            refine b_q (i := 11) rfl (by kernel_rfl) (.none rfl) rfl rfl (q_assign rfl rfl) ?_
            refine b_nil (by kernel_rfl) ?_
            refine run_sub (subMk (.cons (s := 0) rfl (.cons (s := 2) rfl (.cons (s := 3) rfl (.cons (s := 4) rfl (.cons (s := 5) rfl (.cons (s := 6) rfl .nil)))))) .refl) ?_
            refine run_region ?_
            refine run_q (.none rfl) rfl rfl (q_move rfl rfl) ?_
            refine run_q (.none rfl) rfl rfl (q_move rfl rfl) ?_
            refine run_q (.none rfl) rfl rfl (q_move rfl rfl) ?_
            refine run_q (.none rfl) rfl rfl (q_sliceL rfl Try.underlying27 sz45 rfl rfl (by omega)) ?_
            refine run_h (.none rfl) (h_append rfl rfl rfl Try.underlying27 info45 rfl rfl Sel.here rfl ((RdS.own (.there (.there Sel.here))).cut (l := j) (c := co) (by rw [List.length_map, sortR_len]; exact hle)) (by simp [sortR_len]) (fun z hz => enc_len (List.mem_of_mem_drop hz)) (fun z hz => enc_all (List.mem_of_mem_drop hz)) (by omega) (by omega)) ?_
            rintro ⟨A46, c46⟩ -
            refine run_q (.none rfl) rfl rfl (q_assign rfl rfl) ?_
            refine run_nil ?_
            refine run_sub (subMk (.cons (s := 0) rfl (.cons (s := 2) rfl (.cons (s := 3) rfl (.cons (s := 4) rfl .nil)))) .refl) ?_
            refine run_blk ?_
            refine run_region ?_
            refine run_q (.none rfl) rfl rfl (q_move rfl rfl) ?_
            refine run_q (.none rfl) rfl rfl (q_add rfl rfl rfl (by omega)) ?_
            refine run_q (.none rfl) rfl rfl (q_assign rfl rfl) ?_
            refine run_nil ?_
            exact run_again (i + 1, A46, c46) (by (try dsimp only); exact (by omega)) (by (try dsimp only); omega) (subMk (.cons' (s := 4) rfl rfl (.cons' (s := 3) rfl (by congr 1; omega) (.cons (s := 0) rfl (.cons (s := 2) rfl .nil)))) (.cons Sel.here (.own rfl (by omega) rfl (by rw [sortR, insR, sortR_len, hpe]; simp [List.map_take, List.map_drop, vlist, Tup.enc])) .nil))
          · refine b_h rfl (.none rfl) (h_buildSlice rfl rfl rfl Try.underlying27 info45 (.cons rfl rfl rfl rfl Parts.nil) rfl (by omega)) (fun _ _ => (.sub (by repeat (first | exact List.Sublist.refl _ | apply List.Sublist.cons)))) ?_
            rintro b40 -
            refine b_one 4 (by kernel_rfl) ?_
            refine b_h rfl (.none rfl) (h_append rfl rfl rfl Try.underlying27 info45 rfl rfl (.there Sel.here) rfl ((RdS.own (.there (.there Sel.here))).take j) (by simp [sortR_len]; omega) (fun z hz => enc_len (List.mem_of_mem_take hz)) (fun z hz => enc_all (List.mem_of_mem_take hz)) (by omega) (by omega)) (fun _ _ => (.sub (by repeat (first | exact List.Sublist.refl _ | apply List.Sublist.cons)))) ?_
            rintro ⟨A35, c35⟩ -
            refine b_one 10 (by kernel_rfl) ?_
            refine b_h rfl (.none rfl) (h_append rfl rfl rfl Try.underlying27 info45 rfl rfl Sel.here rfl (.own (.there Sel.here)) rfl (all1 rfl) (all1 rfl) (by omega) (by omega)) (fun _ _ => (.sub (by repeat (first | exact List.Sublist.refl _ | apply List.Sublist.cons)))) ?_
            rintro ⟨A41, c41⟩ -
            refine b_q (i := 11) rfl (by kernel_rfl) (.none rfl) rfl rfl (q_assign rfl rfl) ?_
            refine b_nil (by kernel_rfl) ?_
            refine run_sub (subMk (.cons (s := 0) rfl (.cons (s := 2) rfl (.cons (s := 3) rfl (.cons (s := 4) rfl (.cons (s := 5) rfl (.cons (s := 6) rfl .nil)))))) .refl) ?_
            refine run_region ?_
            refine run_q (.none rfl) rfl rfl (q_move rfl rfl) ?_
            refine run_q (.none rfl) rfl rfl (q_move rfl rfl) ?_
            refine run_q (.none rfl) rfl rfl (q_move rfl rfl) ?_
            refine run_q (.none rfl) rfl rfl (q_sliceL rfl Try.underlying27 sz45 rfl rfl (by omega)) ?_
            refine run_h (.none rfl) (h_append rfl rfl rfl Try.underlying27 info45 rfl rfl Sel.here rfl ((RdS.own (.there (.there Sel.here))).cut (l := j) (c := co) (by rw [List.length_map, sortR_len]; exact hle)) (by simp [sortR_len]) (fun z hz => enc_len (List.mem_of_mem_drop hz)) (fun z hz => enc_all (List.mem_of_mem_drop hz)) (by omega) (by omega)) ?_
            rintro ⟨A46, c46⟩ -
            refine run_q (.none rfl) rfl rfl (q_assign rfl rfl) ?_
            refine run_nil ?_
            refine run_sub (subMk (.cons (s := 0) rfl (.cons (s := 2) rfl (.cons (s := 3) rfl (.cons (s := 4) rfl .nil)))) .refl) ?_
            refine run_blk ?_
            refine run_region ?_
            refine run_q (.none rfl) rfl rfl (q_move rfl rfl) ?_
            refine run_q (.none rfl) rfl rfl (q_add rfl rfl rfl (by omega)) ?_
            refine run_q (.none rfl) rfl rfl (q_assign rfl rfl) ?_
            refine run_nil ?_
            exact run_again (i + 1, A46, c46) (by (try dsimp only); exact (by omega)) (by (try dsimp only); omega) (subMk (.cons' (s := 4) rfl rfl (.cons' (s := 3) rfl (by congr 1; omega) (.cons (s := 0) rfl (.cons (s := 2) rfl .nil)))) (.cons Sel.here (.own rfl (by omega) rfl (by rw [sortR, insR, sortR_len, hpe]; simp [List.map_take, List.map_drop, vlist, Tup.enc])) .nil))
        · refine b_h rfl (.none rfl) (h_buildSlice rfl rfl rfl Try.underlying27 info45 (.cons rfl rfl rfl rfl Parts.nil) rfl (by omega)) (fun _ _ => (.sub (by repeat (first | exact List.Sublist.refl _ | apply List.Sublist.cons)))) ?_
          rintro b40 -
          refine b_one 0 (by kernel_rfl) ?_
          refine b_h rfl (.none rfl) (h_buildSlice rfl rfl rfl Try.underlying27 info45 Parts.nil rfl (by omega)) (fun _ _ => (.sub (by repeat (first | exact List.Sublist.refl _ | apply List.Sublist.cons)))) ?_
          rintro b31 -
          refine b_one 4 (by kernel_rfl) ?_
          refine b_h rfl (.none rfl) (h_append rfl rfl rfl Try.underlying27 info45 rfl rfl Sel.here rfl ((RdS.own (.there (.there Sel.here))).take j) (by simp [sortR_len]; omega) (fun z hz => enc_len (List.mem_of_mem_take hz)) (fun z hz => enc_all (List.mem_of_mem_take hz)) (by omega) (by omega)) (fun _ _ => (.sub (by repeat (first | exact List.Sublist.refl _ | apply List.Sublist.cons)))) ?_
          rintro ⟨A35, c35⟩ -
          refine b_one 10 (by kernel_rfl) ?_
          refine b_h rfl (.none rfl) (h_append rfl rfl rfl Try.underlying27 info45 rfl rfl Sel.here rfl (.own (.there Sel.here)) rfl (all1 rfl) (all1 rfl) (by omega) (by omega)) (fun _ _ => (.sub (by repeat (first | exact List.Sublist.refl _ | apply List.Sublist.cons)))) ?_
          rintro ⟨A41, c41⟩ -
          refine b_q (i := 11) rfl (by kernel_rfl) (.none rfl) rfl rfl (q_assign rfl rfl) ?_
          refine b_nil (by kernel_rfl) ?_
          refine run_sub (subMk (.cons (s := 0) rfl (.cons (s := 2) rfl (.cons (s := 3) rfl (.cons (s := 4) rfl (.cons (s := 5) rfl (.cons (s := 6) rfl .nil)))))) .refl) ?_
          refine run_region ?_
          refine run_q (.none rfl) rfl rfl (q_move rfl rfl) ?_
          refine run_q (.none rfl) rfl rfl (q_move rfl rfl) ?_
          refine run_q (.none rfl) rfl rfl (q_move rfl rfl) ?_
          refine run_q (.none rfl) rfl rfl (q_sliceL rfl Try.underlying27 sz45 rfl rfl (by omega)) ?_
          refine run_h (.none rfl) (h_append rfl rfl rfl Try.underlying27 info45 rfl rfl Sel.here rfl ((RdS.own (.there (.there Sel.here))).cut (l := j) (c := co) (by rw [List.length_map, sortR_len]; exact hle)) (by simp [sortR_len]) (fun z hz => enc_len (List.mem_of_mem_drop hz)) (fun z hz => enc_all (List.mem_of_mem_drop hz)) (by omega) (by omega)) ?_
          rintro ⟨A46, c46⟩ -
          refine run_q (.none rfl) rfl rfl (q_assign rfl rfl) ?_
          refine run_nil ?_
          refine run_sub (subMk (.cons (s := 0) rfl (.cons (s := 2) rfl (.cons (s := 3) rfl (.cons (s := 4) rfl .nil)))) .refl) ?_
          refine run_blk ?_
          refine run_region ?_
          refine run_q (.none rfl) rfl rfl (q_move rfl rfl) ?_
          refine run_q (.none rfl) rfl rfl (q_add rfl rfl rfl (by omega)) ?_
          refine run_q (.none rfl) rfl rfl (q_assign rfl rfl) ?_
          refine run_nil ?_
          exact run_again (i + 1, A46, c46) (by (try dsimp only); exact (by omega)) (by (try dsimp only); omega) (subMk (.cons' (s := 4) rfl rfl (.cons' (s := 3) rfl (by congr 1; omega) (.cons (s := 0) rfl (.cons (s := 2) rfl .nil)))) (.cons Sel.here (.own rfl (by omega) rfl (by rw [sortR, insR, sortR_len, hpe]; simp [List.map_take, List.map_drop, vlist, Tup.enc])) .nil))
    · have g17' := g17
      try simp only [decide_eq_true_eq, decide_eq_false_iff_not, beq_iff_eq, beq_eq_false_iff_ne, bne_iff_ne, bne_eq_false_iff_eq, Bool.not_eq_true', Bool.not_eq_false', ne_eq, Int.not_lt, Int.not_le, Decidable.not_not] at g17'
      have hpe : posN (sortR l i) (nth l i) i = j := by rw [hpos, show j = 0 from by omega]; rfl
      refine d_off rfl rfl (.no rfl rfl rfl g17) rfl rfl ?_
      refine d_off rfl rfl (.no rfl rfl rfl g17) rfl rfl ?_
      refine d_off rfl rfl (.no rfl rfl rfl g17) rfl rfl ?_
      refine d_off rfl rfl (.no rfl rfl rfl g17) rfl rfl ?_
      refine d_off rfl rfl (.no rfl rfl rfl g17) rfl rfl ?_
      refine d_off rfl rfl (.no rfl rfl rfl g17) rfl rfl ?_
      refine d_off rfl rfl (.no rfl rfl rfl g17) rfl rfl ?_
      refine d_off rfl rfl (.no rfl rfl rfl g17) rfl rfl ?_
      refine d_off rfl rfl (.no rfl rfl rfl g17) rfl rfl ?_
      refine d_off rfl rfl (.no rfl rfl rfl g17) rfl rfl ?_
      refine d_q rfl rfl (.none rfl) rfl rfl (q_pickF rfl rfl g17 rfl) ?_
      refine d_nil ?_
      refine run_sub (subMk (.cons (s := 0) rfl (.cons (s := 2) rfl (.cons (s := 3) rfl (.cons (s := 4) rfl (.cons (s := 5) rfl (.cons (s := 28) rfl .nil)))))) .refl) ?_
      refine run_condF rfl rfl ?_
      refine run_exit rfl ?_
      refine run_seq ?_
      refine run_ownLe Sel.here (fun hle => ?_)
      refine run_fork mixed (by kernel_rfl) .refl ?_
      refine b_q (i := 1) rfl (by kernel_rfl) (.none rfl) rfl rfl (q_move rfl rfl) ?_
      refine b_q (i := 2) rfl (by kernel_rfl) (.none rfl) rfl rfl (q_move rfl rfl) ?_
      refine b_q (i := 3) rfl (by kernel_rfl) (.none rfl) rfl rfl (q_sliceH rfl Try.underlying27 sz45 rfl rfl (by omega)) ?_
      refine b_q (i := 5) rfl (by kernel_rfl) (.none rfl) rfl rfl (q_move rfl rfl) ?_
      refine b_q (i := 6) rfl (by kernel_rfl) (.none rfl) rfl rfl (q_move rfl rfl) ?_
      refine b_q (i := 7) rfl (by kernel_rfl) (.none rfl) rfl rfl (q_indexS (q := i) rfl Try.underlying27 sz45 rfl rfl (.inp hr .no) (by simp <;> omega) rfl (by omega)) ?_
      refine b_q (i := 8) rfl (by kernel_rfl) (.none rfl) rfl rfl (q_loadE rfl agg45 rfl (.inp hr .no) (getmap (by omega)) rfl) ?_
      refine b_two 0 9 (by kernel_rfl) ?_ ?_
      · refine b_h rfl (.none rfl) (h_buildSlice rfl rfl rfl Try.underlying27 info45 Parts.nil rfl (by omega)) (fun _ _ => (.sub (by repeat (first | exact List.Sublist.refl _ | apply List.Sublist.cons)))) ?_
        rintro b31 -
        refine b_two 4 9 (by kernel_rfl) ?_ ?_
        · refine b_h rfl (.none rfl) (h_append rfl rfl rfl Try.underlying27 info45 rfl rfl Sel.here rfl ((RdS.own (.there Sel.here)).take j) (by simp [sortR_len]; omega) (fun z hz => enc_len (List.mem_of_mem_take hz)) (fun z hz => enc_all (List.mem_of_mem_take hz)) (by omega) (by omega)) (fun _ _ => (.sub (by repeat (first | exact List.Sublist.refl _ | apply List.Sublist.cons)))) ?_
          rintro ⟨A35, c35⟩ -
          refine b_one 9 (by kernel_rfl) ?_
          refine b_h rfl (.none rfl) (h_buildSlice rfl rfl rfl Try.underlying27 info45 (.cons rfl rfl rfl rfl Parts.nil) rfl (by omega)) (fun _ _ => (.sub (by repeat (first | exact List.Sublist.refl _ | apply List.Sublist.cons)))) ?_
          rintro b40 -
          refine b_one 10 (by kernel_rfl) ?_
          refine b_h rfl (.none rfl) (h_append rfl rfl rfl Try.underlying27 info45 rfl rfl (.there Sel.here) rfl (.own Sel.here) rfl (all1 rfl) (all1 rfl) (by omega) (by omega)) (fun _ _ => (.sub (by repeat (first | exact List.Sublist.refl _ | apply List.Sublist.cons)))) ?_
          rintro ⟨A41, c41⟩ -
          refine b_q (i := 11) rfl (by kernel_rfl) (.none rfl) rfl rfl (q_assign rfl rfl) ?_
          refine b_nil (by kernel_rfl) ?_
          refine run_sub (subMk (.cons (s := 0) rfl (.cons (s := 2) rfl (.cons (s := 3) rfl (.cons (s := 4) rfl (.cons (s := 5) rfl (.cons (s := 6) rfl .nil)))))) .refl) ?_
          refine run_region ?_
          refine run_q (.none rfl) rfl rfl (q_move rfl rfl) ?_
          refine run_q (.none rfl) rfl rfl (q_move rfl rfl) ?_
          refine run_q (.none rfl) rfl rfl (q_move rfl rfl) ?_
          refine run_q (.none rfl) rfl rfl (q_sliceL rfl Try.underlying27 sz45 rfl rfl (by omega)) ?_
          refine run_h (.none rfl) (h_append rfl rfl rfl Try.underlying27 info45 rfl rfl Sel.here rfl ((RdS.own (.there (.there Sel.here))).cut (l := j) (c := co) (by rw [List.length_map, sortR_len]; exact hle)) (by simp [sortR_len]) (fun z hz => enc_len (List.mem_of_mem_drop hz)) (fun z hz => enc_all (List.mem_of_mem_drop hz)) (by omega) (by omega)) ?_
          rintro ⟨A46, c46⟩ -
          refine run_q (.none rfl) rfl rfl (q_assign rfl rfl) ?_
          refine run_nil ?_
          refine run_sub (subMk (.cons (s := 0) rfl (.cons (s := 2) rfl (.cons (s := 3) rfl (.cons (s := 4) rfl .nil)))) .refl) ?_
          refine run_blk ?_
          refine run_region ?_
          refine run_q (.none rfl) rfl rfl (q_move rfl rfl) ?_
          refine run_q (.none rfl) rfl rfl (q_add rfl rfl rfl (by omega)) ?_
          refine run_q (.none rfl) rfl rfl (q_assign rfl rfl) ?_
          refine run_nil ?_
          exact run_again (i + 1, A46, c46) (by (try dsimp only); exact (by omega)) (by (try dsimp only); omega) (subMk (.cons' (s := 4) rfl rfl (.cons' (s := 3) rfl (by congr 1; omega) (.cons (s := 0) rfl (.cons (s := 2) rfl .nil)))) (.cons Sel.here (.own rfl (by omega) rfl (by rw [sortR, insR, sortR_len, hpe]; simp [List.map_take, List.map_drop, vlist, Tup.enc])) .nil))
        · refine b_h rfl (.none rfl) (h_buildSlice rfl rfl rfl Try.underlying27 info45 (.cons rfl rfl rfl rfl Parts.nil) rfl (by omega)) (fun _ _ => (.sub (by repeat (first | exact List.Sublist.refl _ | apply List.Sublist.cons)))) ?_
          rintro b40 -
          refine b_one 4 (by kernel_rfl) ?_
          refine b_h rfl (.none rfl) (h_append rfl rfl rfl Try.underlying27 info45 rfl rfl (.there Sel.here) rfl ((RdS.own (.there (.there Sel.here))).take j) (by simp [sortR_len]; omega) (fun z hz => enc_len (List.mem_of_mem_take hz)) (fun z hz => enc_all (List.mem_of_mem_take hz)) (by omega) (by omega)) (fun _ _ => (.sub (by repeat (first | exact List.Sublist.refl _ | apply List.Sublist.cons)))) ?_
          rintro ⟨A35, c35⟩ -
          refine b_one 10 (by kernel_rfl) ?_
          refine b_h rfl (.none rfl) (h_append rfl rfl rfl Try.underlying27 info45 rfl rfl Sel.here rfl (.own (.there Sel.here)) rfl (all1 rfl) (all1 rfl) (by omega) (by omega)) (fun _ _ => (.sub (by repeat (first | exact List.Sublist.refl _ | apply List.Sublist.cons)))) ?_
          rintro ⟨A41, c41⟩ -
          refine b_q (i := 11) rfl (by kernel_rfl) (.none rfl) rfl rfl (q_assign rfl rfl) ?_
          refine b_nil (by kernel_rfl) ?_
          refine run_sub (subMk (.cons (s := 0) rfl (.cons (s := 2) rfl (.cons (s := 3) rfl (.cons (s := 4) rfl (.cons (s := 5) rfl (.cons (s := 6) rfl .nil)))))) .refl) ?_
          refine run_region ?_
          refine run_q (.none rfl) rfl rfl (q_move rfl rfl) ?_
          refine run_q (.none rfl) rfl rfl (q_move rfl rfl) ?_
          refine run_q (.none rfl) rfl rfl (q_move rfl rfl) ?_
          refine run_q (.none rfl) rfl rfl (q_sliceL rfl Try.underlying27 sz45 rfl rfl (by omega)) ?_
          refine run_h (.none rfl) (h_append rfl rfl rfl Try.underlying27 info45 rfl rfl Sel.here rfl ((RdS.own (.there (.there Sel.here))).cut (l := j) (c := co) (by rw [List.length_map, sortR_len]; exact hle)) (by simp [sortR_len]) (fun z hz => enc_len (List.mem_of_mem_drop hz)) (fun z hz => enc_all (List.mem_of_mem_drop hz)) (by omega) (by omega)) ?_
          rintro ⟨A46, c46⟩ -
          refine run_q (.none rfl) rfl rfl (q_assign rfl rfl) ?_
          refine run_nil ?_
          refine run_sub (subMk (.cons (s := 0) rfl (.cons (s := 2) rfl (.cons (s := 3) rfl (.cons (s := 4) rfl .nil)))) .refl) ?_
          refine run_blk ?_
          refine run_region ?_
          refine run_q (.none rfl) rfl rfl (q_move rfl rfl) ?_
          refine run_q (.none rfl) rfl rfl (q_add rfl rfl rfl (by omega)) ?_
          refine run_q (.none rfl) rfl rfl (q_assign rfl rfl) ?_
          refine run_nil ?_
          exact run_again (i + 1, A46, c46) (by (try dsimp only); exact (by omega)) (by (try dsimp only); omega) (subMk (.cons' (s := 4) rfl rfl (.cons' (s := 3) rfl (by congr 1; omega) (.cons (s := 0) rfl (.cons (s := 2) rfl .nil)))) (.cons Sel.here (.own rfl (by omega) rfl (by rw [sortR, insR, sortR_len, hpe]; simp [List.map_take, List.map_drop, vlist, Tup.enc])) .nil))
      · refine b_h rfl (.none rfl) (h_buildSlice rfl rfl rfl Try.underlying27 info45 (.cons rfl rfl rfl rfl Parts.nil) rfl (by omega)) (fun _ _ => (.sub (by repeat (first | exact List.Sublist.refl _ | apply List.Sublist.cons)))) ?_
        rintro b40 -
        refine b_one 0 (by kernel_rfl) ?_
        refine b_h rfl (.none rfl) (h_buildSlice rfl rfl rfl Try.underlying27 info45 Parts.nil rfl (by omega)) (fun _ _ => (.sub (by repeat (first | exact List.Sublist.refl _ | apply List.Sublist.cons)))) ?_
        rintro b31 -
        refine b_one 4 (by kernel_rfl) ?_
        refine b_h rfl (.none rfl) (h_append rfl rfl rfl Try.underlying27 info45 rfl rfl Sel.here rfl ((RdS.own (.there (.there Sel.here))).take j) (by simp [sortR_len]; omega) (fun z hz => enc_len (List.mem_of_mem_take hz)) (fun z hz => enc_all (List.mem_of_mem_take hz)) (by omega) (by omega)) (fun _ _ => (.sub (by repeat (first | exact List.Sublist.refl _ | apply List.Sublist.cons)))) ?_
        rintro ⟨A35, c35⟩ -
        refine b_one 10 (by kernel_rfl) ?_
        refine b_h rfl (.none rfl) (h_append rfl rfl rfl Try.underlying27 info45 rfl rfl Sel.here rfl (.own (.there Sel.here)) rfl (all1 rfl) (all1 rfl) (by omega) (by omega)) (fun _ _ => (.sub (by repeat (first | exact List.Sublist.refl _ | apply List.Sublist.cons)))) ?_
        rintro ⟨A41, c41⟩ -
        refine b_q (i := 11) rfl (by kernel_rfl) (.none rfl) rfl rfl (q_assign rfl rfl) ?_
        refine b_nil (by kernel_rfl) ?_
        refine run_sub (subMk (.cons (s := 0) rfl (.cons (s := 2) rfl (.cons (s := 3) rfl (.cons (s := 4) rfl (.cons (s := 5) rfl (.cons (s := 6) rfl .nil)))))) .refl) ?_
        refine run_region ?_
        refine run_q (.none rfl) rfl rfl (q_move rfl rfl) ?_
        refine run_q (.none rfl) rfl rfl (q_move rfl rfl) ?_
        refine run_q (.none rfl) rfl rfl (q_move rfl rfl) ?_
        refine run_q (.none rfl) rfl rfl (q_sliceL rfl Try.underlying27 sz45 rfl rfl (by omega)) ?_
        refine run_h (.none rfl) (h_append rfl rfl rfl Try.underlying27 info45 rfl rfl Sel.here rfl ((RdS.own (.there (.there Sel.here))).cut (l := j) (c := co) (by rw [List.length_map, sortR_len]; exact hle)) (by simp [sortR_len]) (fun z hz => enc_len (List.mem_of_mem_drop hz)) (fun z hz => enc_all (List.mem_of_mem_drop hz)) (by omega) (by omega)) ?_
        rintro ⟨A46, c46⟩ -
        refine run_q (.none rfl) rfl rfl (q_assign rfl rfl) ?_
        refine run_nil ?_
        refine run_sub (subMk (.cons (s := 0) rfl (.cons (s := 2) rfl (.cons (s := 3) rfl (.cons (s := 4) rfl .nil)))) .refl) ?_
        refine run_blk ?_
        refine run_region ?_
        refine run_q (.none rfl) rfl rfl (q_move rfl rfl) ?_
        refine run_q (.none rfl) rfl rfl (q_add rfl rfl rfl (by omega)) ?_
        refine run_q (.none rfl) rfl rfl (q_assign rfl rfl) ?_
        refine run_nil ?_
        exact run_again (i + 1, A46, c46) (by (try dsimp only); exact (by omega)) (by (try dsimp only); omega) (subMk (.cons' (s := 4) rfl rfl (.cons' (s := 3) rfl (by congr 1; omega) (.cons (s := 0) rfl (.cons (s := 2) rfl .nil)))) (.cons Sel.here (.own rfl (by omega) rfl (by rw [sortR, insR, sortR_len, hpe]; simp [List.map_take, List.map_drop, vlist, Tup.enc])) .nil))
  · have g10' := g10
    try simp only [decide_eq_true_eq, decide_eq_false_iff_not, beq_iff_eq, beq_eq_false_iff_ne, bne_iff_ne, bne_eq_false_iff_eq, Bool.not_eq_true', Bool.not_eq_false', ne_eq, Int.not_lt, Int.not_le, Decidable.not_not] at g10'
    refine run_exit rfl ?_
    refine run_sub (subMk (.cons (s := 2) rfl (.cons (s := 3) rfl .nil)) .refl) ?_
    refine run_seq ?_
    refine run_region ?_
    refine run_q (.none rfl) rfl rfl (q_move rfl rfl) ?_
    refine run_q (.none rfl) rfl rfl (q_assign rfl rfl) ?_
    refine run_nil ?_
    refine run_ret ?_
    refine run_sub (subMk .refl (.cons Sel.here .refl .nil)) ?_
    exact end1 rfl rfl ⟨O, co, by rw [show i = l.length from by omega], by rw [show i = l.length from by omega]⟩

theorem same_sort (a : List Tup) (A B : Option Addr) (ca cb : Nat) (W : World) (hr : Rd W A 4 ((sortR a a.length).map Tup.enc)) (hr2 : Rd W B 4 ((sortR a a.length).map Tup.enc)) (hl : a.length ≤ 1000000) : Calls Try.prog 28 #[.slice A a.length ca, .slice B a.length cb] W (Just W (.bool true)) := by
  have h := same_just (sortR a a.length) (sortR a a.length) A B ca cb W hr hr2 (by rw [sortR_len]; exact hl)
  rw [sortR_len, eqL_refl] at h
  exact h
theorem lequal_sort (a : List Tup) (A B : Option Addr) (ca cb : Nat) (W : World) (hr : Rd W A 4 ((sortR a a.length).map Tup.enc)) (hr2 : Rd W B 4 ((sortR a a.length).map Tup.enc)) (hl : a.length ≤ 1000000) : Calls Try.prog 32 #[.slice A a.length ca, .slice B a.length cb] W (Just W (.bool true)) := by
  have h := lequal_just (sortR a a.length) (sortR a a.length) A B ca cb W hr hr2 (by rw [sortR_len]; exact hl)
  rw [sortR_len, eqL_refl] at h
  exact h
theorem lequal_tail (a : List Tup) (A : Option Addr) (ca : Nat) (W : World) (hr : Rd W A 4 (a.map Tup.enc)) (hl : a.length ≤ 1000000) (hc : a.length ≤ ca) (h0 : 0 < a.length) : Calls Try.prog 32 #[.slice A a.length ca, .slice (cutA A 1 ca 4) (a.length - 1) (ca - 1)] W (Just W (.bool false)) := by
  have h := lequal_just a (a.drop 1) A (cutA A 1 ca 4) ca (ca - 1) W hr (by rw [List.map_drop]; exact hr.cut (by simpa using hc)) hl
  rw [List.length_drop, eqL_len (by simp; omega)] at h
  exact h

theorem law10_at (l l2 : List Tup) (A B : Option Addr) (ca cb : Nat) (W : World) (hr0 : Rd W A 4 (l.map Tup.enc)) (hr2 : Rd W B 4 (l2.map Tup.enc)) (hca : l.length ≤ ca) (hcb : l2.length ≤ cb) (a : List Tup) (ha : a = l.take 20) (b : List Tup) (hb : b = l2.take 20) : Calls Try.prog 10 #[.slice A l.length ca, .slice B l2.length cb] W (Hr.Just W (.bool true)) := by
  have hra := rd_take (enc := Tup.enc) hr0 ha
  have hla : a.length = min l.length 20 := by rw [ha]; simp [Nat.min_comm]
  have hrb := rd_take (enc := Tup.enc) hr2 hb
  have hlb : b.length = min l2.length 20 := by rw [hb]; simp [Nat.min_comm]
  have hac : a.length ≤ ca := by omega
  refine Just.of_ret ?_
  refine enterA (X := nX) (vs := [.slice A l.length ca, .slice B l2.length cb]) Try.func10 Try.ntmps10 rfl rfl Mem.nil ?_
  refine run_seq ?_
  refine run_region ?_
  refine run_q (.none rfl) rfl rfl (q_assign rfl rfl) ?_
  refine run_nil ?_
  refine run_seq ?_
  refine run_draw [(0, 0), (1, 0), (2, 0), (3, 0), (4, 0), (5, 0), (6, 0), (7, 0), (8, 0), (9, 0), (10, 0), (11, 0)] mixed (by kernel_rfl) .refl ?_
  refine d_q rfl rfl (.none rfl) rfl rfl (q_move rfl rfl) ?_
  refine d_q rfl rfl (.none rfl) rfl rfl (q_move rfl rfl) ?_
  refine d_q rfl rfl (.none rfl) rfl rfl (q_len rfl Try.underlying22 rfl) ?_
  refine d_q rfl rfl (.none rfl) rfl rfl (q_min2 rfl rfl rfl) ?_
  refine d_q rfl rfl (.none rfl) rfl rfl (q_sliceH rfl Try.underlying22 sz46 rfl rfl (by omega)) ?_
  refine d_q rfl rfl (.none rfl) rfl rfl (q_move rfl rfl) ?_
  refine d_q rfl rfl (.none rfl) rfl rfl (q_move rfl rfl) ?_
  refine d_q rfl rfl (.none rfl) rfl rfl (q_len rfl Try.underlying22 rfl) ?_
  refine d_q rfl rfl (.none rfl) rfl rfl (q_min2 rfl rfl rfl) ?_
  refine d_q rfl rfl (.none rfl) rfl rfl (q_sliceH rfl Try.underlying22 sz46 rfl rfl (by omega)) ?_
  refine d_q rfl rfl (.none rfl) rfl rfl (q_assign rfl rfl) ?_
  refine d_q rfl rfl (.none rfl) rfl rfl (q_assign rfl rfl) ?_
  refine d_nil ?_
  refine run_sub (subMk (.cons (s := 0) rfl (.cons (s := 1) rfl (.cons (s := 4) rfl .nil))) .refl) ?_
  refine run_seq ?_
  refine run_sub (subMk (.cons' (s := 0) (v' := .slice A a.length ca) rfl (by rw [hla]; congr 1; omega) (.cons' (s := 1) (v' := .slice B b.length cb) rfl (by rw [hlb]; congr 1; omega) (.cons (s := 4) rfl .nil))) .refl) ?_
  refine run_region ?_
  refine run_q (.none rfl) rfl rfl (q_move rfl rfl) ?_
  refine run_h (.none rfl) (h_call rfl rfl rfl call30 (.cons rfl Evs.nil) (fun w hk hm => canonical_ret a A ca w (hra.kept0 hk) (by omega))) ?_
  rintro ⟨v, m⟩ ⟨O17, co17, rfl, rfl⟩
  show Run _ _ _ _ _ _ _ ⟨(17, .slice O17 a.length co17) :: _, _ :: _⟩
  refine run_q (.none rfl) rfl rfl (q_assign rfl rfl) ?_
  refine run_nil ?_
  refine run_seq ?_
  refine run_region ?_
  refine run_q (.none rfl) rfl rfl (q_call rfl call12 Evs.nil (fun w hk hm => known_just w)) ?_
  refine run_q (.none rfl) rfl rfl (q_move rfl rfl) ?_
  refine run_q (.on rfl rfl rfl rfl) rfl rfl (q_move rfl rfl) ?_
  refine run_q (.on rfl rfl rfl rfl) rfl rfl (q_move rfl rfl) ?_
  refine run_h (.on rfl rfl rfl rfl) (h_call rfl rfl rfl call15 (.cons rfl Evs.nil) (fun w hk hm => to_ret a A ca w (hra.kept0 hk) (by omega))) ?_
  rintro ⟨v, m⟩ ⟨O22, co22, rfl, rfl⟩
  show Run _ _ _ _ _ _ _ ⟨(22, .slice O22 a.length co22) :: _, _ :: _⟩
  refine run_h (.on rfl rfl rfl rfl) (h_call rfl rfl rfl call31 (.cons rfl Evs.nil) (fun w hk hm => refsort_ret a O22 co22 w (own_rd (Sel.here.holds hm)) (by omega))) ?_
  rintro ⟨v, m⟩ ⟨O23, co23, rfl, rfl⟩
  show Run _ _ _ _ _ _ _ ⟨(23, .slice O23 a.length co23) :: _, _ :: _⟩
  refine run_q (.on rfl rfl rfl rfl) rfl rfl (q_call rfl call28 (.cons rfl (.cons rfl Evs.nil)) (fun w hk hm => same_sort a O17 O23 co17 co23 w (own_rd ((Sel.there (Sel.there Sel.here)).holds hm)) (own_rd (Sel.here.holds hm)) (by omega))) ?_
  refine run_q (.none rfl) rfl rfl (q_pickT rfl rfl rfl rfl) ?_
  refine run_q (.none rfl) rfl rfl (q_move rfl rfl) ?_
  refine run_q (.on rfl rfl rfl rfl) rfl rfl (q_move rfl rfl) ?_
  refine run_q (.on rfl rfl rfl rfl) rfl rfl (q_move rfl rfl) ?_
  refine run_q (.on rfl rfl rfl rfl) rfl rfl (q_call rfl call32 (.cons rfl (.cons rfl Evs.nil)) (fun w hk hm => lequal_just a b A B ca cb w (hra.kept0 hk) (hrb.kept0 hk) (by omega))) ?_
  refine run_q (.on rfl rfl rfl rfl) rfl rfl (q_move rfl rfl) ?_
  refine run_q (.on rfl rfl rfl rfl) rfl rfl (q_move rfl rfl) ?_
  refine run_h (.on rfl rfl rfl rfl) (h_call rfl rfl rfl call15 (.cons rfl Evs.nil) (fun w hk hm => to_ret b B cb w (hrb.kept0 hk) (by omega))) ?_
  rintro ⟨v, m⟩ ⟨O32, co32, rfl, rfl⟩
  show Run _ _ _ _ _ _ _ ⟨(32, .slice O32 b.length co32) :: _, _ :: _⟩
  refine run_q (.on rfl rfl rfl rfl) rfl rfl (q_call rfl call28 (.cons rfl (.cons rfl Evs.nil)) (fun w hk hm => same_just a b A O32 ca co32 w (hra.kept0 hk) (own_rd (Sel.here.holds hm)) (by omega))) ?_
  refine run_q (.on rfl rfl rfl rfl) rfl rfl (q_eqlB rfl rfl rfl Try.underlying4) ?_
  refine run_q (.none rfl) rfl rfl (q_pickT rfl rfl rfl rfl) ?_
  refine run_q (.none rfl) rfl rfl (q_move rfl rfl) ?_
  refine run_q (.on rfl rfl rfl (by simp)) rfl rfl (q_move rfl rfl) ?_
  refine run_q (.on rfl rfl rfl (by simp)) rfl rfl (q_move rfl rfl) ?_
  refine run_q (.on rfl rfl rfl (by simp)) rfl rfl (q_call rfl call32 (.cons rfl (.cons rfl Evs.nil)) (fun w hk hm => lequal_sort a O17 O17 co17 co17 w (own_rd ((Sel.there (Sel.there (Sel.there Sel.here))).holds hm)) (own_rd ((Sel.there (Sel.there (Sel.there Sel.here))).holds hm)) (by omega))) ?_
  refine run_q (.none rfl) rfl rfl (q_pickT rfl rfl (by simp) rfl) ?_
  refine run_q (.none rfl) rfl rfl (q_move rfl rfl) ?_
  refine run_q (.on rfl rfl rfl rfl) rfl rfl (q_move rfl rfl) ?_
  refine run_q (.on rfl rfl rfl rfl) rfl rfl (q_len rfl Try.underlying22 rfl) ?_
  refine run_q (.on rfl rfl rfl rfl) rfl rfl (q_eql rfl rfl rfl) ?_
  refine run_q (.on rfl rfl rfl rfl) rfl rfl (q_move rfl rfl) ?_
  refine run_split 45 rfl (fun g45 => ?_) (fun g45 => ?_)
  · have g45' := g45
    try simp only [decide_eq_true_eq, decide_eq_false_iff_not, beq_iff_eq, beq_eq_false_iff_ne, bne_iff_ne, bne_eq_false_iff_eq, Bool.not_eq_true', Bool.not_eq_false', ne_eq, Int.not_lt, Int.not_le, Decidable.not_not] at g45'
    refine run_off (.no rfl rfl rfl g45) rfl rfl ?_
    refine run_off (.no rfl rfl rfl g45) rfl rfl ?_
    refine run_off (.no rfl rfl rfl g45) rfl rfl ?_
    refine run_off (.no rfl rfl rfl g45) rfl rfl ?_
    refine run_off (.no rfl rfl rfl g45) rfl rfl ?_
    refine run_q (.on rfl rfl rfl rfl) rfl rfl (q_pickT rfl rfl g45 rfl) ?_
    refine run_q (.none rfl) rfl rfl (q_pickT rfl rfl rfl rfl) ?_
    refine run_q (.none rfl) rfl rfl (q_assign rfl rfl) ?_
    refine run_nil ?_
    refine run_sub (subMk (.cons (s := 4) rfl .nil) .refl) ?_
    refine run_ret ?_
    exact end1 rfl rfl (by simp [*])
  · have g45' := g45
    try simp only [decide_eq_true_eq, decide_eq_false_iff_not, beq_iff_eq, beq_eq_false_iff_ne, bne_iff_ne, bne_eq_false_iff_eq, Bool.not_eq_true', Bool.not_eq_false', ne_eq, Int.not_lt, Int.not_le, Decidable.not_not] at g45'
    refine run_q (.on rfl rfl rfl g45) rfl rfl (q_move rfl rfl) ?_
    refine run_q (.on rfl rfl rfl g45) rfl rfl (q_move rfl rfl) ?_
    refine run_q (.on rfl rfl rfl g45) rfl rfl (q_sliceL rfl Try.underlying22 sz46 rfl rfl (by omega)) ?_
    refine run_q (.on rfl rfl rfl g45) rfl rfl (q_call rfl call32 (.cons rfl (.cons rfl Evs.nil)) (fun w hk hm => lequal_tail a A ca w (hra.kept0 hk) (by omega) hac (by omega))) ?_
    refine run_q (.on rfl rfl rfl g45) rfl rfl (q_not rfl rfl) ?_
    refine run_q (.on rfl rfl rfl rfl) rfl rfl (q_pickF rfl rfl g45 rfl) ?_
    refine run_q (.none rfl) rfl rfl (q_pickT rfl rfl rfl rfl) ?_
    refine run_q (.none rfl) rfl rfl (q_assign rfl rfl) ?_
    refine run_nil ?_
    refine run_sub (subMk (.cons (s := 4) rfl .nil) .refl) ?_
    refine run_ret ?_
    exact end1 rfl rfl rfl

theorem law10_just (l l2 : List Tup) (A B : Option Addr) (ca cb : Nat) (W : World) (hr0 : Rd W A 4 (l.map Tup.enc)) (hr2 : Rd W B 4 (l2.map Tup.enc)) (hca : l.length ≤ ca) (hcb : l2.length ≤ cb) : Calls Try.prog 10 #[.slice A l.length ca, .slice B l2.length cb] W (Just W (.bool true)) := law10_at l l2 A B ca cb W hr0 hr2 hca hcb _ rfl _ rfl

end Go.Proofs.Yticofkkkafhpiaa
