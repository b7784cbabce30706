/- The law on events made. -/
import Derived.Test.YtneadapfoaccmaaT
set_option linter.unusedSimpArgs false
set_option linter.unusedVariables false
namespace Go.Proofs.Ytneadapfoaccmaa
open Go Go.RowKit Hr

theorem call33 : Hr.Callable Try.prog 33 := fun args w => by kernel_rfl

set_option maxRecDepth 100000 in
theorem rest_just (a b lg d : Int) (W : World)  : Calls Try.prog 33 #[.agg #[.int .i64 a, .int .i64 b], .agg #[.int .i64 lg, .int .i64 d]] W (Hr.Just W (evV (restX a b lg d) noL)) := by
  refine Just.of_ret ?_
  refine enterA (X := nX) (vs := [.agg #[.int .i64 a, .int .i64 b], .agg #[.int .i64 lg, .int .i64 d]]) Try.func33 Try.ntmps33 rfl rfl Mem.nil ?_
  refine run_seq ?_
  refine run_region ?_
  refine run_h (.none rfl) (h_box rfl rfl rfl rfl rfl) ?_
  rintro b2 -
  refine run_h (.none rfl) (h_box rfl rfl rfl rfl rfl) ?_
  rintro b3 -
  refine run_h (.none rfl) (h_alloc rfl rfl rfl info30) ?_
  rintro b4 -
  refine run_nil ?_
  refine run_seq ?_
  refine run_region ?_
  refine run_q (.none rfl) rfl rfl (q_loadBN rfl agg23 rfl (.there (.there Sel.here)) (.cons rfl (.cons rfl CellsAt.nil)) rfl) ?_
  refine run_q (.none rfl) rfl rfl (q_loadBN rfl agg25 rfl (.there Sel.here) (.cons rfl (.cons rfl CellsAt.nil)) rfl) ?_
  refine run_q (.none rfl) rfl rfl (q_build rfl (.cons rfl (.cons rfl (.cons rfl PV.nil))) (built30p0p1p2 _ _ _ _ _)) ?_
  refine run_h (.none rfl) (h_storeB rfl rfl sz30 rfl rfl rfl rfl rfl Sel.here rfl) ?_
  rintro - -
  refine run_nil ?_
  refine run_sub (subMk (.cons (s := 4) rfl .nil) .refl) ?_
  refine run_ret ?_
  exact endG rfl (.cellN rfl agg30 Sel.here (.cons rfl (.cons rfl (.cons rfl (.cons rfl (.cons rfl (.cons rfl (.cons rfl (.cons rfl (.cons rfl (.cons rfl (.cons rfl (.cons rfl (.cons rfl CellsAt.nil))))))))))))) rfl Outs.nil) _ .nil rfl

set_option maxHeartbeats 4000000 in
set_option maxRecDepth 100000 in
theorem law8_just (a b lg d : Int) (l : List Pit) (P : Option Addr) (pc : Nat) (W : World) (hp : Rd W P 3 (l.map Pit.enc)) (hpc : l.length ≤ pc) (ps : List Pit) (hps0 : ps = l.take 12) : Calls Try.prog 8 #[.agg #[.int .i64 a, .int .i64 b], .agg #[.int .i64 lg, .int .i64 d], .slice P l.length pc] W (Hr.Just W (.bool true)) := by
  have hps : Rd W P 3 (ps.map Pit.enc) := by rw [hps0]; exact rd_takeE hp
  have hpl : ps.length = min l.length 12 := by rw [hps0]; simp [Nat.min_comm]
  refine Just.of_ret ?_
  refine enterA (X := nX) (vs := [.agg #[.int .i64 a, .int .i64 b], .agg #[.int .i64 lg, .int .i64 d], .slice P l.length pc]) Try.func8 Try.ntmps8 rfl rfl Mem.nil ?_
  refine run_seq ?_
  refine run_region ?_
  refine run_h (.none rfl) (h_box rfl rfl rfl rfl rfl) ?_
  rintro b3 -
  refine run_h (.none rfl) (h_box rfl rfl rfl rfl rfl) ?_
  rintro b4 -
  refine run_q (.none rfl) rfl rfl (q_assign rfl rfl) ?_
  refine run_nil ?_
  refine run_seq ?_
  refine run_region ?_
  refine run_q (.none rfl) rfl rfl (q_move rfl rfl) ?_
  refine run_q (.none rfl) rfl rfl (q_move rfl rfl) ?_
  refine run_q (.none rfl) rfl rfl (q_len rfl Try.underlying58 rfl) ?_
  refine run_q (.none rfl) rfl rfl (q_min2 rfl rfl rfl) ?_
  refine run_q (.none rfl) rfl rfl (q_sliceH rfl Try.underlying58 sz51 rfl rfl (by omega)) ?_
  refine run_q (.none rfl) rfl rfl (q_assign rfl rfl) ?_
  refine run_nil ?_
  refine run_sub (subMk (.cons (s := 2) rfl (.cons (s := 3) rfl (.cons (s := 4) rfl (.cons (s := 6) rfl .nil)))) .refl) ?_
  refine run_seq ?_
  refine run_sub (subMk (.cons' (s := 2) (v' := .slice P ps.length pc) rfl (by rw [hpl]; congr 1; omega) (.cons (s := 3) rfl (.cons (s := 4) rfl (.cons (s := 6) rfl .nil)))) .refl) ?_
  refine run_region ?_
  refine run_q (.none rfl) rfl rfl (q_loadBN rfl agg23 rfl (.there Sel.here) (.cons rfl (.cons rfl CellsAt.nil)) rfl) ?_
  refine run_q (.none rfl) rfl rfl (q_loadBN rfl agg25 rfl Sel.here (.cons rfl (.cons rfl CellsAt.nil)) rfl) ?_
  refine run_q (.none rfl) rfl rfl (q_build rfl (.cons rfl (.cons rfl (.cons rfl PV.nil))) (built30p0p1p2 _ _ _ _ _)) ?_
  refine run_h (.none rfl) (h_alloc rfl rfl rfl info30) ?_
  rintro b7 -
  refine run_h (.none rfl) (h_storeB rfl rfl sz30 rfl rfl rfl rfl rfl Sel.here rfl) ?_
  rintro - -
  refine run_nil ?_
  refine run_sub (subMk (.cons (s := 2) rfl (.cons (s := 3) rfl (.cons (s := 4) rfl (.cons (s := 6) rfl (.cons (s := 7) rfl .nil))))) .refl) ?_
  refine run_seq ?_
  refine run_seq ?_
  refine run_region ?_
  refine run_q (.none rfl) rfl rfl (q_assign rfl rfl) ?_
  refine run_nil ?_
  refine run_block ?_
  refine run_sub (subMk .refl (MemSub.nilOwn 53 5)) ?_
  refine run_sub (subMk (.cons (s := 8) rfl (.cons (s := 2) rfl (.cons (s := 3) rfl (.cons (s := 4) rfl (.cons (s := 6) rfl (.cons (s := 7) rfl .nil)))))) (.cons (.there Sel.here) .refl (.cons Sel.here .refl (.cons Sel.here .refl (.cons Sel.here .refl .nil))))) ?_
  refine run_loopC1M2 (ι := Nat × (Option Addr) × Nat) (fun gg => gg.1 ≤ ps.length ∧ True) (fun gg => .int .i64 (gg.1 : Int)) (fun gg => .blk b7 30 [(0, .int .i64 a), (1, .int .i64 b), (2, .int .i64 1), (3, .int .i64 lg), (4, .int .i64 d), (5, .slice gg.2.1 gg.1 gg.2.2), (6, .slice none 0 0), (7, .int .i64 0), (8, .int .i64 0), (9, .int .i64 0), (10, .slice none 0 0), (11, .int .i64 0), (12, .int .i64 0)]) (fun gg => .own 53 5 gg.2.1 gg.1 gg.2.2 (((ps.take gg.1).map hdOf).map Hd.enc)) (fun gg => ps.length - gg.1) (0, none, 0) (by (try dsimp only); exact ⟨by omega, trivial⟩) rfl (.blk (.cons (s := 0) rfl (.cons (s := 1) rfl (.cons (s := 2) rfl (.cons (s := 3) rfl (.cons (s := 4) rfl (.cons (s := 5) rfl (.cons (s := 6) rfl (.cons (s := 7) rfl (.cons (s := 8) rfl (.cons (s := 9) rfl (.cons (s := 10) rfl (.cons (s := 11) rfl (.cons (s := 12) rfl (.nil))))))))))))))) (.own rfl rfl rfl rfl) ?_
  rintro ⟨k, O, co⟩ hq
  (try dsimp only at hq)
  obtain ⟨hk, -⟩ := hq
  show Run _ _ _ _ _ _ _ ⟨(8, .int .i64 (k : Int)) :: _, .blk b7 30 [(0, .int .i64 a), (1, .int .i64 b), (2, .int .i64 1), (3, .int .i64 lg), (4, .int .i64 d), (5, .slice O k co), (6, .slice none 0 0), (7, .int .i64 0), (8, .int .i64 0), (9, .int .i64 0), (10, .slice none 0 0), (11, .int .i64 0), (12, .int .i64 0)] :: .own 53 5 O k co (((ps.take k).map hdOf).map Hd.enc) :: _⟩
  refine run_seq ?_
  refine run_seq ?_
  refine run_region ?_
  refine run_q (.none rfl) rfl rfl (q_move rfl rfl) ?_
  refine run_q (.none rfl) rfl rfl (q_move rfl rfl) ?_
  refine run_q (.none rfl) rfl rfl (q_len rfl Try.underlying58 rfl) ?_
  refine run_q (.none rfl) rfl rfl (q_lss rfl rfl rfl) ?_
  refine run_nil ?_
  refine run_sub (subMk (.cons (s := 2) rfl (.cons (s := 3) rfl (.cons (s := 4) rfl (.cons (s := 6) rfl (.cons (s := 7) rfl (.cons (s := 8) rfl (.cons (s := 20) rfl .nil))))))) .refl) ?_
  refine run_cond rfl (fun g20 => ?_) (fun g20 => ?_)
  · have g20' := g20
    try simp only [decide_eq_true_eq, decide_eq_false_iff_not, beq_iff_eq, beq_eq_false_iff_ne, bne_iff_ne, bne_eq_false_iff_eq, Bool.not_eq_true', Bool.not_eq_false', ne_eq, Int.not_lt, Int.not_le, Decidable.not_not] at g20'
    have hkl : k < ps.length := by omega
    refine run_skip ?_
    refine run_seq ?_
    refine run_block ?_
    refine run_draw [(0, 0), (1, 0), (2, 0), (3, 0), (4, 0), (5, 0), (6, 0), (7, 1), (8, 2), (9, 2), (10, 2)] mixed (by kernel_rfl) .refl ?_
    refine d_q rfl rfl (.none rfl) rfl rfl (q_fieldB (d := 5) rfl Try.underlying30 rfl rfl sz26 rfl) ?_
    refine d_q rfl rfl (.none rfl) rfl rfl (q_loadB rfl one26 rfl Sel.here rfl) ?_
    refine d_q rfl rfl (.none rfl) rfl rfl (q_move rfl rfl) ?_
    refine d_q rfl rfl (.none rfl) rfl rfl (q_move rfl rfl) ?_
    refine d_q rfl rfl (.none rfl) rfl rfl (q_indexS (q := k) rfl Try.underlying58 sz51 rfl rfl (.inp hps .no) (by simp <;> omega) rfl (by omega)) ?_
    refine d_q rfl rfl (.none rfl) rfl rfl (q_loadE rfl agg51 rfl (.inp hps .no) (getmap (by omega)) rfl) ?_
    refine d_q rfl rfl (.none rfl) rfl rfl (q_build rfl (.cons rfl PV.nil) (built53p0 _ _ _)) ?_
    refine d_h rfl rfl (.none rfl) (h_buildSlice rfl rfl rfl Try.underlying26 info53 (.cons rfl rfl rfl rfl Parts.nil) rfl (by omega)) (fun _ _ => (.sub (by repeat (first | exact List.Sublist.refl _ | apply List.Sublist.cons)))) ?_
    rintro b30 -
    refine d_t rfl rfl (.none rfl) (h_append rfl rfl rfl Try.underlying26 info53 rfl rfl (.there (.there Sel.here)) rfl (.own Sel.here) rfl (all1 rfl) (all1 rfl) (by omega) (by omega)) ?_
    rintro ⟨A31, c31⟩ -
    refine d_t rfl rfl (.none rfl) (.of_q rfl rfl (q_fieldB (d := 5) rfl Try.underlying30 rfl rfl sz26 rfl)) ?_
    rintro - -
    refine d_t rfl rfl (.none rfl) (h_storeB rfl rfl sz26 rfl rfl rfl rfl rfl (.there (.there Sel.here)) rfl) ?_
    rintro - -
    refine d_nil ?_
    refine run_sub (subMk (.cons (s := 2) rfl (.cons (s := 3) rfl (.cons (s := 4) rfl (.cons (s := 6) rfl (.cons (s := 7) rfl (.cons (s := 8) rfl .nil)))))) .refl) ?_
    refine run_blk ?_
    refine run_region ?_
    refine run_q (.none rfl) rfl rfl (q_move rfl rfl) ?_
    refine run_q (.none rfl) rfl rfl (q_add rfl rfl rfl (by omega)) ?_
    refine run_q (.none rfl) rfl rfl (q_assign rfl rfl) ?_
    refine run_nil ?_
    exact run_again (k + 1, A31, c31) (by (try dsimp only); exact ⟨by omega, trivial⟩) (by (try dsimp only); omega) (subMk (.cons' (s := 8) rfl (vint (by omega)) (.cons (s := 2) rfl (.cons (s := 3) rfl (.cons (s := 4) rfl (.cons (s := 6) rfl (.cons (s := 7) rfl .nil)))))) (.cons Sel.here (.blk (.cons (s := 0) rfl (.cons (s := 1) rfl (.cons (s := 2) rfl (.cons (s := 3) rfl (.cons (s := 4) rfl (.cons (s := 5) rfl (.cons (s := 6) rfl (.cons (s := 7) rfl (.cons (s := 8) rfl (.cons (s := 9) rfl (.cons (s := 10) rfl (.cons (s := 11) rfl (.cons (s := 12) rfl (.nil))))))))))))))) (.cons Sel.here (.own rfl rfl rfl (by rw [take_nth hkl, List.map_append, List.map_append]; rfl)) (.cons (.there Sel.here) .refl (.cons (.there Sel.here) .refl .nil)))))
  · have g20' := g20
    try simp only [decide_eq_true_eq, decide_eq_false_iff_not, beq_iff_eq, beq_eq_false_iff_ne, bne_iff_ne, bne_eq_false_iff_eq, Bool.not_eq_true', Bool.not_eq_false', ne_eq, Int.not_lt, Int.not_le, Decidable.not_not] at g20'
    refine run_exit rfl ?_
    refine run_seq ?_
    refine run_sub (subMk .refl (.cons Sel.here (.blk (.cons (s := 0) rfl (.cons (s := 1) rfl (.cons (s := 2) rfl (.cons (s := 3) rfl (.cons (s := 4) rfl (.cons' (s := 5) (v' := .slice O (chordX a b lg d ps).hs.length co) rfl (by rw [show k = ps.length from by omega]; simp [chordX]) (.cons (s := 6) rfl (.cons (s := 7) rfl (.cons (s := 8) rfl (.cons (s := 9) rfl (.cons (s := 10) rfl (.cons (s := 11) rfl (.cons (s := 12) rfl (.nil))))))))))))))) (.cons Sel.here (.own (m' := (chordX a b lg d ps).hs.length) (xs' := (chordX a b lg d ps).hs.map Hd.enc) rfl (by rw [show k = ps.length from by omega]; simp [chordX]) rfl (by rw [show k = ps.length from by omega, List.take_of_length_le (Nat.le_refl _)]; rfl)) (.cons Sel.here .refl (.cons Sel.here .refl .nil))))) ?_
    refine run_fork mixed (by kernel_rfl) .refl ?_
    refine b_q (i := 0) rfl (by kernel_rfl) (.none rfl) rfl rfl (q_call rfl call14 Evs.nil (fun w hk hm => known_just w)) ?_
    refine b_q (i := 1) rfl (by kernel_rfl) (.none rfl) rfl rfl (q_move rfl rfl) ?_
    refine b_q (i := 2) rfl (by kernel_rfl) (.on rfl rfl rfl rfl) rfl rfl (q_loadBN rfl agg23 rfl (.there (.there (.there Sel.here))) (.cons rfl (.cons rfl CellsAt.nil)) rfl) ?_
    refine b_q (i := 3) rfl (by kernel_rfl) (.on rfl rfl rfl rfl) rfl rfl (q_loadBN rfl agg25 rfl (.there (.there Sel.here)) (.cons rfl (.cons rfl CellsAt.nil)) rfl) ?_
    refine b_q (i := 4) rfl (by kernel_rfl) (.on rfl rfl rfl rfl) rfl rfl (q_call rfl call33 (.cons rfl (.cons rfl Evs.nil)) (fun w hk hm => rest_just a b lg d w)) ?_
    refine b_q (i := 5) rfl (by kernel_rfl) (.on rfl rfl rfl rfl) rfl rfl (q_loadBN rfl agg23 rfl (.there (.there (.there Sel.here))) (.cons rfl (.cons rfl CellsAt.nil)) rfl) ?_
    refine b_q (i := 6) rfl (by kernel_rfl) (.on rfl rfl rfl rfl) rfl rfl (q_loadBN rfl agg25 rfl (.there (.there Sel.here)) (.cons rfl (.cons rfl CellsAt.nil)) rfl) ?_
    refine b_q (i := 7) rfl (by kernel_rfl) (.on rfl rfl rfl rfl) rfl rfl (q_build rfl (.cons rfl (.cons rfl (.cons rfl PV.nil))) (built30p0p1p2 _ _ _ _ _)) ?_
    refine b_q (i := 8) rfl (by kernel_rfl) (.on rfl rfl rfl rfl) rfl rfl (q_call rfl call25 (.cons rfl (.cons rfl Evs.nil)) (fun w hk hm => refequal_just (restX a b lg d) (restX a b lg d) noL noL w noRd noRd (zero_few _ (show (0 : Int) ≤ 9223372036854775807 by decide)) (zero_few _ (show (0 : Int) ≤ 9223372036854775807 by decide)))) ?_
    refine b_q (i := 9) rfl (by kernel_rfl) (.none rfl) rfl rfl (q_pickT rfl rfl rfl rfl) ?_
    refine b_q (i := 10) rfl (by kernel_rfl) (.none rfl) rfl rfl (q_move rfl rfl) ?_
    refine b_q (i := 11) rfl (by kernel_rfl) (.on rfl rfl rfl (decide_eq_true (equalP_refl _))) rfl rfl (q_loadBN rfl agg23 rfl (.there (.there (.there Sel.here))) (.cons rfl (.cons rfl CellsAt.nil)) rfl) ?_
    refine b_q (i := 12) rfl (by kernel_rfl) (.on rfl rfl rfl (decide_eq_true (equalP_refl _))) rfl rfl (q_loadBN rfl agg25 rfl (.there (.there Sel.here)) (.cons rfl (.cons rfl CellsAt.nil)) rfl) ?_
    refine b_q (i := 13) rfl (by kernel_rfl) (.on rfl rfl rfl (decide_eq_true (equalP_refl _))) rfl rfl (q_move rfl rfl) ?_
    refine b_q (i := 15) rfl (by kernel_rfl) (.on rfl rfl rfl (decide_eq_true (equalP_refl _))) rfl rfl (q_loadBN rfl agg30 rfl Sel.here (.cons rfl (.cons rfl (.cons rfl (.cons rfl (.cons rfl (.cons rfl (.cons rfl (.cons rfl (.cons rfl (.cons rfl (.cons rfl (.cons rfl (.cons rfl CellsAt.nil))))))))))))) rfl) ?_
    refine b_one 14 (by kernel_rfl) ?_
    refine b_hN rfl (.on rfl rfl rfl (decide_eq_true (equalP_refl _))) (h_call rfl rfl rfl call34 (.cons rfl (.cons rfl (.cons rfl Evs.nil))) (fun w hk hm => chord_ret a b lg d ps P pc w (hps.kept0 hk) (by omega))) (fun _ _ => (.sub (List.sublist_append_right _ _))) ?_
    rintro ⟨v, m⟩ ⟨q, rfl, rfl⟩
    show RunB _ _ _ _ _ _ _ _ _ _ _ ⟨(47, evV (canE (chordX a b lg d ps)) q) :: _, _ :: _ :: _ :: _⟩
    refine b_one 16 (by kernel_rfl) ?_
    refine b_hN rfl (.on rfl rfl rfl (decide_eq_true (equalP_refl _))) (h_call rfl rfl rfl call26 (.cons rfl Evs.nil) (fun w hk hm => refcanon_in (chordX a b lg d ps) ⟨O, co, none, 0, none, 0⟩ w (show RdE w (chordX a b lg d ps) ⟨O, co, none, 0, none, 0⟩ from ⟨(own_rd ((Sel.there (Sel.there (Sel.there (Sel.there Sel.here)))).holds hm)), .inl rfl, .inl rfl⟩) (chord_few (by omega)) (by show (1 : Int) ≤ 1 ∧ (1 : Int) ≤ 4; decide) (Nat.le_refl 0))) (fun _ _ => (.sub (List.sublist_append_right _ _))) ?_
    rintro ⟨v, m⟩ ⟨Or, cor, rfl, rfl⟩
    show RunB _ _ _ _ _ _ _ _ _ _ _ ⟨(49, evV (canE (chordX a b lg d ps)) ⟨Or, cor, (stripP (chordX a b lg d ps) ⟨O, co, none, 0, none, 0⟩).GA, (stripP (chordX a b lg d ps) ⟨O, co, none, 0, none, 0⟩).gc, (stripP (chordX a b lg d ps) ⟨O, co, none, 0, none, 0⟩).LA, (stripP (chordX a b lg d ps) ⟨O, co, none, 0, none, 0⟩).lc⟩) :: _, _ :: _⟩
    refine b_q (i := 17) rfl (by kernel_rfl) (.on rfl rfl rfl (decide_eq_true (equalP_refl _))) rfl rfl (q_call rfl call25 (.cons rfl (.cons rfl Evs.nil)) (fun w hk hm => refequal_just (canE (chordX a b lg d ps)) (canE (chordX a b lg d ps)) q ⟨Or, cor, (stripP (chordX a b lg d ps) ⟨O, co, none, 0, none, 0⟩).GA, (stripP (chordX a b lg d ps) ⟨O, co, none, 0, none, 0⟩).gc, (stripP (chordX a b lg d ps) ⟨O, co, none, 0, none, 0⟩).LA, (stripP (chordX a b lg d ps) ⟨O, co, none, 0, none, 0⟩).lc⟩ w ⟨(own_rd ((Sel.there Sel.here).holds hm)), (own_rd ((Sel.there (Sel.there Sel.here)).holds hm)), (own_rd ((Sel.there (Sel.there (Sel.there Sel.here))).holds hm))⟩ ((show RdE w (chordX a b lg d ps) ⟨O, co, none, 0, none, 0⟩ from ⟨(own_rd ((Sel.there (Sel.there (Sel.there (Sel.there (Sel.there Sel.here))))).holds hm)), .inl rfl, .inl rfl⟩).can (by show (1 : Int) ≤ 1 ∧ (1 : Int) ≤ 4; decide) (own_rd (Sel.here.holds hm))) (can_few (chord_few (by omega))) (can_few (chord_few (by omega))))) ?_
    refine b_q (i := 18) rfl (by kernel_rfl) (.none rfl) rfl rfl (q_pickT rfl rfl (decide_eq_true (equalP_refl _)) rfl) ?_
    refine b_q (i := 19) rfl (by kernel_rfl) (.none rfl) rfl rfl (q_assign rfl rfl) ?_
    refine b_nil (by kernel_rfl) ?_
    refine run_sub (subMk (.cons (s := 6) rfl .nil) .refl) ?_
    refine run_ret ?_
    exact end1 rfl rfl (congrArg Value.bool (decide_eq_true (equalP_refl _)))

end Go.Proofs.Ytneadapfoaccmaa
