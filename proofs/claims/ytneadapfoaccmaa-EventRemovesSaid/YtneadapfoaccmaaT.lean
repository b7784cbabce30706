/- The law on canonical forms. -/
import Derived.Test.YtneadapfoaccmaaR
set_option linter.unusedSimpArgs false
set_option linter.unusedVariables false
namespace Go.Proofs.Ytneadapfoaccmaa
open Go Go.RowKit Hr

theorem call26 : Hr.Callable Try.prog 26 := fun args w => by kernel_rfl
theorem call25 : Hr.Callable Try.prog 25 := fun args w => by kernel_rfl

set_option maxHeartbeats 4000000 in
set_option maxRecDepth 100000 in
theorem law5_in (x : Evt) (p : Lie) (W : World) (hx : RdE W x p) (hc1 : x.hs.length ≤ p.hc) (hc2 : x.gs.length ≤ p.gc) (ha : x.n.art ≤ 9223372036854775807) (hk9 : 1 ≤ x.n.kind ∧ x.n.kind ≤ 4) : Calls Try.prog 5 #[evV x p] W (Hr.Just W (.bool true)) := by
  have hSh : Rd W p.HA 5 ((short x).hs.map Hd.enc) := rd_takeE hx.h
  have hSg : Rd W p.GA 5 ((short x).gs.map Gr.enc) := rd_takeE hx.g
  have fS := short_few ha
  have fC := can_few fS
  have h20 : (short x).hs.length ≤ 20 := by rw [short_hs]; omega
  have h20c : (canE (short x)).hs.length ≤ 20 := Nat.le_trans (canE_hs _) h20
  refine Just.of_ret ?_
  refine enterA (X := nX) (vs := [evV x p]) Try.func5 Try.ntmps5 rfl rfl Mem.nil ?_
  refine run_seq ?_
  refine run_region ?_
  refine run_h (.none rfl) (h_box rfl rfl rfl rfl rfl) ?_
  rintro b1 -
  refine run_q (.none rfl) rfl rfl (q_assign rfl rfl) ?_
  refine run_nil ?_
  refine run_seq ?_
  refine run_region ?_
  refine run_q (.none rfl) rfl rfl (q_loadBN rfl agg30 rfl Sel.here (.cons rfl (.cons rfl (.cons rfl (.cons rfl (.cons rfl (.cons rfl (.cons rfl (.cons rfl (.cons rfl (.cons rfl (.cons rfl (.cons rfl (.cons rfl CellsAt.nil))))))))))))) rfl) ?_
  refine run_h (.none rfl) (h_call rfl rfl rfl call13 (.cons rfl Evs.nil) (fun w hk hm => short_ret x p w (hx.kept0 hk) hc1 hc2)) ?_
  rintro ⟨v, m⟩ ⟨O, co, rfl, rfl⟩
  show Run _ _ _ _ _ _ _ ⟨(5, evV (short x) ⟨p.HA, p.hc, p.GA, p.gc, O, co⟩) :: _, _ :: _⟩
  refine run_h (.none rfl) (h_storeB rfl rfl sz30 rfl rfl rfl rfl rfl (.there Sel.here) rfl) ?_
  rintro - -
  refine run_nil ?_
  refine run_sub (subMk (.cons (s := 1) rfl (.cons (s := 2) rfl .nil)) .refl) ?_
  refine run_seq ?_
  refine run_region ?_
  refine run_q (.none rfl) rfl rfl (q_loadBN rfl agg30 rfl Sel.here (.cons rfl (.cons rfl (.cons rfl (.cons rfl (.cons rfl (.cons rfl (.cons rfl (.cons rfl (.cons rfl (.cons rfl (.cons rfl (.cons rfl (.cons rfl CellsAt.nil))))))))))))) rfl) ?_
  refine run_h (.none rfl) (h_call rfl rfl rfl call24 (.cons rfl Evs.nil) (fun w hk hm => canonical_ret (short x) (Lie.mk p.HA p.hc p.GA p.gc O co) w ⟨hSh.kept0 hk, hSg.kept0 hk, (own_rd ((Sel.there Sel.here).holds hm))⟩ fS h20)) ?_
  rintro ⟨v, m⟩ ⟨q, rfl, rfl⟩
  show Run _ _ _ _ _ _ _ ⟨(7, evV (canE (short x)) q) :: _, _ :: _ :: _ :: _⟩
  refine run_h (.none rfl) (h_alloc rfl rfl rfl info30) ?_
  rintro b3 -
  refine run_h (.none rfl) (h_storeB rfl rfl sz30 rfl rfl rfl rfl rfl Sel.here rfl) ?_
  rintro - -
  refine run_nil ?_
  refine run_seq ?_
  refine run_ownLe (.there (.there (.there (.there (.there Sel.here))))) (fun hle => ?_)
  refine run_fork mixed (by kernel_rfl) .refl ?_
  refine b_q (i := 0) rfl (by kernel_rfl) (.none rfl) rfl rfl (q_call rfl call14 Evs.nil (fun w hk hm => known_just w)) ?_
  refine b_q (i := 1) rfl (by kernel_rfl) (.none rfl) rfl rfl (q_move rfl rfl) ?_
  refine b_q (i := 2) rfl (by kernel_rfl) (.on rfl rfl rfl rfl) rfl rfl (q_loadBN rfl agg30 rfl Sel.here (.cons rfl (.cons rfl (.cons rfl (.cons rfl (.cons rfl (.cons rfl (.cons rfl (.cons rfl (.cons rfl (.cons rfl (.cons rfl (.cons rfl (.cons rfl CellsAt.nil))))))))))))) rfl) ?_
  refine b_q (i := 3) rfl (by kernel_rfl) (.on rfl rfl rfl rfl) rfl rfl (q_loadBN rfl agg30 rfl (.there (.there (.there (.there Sel.here)))) (.cons rfl (.cons rfl (.cons rfl (.cons rfl (.cons rfl (.cons rfl (.cons rfl (.cons rfl (.cons rfl (.cons rfl (.cons rfl (.cons rfl (.cons rfl CellsAt.nil))))))))))))) rfl) ?_
  refine b_one 4 (by kernel_rfl) ?_
  refine b_hN rfl (.on rfl rfl rfl rfl) (h_call rfl rfl rfl call26 (.cons rfl Evs.nil) (fun w hk hm => refcanon_in (short x) (Lie.mk p.HA p.hc p.GA p.gc O co) w ⟨hSh.kept0 hk, hSg.kept0 hk, (own_rd ((Sel.there (Sel.there (Sel.there (Sel.there (Sel.there Sel.here))))).holds hm))⟩ fS hk9 hle)) (fun _ _ => (.sub (List.sublist_append_right _ _))) ?_
  rintro ⟨v, m⟩ ⟨Or, cor, rfl, rfl⟩
  show RunB _ _ _ _ _ _ _ _ _ _ _ ⟨(12, evV (canE (short x)) ⟨Or, cor, (stripP (short x) (Lie.mk p.HA p.hc p.GA p.gc O co)).GA, (stripP (short x) (Lie.mk p.HA p.hc p.GA p.gc O co)).gc, (stripP (short x) (Lie.mk p.HA p.hc p.GA p.gc O co)).LA, (stripP (short x) (Lie.mk p.HA p.hc p.GA p.gc O co)).lc⟩) :: _, _ :: _⟩
  refine b_q (i := 5) rfl (by kernel_rfl) (.on rfl rfl rfl rfl) rfl rfl (q_call rfl call25 (.cons rfl (.cons rfl Evs.nil)) (fun w hk hm => refequal_just (canE (short x)) (canE (short x)) q ⟨Or, cor, (stripP (short x) (Lie.mk p.HA p.hc p.GA p.gc O co)).GA, (stripP (short x) (Lie.mk p.HA p.hc p.GA p.gc O co)).gc, (stripP (short x) (Lie.mk p.HA p.hc p.GA p.gc O co)).LA, (stripP (short x) (Lie.mk p.HA p.hc p.GA p.gc O co)).lc⟩ w ⟨(own_rd ((Sel.there (Sel.there Sel.here)).holds hm)), (own_rd ((Sel.there (Sel.there (Sel.there Sel.here))).holds hm)), (own_rd ((Sel.there (Sel.there (Sel.there (Sel.there Sel.here)))).holds hm))⟩ ((show RdE w (short x) (Lie.mk p.HA p.hc p.GA p.gc O co) from ⟨hSh.kept0 hk, hSg.kept0 hk, (own_rd ((Sel.there (Sel.there (Sel.there (Sel.there (Sel.there (Sel.there Sel.here)))))).holds hm))⟩).can hk9 (own_rd (Sel.here.holds hm))) fC fC)) ?_
  refine b_q (i := 6) rfl (by kernel_rfl) (.none rfl) rfl rfl (q_pickT rfl rfl rfl rfl) ?_
  refine b_q (i := 7) rfl (by kernel_rfl) (.none rfl) rfl rfl (q_move rfl rfl) ?_
  refine b_q (i := 8) rfl (by kernel_rfl) (.on rfl rfl rfl (decide_eq_true (equalP_refl _))) rfl rfl (q_loadBN rfl agg30 rfl (.there Sel.here) (.cons rfl (.cons rfl (.cons rfl (.cons rfl (.cons rfl (.cons rfl (.cons rfl (.cons rfl (.cons rfl (.cons rfl (.cons rfl (.cons rfl (.cons rfl CellsAt.nil))))))))))))) rfl) ?_
  refine b_q (i := 10) rfl (by kernel_rfl) (.on rfl rfl rfl (decide_eq_true (equalP_refl _))) rfl rfl (q_loadBN rfl agg30 rfl (.there Sel.here) (.cons rfl (.cons rfl (.cons rfl (.cons rfl (.cons rfl (.cons rfl (.cons rfl (.cons rfl (.cons rfl (.cons rfl (.cons rfl (.cons rfl (.cons rfl CellsAt.nil))))))))))))) rfl) ?_
  refine b_one 9 (by kernel_rfl) ?_
  refine b_hN rfl (.on rfl rfl rfl (decide_eq_true (equalP_refl _))) (h_call rfl rfl rfl call24 (.cons rfl Evs.nil) (fun w hk hm => canonical_ret (canE (short x)) q w ⟨(own_rd ((Sel.there (Sel.there Sel.here)).holds hm)), (own_rd ((Sel.there (Sel.there (Sel.there Sel.here))).holds hm)), (own_rd ((Sel.there (Sel.there (Sel.there (Sel.there Sel.here)))).holds hm))⟩ fC h20c)) (fun _ _ => (.sub (List.sublist_append_right _ _))) ?_
  rintro ⟨v, m⟩ ⟨q2, rfl, rfl⟩
  show RunB _ _ _ _ _ _ _ _ _ _ _ ⟨(17, evV (canE (canE (short x))) q2) :: _, _ :: _ :: _ :: _⟩
  refine b_q (i := 11) rfl (by kernel_rfl) (.on rfl rfl rfl (decide_eq_true (equalP_refl _))) rfl rfl (q_call rfl call25 (.cons rfl (.cons rfl Evs.nil)) (fun w hk hm => refequal_just (canE (canE (short x))) (canE (short x)) q2 q w ⟨(own_rd (Sel.here.holds hm)), (own_rd ((Sel.there Sel.here).holds hm)), (own_rd ((Sel.there (Sel.there Sel.here)).holds hm))⟩ ⟨(own_rd ((Sel.there (Sel.there (Sel.there (Sel.there (Sel.there Sel.here))))).holds hm)), (own_rd ((Sel.there (Sel.there (Sel.there (Sel.there (Sel.there (Sel.there Sel.here)))))).holds hm)), (own_rd ((Sel.there (Sel.there (Sel.there (Sel.there (Sel.there (Sel.there (Sel.there Sel.here))))))).holds hm))⟩ (can_few fC) fC)) ?_
  refine b_q (i := 12) rfl (by kernel_rfl) (.none rfl) rfl rfl (q_pickT rfl rfl (decide_eq_true (equalP_refl _)) rfl) ?_
  refine b_q (i := 13) rfl (by kernel_rfl) (.none rfl) rfl rfl (q_move rfl rfl) ?_
  refine b_q (i := 14) rfl (by kernel_rfl) (.on rfl rfl rfl (decide_eq_true (by rw [canE_idem]; exact equalP_refl _))) rfl rfl (q_loadBN rfl agg30 rfl (.there (.there (.there (.there (.there (.there (.there (.there Sel.here)))))))) (.cons rfl (.cons rfl (.cons rfl (.cons rfl (.cons rfl (.cons rfl (.cons rfl (.cons rfl (.cons rfl (.cons rfl (.cons rfl (.cons rfl (.cons rfl CellsAt.nil))))))))))))) rfl) ?_
  refine b_q (i := 15) rfl (by kernel_rfl) (.on rfl rfl rfl (decide_eq_true (by rw [canE_idem]; exact equalP_refl _))) rfl rfl (q_call rfl call16 (.cons rfl Evs.nil) (fun w hk hm => refCheck_just (short x) (Lie.mk p.HA p.hc p.GA p.gc O co) w ⟨hSh.kept0 hk, hSg.kept0 hk, (own_rd ((Sel.there (Sel.there (Sel.there (Sel.there (Sel.there (Sel.there (Sel.there (Sel.there (Sel.there Sel.here))))))))).holds hm))⟩ fS)) ?_
  refine b_q (i := 16) rfl (by kernel_rfl) (.on rfl rfl rfl (decide_eq_true (by rw [canE_idem]; exact equalP_refl _))) rfl rfl (q_neq rfl rfl rfl) ?_
  refine b_q (i := 17) rfl (by kernel_rfl) (.on rfl rfl rfl (decide_eq_true (by rw [canE_idem]; exact equalP_refl _))) rfl rfl (q_move rfl rfl) ?_
  refine b_split 25 rfl (fun g25 => ?_) (fun g25 => ?_)
  · have g25' := g25
    try simp only [decide_eq_true_eq, decide_eq_false_iff_not, beq_iff_eq, beq_eq_false_iff_ne, bne_iff_ne, bne_eq_false_iff_eq, Bool.not_eq_true', Bool.not_eq_false', ne_eq, Int.not_lt, Int.not_le, Decidable.not_not] at g25'
    refine b_off (i := 18) rfl (by kernel_rfl) (.no rfl rfl rfl g25) rfl rfl ?_
    refine b_off (i := 19) rfl (by kernel_rfl) (.no rfl rfl rfl g25) rfl rfl ?_
    refine b_off (i := 20) rfl (by kernel_rfl) (.no rfl rfl rfl g25) rfl rfl ?_
    refine b_q (i := 21) rfl (by kernel_rfl) (.on rfl rfl rfl (decide_eq_true (by rw [canE_idem]; exact equalP_refl _))) rfl rfl (q_pickT rfl rfl g25 rfl) ?_
    refine b_q (i := 22) rfl (by kernel_rfl) (.none rfl) rfl rfl (q_pickT rfl rfl (decide_eq_true (by rw [canE_idem]; exact equalP_refl _)) rfl) ?_
    refine b_q (i := 23) rfl (by kernel_rfl) (.none rfl) rfl rfl (q_assign rfl rfl) ?_
    refine b_nil (by kernel_rfl) ?_
    refine run_sub (subMk (.cons (s := 2) rfl .nil) .refl) ?_
    refine run_ret ?_
    exact end1 rfl rfl rfl
  · have g25' := g25
    try simp only [decide_eq_true_eq, decide_eq_false_iff_not, beq_iff_eq, beq_eq_false_iff_ne, bne_iff_ne, bne_eq_false_iff_eq, Bool.not_eq_true', Bool.not_eq_false', ne_eq, Int.not_lt, Int.not_le, Decidable.not_not] at g25'
    refine b_q (i := 18) rfl (by kernel_rfl) (.on rfl rfl rfl g25) rfl rfl (q_loadBN rfl agg30 rfl (.there (.there (.there (.there Sel.here)))) (.cons rfl (.cons rfl (.cons rfl (.cons rfl (.cons rfl (.cons rfl (.cons rfl (.cons rfl (.cons rfl (.cons rfl (.cons rfl (.cons rfl (.cons rfl CellsAt.nil))))))))))))) rfl) ?_
    refine b_q (i := 19) rfl (by kernel_rfl) (.on rfl rfl rfl g25) rfl rfl (q_loadBN rfl agg30 rfl (.there (.there (.there (.there (.there (.there (.there (.there Sel.here)))))))) (.cons rfl (.cons rfl (.cons rfl (.cons rfl (.cons rfl (.cons rfl (.cons rfl (.cons rfl (.cons rfl (.cons rfl (.cons rfl (.cons rfl (.cons rfl CellsAt.nil))))))))))))) rfl) ?_
    refine b_q (i := 20) rfl (by kernel_rfl) (.on rfl rfl rfl g25) rfl rfl (q_call rfl call25 (.cons rfl (.cons rfl Evs.nil)) (fun w hk hm => refequal_just (canE (short x)) (short x) q (Lie.mk p.HA p.hc p.GA p.gc O co) w ⟨(own_rd ((Sel.there (Sel.there (Sel.there (Sel.there (Sel.there Sel.here))))).holds hm)), (own_rd ((Sel.there (Sel.there (Sel.there (Sel.there (Sel.there (Sel.there Sel.here)))))).holds hm)), (own_rd ((Sel.there (Sel.there (Sel.there (Sel.there (Sel.there (Sel.there (Sel.there Sel.here))))))).holds hm))⟩ ⟨hSh.kept0 hk, hSg.kept0 hk, (own_rd ((Sel.there (Sel.there (Sel.there (Sel.there (Sel.there (Sel.there (Sel.there (Sel.there (Sel.there Sel.here))))))))).holds hm))⟩ fC fS)) ?_
    refine b_q (i := 21) rfl (by kernel_rfl) (.on rfl rfl rfl (decide_eq_true (by rw [canE_idem]; exact equalP_refl _))) rfl rfl (q_pickF rfl rfl g25 rfl) ?_
    refine b_q (i := 22) rfl (by kernel_rfl) (.none rfl) rfl rfl (q_pickT rfl rfl (decide_eq_true (by rw [canE_idem]; exact equalP_refl _)) rfl) ?_
    refine b_q (i := 23) rfl (by kernel_rfl) (.none rfl) rfl rfl (q_assign rfl rfl) ?_
    refine b_nil (by kernel_rfl) ?_
    refine run_sub (subMk (.cons (s := 2) rfl .nil) .refl) ?_
    refine run_ret ?_
    exact end1 rfl rfl (congrArg Value.bool (decide_eq_true (canE_own (by simpa using g25))))

set_option maxHeartbeats 4000000 in
set_option maxRecDepth 100000 in
theorem law5_out (x : Evt) (p : Lie) (W : World) (hx : RdE W x p) (hc1 : x.hs.length ≤ p.hc) (hc2 : x.gs.length ≤ p.gc) (ha : x.n.art ≤ 9223372036854775807) (hk9 : x.n.kind < 1 ∨ 4 < x.n.kind) : Calls Try.prog 5 #[evV x p] W (Hr.Just W (.bool true)) := by
  have hSh : Rd W p.HA 5 ((short x).hs.map Hd.enc) := rd_takeE hx.h
  have hSg : Rd W p.GA 5 ((short x).gs.map Gr.enc) := rd_takeE hx.g
  have fS := short_few ha
  have fC := can_few fS
  have h20 : (short x).hs.length ≤ 20 := by rw [short_hs]; omega
  have h20c : (canE (short x)).hs.length ≤ 20 := Nat.le_trans (canE_hs _) h20
  refine Just.of_ret ?_
  refine enterA (X := nX) (vs := [evV x p]) Try.func5 Try.ntmps5 rfl rfl Mem.nil ?_
  refine run_seq ?_
  refine run_region ?_
  refine run_h (.none rfl) (h_box rfl rfl rfl rfl rfl) ?_
  rintro b1 -
  refine run_q (.none rfl) rfl rfl (q_assign rfl rfl) ?_
  refine run_nil ?_
  refine run_seq ?_
  refine run_region ?_
  refine run_q (.none rfl) rfl rfl (q_loadBN rfl agg30 rfl Sel.here (.cons rfl (.cons rfl (.cons rfl (.cons rfl (.cons rfl (.cons rfl (.cons rfl (.cons rfl (.cons rfl (.cons rfl (.cons rfl (.cons rfl (.cons rfl CellsAt.nil))))))))))))) rfl) ?_
  refine run_h (.none rfl) (h_call rfl rfl rfl call13 (.cons rfl Evs.nil) (fun w hk hm => short_ret x p w (hx.kept0 hk) hc1 hc2)) ?_
  rintro ⟨v, m⟩ ⟨O, co, rfl, rfl⟩
  show Run _ _ _ _ _ _ _ ⟨(5, evV (short x) ⟨p.HA, p.hc, p.GA, p.gc, O, co⟩) :: _, _ :: _⟩
  refine run_h (.none rfl) (h_storeB rfl rfl sz30 rfl rfl rfl rfl rfl (.there Sel.here) rfl) ?_
  rintro - -
  refine run_nil ?_
  refine run_sub (subMk (.cons (s := 1) rfl (.cons (s := 2) rfl .nil)) .refl) ?_
  refine run_seq ?_
  refine run_region ?_
  refine run_q (.none rfl) rfl rfl (q_loadBN rfl agg30 rfl Sel.here (.cons rfl (.cons rfl (.cons rfl (.cons rfl (.cons rfl (.cons rfl (.cons rfl (.cons rfl (.cons rfl (.cons rfl (.cons rfl (.cons rfl (.cons rfl CellsAt.nil))))))))))))) rfl) ?_
  refine run_h (.none rfl) (h_call rfl rfl rfl call24 (.cons rfl Evs.nil) (fun w hk hm => canonical_ret (short x) (Lie.mk p.HA p.hc p.GA p.gc O co) w ⟨hSh.kept0 hk, hSg.kept0 hk, (own_rd ((Sel.there Sel.here).holds hm))⟩ fS h20)) ?_
  rintro ⟨v, m⟩ ⟨q, rfl, rfl⟩
  show Run _ _ _ _ _ _ _ ⟨(7, evV (canE (short x)) q) :: _, _ :: _ :: _ :: _⟩
  refine run_h (.none rfl) (h_alloc rfl rfl rfl info30) ?_
  rintro b3 -
  refine run_h (.none rfl) (h_storeB rfl rfl sz30 rfl rfl rfl rfl rfl Sel.here rfl) ?_
  rintro - -
  refine run_nil ?_
  refine run_seq ?_
  refine run_ownLe (.there (.there (.there (.there (.there Sel.here))))) (fun hle => ?_)
  refine run_fork mixed (by kernel_rfl) .refl ?_
  refine b_q (i := 0) rfl (by kernel_rfl) (.none rfl) rfl rfl (q_call rfl call14 Evs.nil (fun w hk hm => known_just w)) ?_
  refine b_q (i := 1) rfl (by kernel_rfl) (.none rfl) rfl rfl (q_move rfl rfl) ?_
  refine b_q (i := 2) rfl (by kernel_rfl) (.on rfl rfl rfl rfl) rfl rfl (q_loadBN rfl agg30 rfl Sel.here (.cons rfl (.cons rfl (.cons rfl (.cons rfl (.cons rfl (.cons rfl (.cons rfl (.cons rfl (.cons rfl (.cons rfl (.cons rfl (.cons rfl (.cons rfl CellsAt.nil))))))))))))) rfl) ?_
  refine b_q (i := 3) rfl (by kernel_rfl) (.on rfl rfl rfl rfl) rfl rfl (q_loadBN rfl agg30 rfl (.there (.there (.there (.there Sel.here)))) (.cons rfl (.cons rfl (.cons rfl (.cons rfl (.cons rfl (.cons rfl (.cons rfl (.cons rfl (.cons rfl (.cons rfl (.cons rfl (.cons rfl (.cons rfl CellsAt.nil))))))))))))) rfl) ?_
  refine b_q (i := 4) rfl (by kernel_rfl) (.on rfl rfl rfl rfl) rfl rfl (q_call rfl call26 (.cons rfl Evs.nil) (fun w hk hm => refcanon_out (short x) (Lie.mk p.HA p.hc p.GA p.gc O co) w ⟨hSh.kept0 hk, hSg.kept0 hk, (own_rd ((Sel.there (Sel.there (Sel.there (Sel.there (Sel.there Sel.here))))).holds hm))⟩ fS hk9)) ?_
  refine b_q (i := 5) rfl (by kernel_rfl) (.on rfl rfl rfl rfl) rfl rfl (q_call rfl call25 (.cons rfl (.cons rfl Evs.nil)) (fun w hk hm => refequal_just (canE (short x)) (canE (short x)) q (Lie.mk p.HA p.hc p.GA p.gc O co) w ⟨(own_rd ((Sel.there Sel.here).holds hm)), (own_rd ((Sel.there (Sel.there Sel.here)).holds hm)), (own_rd ((Sel.there (Sel.there (Sel.there Sel.here))).holds hm))⟩ (by rw [canE_out (x := short x) hk9]; exact ⟨hSh.kept0 hk, hSg.kept0 hk, (own_rd ((Sel.there (Sel.there (Sel.there (Sel.there (Sel.there Sel.here))))).holds hm))⟩) fC fC)) ?_
  refine b_q (i := 6) rfl (by kernel_rfl) (.none rfl) rfl rfl (q_pickT rfl rfl rfl rfl) ?_
  refine b_q (i := 7) rfl (by kernel_rfl) (.none rfl) rfl rfl (q_move rfl rfl) ?_
  refine b_q (i := 8) rfl (by kernel_rfl) (.on rfl rfl rfl (decide_eq_true (equalP_refl _))) rfl rfl (q_loadBN rfl agg30 rfl Sel.here (.cons rfl (.cons rfl (.cons rfl (.cons rfl (.cons rfl (.cons rfl (.cons rfl (.cons rfl (.cons rfl (.cons rfl (.cons rfl (.cons rfl (.cons rfl CellsAt.nil))))))))))))) rfl) ?_
  refine b_q (i := 10) rfl (by kernel_rfl) (.on rfl rfl rfl (decide_eq_true (equalP_refl _))) rfl rfl (q_loadBN rfl agg30 rfl Sel.here (.cons rfl (.cons rfl (.cons rfl (.cons rfl (.cons rfl (.cons rfl (.cons rfl (.cons rfl (.cons rfl (.cons rfl (.cons rfl (.cons rfl (.cons rfl CellsAt.nil))))))))))))) rfl) ?_
  refine b_one 9 (by kernel_rfl) ?_
  refine b_hN rfl (.on rfl rfl rfl (decide_eq_true (equalP_refl _))) (h_call rfl rfl rfl call24 (.cons rfl Evs.nil) (fun w hk hm => canonical_ret (canE (short x)) q w ⟨(own_rd ((Sel.there Sel.here).holds hm)), (own_rd ((Sel.there (Sel.there Sel.here)).holds hm)), (own_rd ((Sel.there (Sel.there (Sel.there Sel.here))).holds hm))⟩ fC h20c)) (fun _ _ => (.sub (List.sublist_append_right _ _))) ?_
  rintro ⟨v, m⟩ ⟨q2, rfl, rfl⟩
  show RunB _ _ _ _ _ _ _ _ _ _ _ ⟨(17, evV (canE (canE (short x))) q2) :: _, _ :: _ :: _ :: _⟩
  refine b_q (i := 11) rfl (by kernel_rfl) (.on rfl rfl rfl (decide_eq_true (equalP_refl _))) rfl rfl (q_call rfl call25 (.cons rfl (.cons rfl Evs.nil)) (fun w hk hm => refequal_just (canE (canE (short x))) (canE (short x)) q2 q w ⟨(own_rd (Sel.here.holds hm)), (own_rd ((Sel.there Sel.here).holds hm)), (own_rd ((Sel.there (Sel.there Sel.here)).holds hm))⟩ ⟨(own_rd ((Sel.there (Sel.there (Sel.there (Sel.there Sel.here)))).holds hm)), (own_rd ((Sel.there (Sel.there (Sel.there (Sel.there (Sel.there Sel.here))))).holds hm)), (own_rd ((Sel.there (Sel.there (Sel.there (Sel.there (Sel.there (Sel.there Sel.here)))))).holds hm))⟩ (can_few fC) fC)) ?_
  refine b_q (i := 12) rfl (by kernel_rfl) (.none rfl) rfl rfl (q_pickT rfl rfl (decide_eq_true (equalP_refl _)) rfl) ?_
  refine b_q (i := 13) rfl (by kernel_rfl) (.none rfl) rfl rfl (q_move rfl rfl) ?_
  refine b_q (i := 14) rfl (by kernel_rfl) (.on rfl rfl rfl (decide_eq_true (by rw [canE_idem]; exact equalP_refl _))) rfl rfl (q_loadBN rfl agg30 rfl (.there (.there (.there (.there (.there (.there (.there Sel.here))))))) (.cons rfl (.cons rfl (.cons rfl (.cons rfl (.cons rfl (.cons rfl (.cons rfl (.cons rfl (.cons rfl (.cons rfl (.cons rfl (.cons rfl (.cons rfl CellsAt.nil))))))))))))) rfl) ?_
  refine b_q (i := 15) rfl (by kernel_rfl) (.on rfl rfl rfl (decide_eq_true (by rw [canE_idem]; exact equalP_refl _))) rfl rfl (q_call rfl call16 (.cons rfl Evs.nil) (fun w hk hm => refCheck_just (short x) (Lie.mk p.HA p.hc p.GA p.gc O co) w ⟨hSh.kept0 hk, hSg.kept0 hk, (own_rd ((Sel.there (Sel.there (Sel.there (Sel.there (Sel.there (Sel.there (Sel.there (Sel.there Sel.here)))))))).holds hm))⟩ fS)) ?_
  refine b_q (i := 16) rfl (by kernel_rfl) (.on rfl rfl rfl (decide_eq_true (by rw [canE_idem]; exact equalP_refl _))) rfl rfl (q_neq rfl rfl rfl) ?_
  refine b_q (i := 17) rfl (by kernel_rfl) (.on rfl rfl rfl (decide_eq_true (by rw [canE_idem]; exact equalP_refl _))) rfl rfl (q_move rfl rfl) ?_
  refine b_split 25 rfl (fun g25 => ?_) (fun g25 => ?_)
  · have g25' := g25
    try simp only [decide_eq_true_eq, decide_eq_false_iff_not, beq_iff_eq, beq_eq_false_iff_ne, bne_iff_ne, bne_eq_false_iff_eq, Bool.not_eq_true', Bool.not_eq_false', ne_eq, Int.not_lt, Int.not_le, Decidable.not_not] at g25'
    refine b_off (i := 18) rfl (by kernel_rfl) (.no rfl rfl rfl g25) rfl rfl ?_
    refine b_off (i := 19) rfl (by kernel_rfl) (.no rfl rfl rfl g25) rfl rfl ?_
    refine b_off (i := 20) rfl (by kernel_rfl) (.no rfl rfl rfl g25) rfl rfl ?_
    refine b_q (i := 21) rfl (by kernel_rfl) (.on rfl rfl rfl (decide_eq_true (by rw [canE_idem]; exact equalP_refl _))) rfl rfl (q_pickT rfl rfl g25 rfl) ?_
    refine b_q (i := 22) rfl (by kernel_rfl) (.none rfl) rfl rfl (q_pickT rfl rfl (decide_eq_true (by rw [canE_idem]; exact equalP_refl _)) rfl) ?_
    refine b_q (i := 23) rfl (by kernel_rfl) (.none rfl) rfl rfl (q_assign rfl rfl) ?_
    refine b_nil (by kernel_rfl) ?_
    refine run_sub (subMk (.cons (s := 2) rfl .nil) .refl) ?_
    refine run_ret ?_
    exact end1 rfl rfl rfl
  · have g25' := g25
    try simp only [decide_eq_true_eq, decide_eq_false_iff_not, beq_iff_eq, beq_eq_false_iff_ne, bne_iff_ne, bne_eq_false_iff_eq, Bool.not_eq_true', Bool.not_eq_false', ne_eq, Int.not_lt, Int.not_le, Decidable.not_not] at g25'
    refine b_q (i := 18) rfl (by kernel_rfl) (.on rfl rfl rfl g25) rfl rfl (q_loadBN rfl agg30 rfl (.there (.there (.there Sel.here))) (.cons rfl (.cons rfl (.cons rfl (.cons rfl (.cons rfl (.cons rfl (.cons rfl (.cons rfl (.cons rfl (.cons rfl (.cons rfl (.cons rfl (.cons rfl CellsAt.nil))))))))))))) rfl) ?_
    refine b_q (i := 19) rfl (by kernel_rfl) (.on rfl rfl rfl g25) rfl rfl (q_loadBN rfl agg30 rfl (.there (.there (.there (.there (.there (.there (.there Sel.here))))))) (.cons rfl (.cons rfl (.cons rfl (.cons rfl (.cons rfl (.cons rfl (.cons rfl (.cons rfl (.cons rfl (.cons rfl (.cons rfl (.cons rfl (.cons rfl CellsAt.nil))))))))))))) rfl) ?_
    refine b_q (i := 20) rfl (by kernel_rfl) (.on rfl rfl rfl g25) rfl rfl (q_call rfl call25 (.cons rfl (.cons rfl Evs.nil)) (fun w hk hm => refequal_just (canE (short x)) (short x) q (Lie.mk p.HA p.hc p.GA p.gc O co) w ⟨(own_rd ((Sel.there (Sel.there (Sel.there (Sel.there Sel.here)))).holds hm)), (own_rd ((Sel.there (Sel.there (Sel.there (Sel.there (Sel.there Sel.here))))).holds hm)), (own_rd ((Sel.there (Sel.there (Sel.there (Sel.there (Sel.there (Sel.there Sel.here)))))).holds hm))⟩ ⟨hSh.kept0 hk, hSg.kept0 hk, (own_rd ((Sel.there (Sel.there (Sel.there (Sel.there (Sel.there (Sel.there (Sel.there (Sel.there Sel.here)))))))).holds hm))⟩ fC fS)) ?_
    refine b_q (i := 21) rfl (by kernel_rfl) (.on rfl rfl rfl (decide_eq_true (by rw [canE_idem]; exact equalP_refl _))) rfl rfl (q_pickF rfl rfl g25 rfl) ?_
    refine b_q (i := 22) rfl (by kernel_rfl) (.none rfl) rfl rfl (q_pickT rfl rfl (decide_eq_true (by rw [canE_idem]; exact equalP_refl _)) rfl) ?_
    refine b_q (i := 23) rfl (by kernel_rfl) (.none rfl) rfl rfl (q_assign rfl rfl) ?_
    refine b_nil (by kernel_rfl) ?_
    refine run_sub (subMk (.cons (s := 2) rfl .nil) .refl) ?_
    refine run_ret ?_
    exact end1 rfl rfl (congrArg Value.bool (decide_eq_true (canE_own (by simpa using g25))))

theorem law5_just (x : Evt) (p : Lie) (W : World) (hx : RdE W x p) (hc1 : x.hs.length ≤ p.hc) (hc2 : x.gs.length ≤ p.gc) (ha : x.n.art ≤ 9223372036854775807) : Calls Try.prog 5 #[evV x p] W (Just W (.bool true)) := by
  by_cases h : 1 ≤ x.n.kind ∧ x.n.kind ≤ 4
  · exact law5_in x p W hx hc1 hc2 ha h
  · exact law5_out x p W hx hc1 hc2 ha (by omega)

end Go.Proofs.Ytneadapfoaccmaa
