/- The law on heads put in, where there is an error. -/
import Derived.Test.YtneadapfoaccmaaA2
set_option linter.unusedSimpArgs false
set_option linter.unusedVariables false
namespace Go.Proofs.Ytneadapfoaccmaa
open Go Go.RowKit Hr

theorem call43 : Hr.Callable Try.prog 43 := fun args w => by kernel_rfl

set_option maxHeartbeats 8000000 in
set_option maxRecDepth 100000 in
theorem law12_err (x : Evt) (p : Lie) (h : Hd) (W : World) (hx : RdE W x p) (hc1 : x.hs.length ≤ p.hc) (hc2 : x.gs.length ≤ p.gc) (ha : x.n.art ≤ 9223372036854775807) (he : adE (short x) h ≠ 0) : Calls Try.prog 12 #[evV x p, h.val] W (Hr.Just W (.bool true)) := by
  have hSh : Rd W p.HA 5 ((short x).hs.map Hd.enc) := rd_takeE hx.h
  have hSg : Rd W p.GA 5 ((short x).gs.map Gr.enc) := rd_takeE hx.g
  have fS := short_few ha
  obtain ⟨fs1, fs2, fs3, fs4⟩ := id fS
  refine Just.of_ret ?_
  refine enterA (X := nX) (vs := [evV x p, h.val]) Try.func12 Try.ntmps12 rfl rfl Mem.nil ?_
  refine run_seq ?_
  refine run_region ?_
  refine run_h (.none rfl) (h_box rfl rfl rfl rfl rfl) ?_
  rintro b2 -
  refine run_h (.none rfl) (h_box rfl rfl rfl rfl rfl) ?_
  rintro b3 -
  refine run_q (.none rfl) rfl rfl (q_assign rfl rfl) ?_
  refine run_nil ?_
  refine run_seq ?_
  refine run_region ?_
  refine run_q (.none rfl) rfl rfl (q_loadBN rfl agg30 rfl (.there Sel.here) (.cons rfl (.cons rfl (.cons rfl (.cons rfl (.cons rfl (.cons rfl (.cons rfl (.cons rfl (.cons rfl (.cons rfl (.cons rfl (.cons rfl (.cons rfl CellsAt.nil))))))))))))) rfl) ?_
  refine run_h (.none rfl) (h_call rfl rfl rfl call13 (.cons rfl Evs.nil) (fun w hk hm => short_ret x p w (hx.kept0 hk) hc1 hc2)) ?_
  rintro ⟨v, m⟩ ⟨O, co, rfl, rfl⟩
  show Run _ _ _ _ _ _ _ ⟨(14, evV (short x) ⟨p.HA, p.hc, p.GA, p.gc, O, co⟩) :: _, _ :: _⟩
  refine run_h (.none rfl) (h_storeB rfl rfl sz30 rfl rfl rfl rfl rfl (.there (.there Sel.here)) rfl) ?_
  rintro - -
  refine run_nil ?_
  refine run_sub (subMk (.cons (s := 2) rfl (.cons (s := 3) rfl (.cons (s := 4) rfl .nil))) .refl) ?_
  refine run_seq ?_
  refine run_region ?_
  refine run_q (.none rfl) rfl rfl (q_loadBN rfl agg30 rfl Sel.here (.cons rfl (.cons rfl (.cons rfl (.cons rfl (.cons rfl (.cons rfl (.cons rfl (.cons rfl (.cons rfl (.cons rfl (.cons rfl (.cons rfl (.cons rfl CellsAt.nil))))))))))))) rfl) ?_
  refine run_q (.none rfl) rfl rfl (q_loadBN rfl agg53 rfl (.there (.there Sel.here)) (.cons rfl (.cons rfl (.cons rfl (.cons rfl (.cons rfl CellsAt.nil))))) rfl) ?_
  refine run_q (.none rfl) rfl rfl (q_call rfl call43 (.cons rfl (.cons rfl Evs.nil)) (fun w hk hm => add_err (short x) (Lie.mk p.HA p.hc p.GA p.gc O co) h w ⟨hSh.kept0 hk, hSg.kept0 hk, (own_rd ((Sel.there Sel.here).holds hm))⟩ fS he)) ?_
  refine run_q (.none rfl) rfl rfl (q_move rfl rfl) ?_
  refine run_q (.none rfl) rfl rfl (q_extract rfl rfl rfl) ?_
  refine run_q (.none rfl) rfl rfl (q_extract rfl rfl rfl) ?_
  refine run_h (.none rfl) (h_alloc rfl rfl rfl info30) ?_
  rintro b5 -
  refine run_h (.none rfl) (h_storeB rfl rfl sz30 rfl rfl rfl rfl rfl Sel.here rfl) ?_
  rintro - -
  refine run_q (.none rfl) rfl rfl (q_assign rfl rfl) ?_
  refine run_nil ?_
  refine run_sub (subMk (.cons (s := 2) rfl (.cons (s := 3) rfl (.cons (s := 4) rfl (.cons (s := 5) rfl (.cons (s := 6) rfl .nil))))) .refl) ?_
  refine run_seq ?_
  refine run_seq ?_
  refine run_region ?_
  refine run_q (.none rfl) rfl rfl (q_call rfl call14 Evs.nil (fun w hk hm => known_just w)) ?_
  refine run_q (.none rfl) rfl rfl (q_not rfl rfl) ?_
  refine run_nil ?_
  refine run_condF rfl rfl ?_
  refine run_skip ?_
  refine run_seq ?_
  refine run_region ?_
  refine run_q (.none rfl) rfl rfl (q_assign rfl rfl) ?_
  refine run_nil ?_
  refine run_seq ?_
  refine run_region ?_
  refine run_q (.none rfl) rfl rfl (q_loadBN rfl agg30 rfl (.there Sel.here) (.cons rfl (.cons rfl (.cons rfl (.cons rfl (.cons rfl (.cons rfl (.cons rfl (.cons rfl (.cons rfl (.cons rfl (.cons rfl (.cons rfl (.cons rfl CellsAt.nil))))))))))))) rfl) ?_
  refine run_q (.none rfl) rfl rfl (q_fieldB (d := 0) rfl Try.underlying53 rfl rfl sz51 rfl) ?_
  refine run_q (.none rfl) rfl rfl (q_loadBN rfl agg51 rfl (.there (.there (.there Sel.here))) (.cons rfl (.cons rfl (.cons rfl CellsAt.nil))) rfl) ?_
  refine run_q (.none rfl) rfl rfl (q_call rfl call35 (.cons rfl (.cons rfl Evs.nil)) (fun w hk hm => find_just (short x) (Lie.mk p.HA p.hc p.GA p.gc O co) h.step h.alter h.oct w ⟨hSh.kept0 hk, hSg.kept0 hk, (own_rd ((Sel.there (Sel.there Sel.here)).holds hm))⟩ fS)) ?_
  refine run_q (.none rfl) rfl rfl (q_move rfl rfl) ?_
  refine run_q (.none rfl) rfl rfl (q_extract rfl rfl rfl) ?_
  refine run_q (.none rfl) rfl rfl (q_extract rfl rfl rfl) ?_
  refine run_q (.none rfl) rfl rfl (q_assign rfl rfl) ?_
  refine run_q (.none rfl) rfl rfl (q_assign rfl rfl) ?_
  refine run_nil ?_
  refine run_sub (subMk (.cons (s := 2) rfl (.cons (s := 3) rfl (.cons (s := 4) rfl (.cons (s := 5) rfl (.cons (s := 6) rfl (.cons (s := 7) rfl (.cons (s := 8) rfl (.cons (s := 9) rfl .nil)))))))) .refl) ?_
  refine run_seq ?_
  refine run_block ?_
  refine run_seq ?_
  refine run_region ?_
  refine run_q (.none rfl) rfl rfl (q_loadBN rfl agg30 rfl (.there Sel.here) (.cons rfl (.cons rfl (.cons rfl (.cons rfl (.cons rfl (.cons rfl (.cons rfl (.cons rfl (.cons rfl (.cons rfl (.cons rfl (.cons rfl (.cons rfl CellsAt.nil))))))))))))) rfl) ?_
  refine run_q (.none rfl) rfl rfl (q_call rfl call16 (.cons rfl Evs.nil) (fun w hk hm => refCheck_just (short x) (Lie.mk p.HA p.hc p.GA p.gc O co) w ⟨hSh.kept0 hk, hSg.kept0 hk, (own_rd ((Sel.there (Sel.there Sel.here)).holds hm))⟩ fS)) ?_
  refine run_q (.none rfl) rfl rfl (q_neq rfl rfl rfl) ?_
  refine run_q (.none rfl) rfl rfl (q_assign rfl rfl) ?_
  refine run_nil ?_
  refine run_sub (subMk (.cons (s := 2) rfl (.cons (s := 3) rfl (.cons (s := 4) rfl (.cons (s := 5) rfl (.cons (s := 6) rfl (.cons (s := 7) rfl (.cons (s := 8) rfl (.cons (s := 9) rfl (.cons (s := 30) rfl .nil))))))))) .refl) ?_
  refine run_cond rfl (fun g30 => ?_) (fun g30 => ?_)
  · have g30' := g30
    try simp only [decide_eq_true_eq, decide_eq_false_iff_not, beq_iff_eq, beq_eq_false_iff_ne, bne_iff_ne, bne_eq_false_iff_eq, Bool.not_eq_true', Bool.not_eq_false', ne_eq, Int.not_lt, Int.not_le, Decidable.not_not] at g30'
    refine run_region ?_
    refine run_q (.none rfl) rfl rfl (q_loadBN rfl agg30 rfl (.there Sel.here) (.cons rfl (.cons rfl (.cons rfl (.cons rfl (.cons rfl (.cons rfl (.cons rfl (.cons rfl (.cons rfl (.cons rfl (.cons rfl (.cons rfl (.cons rfl CellsAt.nil))))))))))))) rfl) ?_
    refine run_q (.none rfl) rfl rfl (q_call rfl call16 (.cons rfl Evs.nil) (fun w hk hm => refCheck_just (short x) (Lie.mk p.HA p.hc p.GA p.gc O co) w ⟨hSh.kept0 hk, hSg.kept0 hk, (own_rd ((Sel.there (Sel.there Sel.here)).holds hm))⟩ fS)) ?_
    refine run_q (.none rfl) rfl rfl (q_assign rfl rfl) ?_
    refine run_nil ?_
    refine run_sub (subMk (.cons (s := 2) rfl (.cons (s := 3) rfl (.cons (s := 4) rfl (.cons (s := 5) rfl (.cons (s := 6) rfl (.cons (s := 7) rfl (.cons (s := 8) rfl (.cons (s := 9) rfl .nil)))))))) .refl) ?_
    refine run_blk ?_
    refine run_seq ?_
    refine run_seq ?_
    refine run_sub (subMk (.cons (s := 2) rfl (.cons (s := 3) rfl (.cons (s := 4) rfl (.cons (s := 5) rfl (.cons (s := 6) rfl (.cons' (s := 7) (v' := .int .i64 (adE (short x) h)) rfl (vint (by first | exact (adE_1 (by omega)).symm | exact (adE_2 (by omega) (by omega)).symm | exact (headE_1 (h := h) (by assumption)).symm.trans (adE_3 (by omega) (by omega) (by rw [headE_1 (by assumption)]; decide)).symm | exact (headE_2 (h := h) (by assumption) (by omega)).symm.trans (adE_3 (by omega) (by omega) (by rw [headE_2 (by assumption) (by omega)]; decide)).symm | exact (adE_4 (by omega) (by omega) (headE_3 (by assumption) (by omega)) (by assumption)).symm | exact (adE_5 (by omega) (by omega) (headE_3 (by assumption) (by omega)) (by assumption) (by omega)).symm | exact (adE_6 (by omega) (by omega) (headE_3 (by assumption) (by omega)) (by assumption) (by omega)).symm)) (.cons (s := 8) rfl (.cons (s := 9) rfl .nil)))))))) .refl) ?_
    refine run_region ?_
    refine run_q (.none rfl) rfl rfl (q_move rfl rfl) ?_
    refine run_q (.none rfl) rfl rfl (q_move rfl rfl) ?_
    refine run_q (.none rfl) rfl rfl (q_neq rfl rfl rfl) ?_
    refine run_nil ?_
    refine run_sub (subMk (.cons (s := 2) rfl (.cons (s := 3) rfl (.cons (s := 4) rfl (.cons (s := 5) rfl (.cons (s := 6) rfl (.cons (s := 8) rfl (.cons (s := 9) rfl (.cons (s := 63) rfl .nil)))))))) .refl) ?_
    refine run_condF rfl (by simp) ?_
    refine run_skip ?_
    refine run_seq ?_
    refine run_seq ?_
    refine run_region ?_
    refine run_q (.none rfl) rfl rfl (q_move rfl rfl) ?_
    refine run_q (.none rfl) rfl rfl (q_neq rfl rfl rfl) ?_
    refine run_nil ?_
    refine run_sub (subMk (.cons (s := 2) rfl (.cons (s := 3) rfl (.cons (s := 4) rfl (.cons (s := 5) rfl (.cons (s := 8) rfl (.cons (s := 9) rfl (.cons (s := 65) rfl .nil))))))) .refl) ?_
    refine run_condT rfl (bne_iff_ne.2 he) ?_
    refine run_seq ?_
    refine run_region ?_
    refine run_q (.none rfl) rfl rfl (q_loadBN rfl agg30 rfl Sel.here (.cons rfl (.cons rfl (.cons rfl (.cons rfl (.cons rfl (.cons rfl (.cons rfl (.cons rfl (.cons rfl (.cons rfl (.cons rfl (.cons rfl (.cons rfl CellsAt.nil))))))))))))) rfl) ?_
    refine run_q (.none rfl) rfl rfl (q_build rfl PV.nil (built30)) ?_
    refine run_q (.none rfl) rfl rfl (q_call rfl call25 (.cons rfl (.cons rfl Evs.nil)) (fun w hk hm => refequal_just Evt.zero Evt.zero noL noL w zeroRd zeroRd zeroFew zeroFew)) ?_
    refine run_q (.none rfl) rfl rfl (q_assign rfl rfl) ?_
    refine run_nil ?_
    refine run_sub (subMk (.cons (s := 2) rfl (.cons (s := 3) rfl (.cons (s := 4) rfl (.cons (s := 5) rfl (.cons (s := 8) rfl (.cons (s := 9) rfl .nil)))))) .refl) ?_
    refine run_ret ?_
    exact end1 rfl rfl (congrArg Value.bool (decide_eq_true (equalP_refl _)))
  · have g30' := g30
    try simp only [decide_eq_true_eq, decide_eq_false_iff_not, beq_iff_eq, beq_eq_false_iff_ne, bne_iff_ne, bne_eq_false_iff_eq, Bool.not_eq_true', Bool.not_eq_false', ne_eq, Int.not_lt, Int.not_le, Decidable.not_not] at g30'
    refine run_seq ?_
    refine run_region ?_
    refine run_q (.none rfl) rfl rfl (q_fieldB (d := 2) rfl Try.underlying30 rfl rfl sz3 rfl) ?_
    refine run_q (.none rfl) rfl rfl (q_loadB rfl one3 rfl (.there Sel.here) rfl) ?_
    refine run_q (.none rfl) rfl rfl (q_neq rfl rfl rfl) ?_
    refine run_q (.none rfl) rfl rfl (q_assign rfl rfl) ?_
    refine run_nil ?_
    refine run_sub (subMk (.cons (s := 2) rfl (.cons (s := 3) rfl (.cons (s := 4) rfl (.cons (s := 5) rfl (.cons (s := 6) rfl (.cons (s := 7) rfl (.cons (s := 8) rfl (.cons (s := 9) rfl (.cons (s := 36) rfl .nil))))))))) .refl) ?_
    refine run_cond rfl (fun g36 => ?_) (fun g36 => ?_)
    · have g36' := g36
      try simp only [decide_eq_true_eq, decide_eq_false_iff_not, beq_iff_eq, beq_eq_false_iff_ne, bne_iff_ne, bne_eq_false_iff_eq, Bool.not_eq_true', Bool.not_eq_false', ne_eq, Int.not_lt, Int.not_le, Decidable.not_not] at g36'
      refine run_region ?_
      refine run_q (.none rfl) rfl rfl (q_assign rfl rfl) ?_
      refine run_nil ?_
      refine run_blk ?_
      refine run_seq ?_
      refine run_seq ?_
      refine run_sub (subMk (.cons (s := 2) rfl (.cons (s := 3) rfl (.cons (s := 4) rfl (.cons (s := 5) rfl (.cons (s := 6) rfl (.cons' (s := 7) (v' := .int .i64 (adE (short x) h)) rfl (vint (by first | exact (adE_1 (by omega)).symm | exact (adE_2 (by omega) (by omega)).symm | exact (headE_1 (h := h) (by assumption)).symm.trans (adE_3 (by omega) (by omega) (by rw [headE_1 (by assumption)]; decide)).symm | exact (headE_2 (h := h) (by assumption) (by omega)).symm.trans (adE_3 (by omega) (by omega) (by rw [headE_2 (by assumption) (by omega)]; decide)).symm | exact (adE_4 (by omega) (by omega) (headE_3 (by assumption) (by omega)) (by assumption)).symm | exact (adE_5 (by omega) (by omega) (headE_3 (by assumption) (by omega)) (by assumption) (by omega)).symm | exact (adE_6 (by omega) (by omega) (headE_3 (by assumption) (by omega)) (by assumption) (by omega)).symm)) (.cons (s := 8) rfl (.cons (s := 9) rfl (.cons (s := 36) rfl .nil))))))))) .refl) ?_
      refine run_region ?_
      refine run_q (.none rfl) rfl rfl (q_move rfl rfl) ?_
      refine run_q (.none rfl) rfl rfl (q_move rfl rfl) ?_
      refine run_q (.none rfl) rfl rfl (q_neq rfl rfl rfl) ?_
      refine run_nil ?_
      refine run_sub (subMk (.cons (s := 2) rfl (.cons (s := 3) rfl (.cons (s := 4) rfl (.cons (s := 5) rfl (.cons (s := 6) rfl (.cons (s := 8) rfl (.cons (s := 9) rfl (.cons (s := 63) rfl .nil)))))))) .refl) ?_
      refine run_condF rfl (by simp) ?_
      refine run_skip ?_
      refine run_seq ?_
      refine run_seq ?_
      refine run_region ?_
      refine run_q (.none rfl) rfl rfl (q_move rfl rfl) ?_
      refine run_q (.none rfl) rfl rfl (q_neq rfl rfl rfl) ?_
      refine run_nil ?_
      refine run_sub (subMk (.cons (s := 2) rfl (.cons (s := 3) rfl (.cons (s := 4) rfl (.cons (s := 5) rfl (.cons (s := 8) rfl (.cons (s := 9) rfl (.cons (s := 65) rfl .nil))))))) .refl) ?_
      refine run_condT rfl (bne_iff_ne.2 he) ?_
      refine run_seq ?_
      refine run_region ?_
      refine run_q (.none rfl) rfl rfl (q_loadBN rfl agg30 rfl Sel.here (.cons rfl (.cons rfl (.cons rfl (.cons rfl (.cons rfl (.cons rfl (.cons rfl (.cons rfl (.cons rfl (.cons rfl (.cons rfl (.cons rfl (.cons rfl CellsAt.nil))))))))))))) rfl) ?_
      refine run_q (.none rfl) rfl rfl (q_build rfl PV.nil (built30)) ?_
      refine run_q (.none rfl) rfl rfl (q_call rfl call25 (.cons rfl (.cons rfl Evs.nil)) (fun w hk hm => refequal_just Evt.zero Evt.zero noL noL w zeroRd zeroRd zeroFew zeroFew)) ?_
      refine run_q (.none rfl) rfl rfl (q_assign rfl rfl) ?_
      refine run_nil ?_
      refine run_sub (subMk (.cons (s := 2) rfl (.cons (s := 3) rfl (.cons (s := 4) rfl (.cons (s := 5) rfl (.cons (s := 8) rfl (.cons (s := 9) rfl .nil)))))) .refl) ?_
      refine run_ret ?_
      exact end1 rfl rfl (congrArg Value.bool (decide_eq_true (equalP_refl _)))
    · have g36' := g36
      try simp only [decide_eq_true_eq, decide_eq_false_iff_not, beq_iff_eq, beq_eq_false_iff_ne, bne_iff_ne, bne_eq_false_iff_eq, Bool.not_eq_true', Bool.not_eq_false', ne_eq, Int.not_lt, Int.not_le, Decidable.not_not] at g36'
      refine run_seq ?_
      refine run_region ?_
      refine run_q (.none rfl) rfl rfl (q_fieldB (d := 0) rfl Try.underlying53 rfl rfl sz51 rfl) ?_
      refine run_q (.none rfl) rfl rfl (q_loadBN rfl agg51 rfl (.there (.there (.there Sel.here))) (.cons rfl (.cons rfl (.cons rfl CellsAt.nil))) rfl) ?_
      refine run_q (.none rfl) rfl rfl (q_call rfl call36 (.cons rfl Evs.nil) (fun w hk hm => refNumber_just h.step h.alter h.oct w)) ?_
      refine run_q (.none rfl) rfl rfl (q_lss rfl rfl rfl) ?_
      refine run_q (.none rfl) rfl rfl (q_assign rfl rfl) ?_
      refine run_nil ?_
      refine run_sub (subMk (.cons (s := 2) rfl (.cons (s := 3) rfl (.cons (s := 4) rfl (.cons (s := 5) rfl (.cons (s := 6) rfl (.cons (s := 7) rfl (.cons (s := 8) rfl (.cons (s := 9) rfl (.cons (s := 40) rfl .nil))))))))) .refl) ?_
      refine run_cond rfl (fun g40 => ?_) (fun g40 => ?_)
      · have g40' := g40
        try simp only [decide_eq_true_eq, decide_eq_false_iff_not, beq_iff_eq, beq_eq_false_iff_ne, bne_iff_ne, bne_eq_false_iff_eq, Bool.not_eq_true', Bool.not_eq_false', ne_eq, Int.not_lt, Int.not_le, Decidable.not_not] at g40'
        have hnu : h.num < 0 := by show numP h.step h.alter h.oct < 0; omega
        refine run_region ?_
        refine run_q (.none rfl) rfl rfl (q_assign rfl rfl) ?_
        refine run_nil ?_
        refine run_blk ?_
        refine run_seq ?_
        refine run_seq ?_
        refine run_sub (subMk (.cons (s := 2) rfl (.cons (s := 3) rfl (.cons (s := 4) rfl (.cons (s := 5) rfl (.cons (s := 6) rfl (.cons' (s := 7) (v' := .int .i64 (adE (short x) h)) rfl (vint (by first | exact (adE_1 (by omega)).symm | exact (adE_2 (by omega) (by omega)).symm | exact (headE_1 (h := h) (by assumption)).symm.trans (adE_3 (by omega) (by omega) (by rw [headE_1 (by assumption)]; decide)).symm | exact (headE_2 (h := h) (by assumption) (by omega)).symm.trans (adE_3 (by omega) (by omega) (by rw [headE_2 (by assumption) (by omega)]; decide)).symm | exact (adE_4 (by omega) (by omega) (headE_3 (by assumption) (by omega)) (by assumption)).symm | exact (adE_5 (by omega) (by omega) (headE_3 (by assumption) (by omega)) (by assumption) (by omega)).symm | exact (adE_6 (by omega) (by omega) (headE_3 (by assumption) (by omega)) (by assumption) (by omega)).symm)) (.cons (s := 8) rfl (.cons (s := 9) rfl (.cons (s := 40) rfl .nil))))))))) .refl) ?_
        refine run_region ?_
        refine run_q (.none rfl) rfl rfl (q_move rfl rfl) ?_
        refine run_q (.none rfl) rfl rfl (q_move rfl rfl) ?_
        refine run_q (.none rfl) rfl rfl (q_neq rfl rfl rfl) ?_
        refine run_nil ?_
        refine run_sub (subMk (.cons (s := 2) rfl (.cons (s := 3) rfl (.cons (s := 4) rfl (.cons (s := 5) rfl (.cons (s := 6) rfl (.cons (s := 8) rfl (.cons (s := 9) rfl (.cons (s := 63) rfl .nil)))))))) .refl) ?_
        refine run_condF rfl (by simp) ?_
        refine run_skip ?_
        refine run_seq ?_
        refine run_seq ?_
        refine run_region ?_
        refine run_q (.none rfl) rfl rfl (q_move rfl rfl) ?_
        refine run_q (.none rfl) rfl rfl (q_neq rfl rfl rfl) ?_
        refine run_nil ?_
        refine run_sub (subMk (.cons (s := 2) rfl (.cons (s := 3) rfl (.cons (s := 4) rfl (.cons (s := 5) rfl (.cons (s := 8) rfl (.cons (s := 9) rfl (.cons (s := 65) rfl .nil))))))) .refl) ?_
        refine run_condT rfl (bne_iff_ne.2 he) ?_
        refine run_seq ?_
        refine run_region ?_
        refine run_q (.none rfl) rfl rfl (q_loadBN rfl agg30 rfl Sel.here (.cons rfl (.cons rfl (.cons rfl (.cons rfl (.cons rfl (.cons rfl (.cons rfl (.cons rfl (.cons rfl (.cons rfl (.cons rfl (.cons rfl (.cons rfl CellsAt.nil))))))))))))) rfl) ?_
        refine run_q (.none rfl) rfl rfl (q_build rfl PV.nil (built30)) ?_
        refine run_q (.none rfl) rfl rfl (q_call rfl call25 (.cons rfl (.cons rfl Evs.nil)) (fun w hk hm => refequal_just Evt.zero Evt.zero noL noL w zeroRd zeroRd zeroFew zeroFew)) ?_
        refine run_q (.none rfl) rfl rfl (q_assign rfl rfl) ?_
        refine run_nil ?_
        refine run_sub (subMk (.cons (s := 2) rfl (.cons (s := 3) rfl (.cons (s := 4) rfl (.cons (s := 5) rfl (.cons (s := 8) rfl (.cons (s := 9) rfl .nil)))))) .refl) ?_
        refine run_ret ?_
        exact end1 rfl rfl (congrArg Value.bool (decide_eq_true (equalP_refl _)))
      · have g40' := g40
        try simp only [decide_eq_true_eq, decide_eq_false_iff_not, beq_iff_eq, beq_eq_false_iff_ne, bne_iff_ne, bne_eq_false_iff_eq, Bool.not_eq_true', Bool.not_eq_false', ne_eq, Int.not_lt, Int.not_le, Decidable.not_not] at g40'
        have hnu : ¬ h.num < 0 := by show ¬ numP h.step h.alter h.oct < 0; omega
        refine run_seq ?_
        refine run_region ?_
        refine run_q (.none rfl) rfl rfl (q_fieldB (d := 4) rfl Try.underlying53 rfl rfl sz3 rfl) ?_
        refine run_q (.none rfl) rfl rfl (q_loadB rfl one3 rfl (.there (.there (.there Sel.here))) rfl) ?_
        refine run_q (.none rfl) rfl rfl (q_lss rfl rfl rfl) ?_
        refine run_q (.none rfl) rfl rfl (q_move rfl rfl) ?_
        refine run_split 49 rfl (fun g49 => ?_) (fun g49 => ?_)
        · have g49' := g49
          try simp only [decide_eq_true_eq, decide_eq_false_iff_not, beq_iff_eq, beq_eq_false_iff_ne, bne_iff_ne, bne_eq_false_iff_eq, Bool.not_eq_true', Bool.not_eq_false', ne_eq, Int.not_lt, Int.not_le, Decidable.not_not] at g49'
          refine run_off (.no rfl rfl rfl g49) rfl rfl ?_
          refine run_off (.no rfl rfl rfl g49) rfl rfl ?_
          refine run_off (.no rfl rfl rfl g49) rfl rfl ?_
          refine run_q (.none rfl) rfl rfl (q_pickT rfl rfl g49 rfl) ?_
          refine run_q (.none rfl) rfl rfl (q_assign rfl rfl) ?_
          refine run_nil ?_
          refine run_sub (subMk (.cons (s := 2) rfl (.cons (s := 3) rfl (.cons (s := 4) rfl (.cons (s := 5) rfl (.cons (s := 6) rfl (.cons (s := 7) rfl (.cons (s := 8) rfl (.cons (s := 9) rfl (.cons (s := 45) rfl .nil))))))))) .refl) ?_
          refine run_condT rfl rfl ?_
          refine run_region ?_
          refine run_q (.none rfl) rfl rfl (q_assign rfl rfl) ?_
          refine run_nil ?_
          refine run_blk ?_
          refine run_seq ?_
          refine run_seq ?_
          refine run_sub (subMk (.cons (s := 2) rfl (.cons (s := 3) rfl (.cons (s := 4) rfl (.cons (s := 5) rfl (.cons (s := 6) rfl (.cons' (s := 7) (v' := .int .i64 (adE (short x) h)) rfl (vint (by first | exact (adE_1 (by omega)).symm | exact (adE_2 (by omega) (by omega)).symm | exact (headE_1 (h := h) (by assumption)).symm.trans (adE_3 (by omega) (by omega) (by rw [headE_1 (by assumption)]; decide)).symm | exact (headE_2 (h := h) (by assumption) (by omega)).symm.trans (adE_3 (by omega) (by omega) (by rw [headE_2 (by assumption) (by omega)]; decide)).symm | exact (adE_4 (by omega) (by omega) (headE_3 (by assumption) (by omega)) (by assumption)).symm | exact (adE_5 (by omega) (by omega) (headE_3 (by assumption) (by omega)) (by assumption) (by omega)).symm | exact (adE_6 (by omega) (by omega) (headE_3 (by assumption) (by omega)) (by assumption) (by omega)).symm)) (.cons (s := 8) rfl (.cons (s := 9) rfl (.cons (s := 45) rfl .nil))))))))) .refl) ?_
          refine run_region ?_
          refine run_q (.none rfl) rfl rfl (q_move rfl rfl) ?_
          refine run_q (.none rfl) rfl rfl (q_move rfl rfl) ?_
          refine run_q (.none rfl) rfl rfl (q_neq rfl rfl rfl) ?_
          refine run_nil ?_
          refine run_sub (subMk (.cons (s := 2) rfl (.cons (s := 3) rfl (.cons (s := 4) rfl (.cons (s := 5) rfl (.cons (s := 6) rfl (.cons (s := 8) rfl (.cons (s := 9) rfl (.cons (s := 63) rfl .nil)))))))) .refl) ?_
          refine run_condF rfl (by simp) ?_
          refine run_skip ?_
          refine run_seq ?_
          refine run_seq ?_
          refine run_region ?_
          refine run_q (.none rfl) rfl rfl (q_move rfl rfl) ?_
          refine run_q (.none rfl) rfl rfl (q_neq rfl rfl rfl) ?_
          refine run_nil ?_
          refine run_sub (subMk (.cons (s := 2) rfl (.cons (s := 3) rfl (.cons (s := 4) rfl (.cons (s := 5) rfl (.cons (s := 8) rfl (.cons (s := 9) rfl (.cons (s := 65) rfl .nil))))))) .refl) ?_
          refine run_condT rfl (bne_iff_ne.2 he) ?_
          refine run_seq ?_
          refine run_region ?_
          refine run_q (.none rfl) rfl rfl (q_loadBN rfl agg30 rfl Sel.here (.cons rfl (.cons rfl (.cons rfl (.cons rfl (.cons rfl (.cons rfl (.cons rfl (.cons rfl (.cons rfl (.cons rfl (.cons rfl (.cons rfl (.cons rfl CellsAt.nil))))))))))))) rfl) ?_
          refine run_q (.none rfl) rfl rfl (q_build rfl PV.nil (built30)) ?_
          refine run_q (.none rfl) rfl rfl (q_call rfl call25 (.cons rfl (.cons rfl Evs.nil)) (fun w hk hm => refequal_just Evt.zero Evt.zero noL noL w zeroRd zeroRd zeroFew zeroFew)) ?_
          refine run_q (.none rfl) rfl rfl (q_assign rfl rfl) ?_
          refine run_nil ?_
          refine run_sub (subMk (.cons (s := 2) rfl (.cons (s := 3) rfl (.cons (s := 4) rfl (.cons (s := 5) rfl (.cons (s := 8) rfl (.cons (s := 9) rfl .nil)))))) .refl) ?_
          refine run_ret ?_
          exact end1 rfl rfl (congrArg Value.bool (decide_eq_true (equalP_refl _)))
        · have g49' := g49
          try simp only [decide_eq_true_eq, decide_eq_false_iff_not, beq_iff_eq, beq_eq_false_iff_ne, bne_iff_ne, bne_eq_false_iff_eq, Bool.not_eq_true', Bool.not_eq_false', ne_eq, Int.not_lt, Int.not_le, Decidable.not_not] at g49'
          refine run_q (.on rfl rfl rfl g49) rfl rfl (q_fieldB (d := 4) rfl Try.underlying53 rfl rfl sz3 rfl) ?_
          refine run_q (.on rfl rfl rfl g49) rfl rfl (q_loadB rfl one3 rfl (.there (.there (.there Sel.here))) rfl) ?_
          refine run_q (.on rfl rfl rfl g49) rfl rfl (q_gtr rfl rfl rfl) ?_
          refine run_q (.none rfl) rfl rfl (q_pickF rfl rfl g49 rfl) ?_
          refine run_q (.none rfl) rfl rfl (q_assign rfl rfl) ?_
          refine run_nil ?_
          refine run_sub (subMk (.cons (s := 2) rfl (.cons (s := 3) rfl (.cons (s := 4) rfl (.cons (s := 5) rfl (.cons (s := 6) rfl (.cons (s := 7) rfl (.cons (s := 8) rfl (.cons (s := 9) rfl (.cons (s := 45) rfl .nil))))))))) .refl) ?_
          refine run_cond rfl (fun g45 => ?_) (fun g45 => ?_)
          · have g45' := g45
            try simp only [decide_eq_true_eq, decide_eq_false_iff_not, beq_iff_eq, beq_eq_false_iff_ne, bne_iff_ne, bne_eq_false_iff_eq, Bool.not_eq_true', Bool.not_eq_false', ne_eq, Int.not_lt, Int.not_le, Decidable.not_not] at g45'
            refine run_region ?_
            refine run_q (.none rfl) rfl rfl (q_assign rfl rfl) ?_
            refine run_nil ?_
            refine run_blk ?_
            refine run_seq ?_
            refine run_seq ?_
            refine run_sub (subMk (.cons (s := 2) rfl (.cons (s := 3) rfl (.cons (s := 4) rfl (.cons (s := 5) rfl (.cons (s := 6) rfl (.cons' (s := 7) (v' := .int .i64 (adE (short x) h)) rfl (vint (by first | exact (adE_1 (by omega)).symm | exact (adE_2 (by omega) (by omega)).symm | exact (headE_1 (h := h) (by assumption)).symm.trans (adE_3 (by omega) (by omega) (by rw [headE_1 (by assumption)]; decide)).symm | exact (headE_2 (h := h) (by assumption) (by omega)).symm.trans (adE_3 (by omega) (by omega) (by rw [headE_2 (by assumption) (by omega)]; decide)).symm | exact (adE_4 (by omega) (by omega) (headE_3 (by assumption) (by omega)) (by assumption)).symm | exact (adE_5 (by omega) (by omega) (headE_3 (by assumption) (by omega)) (by assumption) (by omega)).symm | exact (adE_6 (by omega) (by omega) (headE_3 (by assumption) (by omega)) (by assumption) (by omega)).symm)) (.cons (s := 8) rfl (.cons (s := 9) rfl (.cons (s := 45) rfl .nil))))))))) .refl) ?_
            refine run_region ?_
            refine run_q (.none rfl) rfl rfl (q_move rfl rfl) ?_
            refine run_q (.none rfl) rfl rfl (q_move rfl rfl) ?_
            refine run_q (.none rfl) rfl rfl (q_neq rfl rfl rfl) ?_
            refine run_nil ?_
            refine run_sub (subMk (.cons (s := 2) rfl (.cons (s := 3) rfl (.cons (s := 4) rfl (.cons (s := 5) rfl (.cons (s := 6) rfl (.cons (s := 8) rfl (.cons (s := 9) rfl (.cons (s := 63) rfl .nil)))))))) .refl) ?_
            refine run_condF rfl (by simp) ?_
            refine run_skip ?_
            refine run_seq ?_
            refine run_seq ?_
            refine run_region ?_
            refine run_q (.none rfl) rfl rfl (q_move rfl rfl) ?_
            refine run_q (.none rfl) rfl rfl (q_neq rfl rfl rfl) ?_
            refine run_nil ?_
            refine run_sub (subMk (.cons (s := 2) rfl (.cons (s := 3) rfl (.cons (s := 4) rfl (.cons (s := 5) rfl (.cons (s := 8) rfl (.cons (s := 9) rfl (.cons (s := 65) rfl .nil))))))) .refl) ?_
            refine run_condT rfl (bne_iff_ne.2 he) ?_
            refine run_seq ?_
            refine run_region ?_
            refine run_q (.none rfl) rfl rfl (q_loadBN rfl agg30 rfl Sel.here (.cons rfl (.cons rfl (.cons rfl (.cons rfl (.cons rfl (.cons rfl (.cons rfl (.cons rfl (.cons rfl (.cons rfl (.cons rfl (.cons rfl (.cons rfl CellsAt.nil))))))))))))) rfl) ?_
            refine run_q (.none rfl) rfl rfl (q_build rfl PV.nil (built30)) ?_
            refine run_q (.none rfl) rfl rfl (q_call rfl call25 (.cons rfl (.cons rfl Evs.nil)) (fun w hk hm => refequal_just Evt.zero Evt.zero noL noL w zeroRd zeroRd zeroFew zeroFew)) ?_
            refine run_q (.none rfl) rfl rfl (q_assign rfl rfl) ?_
            refine run_nil ?_
            refine run_sub (subMk (.cons (s := 2) rfl (.cons (s := 3) rfl (.cons (s := 4) rfl (.cons (s := 5) rfl (.cons (s := 8) rfl (.cons (s := 9) rfl .nil)))))) .refl) ?_
            refine run_ret ?_
            exact end1 rfl rfl (congrArg Value.bool (decide_eq_true (equalP_refl _)))
          · have g45' := g45
            try simp only [decide_eq_true_eq, decide_eq_false_iff_not, beq_iff_eq, beq_eq_false_iff_ne, bne_iff_ne, bne_eq_false_iff_eq, Bool.not_eq_true', Bool.not_eq_false', ne_eq, Int.not_lt, Int.not_le, Decidable.not_not] at g45'
            refine run_seq ?_
            refine run_region ?_
            refine run_q (.none rfl) rfl rfl (q_move rfl rfl) ?_
            refine run_q (.none rfl) rfl rfl (q_assign rfl rfl) ?_
            refine run_nil ?_
            refine run_cond rfl (fun g54 => ?_) (fun g54 => ?_)
            · have g54' := g54
              try simp only [decide_eq_true_eq, decide_eq_false_iff_not, beq_iff_eq, beq_eq_false_iff_ne, bne_iff_ne, bne_eq_false_iff_eq, Bool.not_eq_true', Bool.not_eq_false', ne_eq, Int.not_lt, Int.not_le, Decidable.not_not] at g54'
              have hfo : findB (short x).hs h.num = true := by first | exact g29 | exact g55 | exact g54 | exact g9 | exact g84
              refine run_region ?_
              refine run_q (.none rfl) rfl rfl (q_assign rfl rfl) ?_
              refine run_nil ?_
              refine run_sub (subMk (.cons (s := 2) rfl (.cons (s := 3) rfl (.cons (s := 4) rfl (.cons (s := 5) rfl (.cons (s := 6) rfl (.cons (s := 7) rfl (.cons (s := 8) rfl (.cons (s := 9) rfl .nil)))))))) .refl) ?_
              refine run_blk ?_
              refine run_seq ?_
              refine run_seq ?_
              refine run_sub (subMk (.cons (s := 2) rfl (.cons (s := 3) rfl (.cons (s := 4) rfl (.cons (s := 5) rfl (.cons (s := 6) rfl (.cons' (s := 7) (v' := .int .i64 (adE (short x) h)) rfl (vint (by first | exact (adE_1 (by omega)).symm | exact (adE_2 (by omega) (by omega)).symm | exact (headE_1 (h := h) (by assumption)).symm.trans (adE_3 (by omega) (by omega) (by rw [headE_1 (by assumption)]; decide)).symm | exact (headE_2 (h := h) (by assumption) (by omega)).symm.trans (adE_3 (by omega) (by omega) (by rw [headE_2 (by assumption) (by omega)]; decide)).symm | exact (adE_4 (by omega) (by omega) (headE_3 (by assumption) (by omega)) (by assumption)).symm | exact (adE_5 (by omega) (by omega) (headE_3 (by assumption) (by omega)) (by assumption) (by omega)).symm | exact (adE_6 (by omega) (by omega) (headE_3 (by assumption) (by omega)) (by assumption) (by omega)).symm)) (.cons (s := 8) rfl (.cons (s := 9) rfl .nil)))))))) .refl) ?_
              refine run_region ?_
              refine run_q (.none rfl) rfl rfl (q_move rfl rfl) ?_
              refine run_q (.none rfl) rfl rfl (q_move rfl rfl) ?_
              refine run_q (.none rfl) rfl rfl (q_neq rfl rfl rfl) ?_
              refine run_nil ?_
              refine run_sub (subMk (.cons (s := 2) rfl (.cons (s := 3) rfl (.cons (s := 4) rfl (.cons (s := 5) rfl (.cons (s := 6) rfl (.cons (s := 8) rfl (.cons (s := 9) rfl (.cons (s := 63) rfl .nil)))))))) .refl) ?_
              refine run_condF rfl (by simp) ?_
              refine run_skip ?_
              refine run_seq ?_
              refine run_seq ?_
              refine run_region ?_
              refine run_q (.none rfl) rfl rfl (q_move rfl rfl) ?_
              refine run_q (.none rfl) rfl rfl (q_neq rfl rfl rfl) ?_
              refine run_nil ?_
              refine run_sub (subMk (.cons (s := 2) rfl (.cons (s := 3) rfl (.cons (s := 4) rfl (.cons (s := 5) rfl (.cons (s := 8) rfl (.cons (s := 9) rfl (.cons (s := 65) rfl .nil))))))) .refl) ?_
              refine run_condT rfl (bne_iff_ne.2 he) ?_
              refine run_seq ?_
              refine run_region ?_
              refine run_q (.none rfl) rfl rfl (q_loadBN rfl agg30 rfl Sel.here (.cons rfl (.cons rfl (.cons rfl (.cons rfl (.cons rfl (.cons rfl (.cons rfl (.cons rfl (.cons rfl (.cons rfl (.cons rfl (.cons rfl (.cons rfl CellsAt.nil))))))))))))) rfl) ?_
              refine run_q (.none rfl) rfl rfl (q_build rfl PV.nil (built30)) ?_
              refine run_q (.none rfl) rfl rfl (q_call rfl call25 (.cons rfl (.cons rfl Evs.nil)) (fun w hk hm => refequal_just Evt.zero Evt.zero noL noL w zeroRd zeroRd zeroFew zeroFew)) ?_
              refine run_q (.none rfl) rfl rfl (q_assign rfl rfl) ?_
              refine run_nil ?_
              refine run_sub (subMk (.cons (s := 2) rfl (.cons (s := 3) rfl (.cons (s := 4) rfl (.cons (s := 5) rfl (.cons (s := 8) rfl (.cons (s := 9) rfl .nil)))))) .refl) ?_
              refine run_ret ?_
              exact end1 rfl rfl (congrArg Value.bool (decide_eq_true (equalP_refl _)))
            · have g54' := g54
              try simp only [decide_eq_true_eq, decide_eq_false_iff_not, beq_iff_eq, beq_eq_false_iff_ne, bne_iff_ne, bne_eq_false_iff_eq, Bool.not_eq_true', Bool.not_eq_false', ne_eq, Int.not_lt, Int.not_le, Decidable.not_not] at g54'
              have hfo : findB (short x).hs h.num = false := by first | exact g29 | exact g55 | exact g54 | exact g9 | exact g84
              refine run_seq ?_
              refine run_region ?_
              refine run_q (.none rfl) rfl rfl (q_fieldB (d := 5) rfl Try.underlying30 rfl rfl sz26 rfl) ?_
              refine run_q (.none rfl) rfl rfl (q_loadB rfl one26 rfl (.there Sel.here) rfl) ?_
              refine run_q (.none rfl) rfl rfl (q_len rfl Try.underlying26 rfl) ?_
              refine run_q (.none rfl) rfl rfl (q_eql rfl rfl rfl) ?_
              refine run_q (.none rfl) rfl rfl (q_assign rfl rfl) ?_
              refine run_nil ?_
              refine run_sub (subMk (.cons (s := 2) rfl (.cons (s := 3) rfl (.cons (s := 4) rfl (.cons (s := 5) rfl (.cons (s := 6) rfl (.cons (s := 7) rfl (.cons (s := 8) rfl (.cons (s := 9) rfl (.cons (s := 56) rfl .nil))))))))) .refl) ?_
              refine run_cond rfl (fun g56 => ?_) (fun g56 => ?_)
              · have g56' := g56
                try simp only [decide_eq_true_eq, decide_eq_false_iff_not, beq_iff_eq, beq_eq_false_iff_ne, bne_iff_ne, bne_eq_false_iff_eq, Bool.not_eq_true', Bool.not_eq_false', ne_eq, Int.not_lt, Int.not_le, Decidable.not_not] at g56'
                refine run_region ?_
                refine run_q (.none rfl) rfl rfl (q_assign rfl rfl) ?_
                refine run_nil ?_
                refine run_blk ?_
                refine run_seq ?_
                refine run_seq ?_
                refine run_sub (subMk (.cons (s := 2) rfl (.cons (s := 3) rfl (.cons (s := 4) rfl (.cons (s := 5) rfl (.cons (s := 6) rfl (.cons' (s := 7) (v' := .int .i64 (adE (short x) h)) rfl (vint (by first | exact (adE_1 (by omega)).symm | exact (adE_2 (by omega) (by omega)).symm | exact (headE_1 (h := h) (by assumption)).symm.trans (adE_3 (by omega) (by omega) (by rw [headE_1 (by assumption)]; decide)).symm | exact (headE_2 (h := h) (by assumption) (by omega)).symm.trans (adE_3 (by omega) (by omega) (by rw [headE_2 (by assumption) (by omega)]; decide)).symm | exact (adE_4 (by omega) (by omega) (headE_3 (by assumption) (by omega)) (by assumption)).symm | exact (adE_5 (by omega) (by omega) (headE_3 (by assumption) (by omega)) (by assumption) (by omega)).symm | exact (adE_6 (by omega) (by omega) (headE_3 (by assumption) (by omega)) (by assumption) (by omega)).symm)) (.cons (s := 8) rfl (.cons (s := 9) rfl (.cons (s := 56) rfl .nil))))))))) .refl) ?_
                refine run_region ?_
                refine run_q (.none rfl) rfl rfl (q_move rfl rfl) ?_
                refine run_q (.none rfl) rfl rfl (q_move rfl rfl) ?_
                refine run_q (.none rfl) rfl rfl (q_neq rfl rfl rfl) ?_
                refine run_nil ?_
                refine run_sub (subMk (.cons (s := 2) rfl (.cons (s := 3) rfl (.cons (s := 4) rfl (.cons (s := 5) rfl (.cons (s := 6) rfl (.cons (s := 8) rfl (.cons (s := 9) rfl (.cons (s := 63) rfl .nil)))))))) .refl) ?_
                refine run_condF rfl (by simp) ?_
                refine run_skip ?_
                refine run_seq ?_
                refine run_seq ?_
                refine run_region ?_
                refine run_q (.none rfl) rfl rfl (q_move rfl rfl) ?_
                refine run_q (.none rfl) rfl rfl (q_neq rfl rfl rfl) ?_
                refine run_nil ?_
                refine run_sub (subMk (.cons (s := 2) rfl (.cons (s := 3) rfl (.cons (s := 4) rfl (.cons (s := 5) rfl (.cons (s := 8) rfl (.cons (s := 9) rfl (.cons (s := 65) rfl .nil))))))) .refl) ?_
                refine run_condT rfl (bne_iff_ne.2 he) ?_
                refine run_seq ?_
                refine run_region ?_
                refine run_q (.none rfl) rfl rfl (q_loadBN rfl agg30 rfl Sel.here (.cons rfl (.cons rfl (.cons rfl (.cons rfl (.cons rfl (.cons rfl (.cons rfl (.cons rfl (.cons rfl (.cons rfl (.cons rfl (.cons rfl (.cons rfl CellsAt.nil))))))))))))) rfl) ?_
                refine run_q (.none rfl) rfl rfl (q_build rfl PV.nil (built30)) ?_
                refine run_q (.none rfl) rfl rfl (q_call rfl call25 (.cons rfl (.cons rfl Evs.nil)) (fun w hk hm => refequal_just Evt.zero Evt.zero noL noL w zeroRd zeroRd zeroFew zeroFew)) ?_
                refine run_q (.none rfl) rfl rfl (q_assign rfl rfl) ?_
                refine run_nil ?_
                refine run_sub (subMk (.cons (s := 2) rfl (.cons (s := 3) rfl (.cons (s := 4) rfl (.cons (s := 5) rfl (.cons (s := 8) rfl (.cons (s := 9) rfl .nil)))))) .refl) ?_
                refine run_ret ?_
                exact end1 rfl rfl (congrArg Value.bool (decide_eq_true (equalP_refl _)))
              · have g56' := g56
                try simp only [decide_eq_true_eq, decide_eq_false_iff_not, beq_iff_eq, beq_eq_false_iff_ne, bne_iff_ne, bne_eq_false_iff_eq, Bool.not_eq_true', Bool.not_eq_false', ne_eq, Int.not_lt, Int.not_le, Decidable.not_not] at g56'
                refine run_skip ?_
                refine run_blk ?_
                refine run_seq ?_
                refine run_seq ?_
                refine run_sub (subMk (.cons (s := 2) rfl (.cons (s := 3) rfl (.cons (s := 4) rfl (.cons (s := 5) rfl (.cons (s := 6) rfl (.cons' (s := 7) (v' := .int .i64 (adE (short x) h)) rfl (vint (by first | exact (adE_1 (by omega)).symm | exact (adE_2 (by omega) (by omega)).symm | exact (headE_1 (h := h) (by assumption)).symm.trans (adE_3 (by omega) (by omega) (by rw [headE_1 (by assumption)]; decide)).symm | exact (headE_2 (h := h) (by assumption) (by omega)).symm.trans (adE_3 (by omega) (by omega) (by rw [headE_2 (by assumption) (by omega)]; decide)).symm | exact (adE_4 (by omega) (by omega) (headE_3 (by assumption) (by omega)) (by assumption)).symm | exact (adE_5 (by omega) (by omega) (headE_3 (by assumption) (by omega)) (by assumption) (by omega)).symm | exact (adE_6 (by omega) (by omega) (headE_3 (by assumption) (by omega)) (by assumption) (by omega)).symm)) (.cons (s := 8) rfl (.cons (s := 9) rfl (.cons (s := 56) rfl .nil))))))))) .refl) ?_
                refine run_region ?_
                refine run_q (.none rfl) rfl rfl (q_move rfl rfl) ?_
                refine run_q (.none rfl) rfl rfl (q_move rfl rfl) ?_
                refine run_q (.none rfl) rfl rfl (q_neq rfl rfl rfl) ?_
                refine run_nil ?_
                refine run_sub (subMk (.cons (s := 2) rfl (.cons (s := 3) rfl (.cons (s := 4) rfl (.cons (s := 5) rfl (.cons (s := 6) rfl (.cons (s := 8) rfl (.cons (s := 9) rfl (.cons (s := 63) rfl .nil)))))))) .refl) ?_
                refine run_condF rfl (by simp) ?_
                refine run_skip ?_
                refine run_seq ?_
                refine run_seq ?_
                refine run_region ?_
                refine run_q (.none rfl) rfl rfl (q_move rfl rfl) ?_
                refine run_q (.none rfl) rfl rfl (q_neq rfl rfl rfl) ?_
                refine run_nil ?_
                refine run_sub (subMk (.cons (s := 2) rfl (.cons (s := 3) rfl (.cons (s := 4) rfl (.cons (s := 5) rfl (.cons (s := 8) rfl (.cons (s := 9) rfl (.cons (s := 65) rfl .nil))))))) .refl) ?_
                refine run_condT rfl (bne_iff_ne.2 he) ?_
                refine run_seq ?_
                refine run_region ?_
                refine run_q (.none rfl) rfl rfl (q_loadBN rfl agg30 rfl Sel.here (.cons rfl (.cons rfl (.cons rfl (.cons rfl (.cons rfl (.cons rfl (.cons rfl (.cons rfl (.cons rfl (.cons rfl (.cons rfl (.cons rfl (.cons rfl CellsAt.nil))))))))))))) rfl) ?_
                refine run_q (.none rfl) rfl rfl (q_build rfl PV.nil (built30)) ?_
                refine run_q (.none rfl) rfl rfl (q_call rfl call25 (.cons rfl (.cons rfl Evs.nil)) (fun w hk hm => refequal_just Evt.zero Evt.zero noL noL w zeroRd zeroRd zeroFew zeroFew)) ?_
                refine run_q (.none rfl) rfl rfl (q_assign rfl rfl) ?_
                refine run_nil ?_
                refine run_sub (subMk (.cons (s := 2) rfl (.cons (s := 3) rfl (.cons (s := 4) rfl (.cons (s := 5) rfl (.cons (s := 8) rfl (.cons (s := 9) rfl .nil)))))) .refl) ?_
                refine run_ret ?_
                exact end1 rfl rfl (congrArg Value.bool (decide_eq_true (equalP_refl _)))

end Go.Proofs.Ytneadapfoaccmaa
