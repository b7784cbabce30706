/- The law on equal events. -/
import Derived.Test.YtneadapfoaccmaaU
set_option linter.unusedSimpArgs false
set_option linter.unusedVariables false
namespace Go.Proofs.Ytneadapfoaccmaa
open Go Go.RowKit Hr

theorem call30 : Hr.Callable Try.prog 30 := fun args w => by kernel_rfl

set_option maxHeartbeats 8000000 in
set_option maxRecDepth 100000 in
theorem law7_just (x y : Evt) (p q : Lie) (W : World) (hx : RdE W x p) (hc1 : x.hs.length ≤ p.hc) (hc2 : x.gs.length ≤ p.gc) (ha : x.n.art ≤ 9223372036854775807) (hy : RdE W y q) (hd1 : y.hs.length ≤ q.hc) (hd2 : y.gs.length ≤ q.gc) (hb : y.n.art ≤ 9223372036854775807) : Calls Try.prog 7 #[evV x p, evV y q] W (Hr.Just W (.bool true)) := by
  have hSh : Rd W p.HA 5 ((short x).hs.map Hd.enc) := rd_takeE hx.h
  have hSg : Rd W p.GA 5 ((short x).gs.map Gr.enc) := rd_takeE hx.g
  have fS := short_few ha
  have hTh : Rd W q.HA 5 ((short y).hs.map Hd.enc) := rd_takeE hy.h
  have hTg : Rd W q.GA 5 ((short y).gs.map Gr.enc) := rd_takeE hy.g
  have fT := short_few hb
  obtain ⟨fs1, fs2, fs3, fs4⟩ := id fS
  refine Just.of_ret ?_
  refine enterA (X := nX) (vs := [evV x p, evV y q]) Try.func7 Try.ntmps7 rfl rfl Mem.nil ?_
  refine run_seq ?_
  refine run_region ?_
  refine run_h (.none rfl) (h_box rfl rfl rfl rfl rfl) ?_
  rintro b2 -
  refine run_h (.none rfl) (h_box rfl rfl rfl rfl rfl) ?_
  rintro b3 -
  refine run_q (.none rfl) rfl rfl (q_assign rfl rfl) ?_
  refine run_nil ?_
  refine run_seq ?_
  refine run_draw [(0, 0), (2, 0), (1, 1), (3, 2), (4, 2), (5, 2)] mixed (by kernel_rfl) .refl ?_
  refine d_q rfl rfl (.none rfl) rfl rfl (q_loadBN rfl agg30 rfl (.there Sel.here) (.cons rfl (.cons rfl (.cons rfl (.cons rfl (.cons rfl (.cons rfl (.cons rfl (.cons rfl (.cons rfl (.cons rfl (.cons rfl (.cons rfl (.cons rfl CellsAt.nil))))))))))))) rfl) ?_
  refine d_q rfl rfl (.none rfl) rfl rfl (q_loadBN rfl agg30 rfl Sel.here (.cons rfl (.cons rfl (.cons rfl (.cons rfl (.cons rfl (.cons rfl (.cons rfl (.cons rfl (.cons rfl (.cons rfl (.cons rfl (.cons rfl (.cons rfl CellsAt.nil))))))))))))) rfl) ?_
  refine d_h rfl rfl (.none rfl) (h_call rfl rfl rfl call13 (.cons rfl Evs.nil) (fun w hk hm => short_ret x p w (hx.kept0 hk) hc1 hc2)) (fun _ _ => (.sub (List.sublist_append_right _ _))) ?_
  rintro ⟨v, m⟩ ⟨O, co, rfl, rfl⟩
  show RunD _ _ _ _ _ _ _ _ _ _ _ ⟨(8, evV (short x) ⟨p.HA, p.hc, p.GA, p.gc, O, co⟩) :: _, _ :: _⟩
  refine d_t rfl rfl (.none rfl) (h_call rfl rfl rfl call13 (.cons rfl Evs.nil) (fun w hk hm => short_ret y q w (hy.kept0 hk) hd1 hd2)) ?_
  rintro ⟨v, m⟩ ⟨O2, co2, rfl, rfl⟩
  show RunD _ _ _ _ _ _ _ _ _ _ _ ⟨(10, evV (short y) (Lie.mk q.HA q.hc q.GA q.gc O2 co2)) :: _, _ :: _⟩
  refine d_t rfl rfl (.none rfl) (h_storeB rfl rfl sz30 rfl rfl rfl rfl rfl (.there (.there (.there Sel.here))) rfl) ?_
  rintro - -
  refine d_t rfl rfl (.none rfl) (h_storeB rfl rfl sz30 rfl rfl rfl rfl rfl (.there (.there (.there Sel.here))) rfl) ?_
  rintro - -
  refine d_nil ?_
  refine run_sub (subMk (.cons (s := 2) rfl (.cons (s := 3) rfl (.cons (s := 4) rfl .nil))) .refl) ?_
  refine run_seq ?_
  refine run_region ?_
  refine run_q (.none rfl) rfl rfl (q_loadBN rfl agg30 rfl (.there Sel.here) (.cons rfl (.cons rfl (.cons rfl (.cons rfl (.cons rfl (.cons rfl (.cons rfl (.cons rfl (.cons rfl (.cons rfl (.cons rfl (.cons rfl (.cons rfl CellsAt.nil))))))))))))) rfl) ?_
  refine run_h (.none rfl) (h_call rfl rfl rfl call29 (.cons rfl Evs.nil) (fun w hk hm => evClone_ret (short x) (Lie.mk p.HA p.hc p.GA p.gc O co) w ⟨hSh.kept0 hk, hSg.kept0 hk, (own_rd ((Sel.there (Sel.there (Sel.there Sel.here))).holds hm))⟩ fS)) ?_
  rintro ⟨v, m⟩ ⟨r, rfl, rfl⟩
  show Run _ _ _ _ _ _ _ ⟨(12, evV (short x) r) :: _, _ :: _ :: _ :: _⟩
  refine run_h (.none rfl) (h_alloc rfl rfl rfl info30) ?_
  rintro b5 -
  refine run_h (.none rfl) (h_storeB rfl rfl sz30 rfl rfl rfl rfl rfl Sel.here rfl) ?_
  rintro - -
  refine run_nil ?_
  refine run_seq ?_
  refine run_seq ?_
  refine run_draw [(0, 0), (1, 0), (2, 0), (3, 0), (4, 0), (5, 0), (6, 0), (7, 0), (8, 0), (9, 0), (10, 0), (11, 0), (12, 0), (13, 0), (14, 0), (15, 0), (16, 0), (17, 0), (18, 0), (19, 0), (20, 0), (21, 0), (22, 0), (23, 0), (24, 0), (25, 0), (26, 0), (27, 0), (28, 0), (29, 0), (30, 0), (31, 0), (32, 0), (33, 0), (34, 0), (35, 0), (36, 0), (37, 0)] mixed (by kernel_rfl) .refl ?_
  refine d_q rfl rfl (.none rfl) rfl rfl (q_call rfl call14 Evs.nil (fun w hk hm => known_just w)) ?_
  refine d_q rfl rfl (.none rfl) rfl rfl (q_not rfl rfl) ?_
  refine d_q rfl rfl (.none rfl) rfl rfl (q_move rfl rfl) ?_
  refine d_q rfl rfl (.on rfl rfl rfl rfl) rfl rfl (q_loadBN rfl agg30 rfl (.there (.there (.there (.there (.there Sel.here))))) (.cons rfl (.cons rfl (.cons rfl (.cons rfl (.cons rfl (.cons rfl (.cons rfl (.cons rfl (.cons rfl (.cons rfl (.cons rfl (.cons rfl (.cons rfl CellsAt.nil))))))))))))) rfl) ?_
  refine d_q rfl rfl (.on rfl rfl rfl rfl) rfl rfl (q_loadBN rfl agg30 rfl (.there (.there (.there (.there Sel.here)))) (.cons rfl (.cons rfl (.cons rfl (.cons rfl (.cons rfl (.cons rfl (.cons rfl (.cons rfl (.cons rfl (.cons rfl (.cons rfl (.cons rfl (.cons rfl CellsAt.nil))))))))))))) rfl) ?_
  refine d_q rfl rfl (.on rfl rfl rfl rfl) rfl rfl (q_call rfl call30 (.cons rfl (.cons rfl Evs.nil)) (fun w hk hm => evEqual_just (short x) (short y) (Lie.mk p.HA p.hc p.GA p.gc O co) (Lie.mk q.HA q.hc q.GA q.gc O2 co2) w ⟨hSh.kept0 hk, hSg.kept0 hk, (own_rd ((Sel.there (Sel.there (Sel.there (Sel.there (Sel.there (Sel.there (Sel.there Sel.here))))))).holds hm))⟩ ⟨hTh.kept0 hk, hTg.kept0 hk, (own_rd ((Sel.there (Sel.there (Sel.there (Sel.there (Sel.there (Sel.there Sel.here)))))).holds hm))⟩ fS fT)) ?_
  refine d_q rfl rfl (.on rfl rfl rfl rfl) rfl rfl (q_loadBN rfl agg30 rfl (.there (.there (.there (.there (.there Sel.here))))) (.cons rfl (.cons rfl (.cons rfl (.cons rfl (.cons rfl (.cons rfl (.cons rfl (.cons rfl (.cons rfl (.cons rfl (.cons rfl (.cons rfl (.cons rfl CellsAt.nil))))))))))))) rfl) ?_
  refine d_q rfl rfl (.on rfl rfl rfl rfl) rfl rfl (q_loadBN rfl agg30 rfl (.there (.there (.there (.there Sel.here)))) (.cons rfl (.cons rfl (.cons rfl (.cons rfl (.cons rfl (.cons rfl (.cons rfl (.cons rfl (.cons rfl (.cons rfl (.cons rfl (.cons rfl (.cons rfl CellsAt.nil))))))))))))) rfl) ?_
  refine d_q rfl rfl (.on rfl rfl rfl rfl) rfl rfl (q_call rfl call25 (.cons rfl (.cons rfl Evs.nil)) (fun w hk hm => refequal_just (short x) (short y) (Lie.mk p.HA p.hc p.GA p.gc O co) (Lie.mk q.HA q.hc q.GA q.gc O2 co2) w ⟨hSh.kept0 hk, hSg.kept0 hk, (own_rd ((Sel.there (Sel.there (Sel.there (Sel.there (Sel.there (Sel.there (Sel.there Sel.here))))))).holds hm))⟩ ⟨hTh.kept0 hk, hTg.kept0 hk, (own_rd ((Sel.there (Sel.there (Sel.there (Sel.there (Sel.there (Sel.there Sel.here)))))).holds hm))⟩ fS fT)) ?_
  refine d_q rfl rfl (.on rfl rfl rfl rfl) rfl rfl (q_neqB rfl rfl rfl Try.underlying4) ?_
  refine d_q rfl rfl (.none rfl) rfl rfl (q_pickF rfl rfl rfl rfl) ?_
  refine d_q rfl rfl (.none rfl) rfl rfl (q_move rfl rfl) ?_
  refine d_q rfl rfl (.on rfl rfl rfl (by simp)) rfl rfl (q_loadBN rfl agg30 rfl (.there (.there (.there (.there (.there Sel.here))))) (.cons rfl (.cons rfl (.cons rfl (.cons rfl (.cons rfl (.cons rfl (.cons rfl (.cons rfl (.cons rfl (.cons rfl (.cons rfl (.cons rfl (.cons rfl CellsAt.nil))))))))))))) rfl) ?_
  refine d_q rfl rfl (.on rfl rfl rfl (by simp)) rfl rfl (q_loadBN rfl agg30 rfl (.there (.there (.there (.there Sel.here)))) (.cons rfl (.cons rfl (.cons rfl (.cons rfl (.cons rfl (.cons rfl (.cons rfl (.cons rfl (.cons rfl (.cons rfl (.cons rfl (.cons rfl (.cons rfl CellsAt.nil))))))))))))) rfl) ?_
  refine d_q rfl rfl (.on rfl rfl rfl (by simp)) rfl rfl (q_call rfl call31 (.cons rfl (.cons rfl Evs.nil)) (fun w hk hm => same_just (short x) (short y) (Lie.mk p.HA p.hc p.GA p.gc O co) (Lie.mk q.HA q.hc q.GA q.gc O2 co2) w ⟨hSh.kept0 hk, hSg.kept0 hk, (own_rd ((Sel.there (Sel.there (Sel.there (Sel.there (Sel.there (Sel.there (Sel.there Sel.here))))))).holds hm))⟩ ⟨hTh.kept0 hk, hTg.kept0 hk, (own_rd ((Sel.there (Sel.there (Sel.there (Sel.there (Sel.there (Sel.there Sel.here)))))).holds hm))⟩ fS fT)) ?_
  refine d_q rfl rfl (.on rfl rfl rfl (by simp)) rfl rfl (q_loadBN rfl agg30 rfl (.there (.there (.there (.there (.there Sel.here))))) (.cons rfl (.cons rfl (.cons rfl (.cons rfl (.cons rfl (.cons rfl (.cons rfl (.cons rfl (.cons rfl (.cons rfl (.cons rfl (.cons rfl (.cons rfl CellsAt.nil))))))))))))) rfl) ?_
  refine d_q rfl rfl (.on rfl rfl rfl (by simp)) rfl rfl (q_loadBN rfl agg30 rfl (.there (.there (.there (.there Sel.here)))) (.cons rfl (.cons rfl (.cons rfl (.cons rfl (.cons rfl (.cons rfl (.cons rfl (.cons rfl (.cons rfl (.cons rfl (.cons rfl (.cons rfl (.cons rfl CellsAt.nil))))))))))))) rfl) ?_
  refine d_q rfl rfl (.on rfl rfl rfl (by simp)) rfl rfl (q_call rfl call32 (.cons rfl (.cons rfl Evs.nil)) (fun w hk hm => refSame_just (short x) (short y) (Lie.mk p.HA p.hc p.GA p.gc O co) (Lie.mk q.HA q.hc q.GA q.gc O2 co2) w ⟨hSh.kept0 hk, hSg.kept0 hk, (own_rd ((Sel.there (Sel.there (Sel.there (Sel.there (Sel.there (Sel.there (Sel.there Sel.here))))))).holds hm))⟩ ⟨hTh.kept0 hk, hTg.kept0 hk, (own_rd ((Sel.there (Sel.there (Sel.there (Sel.there (Sel.there (Sel.there Sel.here)))))).holds hm))⟩ fS fT)) ?_
  refine d_q rfl rfl (.on rfl rfl rfl (by simp)) rfl rfl (q_neqB rfl rfl rfl Try.underlying4) ?_
  refine d_q rfl rfl (.none rfl) rfl rfl (q_pickF rfl rfl (by simp) rfl) ?_
  refine d_q rfl rfl (.none rfl) rfl rfl (q_move rfl rfl) ?_
  refine d_q rfl rfl (.on rfl rfl rfl (by simp)) rfl rfl (q_loadBN rfl agg30 rfl Sel.here (.cons rfl (.cons rfl (.cons rfl (.cons rfl (.cons rfl (.cons rfl (.cons rfl (.cons rfl (.cons rfl (.cons rfl (.cons rfl (.cons rfl (.cons rfl CellsAt.nil))))))))))))) rfl) ?_
  refine d_q rfl rfl (.on rfl rfl rfl (by simp)) rfl rfl (q_loadBN rfl agg30 rfl (.there (.there (.there (.there (.there Sel.here))))) (.cons rfl (.cons rfl (.cons rfl (.cons rfl (.cons rfl (.cons rfl (.cons rfl (.cons rfl (.cons rfl (.cons rfl (.cons rfl (.cons rfl (.cons rfl CellsAt.nil))))))))))))) rfl) ?_
  refine d_q rfl rfl (.on rfl rfl rfl (by simp)) rfl rfl (q_call rfl call25 (.cons rfl (.cons rfl Evs.nil)) (fun w hk hm => refequal_just (short x) (short x) r (Lie.mk p.HA p.hc p.GA p.gc O co) w ⟨(own_rd ((Sel.there Sel.here).holds hm)), (own_rd ((Sel.there (Sel.there Sel.here)).holds hm)), (own_rd ((Sel.there (Sel.there (Sel.there Sel.here))).holds hm))⟩ ⟨hSh.kept0 hk, hSg.kept0 hk, (own_rd ((Sel.there (Sel.there (Sel.there (Sel.there (Sel.there (Sel.there (Sel.there Sel.here))))))).holds hm))⟩ fS fS)) ?_
  refine d_q rfl rfl (.on rfl rfl rfl (by simp)) rfl rfl (q_not rfl rfl) ?_
  refine d_q rfl rfl (.none rfl) rfl rfl (q_pickF rfl rfl (by simp) rfl) ?_
  refine d_q rfl rfl (.none rfl) rfl rfl (q_move rfl rfl) ?_
  refine d_q rfl rfl (.on rfl rfl rfl (by rw [decide_eq_true (equalP_refl _)]; rfl)) rfl rfl (q_loadBN rfl agg30 rfl Sel.here (.cons rfl (.cons rfl (.cons rfl (.cons rfl (.cons rfl (.cons rfl (.cons rfl (.cons rfl (.cons rfl (.cons rfl (.cons rfl (.cons rfl (.cons rfl CellsAt.nil))))))))))))) rfl) ?_
  refine d_q rfl rfl (.on rfl rfl rfl (by rw [decide_eq_true (equalP_refl _)]; rfl)) rfl rfl (q_loadBN rfl agg30 rfl (.there (.there (.there (.there (.there Sel.here))))) (.cons rfl (.cons rfl (.cons rfl (.cons rfl (.cons rfl (.cons rfl (.cons rfl (.cons rfl (.cons rfl (.cons rfl (.cons rfl (.cons rfl (.cons rfl CellsAt.nil))))))))))))) rfl) ?_
  refine d_q rfl rfl (.on rfl rfl rfl (by rw [decide_eq_true (equalP_refl _)]; rfl)) rfl rfl (q_call rfl call30 (.cons rfl (.cons rfl Evs.nil)) (fun w hk hm => evEqual_just (short x) (short x) r (Lie.mk p.HA p.hc p.GA p.gc O co) w ⟨(own_rd ((Sel.there Sel.here).holds hm)), (own_rd ((Sel.there (Sel.there Sel.here)).holds hm)), (own_rd ((Sel.there (Sel.there (Sel.there Sel.here))).holds hm))⟩ ⟨hSh.kept0 hk, hSg.kept0 hk, (own_rd ((Sel.there (Sel.there (Sel.there (Sel.there (Sel.there (Sel.there (Sel.there Sel.here))))))).holds hm))⟩ fS fS)) ?_
  refine d_q rfl rfl (.on rfl rfl rfl (by rw [decide_eq_true (equalP_refl _)]; rfl)) rfl rfl (q_not rfl rfl) ?_
  refine d_q rfl rfl (.none rfl) rfl rfl (q_pickF rfl rfl (by rw [decide_eq_true (equalP_refl _)]; rfl) rfl) ?_
  refine d_q rfl rfl (.none rfl) rfl rfl (q_move rfl rfl) ?_
  refine d_q rfl rfl (.on rfl rfl rfl (by rw [decide_eq_true (equalP_refl _)]; rfl)) rfl rfl (q_loadBN rfl agg30 rfl Sel.here (.cons rfl (.cons rfl (.cons rfl (.cons rfl (.cons rfl (.cons rfl (.cons rfl (.cons rfl (.cons rfl (.cons rfl (.cons rfl (.cons rfl (.cons rfl CellsAt.nil))))))))))))) rfl) ?_
  refine d_q rfl rfl (.on rfl rfl rfl (by rw [decide_eq_true (equalP_refl _)]; rfl)) rfl rfl (q_loadBN rfl agg30 rfl (.there (.there (.there (.there (.there Sel.here))))) (.cons rfl (.cons rfl (.cons rfl (.cons rfl (.cons rfl (.cons rfl (.cons rfl (.cons rfl (.cons rfl (.cons rfl (.cons rfl (.cons rfl (.cons rfl CellsAt.nil))))))))))))) rfl) ?_
  refine d_q rfl rfl (.on rfl rfl rfl (by rw [decide_eq_true (equalP_refl _)]; rfl)) rfl rfl (q_call rfl call31 (.cons rfl (.cons rfl Evs.nil)) (fun w hk hm => same_just (short x) (short x) r (Lie.mk p.HA p.hc p.GA p.gc O co) w ⟨(own_rd ((Sel.there Sel.here).holds hm)), (own_rd ((Sel.there (Sel.there Sel.here)).holds hm)), (own_rd ((Sel.there (Sel.there (Sel.there Sel.here))).holds hm))⟩ ⟨hSh.kept0 hk, hSg.kept0 hk, (own_rd ((Sel.there (Sel.there (Sel.there (Sel.there (Sel.there (Sel.there (Sel.there Sel.here))))))).holds hm))⟩ fS fS)) ?_
  refine d_q rfl rfl (.on rfl rfl rfl (by rw [decide_eq_true (equalP_refl _)]; rfl)) rfl rfl (q_not rfl rfl) ?_
  refine d_q rfl rfl (.none rfl) rfl rfl (q_pickF rfl rfl (by rw [decide_eq_true (equalP_refl _)]; rfl) rfl) ?_
  refine d_nil ?_
  refine run_sub (subMk (.cons (s := 2) rfl (.cons (s := 4) rfl (.cons (s := 5) rfl (.cons (s := 50) rfl .nil)))) .refl) ?_
  refine run_condF rfl (by rw [decide_eq_true (sameP_refl _)]; rfl) ?_
  refine run_skip ?_
  refine run_seq ?_
  refine run_region ?_
  refine run_q (.none rfl) rfl rfl (q_loadBN rfl agg30 rfl (.there (.there (.there (.there (.there Sel.here))))) (.cons rfl (.cons rfl (.cons rfl (.cons rfl (.cons rfl (.cons rfl (.cons rfl (.cons rfl (.cons rfl (.cons rfl (.cons rfl (.cons rfl (.cons rfl CellsAt.nil))))))))))))) rfl) ?_
  refine run_h (.none rfl) (h_call rfl rfl rfl call29 (.cons rfl Evs.nil) (fun w hk hm => evClone_ret (short x) (Lie.mk p.HA p.hc p.GA p.gc O co) w ⟨hSh.kept0 hk, hSg.kept0 hk, (own_rd ((Sel.there (Sel.there (Sel.there (Sel.there (Sel.there (Sel.there (Sel.there Sel.here))))))).holds hm))⟩ fS)) ?_
  rintro ⟨v, m⟩ ⟨r2, rfl, rfl⟩
  show Run _ _ _ _ _ _ _ ⟨(52, evV (short x) r2) :: _, _ :: _ :: _ :: _⟩
  refine run_h (.none rfl) (h_alloc rfl rfl rfl info30) ?_
  rintro b6 -
  refine run_h (.none rfl) (h_storeB rfl rfl sz30 rfl rfl rfl rfl rfl Sel.here rfl) ?_
  rintro - -
  refine run_nil ?_
  refine run_sub (subMk (.cons (s := 2) rfl (.cons (s := 4) rfl (.cons (s := 5) rfl (.cons (s := 6) rfl .nil)))) .refl) ?_
  refine run_seq ?_
  refine run_seq ?_
  refine run_region ?_
  refine run_q (.none rfl) rfl rfl (q_fieldB (d := 5) rfl Try.underlying30 rfl rfl sz26 rfl) ?_
  refine run_q (.none rfl) rfl rfl (q_loadB rfl one26 rfl (.there (.there (.there (.there Sel.here)))) rfl) ?_
  refine run_q (.none rfl) rfl rfl (q_len rfl Try.underlying26 rfl) ?_
  refine run_q (.none rfl) rfl rfl (q_gtr rfl rfl rfl) ?_
  refine run_nil ?_
  refine run_sub (subMk (.cons (s := 2) rfl (.cons (s := 4) rfl (.cons (s := 5) rfl (.cons (s := 6) rfl (.cons (s := 56) rfl .nil))))) .refl) ?_
  refine run_cond rfl (fun g56 => ?_) (fun g56 => ?_)
  · have g56' := g56
    try simp only [decide_eq_true_eq, decide_eq_false_iff_not, beq_iff_eq, beq_eq_false_iff_ne, bne_iff_ne, bne_eq_false_iff_eq, Bool.not_eq_true', Bool.not_eq_false', ne_eq, Int.not_lt, Int.not_le, Decidable.not_not] at g56'
    refine run_region ?_
    refine run_q (.none rfl) rfl rfl (q_fieldB (d := 5) rfl Try.underlying30 rfl rfl sz26 rfl) ?_
    refine run_q (.none rfl) rfl rfl (q_loadB rfl one26 rfl (.there (.there (.there (.there Sel.here)))) rfl) ?_
    refine run_q (.none rfl) rfl rfl (q_indexS (q := 0) rfl Try.underlying26 sz53 rfl rfl (.own (.there (.there (.there (.there (.there Sel.here)))))) (by simp <;> omega) rfl (by omega)) ?_
    refine run_q (.none rfl) rfl rfl (q_fieldAddr (d := 4) rfl Try.underlying53 rfl rfl sz3 rfl) ?_
    refine run_q (.none rfl) rfl rfl (q_loadF rfl one3 rfl (.own (.there (.there (.there (.there (.there Sel.here)))))) (getmap (by omega)) rfl) ?_
    refine run_q (.none rfl) rfl rfl (q_addw rfl rfl rfl) ?_
    refine run_q (.none rfl) rfl rfl (q_indexS (q := 0) rfl Try.underlying26 sz53 rfl rfl (.own (.there (.there (.there (.there (.there Sel.here)))))) (by simp <;> omega) rfl (by omega)) ?_
    refine run_q (.none rfl) rfl rfl (q_fieldAddr (d := 4) rfl Try.underlying53 rfl rfl sz3 rfl) ?_
    refine run_h (.none rfl) (h_storeF rfl rfl sz3 rfl rfl rfl rfl rfl (.there (.there (.there (.there (.there Sel.here))))) (by omega) (by decide) (getmap (by omega))) ?_
    rintro - -
    refine run_nil ?_
    refine run_sub (subMk (.cons (s := 2) rfl (.cons (s := 4) rfl (.cons (s := 5) rfl (.cons (s := 6) rfl .nil)))) .refl) ?_
    refine run_seq ?_
    refine run_seq ?_
    refine run_region ?_
    refine run_q (.none rfl) rfl rfl (q_fieldB (d := 6) rfl Try.underlying30 rfl rfl sz27 rfl) ?_
    refine run_q (.none rfl) rfl rfl (q_loadB rfl one27 rfl (.there (.there (.there (.there (.there Sel.here))))) rfl) ?_
    refine run_q (.none rfl) rfl rfl (q_len rfl Try.underlying27 rfl) ?_
    refine run_q (.none rfl) rfl rfl (q_gtr rfl rfl rfl) ?_
    refine run_nil ?_
    refine run_sub (subMk (.cons (s := 2) rfl (.cons (s := 4) rfl (.cons (s := 5) rfl (.cons (s := 6) rfl (.cons (s := 68) rfl .nil))))) .refl) ?_
    refine run_cond rfl (fun g68 => ?_) (fun g68 => ?_)
    · have g68' := g68
      try simp only [decide_eq_true_eq, decide_eq_false_iff_not, beq_iff_eq, beq_eq_false_iff_ne, bne_iff_ne, bne_eq_false_iff_eq, Bool.not_eq_true', Bool.not_eq_false', ne_eq, Int.not_lt, Int.not_le, Decidable.not_not] at g68'
      refine run_region ?_
      refine run_q (.none rfl) rfl rfl (q_fieldB (d := 6) rfl Try.underlying30 rfl rfl sz27 rfl) ?_
      refine run_q (.none rfl) rfl rfl (q_loadB rfl one27 rfl (.there (.there (.there (.there (.there Sel.here))))) rfl) ?_
      refine run_q (.none rfl) rfl rfl (q_indexS (q := 0) rfl Try.underlying27 sz55 rfl rfl (.own (.there (.there (.there (.there (.there (.there Sel.here))))))) (by simp <;> omega) rfl (by omega)) ?_
      refine run_q (.none rfl) rfl rfl (q_fieldAddr (d := 3) rfl Try.underlying55 rfl rfl sz3 rfl) ?_
      refine run_q (.none rfl) rfl rfl (q_loadF rfl one3 rfl (.own (.there (.there (.there (.there (.there (.there Sel.here))))))) (getmap (by omega)) rfl) ?_
      refine run_q (.none rfl) rfl rfl (q_addw rfl rfl rfl) ?_
      refine run_q (.none rfl) rfl rfl (q_indexS (q := 0) rfl Try.underlying27 sz55 rfl rfl (.own (.there (.there (.there (.there (.there (.there Sel.here))))))) (by simp <;> omega) rfl (by omega)) ?_
      refine run_q (.none rfl) rfl rfl (q_fieldAddr (d := 3) rfl Try.underlying55 rfl rfl sz3 rfl) ?_
      refine run_h (.none rfl) (h_storeF rfl rfl sz3 rfl rfl rfl rfl rfl (.there (.there (.there (.there (.there (.there Sel.here)))))) (by omega) (by decide) (getmap (by omega))) ?_
      rintro - -
      refine run_nil ?_
      refine run_sub (subMk (.cons (s := 2) rfl (.cons (s := 4) rfl (.cons (s := 5) rfl (.cons (s := 6) rfl .nil)))) .refl) ?_
      refine run_seq ?_
      refine run_seq ?_
      refine run_region ?_
      refine run_q (.none rfl) rfl rfl (q_fieldB (d := 10) rfl Try.underlying30 rfl rfl sz28 rfl) ?_
      refine run_q (.none rfl) rfl rfl (q_loadB rfl one28 rfl (.there (.there (.there (.there (.there (.there Sel.here)))))) rfl) ?_
      refine run_q (.none rfl) rfl rfl (q_len rfl Try.underlying28 rfl) ?_
      refine run_q (.none rfl) rfl rfl (q_gtr rfl rfl rfl) ?_
      refine run_nil ?_
      refine run_sub (subMk (.cons (s := 2) rfl (.cons (s := 4) rfl (.cons (s := 5) rfl (.cons (s := 6) rfl (.cons (s := 80) rfl .nil))))) .refl) ?_
      refine run_cond rfl (fun g80 => ?_) (fun g80 => ?_)
      · have g80' := g80
        try simp only [decide_eq_true_eq, decide_eq_false_iff_not, beq_iff_eq, beq_eq_false_iff_ne, bne_iff_ne, bne_eq_false_iff_eq, Bool.not_eq_true', Bool.not_eq_false', ne_eq, Int.not_lt, Int.not_le, Decidable.not_not] at g80'
        refine run_region ?_
        refine run_q (.none rfl) rfl rfl (q_fieldB (d := 10) rfl Try.underlying30 rfl rfl sz28 rfl) ?_
        refine run_q (.none rfl) rfl rfl (q_loadB rfl one28 rfl (.there (.there (.there (.there (.there (.there Sel.here)))))) rfl) ?_
        refine run_q (.none rfl) rfl rfl (q_indexS (q := 0) rfl Try.underlying28 sz57 rfl rfl (.own (.there (.there (.there (.there (.there (.there (.there Sel.here)))))))) (by simp <;> omega) rfl (by omega)) ?_
        refine run_q (.none rfl) rfl rfl (q_fieldAddr (d := 1) rfl Try.underlying57 rfl rfl sz3 rfl) ?_
        refine run_q (.none rfl) rfl rfl (q_loadF rfl one3 rfl (.own (.there (.there (.there (.there (.there (.there (.there Sel.here)))))))) (getmap (by omega)) rfl) ?_
        refine run_q (.none rfl) rfl rfl (q_addw rfl rfl rfl) ?_
        refine run_q (.none rfl) rfl rfl (q_indexS (q := 0) rfl Try.underlying28 sz57 rfl rfl (.own (.there (.there (.there (.there (.there (.there (.there Sel.here)))))))) (by simp <;> omega) rfl (by omega)) ?_
        refine run_q (.none rfl) rfl rfl (q_fieldAddr (d := 1) rfl Try.underlying57 rfl rfl sz3 rfl) ?_
        refine run_h (.none rfl) (h_storeF rfl rfl sz3 rfl rfl rfl rfl rfl (.there (.there (.there (.there (.there (.there (.there Sel.here))))))) (by omega) (by decide) (getmap (by omega))) ?_
        rintro - -
        refine run_nil ?_
        refine run_sub (subMk (.cons (s := 2) rfl (.cons (s := 4) rfl (.cons (s := 5) rfl (.cons (s := 6) rfl .nil)))) .refl) ?_
        refine run_seq ?_
        refine run_sub (subMk .refl (.cons (.there (.there (.there (.there (.there (.there (.there Sel.here))))))) (.blk (.cons (s := 0) rfl (.cons (s := 1) rfl (.cons (s := 2) rfl (.cons (s := 3) rfl (.cons (s := 4) rfl (.cons' (s := 5) (v' := .slice r.HA (bumpH (short x).hs).length r.hc) rfl (by rw [bumpH_len]) (.cons' (s := 6) (v' := .slice r.GA (bumpG (short x).gs).length r.gc) rfl (by rw [bumpG_len]) (.cons (s := 7) rfl (.cons (s := 8) rfl (.cons (s := 9) rfl (.cons' (s := 10) (v' := .slice r.LA (bumpY (short x).ls).length r.lc) rfl (by rw [bumpY_len]) (.cons (s := 11) rfl (.cons (s := 12) rfl (.nil))))))))))))))) (.cons (.there (.there Sel.here)) (.own (m' := (bumpH (short x).hs).length) (xs' := (bumpH (short x).hs).map Hd.enc) rfl (by rw [bumpH_len]) rfl (bumpH_row (by omega))) (.cons (.there Sel.here) (.own (m' := (bumpG (short x).gs).length) (xs' := (bumpG (short x).gs).map Gr.enc) rfl (by rw [bumpG_len]) rfl (bumpG_row (by omega))) (.cons Sel.here (.own (m' := (bumpY (short x).ls).length) (xs' := (bumpY (short x).ls).map Syl.enc) rfl (by rw [bumpY_len]) rfl (bumpY_row (by omega))) (.cons Sel.here .refl (.cons Sel.here .refl (.cons Sel.here .refl (.cons Sel.here .refl (.cons Sel.here .refl (.cons Sel.here .refl (.cons Sel.here .refl (.cons Sel.here .refl .nil))))))))))))) ?_
        refine run_draw [(0, 0), (1, 0), (2, 0), (3, 0), (4, 0), (5, 0), (6, 0), (7, 0), (8, 0), (9, 0), (10, 0), (11, 0), (12, 0), (13, 0), (14, 0), (15, 0), (16, 0), (17, 0), (18, 0), (19, 0), (20, 0), (21, 0)] mixed (by kernel_rfl) .refl ?_
        refine d_q rfl rfl (.none rfl) rfl rfl (q_loadBN rfl agg30 rfl (.there (.there (.there (.there Sel.here)))) (.cons rfl (.cons rfl (.cons rfl (.cons rfl (.cons rfl (.cons rfl (.cons rfl (.cons rfl (.cons rfl (.cons rfl (.cons rfl (.cons rfl (.cons rfl CellsAt.nil))))))))))))) rfl) ?_
        refine d_q rfl rfl (.none rfl) rfl rfl (q_loadBN rfl agg30 rfl (.there (.there (.there (.there (.there (.there (.there (.there (.there Sel.here))))))))) (.cons rfl (.cons rfl (.cons rfl (.cons rfl (.cons rfl (.cons rfl (.cons rfl (.cons rfl (.cons rfl (.cons rfl (.cons rfl (.cons rfl (.cons rfl CellsAt.nil))))))))))))) rfl) ?_
        refine d_q rfl rfl (.none rfl) rfl rfl (q_call rfl call25 (.cons rfl (.cons rfl Evs.nil)) (fun w hk hm => refequal_just (short x) (short x) r2 (Lie.mk p.HA p.hc p.GA p.gc O co) w ⟨(own_rd ((Sel.there (Sel.there (Sel.there (Sel.there (Sel.there Sel.here))))).holds hm)), (own_rd ((Sel.there (Sel.there (Sel.there (Sel.there (Sel.there (Sel.there Sel.here)))))).holds hm)), (own_rd ((Sel.there (Sel.there (Sel.there (Sel.there (Sel.there (Sel.there (Sel.there Sel.here))))))).holds hm))⟩ ⟨hSh.kept0 hk, hSg.kept0 hk, (own_rd ((Sel.there (Sel.there (Sel.there (Sel.there (Sel.there (Sel.there (Sel.there (Sel.there (Sel.there (Sel.there (Sel.there Sel.here))))))))))).holds hm))⟩ fS fS)) ?_
        refine d_q rfl rfl (.none rfl) rfl rfl (q_move rfl rfl) ?_
        refine d_q rfl rfl (.on rfl rfl rfl (decide_eq_true (equalP_refl _))) rfl rfl (q_loadBN rfl agg30 rfl Sel.here (.cons rfl (.cons rfl (.cons rfl (.cons rfl (.cons rfl (.cons rfl (.cons rfl (.cons rfl (.cons rfl (.cons rfl (.cons rfl (.cons rfl (.cons rfl CellsAt.nil))))))))))))) rfl) ?_
        refine d_q rfl rfl (.on rfl rfl rfl (decide_eq_true (equalP_refl _))) rfl rfl (q_loadBN rfl agg30 rfl (.there (.there (.there (.there (.there (.there (.there (.there (.there Sel.here))))))))) (.cons rfl (.cons rfl (.cons rfl (.cons rfl (.cons rfl (.cons rfl (.cons rfl (.cons rfl (.cons rfl (.cons rfl (.cons rfl (.cons rfl (.cons rfl CellsAt.nil))))))))))))) rfl) ?_
        refine d_q rfl rfl (.on rfl rfl rfl (decide_eq_true (equalP_refl _))) rfl rfl (q_call rfl call30 (.cons rfl (.cons rfl Evs.nil)) (fun w hk hm => evEqual_just (bumpE (short x)) (short x) r (Lie.mk p.HA p.hc p.GA p.gc O co) w ⟨(own_rd ((Sel.there Sel.here).holds hm)), (own_rd ((Sel.there (Sel.there Sel.here)).holds hm)), (own_rd ((Sel.there (Sel.there (Sel.there Sel.here))).holds hm))⟩ ⟨hSh.kept0 hk, hSg.kept0 hk, (own_rd ((Sel.there (Sel.there (Sel.there (Sel.there (Sel.there (Sel.there (Sel.there (Sel.there (Sel.there (Sel.there (Sel.there Sel.here))))))))))).holds hm))⟩ (bump_few fS) fS)) ?_
        refine d_q rfl rfl (.on rfl rfl rfl (decide_eq_true (equalP_refl _))) rfl rfl (q_fieldB (d := 5) rfl Try.underlying30 rfl rfl sz26 rfl) ?_
        refine d_q rfl rfl (.on rfl rfl rfl (decide_eq_true (equalP_refl _))) rfl rfl (q_loadB rfl one26 rfl (.there (.there (.there (.there (.there (.there (.there (.there (.there Sel.here))))))))) rfl) ?_
        refine d_q rfl rfl (.on rfl rfl rfl (decide_eq_true (equalP_refl _))) rfl rfl (q_len rfl Try.underlying26 rfl) ?_
        refine d_q rfl rfl (.on rfl rfl rfl (decide_eq_true (equalP_refl _))) rfl rfl (q_fieldB (d := 6) rfl Try.underlying30 rfl rfl sz27 rfl) ?_
        refine d_q rfl rfl (.on rfl rfl rfl (decide_eq_true (equalP_refl _))) rfl rfl (q_loadB rfl one27 rfl (.there (.there (.there (.there (.there (.there (.there (.there (.there Sel.here))))))))) rfl) ?_
        refine d_q rfl rfl (.on rfl rfl rfl (decide_eq_true (equalP_refl _))) rfl rfl (q_len rfl Try.underlying27 rfl) ?_
        refine d_q rfl rfl (.on rfl rfl rfl (decide_eq_true (equalP_refl _))) rfl rfl (q_add rfl rfl rfl (by omega)) ?_
        refine d_q rfl rfl (.on rfl rfl rfl (decide_eq_true (equalP_refl _))) rfl rfl (q_fieldB (d := 10) rfl Try.underlying30 rfl rfl sz28 rfl) ?_
        refine d_q rfl rfl (.on rfl rfl rfl (decide_eq_true (equalP_refl _))) rfl rfl (q_loadB rfl one28 rfl (.there (.there (.there (.there (.there (.there (.there (.there (.there Sel.here))))))))) rfl) ?_
        refine d_q rfl rfl (.on rfl rfl rfl (decide_eq_true (equalP_refl _))) rfl rfl (q_len rfl Try.underlying28 rfl) ?_
        refine d_q rfl rfl (.on rfl rfl rfl (decide_eq_true (equalP_refl _))) rfl rfl (q_add rfl rfl rfl (by omega)) ?_
        refine d_q rfl rfl (.on rfl rfl rfl (decide_eq_true (equalP_refl _))) rfl rfl (q_eql rfl rfl rfl) ?_
        refine d_q rfl rfl (.on rfl rfl rfl (decide_eq_true (equalP_refl _))) rfl rfl (q_eqlB rfl rfl rfl Try.underlying4) ?_
        refine d_q rfl rfl (.none rfl) rfl rfl (q_pickT rfl rfl (decide_eq_true (equalP_refl _)) rfl) ?_
        refine d_q rfl rfl (.none rfl) rfl rfl (q_assign rfl rfl) ?_
        refine d_nil ?_
        refine run_sub (subMk (.cons (s := 4) rfl .nil) .refl) ?_
        refine run_ret ?_
        exact end1 rfl rfl (congrArg Value.bool (bump_law _))
      · have g80' := g80
        try simp only [decide_eq_true_eq, decide_eq_false_iff_not, beq_iff_eq, beq_eq_false_iff_ne, bne_iff_ne, bne_eq_false_iff_eq, Bool.not_eq_true', Bool.not_eq_false', ne_eq, Int.not_lt, Int.not_le, Decidable.not_not] at g80'
        refine run_skip ?_
        refine run_seq ?_
        refine run_sub (subMk .refl (.cons (.there (.there (.there (.there (.there (.there Sel.here)))))) (.blk (.cons (s := 0) rfl (.cons (s := 1) rfl (.cons (s := 2) rfl (.cons (s := 3) rfl (.cons (s := 4) rfl (.cons' (s := 5) (v' := .slice r.HA (bumpH (short x).hs).length r.hc) rfl (by rw [bumpH_len]) (.cons' (s := 6) (v' := .slice r.GA (bumpG (short x).gs).length r.gc) rfl (by rw [bumpG_len]) (.cons (s := 7) rfl (.cons (s := 8) rfl (.cons (s := 9) rfl (.cons' (s := 10) (v' := .slice r.LA (bumpY (short x).ls).length r.lc) rfl (by rw [bumpY_len]) (.cons (s := 11) rfl (.cons (s := 12) rfl (.nil))))))))))))))) (.cons (.there Sel.here) (.own (m' := (bumpH (short x).hs).length) (xs' := (bumpH (short x).hs).map Hd.enc) rfl (by rw [bumpH_len]) rfl (bumpH_row (by omega))) (.cons Sel.here (.own (m' := (bumpG (short x).gs).length) (xs' := (bumpG (short x).gs).map Gr.enc) rfl (by rw [bumpG_len]) rfl (bumpG_row (by omega))) (.cons (.there (.there (.there (.there Sel.here)))) (.own (m' := (bumpY (short x).ls).length) (xs' := (bumpY (short x).ls).map Syl.enc) rfl (by rw [bumpY_len]) rfl (by rw [bumpY_nil (by omega)])) (.cons Sel.here .refl (.cons Sel.here .refl (.cons Sel.here .refl (.cons Sel.here .refl (.cons Sel.here .refl (.cons Sel.here .refl (.cons Sel.here .refl (.cons Sel.here .refl .nil))))))))))))) ?_
        refine run_draw [(0, 0), (1, 0), (2, 0), (3, 0), (4, 0), (5, 0), (6, 0), (7, 0), (8, 0), (9, 0), (10, 0), (11, 0), (12, 0), (13, 0), (14, 0), (15, 0), (16, 0), (17, 0), (18, 0), (19, 0), (20, 0), (21, 0)] mixed (by kernel_rfl) .refl ?_
        refine d_q rfl rfl (.none rfl) rfl rfl (q_loadBN rfl agg30 rfl (.there (.there (.there (.there Sel.here)))) (.cons rfl (.cons rfl (.cons rfl (.cons rfl (.cons rfl (.cons rfl (.cons rfl (.cons rfl (.cons rfl (.cons rfl (.cons rfl (.cons rfl (.cons rfl CellsAt.nil))))))))))))) rfl) ?_
        refine d_q rfl rfl (.none rfl) rfl rfl (q_loadBN rfl agg30 rfl (.there (.there (.there (.there (.there (.there (.there (.there (.there Sel.here))))))))) (.cons rfl (.cons rfl (.cons rfl (.cons rfl (.cons rfl (.cons rfl (.cons rfl (.cons rfl (.cons rfl (.cons rfl (.cons rfl (.cons rfl (.cons rfl CellsAt.nil))))))))))))) rfl) ?_
        refine d_q rfl rfl (.none rfl) rfl rfl (q_call rfl call25 (.cons rfl (.cons rfl Evs.nil)) (fun w hk hm => refequal_just (short x) (short x) r2 (Lie.mk p.HA p.hc p.GA p.gc O co) w ⟨(own_rd ((Sel.there (Sel.there (Sel.there (Sel.there (Sel.there Sel.here))))).holds hm)), (own_rd ((Sel.there (Sel.there (Sel.there (Sel.there (Sel.there (Sel.there Sel.here)))))).holds hm)), (own_rd ((Sel.there (Sel.there (Sel.there (Sel.there (Sel.there (Sel.there (Sel.there Sel.here))))))).holds hm))⟩ ⟨hSh.kept0 hk, hSg.kept0 hk, (own_rd ((Sel.there (Sel.there (Sel.there (Sel.there (Sel.there (Sel.there (Sel.there (Sel.there (Sel.there (Sel.there (Sel.there Sel.here))))))))))).holds hm))⟩ fS fS)) ?_
        refine d_q rfl rfl (.none rfl) rfl rfl (q_move rfl rfl) ?_
        refine d_q rfl rfl (.on rfl rfl rfl (decide_eq_true (equalP_refl _))) rfl rfl (q_loadBN rfl agg30 rfl Sel.here (.cons rfl (.cons rfl (.cons rfl (.cons rfl (.cons rfl (.cons rfl (.cons rfl (.cons rfl (.cons rfl (.cons rfl (.cons rfl (.cons rfl (.cons rfl CellsAt.nil))))))))))))) rfl) ?_
        refine d_q rfl rfl (.on rfl rfl rfl (decide_eq_true (equalP_refl _))) rfl rfl (q_loadBN rfl agg30 rfl (.there (.there (.there (.there (.there (.there (.there (.there (.there Sel.here))))))))) (.cons rfl (.cons rfl (.cons rfl (.cons rfl (.cons rfl (.cons rfl (.cons rfl (.cons rfl (.cons rfl (.cons rfl (.cons rfl (.cons rfl (.cons rfl CellsAt.nil))))))))))))) rfl) ?_
        refine d_q rfl rfl (.on rfl rfl rfl (decide_eq_true (equalP_refl _))) rfl rfl (q_call rfl call30 (.cons rfl (.cons rfl Evs.nil)) (fun w hk hm => evEqual_just (bumpE (short x)) (short x) r (Lie.mk p.HA p.hc p.GA p.gc O co) w ⟨(own_rd ((Sel.there Sel.here).holds hm)), (own_rd ((Sel.there (Sel.there Sel.here)).holds hm)), (own_rd ((Sel.there (Sel.there (Sel.there Sel.here))).holds hm))⟩ ⟨hSh.kept0 hk, hSg.kept0 hk, (own_rd ((Sel.there (Sel.there (Sel.there (Sel.there (Sel.there (Sel.there (Sel.there (Sel.there (Sel.there (Sel.there (Sel.there Sel.here))))))))))).holds hm))⟩ (bump_few fS) fS)) ?_
        refine d_q rfl rfl (.on rfl rfl rfl (decide_eq_true (equalP_refl _))) rfl rfl (q_fieldB (d := 5) rfl Try.underlying30 rfl rfl sz26 rfl) ?_
        refine d_q rfl rfl (.on rfl rfl rfl (decide_eq_true (equalP_refl _))) rfl rfl (q_loadB rfl one26 rfl (.there (.there (.there (.there (.there (.there (.there (.there (.there Sel.here))))))))) rfl) ?_
        refine d_q rfl rfl (.on rfl rfl rfl (decide_eq_true (equalP_refl _))) rfl rfl (q_len rfl Try.underlying26 rfl) ?_
        refine d_q rfl rfl (.on rfl rfl rfl (decide_eq_true (equalP_refl _))) rfl rfl (q_fieldB (d := 6) rfl Try.underlying30 rfl rfl sz27 rfl) ?_
        refine d_q rfl rfl (.on rfl rfl rfl (decide_eq_true (equalP_refl _))) rfl rfl (q_loadB rfl one27 rfl (.there (.there (.there (.there (.there (.there (.there (.there (.there Sel.here))))))))) rfl) ?_
        refine d_q rfl rfl (.on rfl rfl rfl (decide_eq_true (equalP_refl _))) rfl rfl (q_len rfl Try.underlying27 rfl) ?_
        refine d_q rfl rfl (.on rfl rfl rfl (decide_eq_true (equalP_refl _))) rfl rfl (q_add rfl rfl rfl (by omega)) ?_
        refine d_q rfl rfl (.on rfl rfl rfl (decide_eq_true (equalP_refl _))) rfl rfl (q_fieldB (d := 10) rfl Try.underlying30 rfl rfl sz28 rfl) ?_
        refine d_q rfl rfl (.on rfl rfl rfl (decide_eq_true (equalP_refl _))) rfl rfl (q_loadB rfl one28 rfl (.there (.there (.there (.there (.there (.there (.there (.there (.there Sel.here))))))))) rfl) ?_
        refine d_q rfl rfl (.on rfl rfl rfl (decide_eq_true (equalP_refl _))) rfl rfl (q_len rfl Try.underlying28 rfl) ?_
        refine d_q rfl rfl (.on rfl rfl rfl (decide_eq_true (equalP_refl _))) rfl rfl (q_add rfl rfl rfl (by omega)) ?_
        refine d_q rfl rfl (.on rfl rfl rfl (decide_eq_true (equalP_refl _))) rfl rfl (q_eql rfl rfl rfl) ?_
        refine d_q rfl rfl (.on rfl rfl rfl (decide_eq_true (equalP_refl _))) rfl rfl (q_eqlB rfl rfl rfl Try.underlying4) ?_
        refine d_q rfl rfl (.none rfl) rfl rfl (q_pickT rfl rfl (decide_eq_true (equalP_refl _)) rfl) ?_
        refine d_q rfl rfl (.none rfl) rfl rfl (q_assign rfl rfl) ?_
        refine d_nil ?_
        refine run_sub (subMk (.cons (s := 4) rfl .nil) .refl) ?_
        refine run_ret ?_
        exact end1 rfl rfl (congrArg Value.bool (bump_law _))
    · have g68' := g68
      try simp only [decide_eq_true_eq, decide_eq_false_iff_not, beq_iff_eq, beq_eq_false_iff_ne, bne_iff_ne, bne_eq_false_iff_eq, Bool.not_eq_true', Bool.not_eq_false', ne_eq, Int.not_lt, Int.not_le, Decidable.not_not] at g68'
      refine run_skip ?_
      refine run_seq ?_
      refine run_seq ?_
      refine run_region ?_
      refine run_q (.none rfl) rfl rfl (q_fieldB (d := 10) rfl Try.underlying30 rfl rfl sz28 rfl) ?_
      refine run_q (.none rfl) rfl rfl (q_loadB rfl one28 rfl (.there (.there (.there (.there (.there Sel.here))))) rfl) ?_
      refine run_q (.none rfl) rfl rfl (q_len rfl Try.underlying28 rfl) ?_
      refine run_q (.none rfl) rfl rfl (q_gtr rfl rfl rfl) ?_
      refine run_nil ?_
      refine run_sub (subMk (.cons (s := 2) rfl (.cons (s := 4) rfl (.cons (s := 5) rfl (.cons (s := 6) rfl (.cons (s := 80) rfl .nil))))) .refl) ?_
      refine run_cond rfl (fun g80 => ?_) (fun g80 => ?_)
      · have g80' := g80
        try simp only [decide_eq_true_eq, decide_eq_false_iff_not, beq_iff_eq, beq_eq_false_iff_ne, bne_iff_ne, bne_eq_false_iff_eq, Bool.not_eq_true', Bool.not_eq_false', ne_eq, Int.not_lt, Int.not_le, Decidable.not_not] at g80'
        refine run_region ?_
        refine run_q (.none rfl) rfl rfl (q_fieldB (d := 10) rfl Try.underlying30 rfl rfl sz28 rfl) ?_
        refine run_q (.none rfl) rfl rfl (q_loadB rfl one28 rfl (.there (.there (.there (.there (.there Sel.here))))) rfl) ?_
        refine run_q (.none rfl) rfl rfl (q_indexS (q := 0) rfl Try.underlying28 sz57 rfl rfl (.own (.there (.there (.there (.there (.there (.there (.there Sel.here)))))))) (by simp <;> omega) rfl (by omega)) ?_
        refine run_q (.none rfl) rfl rfl (q_fieldAddr (d := 1) rfl Try.underlying57 rfl rfl sz3 rfl) ?_
        refine run_q (.none rfl) rfl rfl (q_loadF rfl one3 rfl (.own (.there (.there (.there (.there (.there (.there (.there Sel.here)))))))) (getmap (by omega)) rfl) ?_
        refine run_q (.none rfl) rfl rfl (q_addw rfl rfl rfl) ?_
        refine run_q (.none rfl) rfl rfl (q_indexS (q := 0) rfl Try.underlying28 sz57 rfl rfl (.own (.there (.there (.there (.there (.there (.there (.there Sel.here)))))))) (by simp <;> omega) rfl (by omega)) ?_
        refine run_q (.none rfl) rfl rfl (q_fieldAddr (d := 1) rfl Try.underlying57 rfl rfl sz3 rfl) ?_
        refine run_h (.none rfl) (h_storeF rfl rfl sz3 rfl rfl rfl rfl rfl (.there (.there (.there (.there (.there (.there (.there Sel.here))))))) (by omega) (by decide) (getmap (by omega))) ?_
        rintro - -
        refine run_nil ?_
        refine run_sub (subMk (.cons (s := 2) rfl (.cons (s := 4) rfl (.cons (s := 5) rfl (.cons (s := 6) rfl .nil)))) .refl) ?_
        refine run_seq ?_
        refine run_sub (subMk .refl (.cons (.there (.there (.there (.there (.there (.there Sel.here)))))) (.blk (.cons (s := 0) rfl (.cons (s := 1) rfl (.cons (s := 2) rfl (.cons (s := 3) rfl (.cons (s := 4) rfl (.cons' (s := 5) (v' := .slice r.HA (bumpH (short x).hs).length r.hc) rfl (by rw [bumpH_len]) (.cons' (s := 6) (v' := .slice r.GA (bumpG (short x).gs).length r.gc) rfl (by rw [bumpG_len]) (.cons (s := 7) rfl (.cons (s := 8) rfl (.cons (s := 9) rfl (.cons' (s := 10) (v' := .slice r.LA (bumpY (short x).ls).length r.lc) rfl (by rw [bumpY_len]) (.cons (s := 11) rfl (.cons (s := 12) rfl (.nil))))))))))))))) (.cons (.there Sel.here) (.own (m' := (bumpH (short x).hs).length) (xs' := (bumpH (short x).hs).map Hd.enc) rfl (by rw [bumpH_len]) rfl (bumpH_row (by omega))) (.cons (.there (.there (.there (.there (.there Sel.here))))) (.own (m' := (bumpG (short x).gs).length) (xs' := (bumpG (short x).gs).map Gr.enc) rfl (by rw [bumpG_len]) rfl (by rw [bumpG_nil (by omega)])) (.cons Sel.here (.own (m' := (bumpY (short x).ls).length) (xs' := (bumpY (short x).ls).map Syl.enc) rfl (by rw [bumpY_len]) rfl (bumpY_row (by omega))) (.cons Sel.here .refl (.cons Sel.here .refl (.cons Sel.here .refl (.cons Sel.here .refl (.cons Sel.here .refl (.cons Sel.here .refl (.cons Sel.here .refl (.cons Sel.here .refl .nil))))))))))))) ?_
        refine run_draw [(0, 0), (1, 0), (2, 0), (3, 0), (4, 0), (5, 0), (6, 0), (7, 0), (8, 0), (9, 0), (10, 0), (11, 0), (12, 0), (13, 0), (14, 0), (15, 0), (16, 0), (17, 0), (18, 0), (19, 0), (20, 0), (21, 0)] mixed (by kernel_rfl) .refl ?_
        refine d_q rfl rfl (.none rfl) rfl rfl (q_loadBN rfl agg30 rfl (.there (.there (.there (.there Sel.here)))) (.cons rfl (.cons rfl (.cons rfl (.cons rfl (.cons rfl (.cons rfl (.cons rfl (.cons rfl (.cons rfl (.cons rfl (.cons rfl (.cons rfl (.cons rfl CellsAt.nil))))))))))))) rfl) ?_
        refine d_q rfl rfl (.none rfl) rfl rfl (q_loadBN rfl agg30 rfl (.there (.there (.there (.there (.there (.there (.there (.there (.there Sel.here))))))))) (.cons rfl (.cons rfl (.cons rfl (.cons rfl (.cons rfl (.cons rfl (.cons rfl (.cons rfl (.cons rfl (.cons rfl (.cons rfl (.cons rfl (.cons rfl CellsAt.nil))))))))))))) rfl) ?_
        refine d_q rfl rfl (.none rfl) rfl rfl (q_call rfl call25 (.cons rfl (.cons rfl Evs.nil)) (fun w hk hm => refequal_just (short x) (short x) r2 (Lie.mk p.HA p.hc p.GA p.gc O co) w ⟨(own_rd ((Sel.there (Sel.there (Sel.there (Sel.there (Sel.there Sel.here))))).holds hm)), (own_rd ((Sel.there (Sel.there (Sel.there (Sel.there (Sel.there (Sel.there Sel.here)))))).holds hm)), (own_rd ((Sel.there (Sel.there (Sel.there (Sel.there (Sel.there (Sel.there (Sel.there Sel.here))))))).holds hm))⟩ ⟨hSh.kept0 hk, hSg.kept0 hk, (own_rd ((Sel.there (Sel.there (Sel.there (Sel.there (Sel.there (Sel.there (Sel.there (Sel.there (Sel.there (Sel.there (Sel.there Sel.here))))))))))).holds hm))⟩ fS fS)) ?_
        refine d_q rfl rfl (.none rfl) rfl rfl (q_move rfl rfl) ?_
        refine d_q rfl rfl (.on rfl rfl rfl (decide_eq_true (equalP_refl _))) rfl rfl (q_loadBN rfl agg30 rfl Sel.here (.cons rfl (.cons rfl (.cons rfl (.cons rfl (.cons rfl (.cons rfl (.cons rfl (.cons rfl (.cons rfl (.cons rfl (.cons rfl (.cons rfl (.cons rfl CellsAt.nil))))))))))))) rfl) ?_
        refine d_q rfl rfl (.on rfl rfl rfl (decide_eq_true (equalP_refl _))) rfl rfl (q_loadBN rfl agg30 rfl (.there (.there (.there (.there (.there (.there (.there (.there (.there Sel.here))))))))) (.cons rfl (.cons rfl (.cons rfl (.cons rfl (.cons rfl (.cons rfl (.cons rfl (.cons rfl (.cons rfl (.cons rfl (.cons rfl (.cons rfl (.cons rfl CellsAt.nil))))))))))))) rfl) ?_
        refine d_q rfl rfl (.on rfl rfl rfl (decide_eq_true (equalP_refl _))) rfl rfl (q_call rfl call30 (.cons rfl (.cons rfl Evs.nil)) (fun w hk hm => evEqual_just (bumpE (short x)) (short x) r (Lie.mk p.HA p.hc p.GA p.gc O co) w ⟨(own_rd ((Sel.there Sel.here).holds hm)), (own_rd ((Sel.there (Sel.there Sel.here)).holds hm)), (own_rd ((Sel.there (Sel.there (Sel.there Sel.here))).holds hm))⟩ ⟨hSh.kept0 hk, hSg.kept0 hk, (own_rd ((Sel.there (Sel.there (Sel.there (Sel.there (Sel.there (Sel.there (Sel.there (Sel.there (Sel.there (Sel.there (Sel.there Sel.here))))))))))).holds hm))⟩ (bump_few fS) fS)) ?_
        refine d_q rfl rfl (.on rfl rfl rfl (decide_eq_true (equalP_refl _))) rfl rfl (q_fieldB (d := 5) rfl Try.underlying30 rfl rfl sz26 rfl) ?_
        refine d_q rfl rfl (.on rfl rfl rfl (decide_eq_true (equalP_refl _))) rfl rfl (q_loadB rfl one26 rfl (.there (.there (.there (.there (.there (.there (.there (.there (.there Sel.here))))))))) rfl) ?_
        refine d_q rfl rfl (.on rfl rfl rfl (decide_eq_true (equalP_refl _))) rfl rfl (q_len rfl Try.underlying26 rfl) ?_
        refine d_q rfl rfl (.on rfl rfl rfl (decide_eq_true (equalP_refl _))) rfl rfl (q_fieldB (d := 6) rfl Try.underlying30 rfl rfl sz27 rfl) ?_
        refine d_q rfl rfl (.on rfl rfl rfl (decide_eq_true (equalP_refl _))) rfl rfl (q_loadB rfl one27 rfl (.there (.there (.there (.there (.there (.there (.there (.there (.there Sel.here))))))))) rfl) ?_
        refine d_q rfl rfl (.on rfl rfl rfl (decide_eq_true (equalP_refl _))) rfl rfl (q_len rfl Try.underlying27 rfl) ?_
        refine d_q rfl rfl (.on rfl rfl rfl (decide_eq_true (equalP_refl _))) rfl rfl (q_add rfl rfl rfl (by omega)) ?_
        refine d_q rfl rfl (.on rfl rfl rfl (decide_eq_true (equalP_refl _))) rfl rfl (q_fieldB (d := 10) rfl Try.underlying30 rfl rfl sz28 rfl) ?_
        refine d_q rfl rfl (.on rfl rfl rfl (decide_eq_true (equalP_refl _))) rfl rfl (q_loadB rfl one28 rfl (.there (.there (.there (.there (.there (.there (.there (.there (.there Sel.here))))))))) rfl) ?_
        refine d_q rfl rfl (.on rfl rfl rfl (decide_eq_true (equalP_refl _))) rfl rfl (q_len rfl Try.underlying28 rfl) ?_
        refine d_q rfl rfl (.on rfl rfl rfl (decide_eq_true (equalP_refl _))) rfl rfl (q_add rfl rfl rfl (by omega)) ?_
        refine d_q rfl rfl (.on rfl rfl rfl (decide_eq_true (equalP_refl _))) rfl rfl (q_eql rfl rfl rfl) ?_
        refine d_q rfl rfl (.on rfl rfl rfl (decide_eq_true (equalP_refl _))) rfl rfl (q_eqlB rfl rfl rfl Try.underlying4) ?_
        refine d_q rfl rfl (.none rfl) rfl rfl (q_pickT rfl rfl (decide_eq_true (equalP_refl _)) rfl) ?_
        refine d_q rfl rfl (.none rfl) rfl rfl (q_assign rfl rfl) ?_
        refine d_nil ?_
        refine run_sub (subMk (.cons (s := 4) rfl .nil) .refl) ?_
        refine run_ret ?_
        exact end1 rfl rfl (congrArg Value.bool (bump_law _))
      · have g80' := g80
        try simp only [decide_eq_true_eq, decide_eq_false_iff_not, beq_iff_eq, beq_eq_false_iff_ne, bne_iff_ne, bne_eq_false_iff_eq, Bool.not_eq_true', Bool.not_eq_false', ne_eq, Int.not_lt, Int.not_le, Decidable.not_not] at g80'
        refine run_skip ?_
        refine run_seq ?_
        refine run_sub (subMk .refl (.cons (.there (.there (.there (.there (.there Sel.here))))) (.blk (.cons (s := 0) rfl (.cons (s := 1) rfl (.cons (s := 2) rfl (.cons (s := 3) rfl (.cons (s := 4) rfl (.cons' (s := 5) (v' := .slice r.HA (bumpH (short x).hs).length r.hc) rfl (by rw [bumpH_len]) (.cons' (s := 6) (v' := .slice r.GA (bumpG (short x).gs).length r.gc) rfl (by rw [bumpG_len]) (.cons (s := 7) rfl (.cons (s := 8) rfl (.cons (s := 9) rfl (.cons' (s := 10) (v' := .slice r.LA (bumpY (short x).ls).length r.lc) rfl (by rw [bumpY_len]) (.cons (s := 11) rfl (.cons (s := 12) rfl (.nil))))))))))))))) (.cons Sel.here (.own (m' := (bumpH (short x).hs).length) (xs' := (bumpH (short x).hs).map Hd.enc) rfl (by rw [bumpH_len]) rfl (bumpH_row (by omega))) (.cons (.there (.there (.there (.there Sel.here)))) (.own (m' := (bumpG (short x).gs).length) (xs' := (bumpG (short x).gs).map Gr.enc) rfl (by rw [bumpG_len]) rfl (by rw [bumpG_nil (by omega)])) (.cons (.there (.there (.there (.there Sel.here)))) (.own (m' := (bumpY (short x).ls).length) (xs' := (bumpY (short x).ls).map Syl.enc) rfl (by rw [bumpY_len]) rfl (by rw [bumpY_nil (by omega)])) (.cons Sel.here .refl (.cons Sel.here .refl (.cons Sel.here .refl (.cons Sel.here .refl (.cons Sel.here .refl (.cons Sel.here .refl (.cons Sel.here .refl (.cons Sel.here .refl .nil))))))))))))) ?_
        refine run_draw [(0, 0), (1, 0), (2, 0), (3, 0), (4, 0), (5, 0), (6, 0), (7, 0), (8, 0), (9, 0), (10, 0), (11, 0), (12, 0), (13, 0), (14, 0), (15, 0), (16, 0), (17, 0), (18, 0), (19, 0), (20, 0), (21, 0)] mixed (by kernel_rfl) .refl ?_
        refine d_q rfl rfl (.none rfl) rfl rfl (q_loadBN rfl agg30 rfl (.there (.there (.there (.there Sel.here)))) (.cons rfl (.cons rfl (.cons rfl (.cons rfl (.cons rfl (.cons rfl (.cons rfl (.cons rfl (.cons rfl (.cons rfl (.cons rfl (.cons rfl (.cons rfl CellsAt.nil))))))))))))) rfl) ?_
        refine d_q rfl rfl (.none rfl) rfl rfl (q_loadBN rfl agg30 rfl (.there (.there (.there (.there (.there (.there (.there (.there (.there Sel.here))))))))) (.cons rfl (.cons rfl (.cons rfl (.cons rfl (.cons rfl (.cons rfl (.cons rfl (.cons rfl (.cons rfl (.cons rfl (.cons rfl (.cons rfl (.cons rfl CellsAt.nil))))))))))))) rfl) ?_
        refine d_q rfl rfl (.none rfl) rfl rfl (q_call rfl call25 (.cons rfl (.cons rfl Evs.nil)) (fun w hk hm => refequal_just (short x) (short x) r2 (Lie.mk p.HA p.hc p.GA p.gc O co) w ⟨(own_rd ((Sel.there (Sel.there (Sel.there (Sel.there (Sel.there Sel.here))))).holds hm)), (own_rd ((Sel.there (Sel.there (Sel.there (Sel.there (Sel.there (Sel.there Sel.here)))))).holds hm)), (own_rd ((Sel.there (Sel.there (Sel.there (Sel.there (Sel.there (Sel.there (Sel.there Sel.here))))))).holds hm))⟩ ⟨hSh.kept0 hk, hSg.kept0 hk, (own_rd ((Sel.there (Sel.there (Sel.there (Sel.there (Sel.there (Sel.there (Sel.there (Sel.there (Sel.there (Sel.there (Sel.there Sel.here))))))))))).holds hm))⟩ fS fS)) ?_
        refine d_q rfl rfl (.none rfl) rfl rfl (q_move rfl rfl) ?_
        refine d_q rfl rfl (.on rfl rfl rfl (decide_eq_true (equalP_refl _))) rfl rfl (q_loadBN rfl agg30 rfl Sel.here (.cons rfl (.cons rfl (.cons rfl (.cons rfl (.cons rfl (.cons rfl (.cons rfl (.cons rfl (.cons rfl (.cons rfl (.cons rfl (.cons rfl (.cons rfl CellsAt.nil))))))))))))) rfl) ?_
        refine d_q rfl rfl (.on rfl rfl rfl (decide_eq_true (equalP_refl _))) rfl rfl (q_loadBN rfl agg30 rfl (.there (.there (.there (.there (.there (.there (.there (.there (.there Sel.here))))))))) (.cons rfl (.cons rfl (.cons rfl (.cons rfl (.cons rfl (.cons rfl (.cons rfl (.cons rfl (.cons rfl (.cons rfl (.cons rfl (.cons rfl (.cons rfl CellsAt.nil))))))))))))) rfl) ?_
        refine d_q rfl rfl (.on rfl rfl rfl (decide_eq_true (equalP_refl _))) rfl rfl (q_call rfl call30 (.cons rfl (.cons rfl Evs.nil)) (fun w hk hm => evEqual_just (bumpE (short x)) (short x) r (Lie.mk p.HA p.hc p.GA p.gc O co) w ⟨(own_rd ((Sel.there Sel.here).holds hm)), (own_rd ((Sel.there (Sel.there Sel.here)).holds hm)), (own_rd ((Sel.there (Sel.there (Sel.there Sel.here))).holds hm))⟩ ⟨hSh.kept0 hk, hSg.kept0 hk, (own_rd ((Sel.there (Sel.there (Sel.there (Sel.there (Sel.there (Sel.there (Sel.there (Sel.there (Sel.there (Sel.there (Sel.there Sel.here))))))))))).holds hm))⟩ (bump_few fS) fS)) ?_
        refine d_q rfl rfl (.on rfl rfl rfl (decide_eq_true (equalP_refl _))) rfl rfl (q_fieldB (d := 5) rfl Try.underlying30 rfl rfl sz26 rfl) ?_
        refine d_q rfl rfl (.on rfl rfl rfl (decide_eq_true (equalP_refl _))) rfl rfl (q_loadB rfl one26 rfl (.there (.there (.there (.there (.there (.there (.there (.there (.there Sel.here))))))))) rfl) ?_
        refine d_q rfl rfl (.on rfl rfl rfl (decide_eq_true (equalP_refl _))) rfl rfl (q_len rfl Try.underlying26 rfl) ?_
        refine d_q rfl rfl (.on rfl rfl rfl (decide_eq_true (equalP_refl _))) rfl rfl (q_fieldB (d := 6) rfl Try.underlying30 rfl rfl sz27 rfl) ?_
        refine d_q rfl rfl (.on rfl rfl rfl (decide_eq_true (equalP_refl _))) rfl rfl (q_loadB rfl one27 rfl (.there (.there (.there (.there (.there (.there (.there (.there (.there Sel.here))))))))) rfl) ?_
        refine d_q rfl rfl (.on rfl rfl rfl (decide_eq_true (equalP_refl _))) rfl rfl (q_len rfl Try.underlying27 rfl) ?_
        refine d_q rfl rfl (.on rfl rfl rfl (decide_eq_true (equalP_refl _))) rfl rfl (q_add rfl rfl rfl (by omega)) ?_
        refine d_q rfl rfl (.on rfl rfl rfl (decide_eq_true (equalP_refl _))) rfl rfl (q_fieldB (d := 10) rfl Try.underlying30 rfl rfl sz28 rfl) ?_
        refine d_q rfl rfl (.on rfl rfl rfl (decide_eq_true (equalP_refl _))) rfl rfl (q_loadB rfl one28 rfl (.there (.there (.there (.there (.there (.there (.there (.there (.there Sel.here))))))))) rfl) ?_
        refine d_q rfl rfl (.on rfl rfl rfl (decide_eq_true (equalP_refl _))) rfl rfl (q_len rfl Try.underlying28 rfl) ?_
        refine d_q rfl rfl (.on rfl rfl rfl (decide_eq_true (equalP_refl _))) rfl rfl (q_add rfl rfl rfl (by omega)) ?_
        refine d_q rfl rfl (.on rfl rfl rfl (decide_eq_true (equalP_refl _))) rfl rfl (q_eql rfl rfl rfl) ?_
        refine d_q rfl rfl (.on rfl rfl rfl (decide_eq_true (equalP_refl _))) rfl rfl (q_eqlB rfl rfl rfl Try.underlying4) ?_
        refine d_q rfl rfl (.none rfl) rfl rfl (q_pickT rfl rfl (decide_eq_true (equalP_refl _)) rfl) ?_
        refine d_q rfl rfl (.none rfl) rfl rfl (q_assign rfl rfl) ?_
        refine d_nil ?_
        refine run_sub (subMk (.cons (s := 4) rfl .nil) .refl) ?_
        refine run_ret ?_
        exact end1 rfl rfl (congrArg Value.bool (bump_law _))
  · have g56' := g56
    try simp only [decide_eq_true_eq, decide_eq_false_iff_not, beq_iff_eq, beq_eq_false_iff_ne, bne_iff_ne, bne_eq_false_iff_eq, Bool.not_eq_true', Bool.not_eq_false', ne_eq, Int.not_lt, Int.not_le, Decidable.not_not] at g56'
    refine run_skip ?_
    refine run_seq ?_
    refine run_seq ?_
    refine run_region ?_
    refine run_q (.none rfl) rfl rfl (q_fieldB (d := 6) rfl Try.underlying30 rfl rfl sz27 rfl) ?_
    refine run_q (.none rfl) rfl rfl (q_loadB rfl one27 rfl (.there (.there (.there (.there Sel.here)))) rfl) ?_
    refine run_q (.none rfl) rfl rfl (q_len rfl Try.underlying27 rfl) ?_
    refine run_q (.none rfl) rfl rfl (q_gtr rfl rfl rfl) ?_
    refine run_nil ?_
    refine run_sub (subMk (.cons (s := 2) rfl (.cons (s := 4) rfl (.cons (s := 5) rfl (.cons (s := 6) rfl (.cons (s := 68) rfl .nil))))) .refl) ?_
    refine run_cond rfl (fun g68 => ?_) (fun g68 => ?_)
    · have g68' := g68
      try simp only [decide_eq_true_eq, decide_eq_false_iff_not, beq_iff_eq, beq_eq_false_iff_ne, bne_iff_ne, bne_eq_false_iff_eq, Bool.not_eq_true', Bool.not_eq_false', ne_eq, Int.not_lt, Int.not_le, Decidable.not_not] at g68'
      refine run_region ?_
      refine run_q (.none rfl) rfl rfl (q_fieldB (d := 6) rfl Try.underlying30 rfl rfl sz27 rfl) ?_
      refine run_q (.none rfl) rfl rfl (q_loadB rfl one27 rfl (.there (.there (.there (.there Sel.here)))) rfl) ?_
      refine run_q (.none rfl) rfl rfl (q_indexS (q := 0) rfl Try.underlying27 sz55 rfl rfl (.own (.there (.there (.there (.there (.there (.there Sel.here))))))) (by simp <;> omega) rfl (by omega)) ?_
      refine run_q (.none rfl) rfl rfl (q_fieldAddr (d := 3) rfl Try.underlying55 rfl rfl sz3 rfl) ?_
      refine run_q (.none rfl) rfl rfl (q_loadF rfl one3 rfl (.own (.there (.there (.there (.there (.there (.there Sel.here))))))) (getmap (by omega)) rfl) ?_
      refine run_q (.none rfl) rfl rfl (q_addw rfl rfl rfl) ?_
      refine run_q (.none rfl) rfl rfl (q_indexS (q := 0) rfl Try.underlying27 sz55 rfl rfl (.own (.there (.there (.there (.there (.there (.there Sel.here))))))) (by simp <;> omega) rfl (by omega)) ?_
      refine run_q (.none rfl) rfl rfl (q_fieldAddr (d := 3) rfl Try.underlying55 rfl rfl sz3 rfl) ?_
      refine run_h (.none rfl) (h_storeF rfl rfl sz3 rfl rfl rfl rfl rfl (.there (.there (.there (.there (.there (.there Sel.here)))))) (by omega) (by decide) (getmap (by omega))) ?_
      rintro - -
      refine run_nil ?_
      refine run_sub (subMk (.cons (s := 2) rfl (.cons (s := 4) rfl (.cons (s := 5) rfl (.cons (s := 6) rfl .nil)))) .refl) ?_
      refine run_seq ?_
      refine run_seq ?_
      refine run_region ?_
      refine run_q (.none rfl) rfl rfl (q_fieldB (d := 10) rfl Try.underlying30 rfl rfl sz28 rfl) ?_
      refine run_q (.none rfl) rfl rfl (q_loadB rfl one28 rfl (.there (.there (.there (.there (.there Sel.here))))) rfl) ?_
      refine run_q (.none rfl) rfl rfl (q_len rfl Try.underlying28 rfl) ?_
      refine run_q (.none rfl) rfl rfl (q_gtr rfl rfl rfl) ?_
      refine run_nil ?_
      refine run_sub (subMk (.cons (s := 2) rfl (.cons (s := 4) rfl (.cons (s := 5) rfl (.cons (s := 6) rfl (.cons (s := 80) rfl .nil))))) .refl) ?_
      refine run_cond rfl (fun g80 => ?_) (fun g80 => ?_)
      · have g80' := g80
        try simp only [decide_eq_true_eq, decide_eq_false_iff_not, beq_iff_eq, beq_eq_false_iff_ne, bne_iff_ne, bne_eq_false_iff_eq, Bool.not_eq_true', Bool.not_eq_false', ne_eq, Int.not_lt, Int.not_le, Decidable.not_not] at g80'
        refine run_region ?_
        refine run_q (.none rfl) rfl rfl (q_fieldB (d := 10) rfl Try.underlying30 rfl rfl sz28 rfl) ?_
        refine run_q (.none rfl) rfl rfl (q_loadB rfl one28 rfl (.there (.there (.there (.there (.there Sel.here))))) rfl) ?_
        refine run_q (.none rfl) rfl rfl (q_indexS (q := 0) rfl Try.underlying28 sz57 rfl rfl (.own (.there (.there (.there (.there (.there (.there (.there Sel.here)))))))) (by simp <;> omega) rfl (by omega)) ?_
        refine run_q (.none rfl) rfl rfl (q_fieldAddr (d := 1) rfl Try.underlying57 rfl rfl sz3 rfl) ?_
        refine run_q (.none rfl) rfl rfl (q_loadF rfl one3 rfl (.own (.there (.there (.there (.there (.there (.there (.there Sel.here)))))))) (getmap (by omega)) rfl) ?_
        refine run_q (.none rfl) rfl rfl (q_addw rfl rfl rfl) ?_
        refine run_q (.none rfl) rfl rfl (q_indexS (q := 0) rfl Try.underlying28 sz57 rfl rfl (.own (.there (.there (.there (.there (.there (.there (.there Sel.here)))))))) (by simp <;> omega) rfl (by omega)) ?_
        refine run_q (.none rfl) rfl rfl (q_fieldAddr (d := 1) rfl Try.underlying57 rfl rfl sz3 rfl) ?_
        refine run_h (.none rfl) (h_storeF rfl rfl sz3 rfl rfl rfl rfl rfl (.there (.there (.there (.there (.there (.there (.there Sel.here))))))) (by omega) (by decide) (getmap (by omega))) ?_
        rintro - -
        refine run_nil ?_
        refine run_sub (subMk (.cons (s := 2) rfl (.cons (s := 4) rfl (.cons (s := 5) rfl (.cons (s := 6) rfl .nil)))) .refl) ?_
        refine run_seq ?_
        refine run_sub (subMk .refl (.cons (.there (.there (.there (.there (.there (.there Sel.here)))))) (.blk (.cons (s := 0) rfl (.cons (s := 1) rfl (.cons (s := 2) rfl (.cons (s := 3) rfl (.cons (s := 4) rfl (.cons' (s := 5) (v' := .slice r.HA (bumpH (short x).hs).length r.hc) rfl (by rw [bumpH_len]) (.cons' (s := 6) (v' := .slice r.GA (bumpG (short x).gs).length r.gc) rfl (by rw [bumpG_len]) (.cons (s := 7) rfl (.cons (s := 8) rfl (.cons (s := 9) rfl (.cons' (s := 10) (v' := .slice r.LA (bumpY (short x).ls).length r.lc) rfl (by rw [bumpY_len]) (.cons (s := 11) rfl (.cons (s := 12) rfl (.nil))))))))))))))) (.cons (.there (.there (.there (.there (.there (.there Sel.here)))))) (.own (m' := (bumpH (short x).hs).length) (xs' := (bumpH (short x).hs).map Hd.enc) rfl (by rw [bumpH_len]) rfl (by rw [bumpH_nil (by omega)])) (.cons (.there Sel.here) (.own (m' := (bumpG (short x).gs).length) (xs' := (bumpG (short x).gs).map Gr.enc) rfl (by rw [bumpG_len]) rfl (bumpG_row (by omega))) (.cons Sel.here (.own (m' := (bumpY (short x).ls).length) (xs' := (bumpY (short x).ls).map Syl.enc) rfl (by rw [bumpY_len]) rfl (bumpY_row (by omega))) (.cons Sel.here .refl (.cons Sel.here .refl (.cons Sel.here .refl (.cons Sel.here .refl (.cons Sel.here .refl (.cons Sel.here .refl (.cons Sel.here .refl (.cons Sel.here .refl .nil))))))))))))) ?_
        refine run_draw [(0, 0), (1, 0), (2, 0), (3, 0), (4, 0), (5, 0), (6, 0), (7, 0), (8, 0), (9, 0), (10, 0), (11, 0), (12, 0), (13, 0), (14, 0), (15, 0), (16, 0), (17, 0), (18, 0), (19, 0), (20, 0), (21, 0)] mixed (by kernel_rfl) .refl ?_
        refine d_q rfl rfl (.none rfl) rfl rfl (q_loadBN rfl agg30 rfl (.there (.there (.there (.there Sel.here)))) (.cons rfl (.cons rfl (.cons rfl (.cons rfl (.cons rfl (.cons rfl (.cons rfl (.cons rfl (.cons rfl (.cons rfl (.cons rfl (.cons rfl (.cons rfl CellsAt.nil))))))))))))) rfl) ?_
        refine d_q rfl rfl (.none rfl) rfl rfl (q_loadBN rfl agg30 rfl (.there (.there (.there (.there (.there (.there (.there (.there (.there Sel.here))))))))) (.cons rfl (.cons rfl (.cons rfl (.cons rfl (.cons rfl (.cons rfl (.cons rfl (.cons rfl (.cons rfl (.cons rfl (.cons rfl (.cons rfl (.cons rfl CellsAt.nil))))))))))))) rfl) ?_
        refine d_q rfl rfl (.none rfl) rfl rfl (q_call rfl call25 (.cons rfl (.cons rfl Evs.nil)) (fun w hk hm => refequal_just (short x) (short x) r2 (Lie.mk p.HA p.hc p.GA p.gc O co) w ⟨(own_rd ((Sel.there (Sel.there (Sel.there (Sel.there (Sel.there Sel.here))))).holds hm)), (own_rd ((Sel.there (Sel.there (Sel.there (Sel.there (Sel.there (Sel.there Sel.here)))))).holds hm)), (own_rd ((Sel.there (Sel.there (Sel.there (Sel.there (Sel.there (Sel.there (Sel.there Sel.here))))))).holds hm))⟩ ⟨hSh.kept0 hk, hSg.kept0 hk, (own_rd ((Sel.there (Sel.there (Sel.there (Sel.there (Sel.there (Sel.there (Sel.there (Sel.there (Sel.there (Sel.there (Sel.there Sel.here))))))))))).holds hm))⟩ fS fS)) ?_
        refine d_q rfl rfl (.none rfl) rfl rfl (q_move rfl rfl) ?_
        refine d_q rfl rfl (.on rfl rfl rfl (decide_eq_true (equalP_refl _))) rfl rfl (q_loadBN rfl agg30 rfl Sel.here (.cons rfl (.cons rfl (.cons rfl (.cons rfl (.cons rfl (.cons rfl (.cons rfl (.cons rfl (.cons rfl (.cons rfl (.cons rfl (.cons rfl (.cons rfl CellsAt.nil))))))))))))) rfl) ?_
        refine d_q rfl rfl (.on rfl rfl rfl (decide_eq_true (equalP_refl _))) rfl rfl (q_loadBN rfl agg30 rfl (.there (.there (.there (.there (.there (.there (.there (.there (.there Sel.here))))))))) (.cons rfl (.cons rfl (.cons rfl (.cons rfl (.cons rfl (.cons rfl (.cons rfl (.cons rfl (.cons rfl (.cons rfl (.cons rfl (.cons rfl (.cons rfl CellsAt.nil))))))))))))) rfl) ?_
        refine d_q rfl rfl (.on rfl rfl rfl (decide_eq_true (equalP_refl _))) rfl rfl (q_call rfl call30 (.cons rfl (.cons rfl Evs.nil)) (fun w hk hm => evEqual_just (bumpE (short x)) (short x) r (Lie.mk p.HA p.hc p.GA p.gc O co) w ⟨(own_rd ((Sel.there Sel.here).holds hm)), (own_rd ((Sel.there (Sel.there Sel.here)).holds hm)), (own_rd ((Sel.there (Sel.there (Sel.there Sel.here))).holds hm))⟩ ⟨hSh.kept0 hk, hSg.kept0 hk, (own_rd ((Sel.there (Sel.there (Sel.there (Sel.there (Sel.there (Sel.there (Sel.there (Sel.there (Sel.there (Sel.there (Sel.there Sel.here))))))))))).holds hm))⟩ (bump_few fS) fS)) ?_
        refine d_q rfl rfl (.on rfl rfl rfl (decide_eq_true (equalP_refl _))) rfl rfl (q_fieldB (d := 5) rfl Try.underlying30 rfl rfl sz26 rfl) ?_
        refine d_q rfl rfl (.on rfl rfl rfl (decide_eq_true (equalP_refl _))) rfl rfl (q_loadB rfl one26 rfl (.there (.there (.there (.there (.there (.there (.there (.there (.there Sel.here))))))))) rfl) ?_
        refine d_q rfl rfl (.on rfl rfl rfl (decide_eq_true (equalP_refl _))) rfl rfl (q_len rfl Try.underlying26 rfl) ?_
        refine d_q rfl rfl (.on rfl rfl rfl (decide_eq_true (equalP_refl _))) rfl rfl (q_fieldB (d := 6) rfl Try.underlying30 rfl rfl sz27 rfl) ?_
        refine d_q rfl rfl (.on rfl rfl rfl (decide_eq_true (equalP_refl _))) rfl rfl (q_loadB rfl one27 rfl (.there (.there (.there (.there (.there (.there (.there (.there (.there Sel.here))))))))) rfl) ?_
        refine d_q rfl rfl (.on rfl rfl rfl (decide_eq_true (equalP_refl _))) rfl rfl (q_len rfl Try.underlying27 rfl) ?_
        refine d_q rfl rfl (.on rfl rfl rfl (decide_eq_true (equalP_refl _))) rfl rfl (q_add rfl rfl rfl (by omega)) ?_
        refine d_q rfl rfl (.on rfl rfl rfl (decide_eq_true (equalP_refl _))) rfl rfl (q_fieldB (d := 10) rfl Try.underlying30 rfl rfl sz28 rfl) ?_
        refine d_q rfl rfl (.on rfl rfl rfl (decide_eq_true (equalP_refl _))) rfl rfl (q_loadB rfl one28 rfl (.there (.there (.there (.there (.there (.there (.there (.there (.there Sel.here))))))))) rfl) ?_
        refine d_q rfl rfl (.on rfl rfl rfl (decide_eq_true (equalP_refl _))) rfl rfl (q_len rfl Try.underlying28 rfl) ?_
        refine d_q rfl rfl (.on rfl rfl rfl (decide_eq_true (equalP_refl _))) rfl rfl (q_add rfl rfl rfl (by omega)) ?_
        refine d_q rfl rfl (.on rfl rfl rfl (decide_eq_true (equalP_refl _))) rfl rfl (q_eql rfl rfl rfl) ?_
        refine d_q rfl rfl (.on rfl rfl rfl (decide_eq_true (equalP_refl _))) rfl rfl (q_eqlB rfl rfl rfl Try.underlying4) ?_
        refine d_q rfl rfl (.none rfl) rfl rfl (q_pickT rfl rfl (decide_eq_true (equalP_refl _)) rfl) ?_
        refine d_q rfl rfl (.none rfl) rfl rfl (q_assign rfl rfl) ?_
        refine d_nil ?_
        refine run_sub (subMk (.cons (s := 4) rfl .nil) .refl) ?_
        refine run_ret ?_
        exact end1 rfl rfl (congrArg Value.bool (bump_law _))
      · have g80' := g80
        try simp only [decide_eq_true_eq, decide_eq_false_iff_not, beq_iff_eq, beq_eq_false_iff_ne, bne_iff_ne, bne_eq_false_iff_eq, Bool.not_eq_true', Bool.not_eq_false', ne_eq, Int.not_lt, Int.not_le, Decidable.not_not] at g80'
        refine run_skip ?_
        refine run_seq ?_
        refine run_sub (subMk .refl (.cons (.there (.there (.there (.there (.there Sel.here))))) (.blk (.cons (s := 0) rfl (.cons (s := 1) rfl (.cons (s := 2) rfl (.cons (s := 3) rfl (.cons (s := 4) rfl (.cons' (s := 5) (v' := .slice r.HA (bumpH (short x).hs).length r.hc) rfl (by rw [bumpH_len]) (.cons' (s := 6) (v' := .slice r.GA (bumpG (short x).gs).length r.gc) rfl (by rw [bumpG_len]) (.cons (s := 7) rfl (.cons (s := 8) rfl (.cons (s := 9) rfl (.cons' (s := 10) (v' := .slice r.LA (bumpY (short x).ls).length r.lc) rfl (by rw [bumpY_len]) (.cons (s := 11) rfl (.cons (s := 12) rfl (.nil))))))))))))))) (.cons (.there (.there (.there (.there (.there Sel.here))))) (.own (m' := (bumpH (short x).hs).length) (xs' := (bumpH (short x).hs).map Hd.enc) rfl (by rw [bumpH_len]) rfl (by rw [bumpH_nil (by omega)])) (.cons Sel.here (.own (m' := (bumpG (short x).gs).length) (xs' := (bumpG (short x).gs).map Gr.enc) rfl (by rw [bumpG_len]) rfl (bumpG_row (by omega))) (.cons (.there (.there (.there (.there Sel.here)))) (.own (m' := (bumpY (short x).ls).length) (xs' := (bumpY (short x).ls).map Syl.enc) rfl (by rw [bumpY_len]) rfl (by rw [bumpY_nil (by omega)])) (.cons Sel.here .refl (.cons Sel.here .refl (.cons Sel.here .refl (.cons Sel.here .refl (.cons Sel.here .refl (.cons Sel.here .refl (.cons Sel.here .refl (.cons Sel.here .refl .nil))))))))))))) ?_
        refine run_draw [(0, 0), (1, 0), (2, 0), (3, 0), (4, 0), (5, 0), (6, 0), (7, 0), (8, 0), (9, 0), (10, 0), (11, 0), (12, 0), (13, 0), (14, 0), (15, 0), (16, 0), (17, 0), (18, 0), (19, 0), (20, 0), (21, 0)] mixed (by kernel_rfl) .refl ?_
        refine d_q rfl rfl (.none rfl) rfl rfl (q_loadBN rfl agg30 rfl (.there (.there (.there (.there Sel.here)))) (.cons rfl (.cons rfl (.cons rfl (.cons rfl (.cons rfl (.cons rfl (.cons rfl (.cons rfl (.cons rfl (.cons rfl (.cons rfl (.cons rfl (.cons rfl CellsAt.nil))))))))))))) rfl) ?_
        refine d_q rfl rfl (.none rfl) rfl rfl (q_loadBN rfl agg30 rfl (.there (.there (.there (.there (.there (.there (.there (.there (.there Sel.here))))))))) (.cons rfl (.cons rfl (.cons rfl (.cons rfl (.cons rfl (.cons rfl (.cons rfl (.cons rfl (.cons rfl (.cons rfl (.cons rfl (.cons rfl (.cons rfl CellsAt.nil))))))))))))) rfl) ?_
        refine d_q rfl rfl (.none rfl) rfl rfl (q_call rfl call25 (.cons rfl (.cons rfl Evs.nil)) (fun w hk hm => refequal_just (short x) (short x) r2 (Lie.mk p.HA p.hc p.GA p.gc O co) w ⟨(own_rd ((Sel.there (Sel.there (Sel.there (Sel.there (Sel.there Sel.here))))).holds hm)), (own_rd ((Sel.there (Sel.there (Sel.there (Sel.there (Sel.there (Sel.there Sel.here)))))).holds hm)), (own_rd ((Sel.there (Sel.there (Sel.there (Sel.there (Sel.there (Sel.there (Sel.there Sel.here))))))).holds hm))⟩ ⟨hSh.kept0 hk, hSg.kept0 hk, (own_rd ((Sel.there (Sel.there (Sel.there (Sel.there (Sel.there (Sel.there (Sel.there (Sel.there (Sel.there (Sel.there (Sel.there Sel.here))))))))))).holds hm))⟩ fS fS)) ?_
        refine d_q rfl rfl (.none rfl) rfl rfl (q_move rfl rfl) ?_
        refine d_q rfl rfl (.on rfl rfl rfl (decide_eq_true (equalP_refl _))) rfl rfl (q_loadBN rfl agg30 rfl Sel.here (.cons rfl (.cons rfl (.cons rfl (.cons rfl (.cons rfl (.cons rfl (.cons rfl (.cons rfl (.cons rfl (.cons rfl (.cons rfl (.cons rfl (.cons rfl CellsAt.nil))))))))))))) rfl) ?_
        refine d_q rfl rfl (.on rfl rfl rfl (decide_eq_true (equalP_refl _))) rfl rfl (q_loadBN rfl agg30 rfl (.there (.there (.there (.there (.there (.there (.there (.there (.there Sel.here))))))))) (.cons rfl (.cons rfl (.cons rfl (.cons rfl (.cons rfl (.cons rfl (.cons rfl (.cons rfl (.cons rfl (.cons rfl (.cons rfl (.cons rfl (.cons rfl CellsAt.nil))))))))))))) rfl) ?_
        refine d_q rfl rfl (.on rfl rfl rfl (decide_eq_true (equalP_refl _))) rfl rfl (q_call rfl call30 (.cons rfl (.cons rfl Evs.nil)) (fun w hk hm => evEqual_just (bumpE (short x)) (short x) r (Lie.mk p.HA p.hc p.GA p.gc O co) w ⟨(own_rd ((Sel.there Sel.here).holds hm)), (own_rd ((Sel.there (Sel.there Sel.here)).holds hm)), (own_rd ((Sel.there (Sel.there (Sel.there Sel.here))).holds hm))⟩ ⟨hSh.kept0 hk, hSg.kept0 hk, (own_rd ((Sel.there (Sel.there (Sel.there (Sel.there (Sel.there (Sel.there (Sel.there (Sel.there (Sel.there (Sel.there (Sel.there Sel.here))))))))))).holds hm))⟩ (bump_few fS) fS)) ?_
        refine d_q rfl rfl (.on rfl rfl rfl (decide_eq_true (equalP_refl _))) rfl rfl (q_fieldB (d := 5) rfl Try.underlying30 rfl rfl sz26 rfl) ?_
        refine d_q rfl rfl (.on rfl rfl rfl (decide_eq_true (equalP_refl _))) rfl rfl (q_loadB rfl one26 rfl (.there (.there (.there (.there (.there (.there (.there (.there (.there Sel.here))))))))) rfl) ?_
        refine d_q rfl rfl (.on rfl rfl rfl (decide_eq_true (equalP_refl _))) rfl rfl (q_len rfl Try.underlying26 rfl) ?_
        refine d_q rfl rfl (.on rfl rfl rfl (decide_eq_true (equalP_refl _))) rfl rfl (q_fieldB (d := 6) rfl Try.underlying30 rfl rfl sz27 rfl) ?_
        refine d_q rfl rfl (.on rfl rfl rfl (decide_eq_true (equalP_refl _))) rfl rfl (q_loadB rfl one27 rfl (.there (.there (.there (.there (.there (.there (.there (.there (.there Sel.here))))))))) rfl) ?_
        refine d_q rfl rfl (.on rfl rfl rfl (decide_eq_true (equalP_refl _))) rfl rfl (q_len rfl Try.underlying27 rfl) ?_
        refine d_q rfl rfl (.on rfl rfl rfl (decide_eq_true (equalP_refl _))) rfl rfl (q_add rfl rfl rfl (by omega)) ?_
        refine d_q rfl rfl (.on rfl rfl rfl (decide_eq_true (equalP_refl _))) rfl rfl (q_fieldB (d := 10) rfl Try.underlying30 rfl rfl sz28 rfl) ?_
        refine d_q rfl rfl (.on rfl rfl rfl (decide_eq_true (equalP_refl _))) rfl rfl (q_loadB rfl one28 rfl (.there (.there (.there (.there (.there (.there (.there (.there (.there Sel.here))))))))) rfl) ?_
        refine d_q rfl rfl (.on rfl rfl rfl (decide_eq_true (equalP_refl _))) rfl rfl (q_len rfl Try.underlying28 rfl) ?_
        refine d_q rfl rfl (.on rfl rfl rfl (decide_eq_true (equalP_refl _))) rfl rfl (q_add rfl rfl rfl (by omega)) ?_
        refine d_q rfl rfl (.on rfl rfl rfl (decide_eq_true (equalP_refl _))) rfl rfl (q_eql rfl rfl rfl) ?_
        refine d_q rfl rfl (.on rfl rfl rfl (decide_eq_true (equalP_refl _))) rfl rfl (q_eqlB rfl rfl rfl Try.underlying4) ?_
        refine d_q rfl rfl (.none rfl) rfl rfl (q_pickT rfl rfl (decide_eq_true (equalP_refl _)) rfl) ?_
        refine d_q rfl rfl (.none rfl) rfl rfl (q_assign rfl rfl) ?_
        refine d_nil ?_
        refine run_sub (subMk (.cons (s := 4) rfl .nil) .refl) ?_
        refine run_ret ?_
        exact end1 rfl rfl (congrArg Value.bool (bump_law _))
    · have g68' := g68
      try simp only [decide_eq_true_eq, decide_eq_false_iff_not, beq_iff_eq, beq_eq_false_iff_ne, bne_iff_ne, bne_eq_false_iff_eq, Bool.not_eq_true', Bool.not_eq_false', ne_eq, Int.not_lt, Int.not_le, Decidable.not_not] at g68'
      refine run_skip ?_
      refine run_seq ?_
      refine run_seq ?_
      refine run_region ?_
      refine run_q (.none rfl) rfl rfl (q_fieldB (d := 10) rfl Try.underlying30 rfl rfl sz28 rfl) ?_
      refine run_q (.none rfl) rfl rfl (q_loadB rfl one28 rfl (.there (.there (.there (.there Sel.here)))) rfl) ?_
      refine run_q (.none rfl) rfl rfl (q_len rfl Try.underlying28 rfl) ?_
      refine run_q (.none rfl) rfl rfl (q_gtr rfl rfl rfl) ?_
      refine run_nil ?_
      refine run_sub (subMk (.cons (s := 2) rfl (.cons (s := 4) rfl (.cons (s := 5) rfl (.cons (s := 6) rfl (.cons (s := 80) rfl .nil))))) .refl) ?_
      refine run_cond rfl (fun g80 => ?_) (fun g80 => ?_)
      · have g80' := g80
        try simp only [decide_eq_true_eq, decide_eq_false_iff_not, beq_iff_eq, beq_eq_false_iff_ne, bne_iff_ne, bne_eq_false_iff_eq, Bool.not_eq_true', Bool.not_eq_false', ne_eq, Int.not_lt, Int.not_le, Decidable.not_not] at g80'
        refine run_region ?_
        refine run_q (.none rfl) rfl rfl (q_fieldB (d := 10) rfl Try.underlying30 rfl rfl sz28 rfl) ?_
        refine run_q (.none rfl) rfl rfl (q_loadB rfl one28 rfl (.there (.there (.there (.there Sel.here)))) rfl) ?_
        refine run_q (.none rfl) rfl rfl (q_indexS (q := 0) rfl Try.underlying28 sz57 rfl rfl (.own (.there (.there (.there (.there (.there (.there (.there Sel.here)))))))) (by simp <;> omega) rfl (by omega)) ?_
        refine run_q (.none rfl) rfl rfl (q_fieldAddr (d := 1) rfl Try.underlying57 rfl rfl sz3 rfl) ?_
        refine run_q (.none rfl) rfl rfl (q_loadF rfl one3 rfl (.own (.there (.there (.there (.there (.there (.there (.there Sel.here)))))))) (getmap (by omega)) rfl) ?_
        refine run_q (.none rfl) rfl rfl (q_addw rfl rfl rfl) ?_
        refine run_q (.none rfl) rfl rfl (q_indexS (q := 0) rfl Try.underlying28 sz57 rfl rfl (.own (.there (.there (.there (.there (.there (.there (.there Sel.here)))))))) (by simp <;> omega) rfl (by omega)) ?_
        refine run_q (.none rfl) rfl rfl (q_fieldAddr (d := 1) rfl Try.underlying57 rfl rfl sz3 rfl) ?_
        refine run_h (.none rfl) (h_storeF rfl rfl sz3 rfl rfl rfl rfl rfl (.there (.there (.there (.there (.there (.there (.there Sel.here))))))) (by omega) (by decide) (getmap (by omega))) ?_
        rintro - -
        refine run_nil ?_
        refine run_sub (subMk (.cons (s := 2) rfl (.cons (s := 4) rfl (.cons (s := 5) rfl (.cons (s := 6) rfl .nil)))) .refl) ?_
        refine run_seq ?_
        refine run_sub (subMk .refl (.cons (.there (.there (.there (.there (.there Sel.here))))) (.blk (.cons (s := 0) rfl (.cons (s := 1) rfl (.cons (s := 2) rfl (.cons (s := 3) rfl (.cons (s := 4) rfl (.cons' (s := 5) (v' := .slice r.HA (bumpH (short x).hs).length r.hc) rfl (by rw [bumpH_len]) (.cons' (s := 6) (v' := .slice r.GA (bumpG (short x).gs).length r.gc) rfl (by rw [bumpG_len]) (.cons (s := 7) rfl (.cons (s := 8) rfl (.cons (s := 9) rfl (.cons' (s := 10) (v' := .slice r.LA (bumpY (short x).ls).length r.lc) rfl (by rw [bumpY_len]) (.cons (s := 11) rfl (.cons (s := 12) rfl (.nil))))))))))))))) (.cons (.there (.there (.there (.there (.there Sel.here))))) (.own (m' := (bumpH (short x).hs).length) (xs' := (bumpH (short x).hs).map Hd.enc) rfl (by rw [bumpH_len]) rfl (by rw [bumpH_nil (by omega)])) (.cons (.there (.there (.there (.there (.there Sel.here))))) (.own (m' := (bumpG (short x).gs).length) (xs' := (bumpG (short x).gs).map Gr.enc) rfl (by rw [bumpG_len]) rfl (by rw [bumpG_nil (by omega)])) (.cons Sel.here (.own (m' := (bumpY (short x).ls).length) (xs' := (bumpY (short x).ls).map Syl.enc) rfl (by rw [bumpY_len]) rfl (bumpY_row (by omega))) (.cons Sel.here .refl (.cons Sel.here .refl (.cons Sel.here .refl (.cons Sel.here .refl (.cons Sel.here .refl (.cons Sel.here .refl (.cons Sel.here .refl (.cons Sel.here .refl .nil))))))))))))) ?_
        refine run_draw [(0, 0), (1, 0), (2, 0), (3, 0), (4, 0), (5, 0), (6, 0), (7, 0), (8, 0), (9, 0), (10, 0), (11, 0), (12, 0), (13, 0), (14, 0), (15, 0), (16, 0), (17, 0), (18, 0), (19, 0), (20, 0), (21, 0)] mixed (by kernel_rfl) .refl ?_
        refine d_q rfl rfl (.none rfl) rfl rfl (q_loadBN rfl agg30 rfl (.there (.there (.there (.there Sel.here)))) (.cons rfl (.cons rfl (.cons rfl (.cons rfl (.cons rfl (.cons rfl (.cons rfl (.cons rfl (.cons rfl (.cons rfl (.cons rfl (.cons rfl (.cons rfl CellsAt.nil))))))))))))) rfl) ?_
        refine d_q rfl rfl (.none rfl) rfl rfl (q_loadBN rfl agg30 rfl (.there (.there (.there (.there (.there (.there (.there (.there (.there Sel.here))))))))) (.cons rfl (.cons rfl (.cons rfl (.cons rfl (.cons rfl (.cons rfl (.cons rfl (.cons rfl (.cons rfl (.cons rfl (.cons rfl (.cons rfl (.cons rfl CellsAt.nil))))))))))))) rfl) ?_
        refine d_q rfl rfl (.none rfl) rfl rfl (q_call rfl call25 (.cons rfl (.cons rfl Evs.nil)) (fun w hk hm => refequal_just (short x) (short x) r2 (Lie.mk p.HA p.hc p.GA p.gc O co) w ⟨(own_rd ((Sel.there (Sel.there (Sel.there (Sel.there (Sel.there Sel.here))))).holds hm)), (own_rd ((Sel.there (Sel.there (Sel.there (Sel.there (Sel.there (Sel.there Sel.here)))))).holds hm)), (own_rd ((Sel.there (Sel.there (Sel.there (Sel.there (Sel.there (Sel.there (Sel.there Sel.here))))))).holds hm))⟩ ⟨hSh.kept0 hk, hSg.kept0 hk, (own_rd ((Sel.there (Sel.there (Sel.there (Sel.there (Sel.there (Sel.there (Sel.there (Sel.there (Sel.there (Sel.there (Sel.there Sel.here))))))))))).holds hm))⟩ fS fS)) ?_
        refine d_q rfl rfl (.none rfl) rfl rfl (q_move rfl rfl) ?_
        refine d_q rfl rfl (.on rfl rfl rfl (decide_eq_true (equalP_refl _))) rfl rfl (q_loadBN rfl agg30 rfl Sel.here (.cons rfl (.cons rfl (.cons rfl (.cons rfl (.cons rfl (.cons rfl (.cons rfl (.cons rfl (.cons rfl (.cons rfl (.cons rfl (.cons rfl (.cons rfl CellsAt.nil))))))))))))) rfl) ?_
        refine d_q rfl rfl (.on rfl rfl rfl (decide_eq_true (equalP_refl _))) rfl rfl (q_loadBN rfl agg30 rfl (.there (.there (.there (.there (.there (.there (.there (.there (.there Sel.here))))))))) (.cons rfl (.cons rfl (.cons rfl (.cons rfl (.cons rfl (.cons rfl (.cons rfl (.cons rfl (.cons rfl (.cons rfl (.cons rfl (.cons rfl (.cons rfl CellsAt.nil))))))))))))) rfl) ?_
        refine d_q rfl rfl (.on rfl rfl rfl (decide_eq_true (equalP_refl _))) rfl rfl (q_call rfl call30 (.cons rfl (.cons rfl Evs.nil)) (fun w hk hm => evEqual_just (bumpE (short x)) (short x) r (Lie.mk p.HA p.hc p.GA p.gc O co) w ⟨(own_rd ((Sel.there Sel.here).holds hm)), (own_rd ((Sel.there (Sel.there Sel.here)).holds hm)), (own_rd ((Sel.there (Sel.there (Sel.there Sel.here))).holds hm))⟩ ⟨hSh.kept0 hk, hSg.kept0 hk, (own_rd ((Sel.there (Sel.there (Sel.there (Sel.there (Sel.there (Sel.there (Sel.there (Sel.there (Sel.there (Sel.there (Sel.there Sel.here))))))))))).holds hm))⟩ (bump_few fS) fS)) ?_
        refine d_q rfl rfl (.on rfl rfl rfl (decide_eq_true (equalP_refl _))) rfl rfl (q_fieldB (d := 5) rfl Try.underlying30 rfl rfl sz26 rfl) ?_
        refine d_q rfl rfl (.on rfl rfl rfl (decide_eq_true (equalP_refl _))) rfl rfl (q_loadB rfl one26 rfl (.there (.there (.there (.there (.there (.there (.there (.there (.there Sel.here))))))))) rfl) ?_
        refine d_q rfl rfl (.on rfl rfl rfl (decide_eq_true (equalP_refl _))) rfl rfl (q_len rfl Try.underlying26 rfl) ?_
        refine d_q rfl rfl (.on rfl rfl rfl (decide_eq_true (equalP_refl _))) rfl rfl (q_fieldB (d := 6) rfl Try.underlying30 rfl rfl sz27 rfl) ?_
        refine d_q rfl rfl (.on rfl rfl rfl (decide_eq_true (equalP_refl _))) rfl rfl (q_loadB rfl one27 rfl (.there (.there (.there (.there (.there (.there (.there (.there (.there Sel.here))))))))) rfl) ?_
        refine d_q rfl rfl (.on rfl rfl rfl (decide_eq_true (equalP_refl _))) rfl rfl (q_len rfl Try.underlying27 rfl) ?_
        refine d_q rfl rfl (.on rfl rfl rfl (decide_eq_true (equalP_refl _))) rfl rfl (q_add rfl rfl rfl (by omega)) ?_
        refine d_q rfl rfl (.on rfl rfl rfl (decide_eq_true (equalP_refl _))) rfl rfl (q_fieldB (d := 10) rfl Try.underlying30 rfl rfl sz28 rfl) ?_
        refine d_q rfl rfl (.on rfl rfl rfl (decide_eq_true (equalP_refl _))) rfl rfl (q_loadB rfl one28 rfl (.there (.there (.there (.there (.there (.there (.there (.there (.there Sel.here))))))))) rfl) ?_
        refine d_q rfl rfl (.on rfl rfl rfl (decide_eq_true (equalP_refl _))) rfl rfl (q_len rfl Try.underlying28 rfl) ?_
        refine d_q rfl rfl (.on rfl rfl rfl (decide_eq_true (equalP_refl _))) rfl rfl (q_add rfl rfl rfl (by omega)) ?_
        refine d_q rfl rfl (.on rfl rfl rfl (decide_eq_true (equalP_refl _))) rfl rfl (q_eql rfl rfl rfl) ?_
        refine d_q rfl rfl (.on rfl rfl rfl (decide_eq_true (equalP_refl _))) rfl rfl (q_eqlB rfl rfl rfl Try.underlying4) ?_
        refine d_q rfl rfl (.none rfl) rfl rfl (q_pickT rfl rfl (decide_eq_true (equalP_refl _)) rfl) ?_
        refine d_q rfl rfl (.none rfl) rfl rfl (q_assign rfl rfl) ?_
        refine d_nil ?_
        refine run_sub (subMk (.cons (s := 4) rfl .nil) .refl) ?_
        refine run_ret ?_
        exact end1 rfl rfl (congrArg Value.bool (bump_law _))
      · have g80' := g80
        try simp only [decide_eq_true_eq, decide_eq_false_iff_not, beq_iff_eq, beq_eq_false_iff_ne, bne_iff_ne, bne_eq_false_iff_eq, Bool.not_eq_true', Bool.not_eq_false', ne_eq, Int.not_lt, Int.not_le, Decidable.not_not] at g80'
        refine run_skip ?_
        refine run_seq ?_
        refine run_sub (subMk .refl (.cons (.there (.there (.there (.there Sel.here)))) (.blk (.cons (s := 0) rfl (.cons (s := 1) rfl (.cons (s := 2) rfl (.cons (s := 3) rfl (.cons (s := 4) rfl (.cons' (s := 5) (v' := .slice r.HA (bumpH (short x).hs).length r.hc) rfl (by rw [bumpH_len]) (.cons' (s := 6) (v' := .slice r.GA (bumpG (short x).gs).length r.gc) rfl (by rw [bumpG_len]) (.cons (s := 7) rfl (.cons (s := 8) rfl (.cons (s := 9) rfl (.cons' (s := 10) (v' := .slice r.LA (bumpY (short x).ls).length r.lc) rfl (by rw [bumpY_len]) (.cons (s := 11) rfl (.cons (s := 12) rfl (.nil))))))))))))))) (.cons (.there (.there (.there (.there Sel.here)))) (.own (m' := (bumpH (short x).hs).length) (xs' := (bumpH (short x).hs).map Hd.enc) rfl (by rw [bumpH_len]) rfl (by rw [bumpH_nil (by omega)])) (.cons (.there (.there (.there (.there Sel.here)))) (.own (m' := (bumpG (short x).gs).length) (xs' := (bumpG (short x).gs).map Gr.enc) rfl (by rw [bumpG_len]) rfl (by rw [bumpG_nil (by omega)])) (.cons (.there (.there (.there (.there Sel.here)))) (.own (m' := (bumpY (short x).ls).length) (xs' := (bumpY (short x).ls).map Syl.enc) rfl (by rw [bumpY_len]) rfl (by rw [bumpY_nil (by omega)])) (.cons Sel.here .refl (.cons Sel.here .refl (.cons Sel.here .refl (.cons Sel.here .refl (.cons Sel.here .refl (.cons Sel.here .refl (.cons Sel.here .refl (.cons Sel.here .refl .nil))))))))))))) ?_
        refine run_draw [(0, 0), (1, 0), (2, 0), (3, 0), (4, 0), (5, 0), (6, 0), (7, 0), (8, 0), (9, 0), (10, 0), (11, 0), (12, 0), (13, 0), (14, 0), (15, 0), (16, 0), (17, 0), (18, 0), (19, 0), (20, 0), (21, 0)] mixed (by kernel_rfl) .refl ?_
        refine d_q rfl rfl (.none rfl) rfl rfl (q_loadBN rfl agg30 rfl (.there (.there (.there (.there Sel.here)))) (.cons rfl (.cons rfl (.cons rfl (.cons rfl (.cons rfl (.cons rfl (.cons rfl (.cons rfl (.cons rfl (.cons rfl (.cons rfl (.cons rfl (.cons rfl CellsAt.nil))))))))))))) rfl) ?_
        refine d_q rfl rfl (.none rfl) rfl rfl (q_loadBN rfl agg30 rfl (.there (.there (.there (.there (.there (.there (.there (.there (.there Sel.here))))))))) (.cons rfl (.cons rfl (.cons rfl (.cons rfl (.cons rfl (.cons rfl (.cons rfl (.cons rfl (.cons rfl (.cons rfl (.cons rfl (.cons rfl (.cons rfl CellsAt.nil))))))))))))) rfl) ?_
        refine d_q rfl rfl (.none rfl) rfl rfl (q_call rfl call25 (.cons rfl (.cons rfl Evs.nil)) (fun w hk hm => refequal_just (short x) (short x) r2 (Lie.mk p.HA p.hc p.GA p.gc O co) w ⟨(own_rd ((Sel.there (Sel.there (Sel.there (Sel.there (Sel.there Sel.here))))).holds hm)), (own_rd ((Sel.there (Sel.there (Sel.there (Sel.there (Sel.there (Sel.there Sel.here)))))).holds hm)), (own_rd ((Sel.there (Sel.there (Sel.there (Sel.there (Sel.there (Sel.there (Sel.there Sel.here))))))).holds hm))⟩ ⟨hSh.kept0 hk, hSg.kept0 hk, (own_rd ((Sel.there (Sel.there (Sel.there (Sel.there (Sel.there (Sel.there (Sel.there (Sel.there (Sel.there (Sel.there (Sel.there Sel.here))))))))))).holds hm))⟩ fS fS)) ?_
        refine d_q rfl rfl (.none rfl) rfl rfl (q_move rfl rfl) ?_
        refine d_q rfl rfl (.on rfl rfl rfl (decide_eq_true (equalP_refl _))) rfl rfl (q_loadBN rfl agg30 rfl Sel.here (.cons rfl (.cons rfl (.cons rfl (.cons rfl (.cons rfl (.cons rfl (.cons rfl (.cons rfl (.cons rfl (.cons rfl (.cons rfl (.cons rfl (.cons rfl CellsAt.nil))))))))))))) rfl) ?_
        refine d_q rfl rfl (.on rfl rfl rfl (decide_eq_true (equalP_refl _))) rfl rfl (q_loadBN rfl agg30 rfl (.there (.there (.there (.there (.there (.there (.there (.there (.there Sel.here))))))))) (.cons rfl (.cons rfl (.cons rfl (.cons rfl (.cons rfl (.cons rfl (.cons rfl (.cons rfl (.cons rfl (.cons rfl (.cons rfl (.cons rfl (.cons rfl CellsAt.nil))))))))))))) rfl) ?_
        refine d_q rfl rfl (.on rfl rfl rfl (decide_eq_true (equalP_refl _))) rfl rfl (q_call rfl call30 (.cons rfl (.cons rfl Evs.nil)) (fun w hk hm => evEqual_just (bumpE (short x)) (short x) r (Lie.mk p.HA p.hc p.GA p.gc O co) w ⟨(own_rd ((Sel.there Sel.here).holds hm)), (own_rd ((Sel.there (Sel.there Sel.here)).holds hm)), (own_rd ((Sel.there (Sel.there (Sel.there Sel.here))).holds hm))⟩ ⟨hSh.kept0 hk, hSg.kept0 hk, (own_rd ((Sel.there (Sel.there (Sel.there (Sel.there (Sel.there (Sel.there (Sel.there (Sel.there (Sel.there (Sel.there (Sel.there Sel.here))))))))))).holds hm))⟩ (bump_few fS) fS)) ?_
        refine d_q rfl rfl (.on rfl rfl rfl (decide_eq_true (equalP_refl _))) rfl rfl (q_fieldB (d := 5) rfl Try.underlying30 rfl rfl sz26 rfl) ?_
        refine d_q rfl rfl (.on rfl rfl rfl (decide_eq_true (equalP_refl _))) rfl rfl (q_loadB rfl one26 rfl (.there (.there (.there (.there (.there (.there (.there (.there (.there Sel.here))))))))) rfl) ?_
        refine d_q rfl rfl (.on rfl rfl rfl (decide_eq_true (equalP_refl _))) rfl rfl (q_len rfl Try.underlying26 rfl) ?_
        refine d_q rfl rfl (.on rfl rfl rfl (decide_eq_true (equalP_refl _))) rfl rfl (q_fieldB (d := 6) rfl Try.underlying30 rfl rfl sz27 rfl) ?_
        refine d_q rfl rfl (.on rfl rfl rfl (decide_eq_true (equalP_refl _))) rfl rfl (q_loadB rfl one27 rfl (.there (.there (.there (.there (.there (.there (.there (.there (.there Sel.here))))))))) rfl) ?_
        refine d_q rfl rfl (.on rfl rfl rfl (decide_eq_true (equalP_refl _))) rfl rfl (q_len rfl Try.underlying27 rfl) ?_
        refine d_q rfl rfl (.on rfl rfl rfl (decide_eq_true (equalP_refl _))) rfl rfl (q_add rfl rfl rfl (by omega)) ?_
        refine d_q rfl rfl (.on rfl rfl rfl (decide_eq_true (equalP_refl _))) rfl rfl (q_fieldB (d := 10) rfl Try.underlying30 rfl rfl sz28 rfl) ?_
        refine d_q rfl rfl (.on rfl rfl rfl (decide_eq_true (equalP_refl _))) rfl rfl (q_loadB rfl one28 rfl (.there (.there (.there (.there (.there (.there (.there (.there (.there Sel.here))))))))) rfl) ?_
        refine d_q rfl rfl (.on rfl rfl rfl (decide_eq_true (equalP_refl _))) rfl rfl (q_len rfl Try.underlying28 rfl) ?_
        refine d_q rfl rfl (.on rfl rfl rfl (decide_eq_true (equalP_refl _))) rfl rfl (q_add rfl rfl rfl (by omega)) ?_
        refine d_q rfl rfl (.on rfl rfl rfl (decide_eq_true (equalP_refl _))) rfl rfl (q_eql rfl rfl rfl) ?_
        refine d_q rfl rfl (.on rfl rfl rfl (decide_eq_true (equalP_refl _))) rfl rfl (q_eqlB rfl rfl rfl Try.underlying4) ?_
        refine d_q rfl rfl (.none rfl) rfl rfl (q_pickT rfl rfl (decide_eq_true (equalP_refl _)) rfl) ?_
        refine d_q rfl rfl (.none rfl) rfl rfl (q_assign rfl rfl) ?_
        refine d_nil ?_
        refine run_sub (subMk (.cons (s := 4) rfl .nil) .refl) ?_
        refine run_ret ?_
        exact end1 rfl rfl (congrArg Value.bool (bump_law _))

end Go.Proofs.Ytneadapfoaccmaa
