/- The law on heads put in. -/
import Derived.Test.YtneadapfoaccmaaB2
set_option linter.unusedSimpArgs false
set_option linter.unusedVariables false
namespace Go.Proofs.Ytneadapfoaccmaa
open Go Go.RowKit Hr



set_option maxHeartbeats 8000000 in
set_option maxRecDepth 100000 in
theorem law12_ok (x : Evt) (p : Lie) (h : Hd) (W : World) (hx : RdE W x p) (hc1 : x.hs.length ≤ p.hc) (hc2 : x.gs.length ≤ p.gc) (ha : x.n.art ≤ 9223372036854775807) (he : adE (short x) h = 0) : Calls Try.prog 12 #[evV x p, h.val] W (Hr.Just W (.bool true)) := by
  have hSh : Rd W p.HA 5 ((short x).hs.map Hd.enc) := rd_takeE hx.h
  have hSg : Rd W p.GA 5 ((short x).gs.map Gr.enc) := rd_takeE hx.g
  have fS := short_few ha
  obtain ⟨fs1, fs2, fs3, fs4⟩ := id fS
  obtain ⟨h2, h3, h4, h5, h6⟩ := adE_ok he
  obtain ⟨q1, q2, q3, q4, q5, hce⟩ := add_facts he
  obtain ⟨hb1, hb2, hb3, hb4⟩ := headE_ok h4
  have fC : (addC (short x) h).few := addC_few fS (by omega)
  have hil := insL_len (short x).hs h
  have hpl := posH_le (short x).hs h
  have hcl : (addC (short x) h).hs.length = (short x).hs.length + 1 := hil
  refine Just.of_ret ?_
  refine enterA (X := nX) (vs := [evV x p, h.val]) Try.func12 Try.ntmps12 rfl rfl Mem.nil ?_
  refine run_seq ?_
  refine run_region ?_
  refine run_h (.none rfl) (h_box rfl rfl rfl rfl rfl) ?_
  rintro b2 -
  refine run_h (.none rfl) (h_box rfl rfl rfl rfl rfl) ?_
  rintro b3 -
  refine run_q (.none rfl) rfl rfl (q_assign rfl rfl) ?_
  refine run_nil ?_
  refine run_seq ?_
  refine run_region ?_
  refine run_q (.none rfl) rfl rfl (q_loadBN rfl agg30 rfl (.there Sel.here) (.cons rfl (.cons rfl (.cons rfl (.cons rfl (.cons rfl (.cons rfl (.cons rfl (.cons rfl (.cons rfl (.cons rfl (.cons rfl (.cons rfl (.cons rfl CellsAt.nil))))))))))))) rfl) ?_
  refine run_h (.none rfl) (h_call rfl rfl rfl call13 (.cons rfl Evs.nil) (fun w hk hm => short_ret x p w (hx.kept0 hk) hc1 hc2)) ?_
  rintro ⟨v, m⟩ ⟨O, co, rfl, rfl⟩
  show Run _ _ _ _ _ _ _ ⟨(14, evV (short x) ⟨p.HA, p.hc, p.GA, p.gc, O, co⟩) :: _, _ :: _⟩
  refine run_h (.none rfl) (h_storeB rfl rfl sz30 rfl rfl rfl rfl rfl (.there (.there Sel.here)) rfl) ?_
  rintro - -
  refine run_nil ?_
  refine run_sub (subMk (.cons (s := 2) rfl (.cons (s := 3) rfl (.cons (s := 4) rfl .nil))) .refl) ?_
  refine run_seq ?_
  refine run_ownLe (.there Sel.here) (fun hlyc => ?_)
  refine run_region ?_
  refine run_q (.none rfl) rfl rfl (q_loadBN rfl agg30 rfl Sel.here (.cons rfl (.cons rfl (.cons rfl (.cons rfl (.cons rfl (.cons rfl (.cons rfl (.cons rfl (.cons rfl (.cons rfl (.cons rfl (.cons rfl (.cons rfl CellsAt.nil))))))))))))) rfl) ?_
  refine run_q (.none rfl) rfl rfl (q_loadBN rfl agg53 rfl (.there (.there Sel.here)) (.cons rfl (.cons rfl (.cons rfl (.cons rfl (.cons rfl CellsAt.nil))))) rfl) ?_
  refine run_h (.none rfl) (h_call rfl rfl rfl call43 (.cons rfl (.cons rfl Evs.nil)) (fun w hk hm => add_ret (short x) (Lie.mk p.HA p.hc p.GA p.gc O co) h w ⟨hSh.kept0 hk, hSg.kept0 hk, (own_rd ((Sel.there Sel.here).holds hm))⟩ fS he)) ?_
  rintro ⟨v, m⟩ ⟨r, rfl, rfl⟩
  show Run _ _ _ _ _ _ _ ⟨(18, .tuple #[evV (addC (short x) h) r, .int .i64 0]) :: _, _ :: _ :: _ :: _⟩
  refine run_q (.none rfl) rfl rfl (q_move rfl rfl) ?_
  refine run_q (.none rfl) rfl rfl (q_extract rfl rfl rfl) ?_
  refine run_q (.none rfl) rfl rfl (q_extract rfl rfl rfl) ?_
  refine run_h (.none rfl) (h_alloc rfl rfl rfl info30) ?_
  rintro b5 -
  refine run_h (.none rfl) (h_storeB rfl rfl sz30 rfl rfl rfl rfl rfl Sel.here rfl) ?_
  rintro - -
  refine run_q (.none rfl) rfl rfl (q_assign rfl rfl) ?_
  refine run_nil ?_
  refine run_sub (subMk (.cons (s := 2) rfl (.cons (s := 3) rfl (.cons (s := 4) rfl (.cons (s := 5) rfl (.cons (s := 6) rfl .nil))))) .refl) ?_
  refine run_seq ?_
  refine run_seq ?_
  refine run_region ?_
  refine run_q (.none rfl) rfl rfl (q_call rfl call14 Evs.nil (fun w hk hm => known_just w)) ?_
  refine run_q (.none rfl) rfl rfl (q_not rfl rfl) ?_
  refine run_nil ?_
  refine run_condF rfl rfl ?_
  refine run_skip ?_
  refine run_seq ?_
  refine run_region ?_
  refine run_q (.none rfl) rfl rfl (q_assign rfl rfl) ?_
  refine run_nil ?_
  refine run_seq ?_
  refine run_region ?_
  refine run_q (.none rfl) rfl rfl (q_loadBN rfl agg30 rfl (.there (.there (.there (.there Sel.here)))) (.cons rfl (.cons rfl (.cons rfl (.cons rfl (.cons rfl (.cons rfl (.cons rfl (.cons rfl (.cons rfl (.cons rfl (.cons rfl (.cons rfl (.cons rfl CellsAt.nil))))))))))))) rfl) ?_
  refine run_q (.none rfl) rfl rfl (q_fieldB (d := 0) rfl Try.underlying53 rfl rfl sz51 rfl) ?_
  refine run_q (.none rfl) rfl rfl (q_loadBN rfl agg51 rfl (.there (.there (.there (.there (.there (.there Sel.here)))))) (.cons rfl (.cons rfl (.cons rfl CellsAt.nil))) rfl) ?_
  refine run_q (.none rfl) rfl rfl (q_call rfl call35 (.cons rfl (.cons rfl Evs.nil)) (fun w hk hm => find_just (short x) (Lie.mk p.HA p.hc p.GA p.gc O co) h.step h.alter h.oct w ⟨hSh.kept0 hk, hSg.kept0 hk, (own_rd ((Sel.there (Sel.there (Sel.there (Sel.there (Sel.there Sel.here))))).holds hm))⟩ fS)) ?_
  refine run_q (.none rfl) rfl rfl (q_move rfl rfl) ?_
  refine run_q (.none rfl) rfl rfl (q_extract rfl rfl rfl) ?_
  refine run_q (.none rfl) rfl rfl (q_extract rfl rfl rfl) ?_
  refine run_q (.none rfl) rfl rfl (q_assign rfl rfl) ?_
  refine run_q (.none rfl) rfl rfl (q_assign rfl rfl) ?_
  refine run_nil ?_
  refine run_sub (subMk (.cons (s := 2) rfl (.cons (s := 3) rfl (.cons (s := 4) rfl (.cons (s := 5) rfl (.cons (s := 6) rfl (.cons (s := 7) rfl (.cons (s := 8) rfl (.cons (s := 9) rfl .nil)))))))) .refl) ?_
  refine run_seq ?_
  refine run_block ?_
  refine run_seq ?_
  refine run_region ?_
  refine run_q (.none rfl) rfl rfl (q_loadBN rfl agg30 rfl (.there (.there (.there (.there Sel.here)))) (.cons rfl (.cons rfl (.cons rfl (.cons rfl (.cons rfl (.cons rfl (.cons rfl (.cons rfl (.cons rfl (.cons rfl (.cons rfl (.cons rfl (.cons rfl CellsAt.nil))))))))))))) rfl) ?_
  refine run_q (.none rfl) rfl rfl (q_call rfl call16 (.cons rfl Evs.nil) (fun w hk hm => refCheck_just (short x) (Lie.mk p.HA p.hc p.GA p.gc O co) w ⟨hSh.kept0 hk, hSg.kept0 hk, (own_rd ((Sel.there (Sel.there (Sel.there (Sel.there (Sel.there Sel.here))))).holds hm))⟩ fS)) ?_
  refine run_q (.none rfl) rfl rfl (q_neq rfl rfl rfl) ?_
  refine run_q (.none rfl) rfl rfl (q_assign rfl rfl) ?_
  refine run_nil ?_
  refine run_sub (subMk (.cons (s := 2) rfl (.cons (s := 3) rfl (.cons (s := 4) rfl (.cons (s := 5) rfl (.cons (s := 6) rfl (.cons (s := 7) rfl (.cons (s := 8) rfl (.cons (s := 9) rfl (.cons (s := 30) rfl .nil))))))))) .refl) ?_
  refine run_condF rfl (by rw [h2]; rfl) ?_
  refine run_seq ?_
  refine run_region ?_
  refine run_q (.none rfl) rfl rfl (q_fieldB (d := 2) rfl Try.underlying30 rfl rfl sz3 rfl) ?_
  refine run_q (.none rfl) rfl rfl (q_loadB rfl one3 rfl (.there (.there (.there (.there Sel.here)))) rfl) ?_
  refine run_q (.none rfl) rfl rfl (q_neq rfl rfl rfl) ?_
  refine run_q (.none rfl) rfl rfl (q_assign rfl rfl) ?_
  refine run_nil ?_
  refine run_sub (subMk (.cons (s := 2) rfl (.cons (s := 3) rfl (.cons (s := 4) rfl (.cons (s := 5) rfl (.cons (s := 6) rfl (.cons (s := 7) rfl (.cons (s := 8) rfl (.cons (s := 9) rfl (.cons (s := 36) rfl .nil))))))))) .refl) ?_
  refine run_condF rfl (by rw [h3]; rfl) ?_
  refine run_seq ?_
  refine run_region ?_
  refine run_q (.none rfl) rfl rfl (q_fieldB (d := 0) rfl Try.underlying53 rfl rfl sz51 rfl) ?_
  refine run_q (.none rfl) rfl rfl (q_loadBN rfl agg51 rfl (.there (.there (.there (.there (.there (.there Sel.here)))))) (.cons rfl (.cons rfl (.cons rfl CellsAt.nil))) rfl) ?_
  refine run_q (.none rfl) rfl rfl (q_call rfl call36 (.cons rfl Evs.nil) (fun w hk hm => refNumber_just h.step h.alter h.oct w)) ?_
  refine run_q (.none rfl) rfl rfl (q_lss rfl rfl rfl) ?_
  refine run_q (.none rfl) rfl rfl (q_assign rfl rfl) ?_
  refine run_nil ?_
  refine run_sub (subMk (.cons (s := 2) rfl (.cons (s := 3) rfl (.cons (s := 4) rfl (.cons (s := 5) rfl (.cons (s := 6) rfl (.cons (s := 7) rfl (.cons (s := 8) rfl (.cons (s := 9) rfl (.cons (s := 40) rfl .nil))))))))) .refl) ?_
  refine run_condF rfl (decide_eq_false q4) ?_
  refine run_seq ?_
  refine run_region ?_
  refine run_q (.none rfl) rfl rfl (q_fieldB (d := 4) rfl Try.underlying53 rfl rfl sz3 rfl) ?_
  refine run_q (.none rfl) rfl rfl (q_loadB rfl one3 rfl (.there (.there (.there (.there (.there (.there Sel.here)))))) rfl) ?_
  refine run_q (.none rfl) rfl rfl (q_lss rfl rfl rfl) ?_
  refine run_q (.none rfl) rfl rfl (q_move rfl rfl) ?_
  refine run_q (.on rfl rfl rfl (decide_eq_false (by omega))) rfl rfl (q_fieldB (d := 4) rfl Try.underlying53 rfl rfl sz3 rfl) ?_
  refine run_q (.on rfl rfl rfl (decide_eq_false (by omega))) rfl rfl (q_loadB rfl one3 rfl (.there (.there (.there (.there (.there (.there Sel.here)))))) rfl) ?_
  refine run_q (.on rfl rfl rfl (decide_eq_false (by omega))) rfl rfl (q_gtr rfl rfl rfl) ?_
  refine run_q (.none rfl) rfl rfl (q_pickF rfl rfl (decide_eq_false (by omega)) rfl) ?_
  refine run_q (.none rfl) rfl rfl (q_assign rfl rfl) ?_
  refine run_nil ?_
  refine run_sub (subMk (.cons (s := 2) rfl (.cons (s := 3) rfl (.cons (s := 4) rfl (.cons (s := 5) rfl (.cons (s := 6) rfl (.cons (s := 7) rfl (.cons (s := 8) rfl (.cons (s := 9) rfl (.cons (s := 45) rfl .nil))))))))) .refl) ?_
  refine run_condF rfl (decide_eq_false (by omega)) ?_
  refine run_seq ?_
  refine run_region ?_
  refine run_q (.none rfl) rfl rfl (q_move rfl rfl) ?_
  refine run_q (.none rfl) rfl rfl (q_assign rfl rfl) ?_
  refine run_nil ?_
  refine run_condF rfl h5 ?_
  refine run_seq ?_
  refine run_region ?_
  refine run_q (.none rfl) rfl rfl (q_fieldB (d := 5) rfl Try.underlying30 rfl rfl sz26 rfl) ?_
  refine run_q (.none rfl) rfl rfl (q_loadB rfl one26 rfl (.there (.there (.there (.there Sel.here)))) rfl) ?_
  refine run_q (.none rfl) rfl rfl (q_len rfl Try.underlying26 rfl) ?_
  refine run_q (.none rfl) rfl rfl (q_eql rfl rfl rfl) ?_
  refine run_q (.none rfl) rfl rfl (q_assign rfl rfl) ?_
  refine run_nil ?_
  refine run_sub (subMk (.cons (s := 2) rfl (.cons (s := 3) rfl (.cons (s := 4) rfl (.cons (s := 5) rfl (.cons (s := 6) rfl (.cons (s := 7) rfl (.cons (s := 8) rfl (.cons (s := 9) rfl (.cons (s := 56) rfl .nil))))))))) .refl) ?_
  refine run_condF rfl (beq_false_of_ne (by omega)) ?_
  refine run_skip ?_
  refine run_blk ?_
  refine run_seq ?_
  refine run_seq ?_
  refine run_region ?_
  refine run_q (.none rfl) rfl rfl (q_move rfl rfl) ?_
  refine run_q (.none rfl) rfl rfl (q_move rfl rfl) ?_
  refine run_q (.none rfl) rfl rfl (q_neq rfl rfl rfl) ?_
  refine run_nil ?_
  refine run_sub (subMk (.cons (s := 2) rfl (.cons (s := 3) rfl (.cons (s := 4) rfl (.cons (s := 5) rfl (.cons (s := 6) rfl (.cons (s := 8) rfl (.cons (s := 9) rfl (.cons (s := 63) rfl .nil)))))))) .refl) ?_
  refine run_condF rfl rfl ?_
  refine run_skip ?_
  refine run_seq ?_
  refine run_seq ?_
  refine run_region ?_
  refine run_q (.none rfl) rfl rfl (q_move rfl rfl) ?_
  refine run_q (.none rfl) rfl rfl (q_neq rfl rfl rfl) ?_
  refine run_nil ?_
  refine run_sub (subMk (.cons (s := 2) rfl (.cons (s := 3) rfl (.cons (s := 4) rfl (.cons (s := 5) rfl (.cons (s := 8) rfl (.cons (s := 9) rfl (.cons (s := 65) rfl .nil))))))) .refl) ?_
  refine run_condF rfl rfl ?_
  refine run_skip ?_
  refine run_seq ?_
  refine run_region ?_
  refine run_q (.none rfl) rfl rfl (q_loadBN rfl agg30 rfl (.there (.there (.there (.there Sel.here)))) (.cons rfl (.cons rfl (.cons rfl (.cons rfl (.cons rfl (.cons rfl (.cons rfl (.cons rfl (.cons rfl (.cons rfl (.cons rfl (.cons rfl (.cons rfl CellsAt.nil))))))))))))) rfl) ?_
  refine run_h (.none rfl) (h_alloc rfl rfl rfl info30) ?_
  rintro b10 -
  refine run_h (.none rfl) (h_storeB rfl rfl sz30 rfl rfl rfl rfl rfl Sel.here rfl) ?_
  rintro - -
  refine run_nil ?_
  refine run_seq ?_
  refine run_fork mixed (by kernel_rfl) (Sel.rest Sel.here) ?_
  refine b_q (i := 1) rfl (by kernel_rfl) (.none rfl) rfl rfl (q_fieldB (d := 5) rfl Try.underlying30 rfl rfl sz26 rfl) ?_
  refine b_q (i := 2) rfl (by kernel_rfl) (.none rfl) rfl rfl (q_loadB rfl one26 rfl (.there (.there (.there (.there Sel.here)))) rfl) ?_
  refine b_q (i := 4) rfl (by kernel_rfl) (.none rfl) rfl rfl (q_loadBN rfl agg53 rfl (.there (.there (.there (.there (.there (.there Sel.here)))))) (.cons rfl (.cons rfl (.cons rfl (.cons rfl (.cons rfl CellsAt.nil))))) rfl) ?_
  refine b_two 0 5 (by kernel_rfl) ?_ ?_
  · refine b_h rfl (.none rfl) (h_buildSlice rfl rfl rfl Try.underlying26 info53 Parts.nil rfl (by omega)) (fun _ _ => (.sub (.cons _ (.cons _ (.cons_cons _ (.cons_cons _ (.cons_cons _ (.cons_cons _ (.cons_cons _ (.cons_cons _ (.cons_cons _ .slnil))))))))))) ?_
    rintro b70 -
    refine b_two 3 5 (by kernel_rfl) ?_ ?_
    · refine b_h rfl (.none rfl) (h_append rfl rfl rfl Try.underlying26 info53 rfl rfl Sel.here rfl (.inp hSh .no) (by rw [List.length_map]) (fun z hz => Hd_len hz) (fun z hz => Hd_all hz) (by omega) (by omega)) (fun _ _ => (.sub (.cons _ (.cons _ (.cons_cons _ (.cons_cons _ (.cons_cons _ (.cons_cons _ (.cons_cons _ (.cons_cons _ (.cons_cons _ .slnil))))))))))) ?_
      rintro ⟨A73, c73⟩ -
      refine b_one 5 (by kernel_rfl) ?_
      refine b_h rfl (.none rfl) (h_buildSlice rfl rfl rfl Try.underlying26 info53 (.cons rfl rfl rfl rfl Parts.nil) rfl (by omega)) (fun _ _ => (.sub (.cons _ (.cons _ (.cons _ (.cons_cons _ (.cons_cons _ (.cons_cons _ (.cons_cons _ (.cons_cons _ (.cons_cons _ (.cons_cons _ .slnil)))))))))))) ?_
      rintro b75 -
      refine b_one 6 (by kernel_rfl) ?_
      refine b_h rfl (.none rfl) (h_append rfl rfl rfl Try.underlying26 info53 rfl rfl (.there Sel.here) rfl (.own Sel.here) rfl (all1 rfl) (all1 rfl) (by omega) (by omega)) (fun _ _ => (.sub (.cons _ (.cons _ (.cons _ (.cons_cons _ (.cons_cons _ (.cons_cons _ (.cons_cons _ (.cons_cons _ (.cons_cons _ (.cons_cons _ .slnil)))))))))))) ?_
      rintro ⟨A76, c76⟩ -
      refine b_q (i := 7) rfl (by kernel_rfl) (.none rfl) rfl rfl (q_fieldB (d := 5) rfl Try.underlying30 rfl rfl sz26 rfl) ?_
      refine b_one 8 (by kernel_rfl) ?_
      refine b_h rfl (.none rfl) (h_storeB rfl rfl sz26 rfl rfl rfl rfl rfl (.there (.there Sel.here)) rfl) (fun _ _ => (.sub (.cons _ (.cons _ (.cons _ (.cons_cons _ (.cons_cons _ (.cons_cons _ (.cons_cons _ (.cons_cons _ (.cons_cons _ (.cons_cons _ .slnil)))))))))))) ?_
      rintro - -
      refine b_nil (by kernel_rfl) ?_
      refine run_sub (subMk (.cons (s := 2) rfl (.cons (s := 3) rfl (.cons (s := 4) rfl (.cons (s := 5) rfl (.cons (s := 8) rfl (.cons (s := 9) rfl (.cons (s := 10) rfl .nil))))))) .refl) ?_
      refine run_seq ?_
      refine run_sub (subMk .refl (.cons Sel.here (.blk (.cons (s := 0) rfl (.cons (s := 1) rfl (.cons (s := 2) rfl (.cons (s := 3) rfl (.cons (s := 4) rfl (.cons' (s := 5) (v' := .slice A76 (addX (short x) h).hs.length c76) rfl (by congr 1; simp [addX]) (.cons (s := 6) rfl (.cons (s := 7) rfl (.cons (s := 8) rfl (.cons (s := 9) rfl (.cons (s := 10) rfl (.cons (s := 11) rfl (.cons (s := 12) rfl (.nil))))))))))))))) (.cons Sel.here (.own (m' := (addX (short x) h).hs.length) (xs' := (addX (short x) h).hs.map Hd.enc) rfl (by simp [addX]) rfl (by simp [addX, Hd.enc, vlist])) (.cons Sel.here .refl (.cons Sel.here .refl (.cons Sel.here .refl (.cons Sel.here .refl (.cons Sel.here .refl (.cons Sel.here .refl (.cons Sel.here .refl (.cons Sel.here .refl .nil))))))))))) ?_
      refine run_region ?_
      refine run_q (.none rfl) rfl rfl (q_loadBN rfl agg30 rfl (.there (.there (.there Sel.here))) (.cons rfl (.cons rfl (.cons rfl (.cons rfl (.cons rfl (.cons rfl (.cons rfl (.cons rfl (.cons rfl (.cons rfl (.cons rfl (.cons rfl (.cons rfl CellsAt.nil))))))))))))) rfl) ?_
      refine run_q (.none rfl) rfl rfl (q_fieldB (d := 0) rfl Try.underlying53 rfl rfl sz51 rfl) ?_
      refine run_q (.none rfl) rfl rfl (q_loadBN rfl agg51 rfl (.there (.there (.there (.there (.there (.there (.there (.there (.there Sel.here))))))))) (.cons rfl (.cons rfl (.cons rfl CellsAt.nil))) rfl) ?_
      refine run_q (.none rfl) rfl rfl (q_call rfl call35 (.cons rfl (.cons rfl Evs.nil)) (fun w hk hm => find_just (addC (short x) h) r h.step h.alter h.oct w ⟨(own_rd ((Sel.there (Sel.there (Sel.there (Sel.there Sel.here)))).holds hm)), (own_rd ((Sel.there (Sel.there (Sel.there (Sel.there (Sel.there Sel.here))))).holds hm)), (own_rd ((Sel.there (Sel.there (Sel.there (Sel.there (Sel.there (Sel.there Sel.here)))))).holds hm))⟩ fC)) ?_
      refine run_q (.none rfl) rfl rfl (q_move rfl rfl) ?_
      refine run_q (.none rfl) rfl rfl (q_extract rfl rfl rfl) ?_
      refine run_q (.none rfl) rfl rfl (q_extract rfl rfl rfl) ?_
      refine run_q (.none rfl) rfl rfl (q_assign rfl rfl) ?_
      refine run_q (.none rfl) rfl rfl (q_assign rfl rfl) ?_
      refine run_nil ?_
      refine run_sub (subMk (.cons (s := 2) rfl (.cons (s := 3) rfl (.cons (s := 4) rfl (.cons (s := 5) rfl (.cons (s := 8) rfl (.cons (s := 9) rfl (.cons (s := 10) rfl .nil))))))) .refl) ?_
      refine run_seq ?_
      refine run_sub (subMk (.cons (s := 2) rfl (.cons (s := 3) rfl (.cons (s := 4) rfl (.cons (s := 5) rfl (.cons' (s := 8) (v' := .int .i64 ((posH (short x).hs h) : Int)) rfl (vint (add_findV q4 q5)) (.cons' (s := 9) (v' := .bool true) rfl (congrArg Value.bool (add_findB q4 q5)) (.cons (s := 10) rfl .nil))))))) .refl) ?_
      refine run_region ?_
      refine run_q (.none rfl) rfl rfl (q_loadBN rfl agg30 rfl (.there (.there (.there Sel.here))) (.cons rfl (.cons rfl (.cons rfl (.cons rfl (.cons rfl (.cons rfl (.cons rfl (.cons rfl (.cons rfl (.cons rfl (.cons rfl (.cons rfl (.cons rfl CellsAt.nil))))))))))))) rfl) ?_
      refine run_q (.none rfl) rfl rfl (q_move rfl rfl) ?_
      refine run_h (.none rfl) (h_call rfl rfl rfl call27 (.cons rfl (.cons rfl Evs.nil)) (fun w hk hm => rem_more (addC (short x) h) r (posH (short x).hs h) w ⟨(own_rd ((Sel.there (Sel.there (Sel.there (Sel.there Sel.here)))).holds hm)), (own_rd ((Sel.there (Sel.there (Sel.there (Sel.there (Sel.there Sel.here))))).holds hm)), (own_rd ((Sel.there (Sel.there (Sel.there (Sel.there (Sel.there (Sel.there Sel.here)))))).holds hm))⟩ fC (add_rmE he) (by omega))) ?_
      rintro ⟨v, m⟩ ⟨z, rfl, rfl⟩
      show Run _ _ _ _ _ _ _ ⟨(88, .tuple #[evV (remX (addC (short x) h) (posH (short x).hs h)) z, .int .i64 0]) :: _, _ :: _ :: _ :: _⟩
      refine run_q (.none rfl) rfl rfl (q_move rfl rfl) ?_
      refine run_q (.none rfl) rfl rfl (q_extract rfl rfl rfl) ?_
      refine run_q (.none rfl) rfl rfl (q_extract rfl rfl rfl) ?_
      refine run_h (.none rfl) (h_alloc rfl rfl rfl info30) ?_
      rintro b11 -
      refine run_h (.none rfl) (h_storeB rfl rfl sz30 rfl rfl rfl rfl rfl Sel.here rfl) ?_
      rintro - -
      refine run_q (.none rfl) rfl rfl (q_assign rfl rfl) ?_
      refine run_nil ?_
      refine run_sub (subMk (.cons (s := 2) rfl (.cons (s := 3) rfl (.cons (s := 4) rfl (.cons (s := 5) rfl (.cons (s := 8) rfl (.cons (s := 9) rfl (.cons (s := 10) rfl (.cons (s := 11) rfl (.cons (s := 12) rfl .nil))))))))) .refl) ?_
      refine run_seq ?_
      refine run_fork mixed (by kernel_rfl) .refl ?_
      refine b_q (i := 0) rfl (by kernel_rfl) (.none rfl) rfl rfl (q_loadBN rfl agg30 rfl (.there (.there (.there (.there (.there (.there (.there Sel.here))))))) (.cons rfl (.cons rfl (.cons rfl (.cons rfl (.cons rfl (.cons rfl (.cons rfl (.cons rfl (.cons rfl (.cons rfl (.cons rfl (.cons rfl (.cons rfl CellsAt.nil))))))))))))) rfl) ?_
      refine b_q (i := 1) rfl (by kernel_rfl) (.none rfl) rfl rfl (q_loadBN rfl agg30 rfl (.there (.there (.there (.there Sel.here)))) (.cons rfl (.cons rfl (.cons rfl (.cons rfl (.cons rfl (.cons rfl (.cons rfl (.cons rfl (.cons rfl (.cons rfl (.cons rfl (.cons rfl (.cons rfl CellsAt.nil))))))))))))) rfl) ?_
      refine b_one 2 (by kernel_rfl) ?_
      refine b_hN rfl (.none rfl) (h_call rfl rfl rfl call26 (.cons rfl Evs.nil) (fun w hk hm => refcanon_in (addX (short x) h) (Lie.mk A76 c76 p.GA p.gc O co) w (show RdE w (addX (short x) h) (Lie.mk A76 c76 p.GA p.gc O co) from ⟨(own_rd ((Sel.there (Sel.there (Sel.there (Sel.there (Sel.there Sel.here))))).holds hm)), hSg.kept0 hk, (own_rd ((Sel.there (Sel.there (Sel.there (Sel.there (Sel.there (Sel.there (Sel.there (Sel.there (Sel.there (Sel.there (Sel.there (Sel.there Sel.here)))))))))))).holds hm))⟩) (addX_few fS (by omega)) (by show 1 ≤ (short x).n.kind ∧ (short x).n.kind ≤ 4; omega) (by show (short x).ls.length ≤ co; exact hlyc))) (fun _ _ => (.sub (List.sublist_append_right _ _))) ?_
      rintro ⟨v, m⟩ ⟨O3, co3, rfl, rfl⟩
      show RunB _ _ _ _ _ _ _ _ _ _ _ ⟨(93, evV (canE (addX (short x) h)) (Lie.mk O3 co3 (stripP (addX (short x) h) (Lie.mk A76 c76 p.GA p.gc O co)).GA (stripP (addX (short x) h) (Lie.mk A76 c76 p.GA p.gc O co)).gc (stripP (addX (short x) h) (Lie.mk A76 c76 p.GA p.gc O co)).LA (stripP (addX (short x) h) (Lie.mk A76 c76 p.GA p.gc O co)).lc)) :: _, _ :: _⟩
      refine b_q (i := 3) rfl (by kernel_rfl) (.none rfl) rfl rfl (q_call rfl call25 (.cons rfl (.cons rfl Evs.nil)) (fun w hk hm => refequal_just (addC (short x) h) (canE (addX (short x) h)) r (Lie.mk O3 co3 (stripP (addX (short x) h) (Lie.mk A76 c76 p.GA p.gc O co)).GA (stripP (addX (short x) h) (Lie.mk A76 c76 p.GA p.gc O co)).gc (stripP (addX (short x) h) (Lie.mk A76 c76 p.GA p.gc O co)).LA (stripP (addX (short x) h) (Lie.mk A76 c76 p.GA p.gc O co)).lc) w ⟨(own_rd ((Sel.there (Sel.there (Sel.there (Sel.there (Sel.there (Sel.there (Sel.there (Sel.there (Sel.there Sel.here))))))))).holds hm)), (own_rd ((Sel.there (Sel.there (Sel.there (Sel.there (Sel.there (Sel.there (Sel.there (Sel.there (Sel.there (Sel.there Sel.here)))))))))).holds hm)), (own_rd ((Sel.there (Sel.there (Sel.there (Sel.there (Sel.there (Sel.there (Sel.there (Sel.there (Sel.there (Sel.there (Sel.there Sel.here))))))))))).holds hm))⟩ ((show RdE w (addX (short x) h) (Lie.mk A76 c76 p.GA p.gc O co) from ⟨(own_rd ((Sel.there (Sel.there (Sel.there (Sel.there (Sel.there (Sel.there Sel.here)))))).holds hm)), hSg.kept0 hk, (own_rd ((Sel.there (Sel.there (Sel.there (Sel.there (Sel.there (Sel.there (Sel.there (Sel.there (Sel.there (Sel.there (Sel.there (Sel.there (Sel.there Sel.here))))))))))))).holds hm))⟩).can (by show 1 ≤ (short x).n.kind ∧ (short x).n.kind ≤ 4; omega) (own_rd (Sel.here.holds hm))) fC (can_few (addX_few fS (by omega))))) ?_
      refine b_q (i := 4) rfl (by kernel_rfl) (.none rfl) rfl rfl (q_move rfl rfl) ?_
      refine b_q (i := 5) rfl (by kernel_rfl) (.on rfl rfl rfl (decide_eq_true (by rw [hce]; exact equalP_refl _))) rfl rfl (q_loadBN rfl agg30 rfl (.there (.there (.there (.there (.there (.there (.there (.there Sel.here)))))))) (.cons rfl (.cons rfl (.cons rfl (.cons rfl (.cons rfl (.cons rfl (.cons rfl (.cons rfl (.cons rfl (.cons rfl (.cons rfl (.cons rfl (.cons rfl CellsAt.nil))))))))))))) rfl) ?_
      refine b_q (i := 6) rfl (by kernel_rfl) (.on rfl rfl rfl (decide_eq_true (by rw [hce]; exact equalP_refl _))) rfl rfl (q_call rfl call16 (.cons rfl Evs.nil) (fun w hk hm => refCheck_just (addC (short x) h) r w ⟨(own_rd ((Sel.there (Sel.there (Sel.there (Sel.there (Sel.there (Sel.there (Sel.there (Sel.there (Sel.there Sel.here))))))))).holds hm)), (own_rd ((Sel.there (Sel.there (Sel.there (Sel.there (Sel.there (Sel.there (Sel.there (Sel.there (Sel.there (Sel.there Sel.here)))))))))).holds hm)), (own_rd ((Sel.there (Sel.there (Sel.there (Sel.there (Sel.there (Sel.there (Sel.there (Sel.there (Sel.there (Sel.there (Sel.there Sel.here))))))))))).holds hm))⟩ fC)) ?_
      refine b_q (i := 7) rfl (by kernel_rfl) (.on rfl rfl rfl (decide_eq_true (by rw [hce]; exact equalP_refl _))) rfl rfl (q_eql rfl rfl rfl) ?_
      refine b_q (i := 8) rfl (by kernel_rfl) (.none rfl) rfl rfl (q_pickT rfl rfl (decide_eq_true (by rw [hce]; exact equalP_refl _)) rfl) ?_
      refine b_q (i := 9) rfl (by kernel_rfl) (.none rfl) rfl rfl (q_move rfl rfl) ?_
      refine b_q (i := 10) rfl (by kernel_rfl) (.on rfl rfl rfl (by rw [add_ok he]; rfl)) rfl rfl (q_move rfl rfl) ?_
      refine b_q (i := 11) rfl (by kernel_rfl) (.none rfl) rfl rfl (q_pickT rfl rfl (by rw [add_ok he]; rfl) rfl) ?_
      refine b_q (i := 12) rfl (by kernel_rfl) (.none rfl) rfl rfl (q_move rfl rfl) ?_
      refine b_q (i := 13) rfl (by kernel_rfl) (.on rfl rfl rfl rfl) rfl rfl (q_move rfl rfl) ?_
      refine b_q (i := 14) rfl (by kernel_rfl) (.on rfl rfl rfl rfl) rfl rfl (q_geq rfl rfl rfl) ?_
      refine b_q (i := 15) rfl (by kernel_rfl) (.none rfl) rfl rfl (q_pickT rfl rfl rfl rfl) ?_
      refine b_q (i := 16) rfl (by kernel_rfl) (.none rfl) rfl rfl (q_move rfl rfl) ?_
      refine b_q (i := 17) rfl (by kernel_rfl) (.on rfl rfl rfl (decide_eq_true (by omega))) rfl rfl (q_move rfl rfl) ?_
      refine b_q (i := 18) rfl (by kernel_rfl) (.on rfl rfl rfl (decide_eq_true (by omega))) rfl rfl (q_fieldB (d := 5) rfl Try.underlying30 rfl rfl sz26 rfl) ?_
      refine b_q (i := 19) rfl (by kernel_rfl) (.on rfl rfl rfl (decide_eq_true (by omega))) rfl rfl (q_loadB rfl one26 rfl (.there (.there (.there (.there (.there (.there (.there (.there Sel.here)))))))) rfl) ?_
      refine b_q (i := 20) rfl (by kernel_rfl) (.on rfl rfl rfl (decide_eq_true (by omega))) rfl rfl (q_len rfl Try.underlying26 rfl) ?_
      refine b_q (i := 21) rfl (by kernel_rfl) (.on rfl rfl rfl (decide_eq_true (by omega))) rfl rfl (q_lss rfl rfl rfl) ?_
      refine b_q (i := 22) rfl (by kernel_rfl) (.none rfl) rfl rfl (q_pickT rfl rfl (decide_eq_true (by omega)) rfl) ?_
      refine b_q (i := 23) rfl (by kernel_rfl) (.none rfl) rfl rfl (q_move rfl rfl) ?_
      refine b_q (i := 24) rfl (by kernel_rfl) (.on rfl rfl rfl (decide_eq_true (by omega))) rfl rfl (q_fieldB (d := 5) rfl Try.underlying30 rfl rfl sz26 rfl) ?_
      refine b_q (i := 25) rfl (by kernel_rfl) (.on rfl rfl rfl (decide_eq_true (by omega))) rfl rfl (q_loadB rfl one26 rfl (.there (.there (.there (.there (.there (.there (.there (.there Sel.here)))))))) rfl) ?_
      refine b_q (i := 26) rfl (by kernel_rfl) (.on rfl rfl rfl (decide_eq_true (by omega))) rfl rfl (q_move rfl rfl) ?_
      refine b_q (i := 27) rfl (by kernel_rfl) (.on rfl rfl rfl (decide_eq_true (by omega))) rfl rfl (q_indexS (q := (posH (short x).hs h)) rfl Try.underlying26 sz53 rfl rfl (.own (.there (.there (.there (.there (.there (.there (.there (.there (.there Sel.here)))))))))) (by rw [List.length_map]) rfl (by omega)) ?_
      refine b_q (i := 28) rfl (by kernel_rfl) (.on rfl rfl rfl (decide_eq_true (by omega))) rfl rfl (q_loadE rfl agg53 rfl (.own (.there (.there (.there (.there (.there (.there (.there (.there (.there Sel.here)))))))))) (show ((addC (short x) h).hs.map Hd.enc)[(posH (short x).hs h)]? = some h.enc from by rw [getmap (by omega)]; exact congrArg (fun z => some (Hd.enc z)) (add_nth _ _)) rfl) ?_
      refine b_q (i := 29) rfl (by kernel_rfl) (.on rfl rfl rfl (decide_eq_true (by omega))) rfl rfl (q_loadBN rfl agg53 rfl (.there (.there (.there (.there (.there (.there (.there (.there (.there (.there (.there (.there (.there (.there Sel.here)))))))))))))) (.cons rfl (.cons rfl (.cons rfl (.cons rfl (.cons rfl CellsAt.nil))))) rfl) ?_
      refine b_q (i := 30) rfl (by kernel_rfl) (.on rfl rfl rfl (decide_eq_true (by omega))) rfl rfl (q_eqlS rfl rfl rfl eqg53 (fun w => eqs53 _ _ _ _ _ _ _ _ _ _ w)) ?_
      refine b_q (i := 31) rfl (by kernel_rfl) (.none rfl) rfl rfl (q_pickT rfl rfl (decide_eq_true (by omega)) rfl) ?_
      refine b_q (i := 32) rfl (by kernel_rfl) (.none rfl) rfl rfl (q_move rfl rfl) ?_
      refine b_q (i := 33) rfl (by kernel_rfl) (.on rfl rfl rfl (by simp)) rfl rfl (q_move rfl rfl) ?_
      refine b_q (i := 34) rfl (by kernel_rfl) (.on rfl rfl rfl (by simp)) rfl rfl (q_eql rfl rfl rfl) ?_
      refine b_q (i := 35) rfl (by kernel_rfl) (.none rfl) rfl rfl (q_pickT rfl rfl (by simp) rfl) ?_
      refine b_q (i := 36) rfl (by kernel_rfl) (.none rfl) rfl rfl (q_move rfl rfl) ?_
      refine b_q (i := 37) rfl (by kernel_rfl) (.on rfl rfl rfl rfl) rfl rfl (q_loadBN rfl agg30 rfl (.there Sel.here) (.cons rfl (.cons rfl (.cons rfl (.cons rfl (.cons rfl (.cons rfl (.cons rfl (.cons rfl (.cons rfl (.cons rfl (.cons rfl (.cons rfl (.cons rfl CellsAt.nil))))))))))))) rfl) ?_
      refine b_q (i := 38) rfl (by kernel_rfl) (.on rfl rfl rfl rfl) rfl rfl (q_loadBN rfl agg30 rfl (.there (.there (.there (.there (.there (.there (.there (.there (.there (.there (.there (.there Sel.here)))))))))))) (.cons rfl (.cons rfl (.cons rfl (.cons rfl (.cons rfl (.cons rfl (.cons rfl (.cons rfl (.cons rfl (.cons rfl (.cons rfl (.cons rfl (.cons rfl CellsAt.nil))))))))))))) rfl) ?_
      refine b_q (i := 39) rfl (by kernel_rfl) (.on rfl rfl rfl rfl) rfl rfl (q_call rfl call25 (.cons rfl (.cons rfl Evs.nil)) (fun w hk hm => refequal_just (remX (addC (short x) h) (posH (short x).hs h)) (short x) z (Lie.mk p.HA p.hc p.GA p.gc O co) w ⟨(own_rd ((Sel.there (Sel.there Sel.here)).holds hm)), (own_rd ((Sel.there (Sel.there (Sel.there Sel.here))).holds hm)), (own_rd ((Sel.there (Sel.there (Sel.there (Sel.there Sel.here)))).holds hm))⟩ ⟨hSh.kept0 hk, hSg.kept0 hk, (own_rd ((Sel.there (Sel.there (Sel.there (Sel.there (Sel.there (Sel.there (Sel.there (Sel.there (Sel.there (Sel.there (Sel.there (Sel.there (Sel.there Sel.here))))))))))))).holds hm))⟩ (by rw [add_rem]; exact fS) fS)) ?_
      refine b_q (i := 40) rfl (by kernel_rfl) (.none rfl) rfl rfl (q_pickT rfl rfl rfl rfl) ?_
      refine b_q (i := 41) rfl (by kernel_rfl) (.none rfl) rfl rfl (q_assign rfl rfl) ?_
      refine b_nil (by kernel_rfl) ?_
      refine run_sub (subMk (.cons (s := 4) rfl .nil) .refl) ?_
      refine run_ret ?_
      exact end1 rfl rfl (congrArg Value.bool (decide_eq_true (by rw [add_rem]; exact equalP_refl _)))
    · refine b_h rfl (.none rfl) (h_buildSlice rfl rfl rfl Try.underlying26 info53 (.cons rfl rfl rfl rfl Parts.nil) rfl (by omega)) (fun _ _ => (.sub (.cons _ (.cons _ (.cons _ (.cons_cons _ (.cons_cons _ (.cons_cons _ (.cons_cons _ (.cons_cons _ (.cons_cons _ (.cons_cons _ .slnil)))))))))))) ?_
      rintro b75 -
      refine b_one 3 (by kernel_rfl) ?_
      refine b_h rfl (.none rfl) (h_append rfl rfl rfl Try.underlying26 info53 rfl rfl (.there Sel.here) rfl (.inp hSh .no) (by rw [List.length_map]) (fun z hz => Hd_len hz) (fun z hz => Hd_all hz) (by omega) (by omega)) (fun _ _ => (.sub (.cons _ (.cons _ (.cons _ (.cons_cons _ (.cons_cons _ (.cons_cons _ (.cons_cons _ (.cons_cons _ (.cons_cons _ (.cons_cons _ .slnil)))))))))))) ?_
      rintro ⟨A73, c73⟩ -
      refine b_one 6 (by kernel_rfl) ?_
      refine b_h rfl (.none rfl) (h_append rfl rfl rfl Try.underlying26 info53 rfl rfl Sel.here rfl (.own (.there Sel.here)) rfl (all1 rfl) (all1 rfl) (by omega) (by omega)) (fun _ _ => (.sub (.cons _ (.cons _ (.cons _ (.cons_cons _ (.cons_cons _ (.cons_cons _ (.cons_cons _ (.cons_cons _ (.cons_cons _ (.cons_cons _ .slnil)))))))))))) ?_
      rintro ⟨A76, c76⟩ -
      refine b_q (i := 7) rfl (by kernel_rfl) (.none rfl) rfl rfl (q_fieldB (d := 5) rfl Try.underlying30 rfl rfl sz26 rfl) ?_
      refine b_one 8 (by kernel_rfl) ?_
      refine b_h rfl (.none rfl) (h_storeB rfl rfl sz26 rfl rfl rfl rfl rfl (.there (.there Sel.here)) rfl) (fun _ _ => (.sub (.cons _ (.cons _ (.cons _ (.cons_cons _ (.cons_cons _ (.cons_cons _ (.cons_cons _ (.cons_cons _ (.cons_cons _ (.cons_cons _ .slnil)))))))))))) ?_
      rintro - -
      refine b_nil (by kernel_rfl) ?_
      refine run_sub (subMk (.cons (s := 2) rfl (.cons (s := 3) rfl (.cons (s := 4) rfl (.cons (s := 5) rfl (.cons (s := 8) rfl (.cons (s := 9) rfl (.cons (s := 10) rfl .nil))))))) .refl) ?_
      refine run_seq ?_
      refine run_sub (subMk .refl (.cons Sel.here (.blk (.cons (s := 0) rfl (.cons (s := 1) rfl (.cons (s := 2) rfl (.cons (s := 3) rfl (.cons (s := 4) rfl (.cons' (s := 5) (v' := .slice A76 (addX (short x) h).hs.length c76) rfl (by congr 1; simp [addX]) (.cons (s := 6) rfl (.cons (s := 7) rfl (.cons (s := 8) rfl (.cons (s := 9) rfl (.cons (s := 10) rfl (.cons (s := 11) rfl (.cons (s := 12) rfl (.nil))))))))))))))) (.cons Sel.here (.own (m' := (addX (short x) h).hs.length) (xs' := (addX (short x) h).hs.map Hd.enc) rfl (by simp [addX]) rfl (by simp [addX, Hd.enc, vlist])) (.cons Sel.here .refl (.cons Sel.here .refl (.cons Sel.here .refl (.cons Sel.here .refl (.cons Sel.here .refl (.cons Sel.here .refl (.cons Sel.here .refl (.cons Sel.here .refl .nil))))))))))) ?_
      refine run_region ?_
      refine run_q (.none rfl) rfl rfl (q_loadBN rfl agg30 rfl (.there (.there (.there Sel.here))) (.cons rfl (.cons rfl (.cons rfl (.cons rfl (.cons rfl (.cons rfl (.cons rfl (.cons rfl (.cons rfl (.cons rfl (.cons rfl (.cons rfl (.cons rfl CellsAt.nil))))))))))))) rfl) ?_
      refine run_q (.none rfl) rfl rfl (q_fieldB (d := 0) rfl Try.underlying53 rfl rfl sz51 rfl) ?_
      refine run_q (.none rfl) rfl rfl (q_loadBN rfl agg51 rfl (.there (.there (.there (.there (.there (.there (.there (.there (.there Sel.here))))))))) (.cons rfl (.cons rfl (.cons rfl CellsAt.nil))) rfl) ?_
      refine run_q (.none rfl) rfl rfl (q_call rfl call35 (.cons rfl (.cons rfl Evs.nil)) (fun w hk hm => find_just (addC (short x) h) r h.step h.alter h.oct w ⟨(own_rd ((Sel.there (Sel.there (Sel.there (Sel.there Sel.here)))).holds hm)), (own_rd ((Sel.there (Sel.there (Sel.there (Sel.there (Sel.there Sel.here))))).holds hm)), (own_rd ((Sel.there (Sel.there (Sel.there (Sel.there (Sel.there (Sel.there Sel.here)))))).holds hm))⟩ fC)) ?_
      refine run_q (.none rfl) rfl rfl (q_move rfl rfl) ?_
      refine run_q (.none rfl) rfl rfl (q_extract rfl rfl rfl) ?_
      refine run_q (.none rfl) rfl rfl (q_extract rfl rfl rfl) ?_
      refine run_q (.none rfl) rfl rfl (q_assign rfl rfl) ?_
      refine run_q (.none rfl) rfl rfl (q_assign rfl rfl) ?_
      refine run_nil ?_
      refine run_sub (subMk (.cons (s := 2) rfl (.cons (s := 3) rfl (.cons (s := 4) rfl (.cons (s := 5) rfl (.cons (s := 8) rfl (.cons (s := 9) rfl (.cons (s := 10) rfl .nil))))))) .refl) ?_
      refine run_seq ?_
      refine run_sub (subMk (.cons (s := 2) rfl (.cons (s := 3) rfl (.cons (s := 4) rfl (.cons (s := 5) rfl (.cons' (s := 8) (v' := .int .i64 ((posH (short x).hs h) : Int)) rfl (vint (add_findV q4 q5)) (.cons' (s := 9) (v' := .bool true) rfl (congrArg Value.bool (add_findB q4 q5)) (.cons (s := 10) rfl .nil))))))) .refl) ?_
      refine run_region ?_
      refine run_q (.none rfl) rfl rfl (q_loadBN rfl agg30 rfl (.there (.there (.there Sel.here))) (.cons rfl (.cons rfl (.cons rfl (.cons rfl (.cons rfl (.cons rfl (.cons rfl (.cons rfl (.cons rfl (.cons rfl (.cons rfl (.cons rfl (.cons rfl CellsAt.nil))))))))))))) rfl) ?_
      refine run_q (.none rfl) rfl rfl (q_move rfl rfl) ?_
      refine run_h (.none rfl) (h_call rfl rfl rfl call27 (.cons rfl (.cons rfl Evs.nil)) (fun w hk hm => rem_more (addC (short x) h) r (posH (short x).hs h) w ⟨(own_rd ((Sel.there (Sel.there (Sel.there (Sel.there Sel.here)))).holds hm)), (own_rd ((Sel.there (Sel.there (Sel.there (Sel.there (Sel.there Sel.here))))).holds hm)), (own_rd ((Sel.there (Sel.there (Sel.there (Sel.there (Sel.there (Sel.there Sel.here)))))).holds hm))⟩ fC (add_rmE he) (by omega))) ?_
      rintro ⟨v, m⟩ ⟨z, rfl, rfl⟩
      show Run _ _ _ _ _ _ _ ⟨(88, .tuple #[evV (remX (addC (short x) h) (posH (short x).hs h)) z, .int .i64 0]) :: _, _ :: _ :: _ :: _⟩
      refine run_q (.none rfl) rfl rfl (q_move rfl rfl) ?_
      refine run_q (.none rfl) rfl rfl (q_extract rfl rfl rfl) ?_
      refine run_q (.none rfl) rfl rfl (q_extract rfl rfl rfl) ?_
      refine run_h (.none rfl) (h_alloc rfl rfl rfl info30) ?_
      rintro b11 -
      refine run_h (.none rfl) (h_storeB rfl rfl sz30 rfl rfl rfl rfl rfl Sel.here rfl) ?_
      rintro - -
      refine run_q (.none rfl) rfl rfl (q_assign rfl rfl) ?_
      refine run_nil ?_
      refine run_sub (subMk (.cons (s := 2) rfl (.cons (s := 3) rfl (.cons (s := 4) rfl (.cons (s := 5) rfl (.cons (s := 8) rfl (.cons (s := 9) rfl (.cons (s := 10) rfl (.cons (s := 11) rfl (.cons (s := 12) rfl .nil))))))))) .refl) ?_
      refine run_seq ?_
      refine run_fork mixed (by kernel_rfl) .refl ?_
      refine b_q (i := 0) rfl (by kernel_rfl) (.none rfl) rfl rfl (q_loadBN rfl agg30 rfl (.there (.there (.there (.there (.there (.there (.there Sel.here))))))) (.cons rfl (.cons rfl (.cons rfl (.cons rfl (.cons rfl (.cons rfl (.cons rfl (.cons rfl (.cons rfl (.cons rfl (.cons rfl (.cons rfl (.cons rfl CellsAt.nil))))))))))))) rfl) ?_
      refine b_q (i := 1) rfl (by kernel_rfl) (.none rfl) rfl rfl (q_loadBN rfl agg30 rfl (.there (.there (.there (.there Sel.here)))) (.cons rfl (.cons rfl (.cons rfl (.cons rfl (.cons rfl (.cons rfl (.cons rfl (.cons rfl (.cons rfl (.cons rfl (.cons rfl (.cons rfl (.cons rfl CellsAt.nil))))))))))))) rfl) ?_
      refine b_one 2 (by kernel_rfl) ?_
      refine b_hN rfl (.none rfl) (h_call rfl rfl rfl call26 (.cons rfl Evs.nil) (fun w hk hm => refcanon_in (addX (short x) h) (Lie.mk A76 c76 p.GA p.gc O co) w (show RdE w (addX (short x) h) (Lie.mk A76 c76 p.GA p.gc O co) from ⟨(own_rd ((Sel.there (Sel.there (Sel.there (Sel.there (Sel.there Sel.here))))).holds hm)), hSg.kept0 hk, (own_rd ((Sel.there (Sel.there (Sel.there (Sel.there (Sel.there (Sel.there (Sel.there (Sel.there (Sel.there (Sel.there (Sel.there (Sel.there Sel.here)))))))))))).holds hm))⟩) (addX_few fS (by omega)) (by show 1 ≤ (short x).n.kind ∧ (short x).n.kind ≤ 4; omega) (by show (short x).ls.length ≤ co; exact hlyc))) (fun _ _ => (.sub (List.sublist_append_right _ _))) ?_
      rintro ⟨v, m⟩ ⟨O3, co3, rfl, rfl⟩
      show RunB _ _ _ _ _ _ _ _ _ _ _ ⟨(93, evV (canE (addX (short x) h)) (Lie.mk O3 co3 (stripP (addX (short x) h) (Lie.mk A76 c76 p.GA p.gc O co)).GA (stripP (addX (short x) h) (Lie.mk A76 c76 p.GA p.gc O co)).gc (stripP (addX (short x) h) (Lie.mk A76 c76 p.GA p.gc O co)).LA (stripP (addX (short x) h) (Lie.mk A76 c76 p.GA p.gc O co)).lc)) :: _, _ :: _⟩
      refine b_q (i := 3) rfl (by kernel_rfl) (.none rfl) rfl rfl (q_call rfl call25 (.cons rfl (.cons rfl Evs.nil)) (fun w hk hm => refequal_just (addC (short x) h) (canE (addX (short x) h)) r (Lie.mk O3 co3 (stripP (addX (short x) h) (Lie.mk A76 c76 p.GA p.gc O co)).GA (stripP (addX (short x) h) (Lie.mk A76 c76 p.GA p.gc O co)).gc (stripP (addX (short x) h) (Lie.mk A76 c76 p.GA p.gc O co)).LA (stripP (addX (short x) h) (Lie.mk A76 c76 p.GA p.gc O co)).lc) w ⟨(own_rd ((Sel.there (Sel.there (Sel.there (Sel.there (Sel.there (Sel.there (Sel.there (Sel.there (Sel.there Sel.here))))))))).holds hm)), (own_rd ((Sel.there (Sel.there (Sel.there (Sel.there (Sel.there (Sel.there (Sel.there (Sel.there (Sel.there (Sel.there Sel.here)))))))))).holds hm)), (own_rd ((Sel.there (Sel.there (Sel.there (Sel.there (Sel.there (Sel.there (Sel.there (Sel.there (Sel.there (Sel.there (Sel.there Sel.here))))))))))).holds hm))⟩ ((show RdE w (addX (short x) h) (Lie.mk A76 c76 p.GA p.gc O co) from ⟨(own_rd ((Sel.there (Sel.there (Sel.there (Sel.there (Sel.there (Sel.there Sel.here)))))).holds hm)), hSg.kept0 hk, (own_rd ((Sel.there (Sel.there (Sel.there (Sel.there (Sel.there (Sel.there (Sel.there (Sel.there (Sel.there (Sel.there (Sel.there (Sel.there (Sel.there Sel.here))))))))))))).holds hm))⟩).can (by show 1 ≤ (short x).n.kind ∧ (short x).n.kind ≤ 4; omega) (own_rd (Sel.here.holds hm))) fC (can_few (addX_few fS (by omega))))) ?_
      refine b_q (i := 4) rfl (by kernel_rfl) (.none rfl) rfl rfl (q_move rfl rfl) ?_
      refine b_q (i := 5) rfl (by kernel_rfl) (.on rfl rfl rfl (decide_eq_true (by rw [hce]; exact equalP_refl _))) rfl rfl (q_loadBN rfl agg30 rfl (.there (.there (.there (.there (.there (.there (.there (.there Sel.here)))))))) (.cons rfl (.cons rfl (.cons rfl (.cons rfl (.cons rfl (.cons rfl (.cons rfl (.cons rfl (.cons rfl (.cons rfl (.cons rfl (.cons rfl (.cons rfl CellsAt.nil))))))))))))) rfl) ?_
      refine b_q (i := 6) rfl (by kernel_rfl) (.on rfl rfl rfl (decide_eq_true (by rw [hce]; exact equalP_refl _))) rfl rfl (q_call rfl call16 (.cons rfl Evs.nil) (fun w hk hm => refCheck_just (addC (short x) h) r w ⟨(own_rd ((Sel.there (Sel.there (Sel.there (Sel.there (Sel.there (Sel.there (Sel.there (Sel.there (Sel.there Sel.here))))))))).holds hm)), (own_rd ((Sel.there (Sel.there (Sel.there (Sel.there (Sel.there (Sel.there (Sel.there (Sel.there (Sel.there (Sel.there Sel.here)))))))))).holds hm)), (own_rd ((Sel.there (Sel.there (Sel.there (Sel.there (Sel.there (Sel.there (Sel.there (Sel.there (Sel.there (Sel.there (Sel.there Sel.here))))))))))).holds hm))⟩ fC)) ?_
      refine b_q (i := 7) rfl (by kernel_rfl) (.on rfl rfl rfl (decide_eq_true (by rw [hce]; exact equalP_refl _))) rfl rfl (q_eql rfl rfl rfl) ?_
      refine b_q (i := 8) rfl (by kernel_rfl) (.none rfl) rfl rfl (q_pickT rfl rfl (decide_eq_true (by rw [hce]; exact equalP_refl _)) rfl) ?_
      refine b_q (i := 9) rfl (by kernel_rfl) (.none rfl) rfl rfl (q_move rfl rfl) ?_
      refine b_q (i := 10) rfl (by kernel_rfl) (.on rfl rfl rfl (by rw [add_ok he]; rfl)) rfl rfl (q_move rfl rfl) ?_
      refine b_q (i := 11) rfl (by kernel_rfl) (.none rfl) rfl rfl (q_pickT rfl rfl (by rw [add_ok he]; rfl) rfl) ?_
      refine b_q (i := 12) rfl (by kernel_rfl) (.none rfl) rfl rfl (q_move rfl rfl) ?_
      refine b_q (i := 13) rfl (by kernel_rfl) (.on rfl rfl rfl rfl) rfl rfl (q_move rfl rfl) ?_
      refine b_q (i := 14) rfl (by kernel_rfl) (.on rfl rfl rfl rfl) rfl rfl (q_geq rfl rfl rfl) ?_
      refine b_q (i := 15) rfl (by kernel_rfl) (.none rfl) rfl rfl (q_pickT rfl rfl rfl rfl) ?_
      refine b_q (i := 16) rfl (by kernel_rfl) (.none rfl) rfl rfl (q_move rfl rfl) ?_
      refine b_q (i := 17) rfl (by kernel_rfl) (.on rfl rfl rfl (decide_eq_true (by omega))) rfl rfl (q_move rfl rfl) ?_
      refine b_q (i := 18) rfl (by kernel_rfl) (.on rfl rfl rfl (decide_eq_true (by omega))) rfl rfl (q_fieldB (d := 5) rfl Try.underlying30 rfl rfl sz26 rfl) ?_
      refine b_q (i := 19) rfl (by kernel_rfl) (.on rfl rfl rfl (decide_eq_true (by omega))) rfl rfl (q_loadB rfl one26 rfl (.there (.there (.there (.there (.there (.there (.there (.there Sel.here)))))))) rfl) ?_
      refine b_q (i := 20) rfl (by kernel_rfl) (.on rfl rfl rfl (decide_eq_true (by omega))) rfl rfl (q_len rfl Try.underlying26 rfl) ?_
      refine b_q (i := 21) rfl (by kernel_rfl) (.on rfl rfl rfl (decide_eq_true (by omega))) rfl rfl (q_lss rfl rfl rfl) ?_
      refine b_q (i := 22) rfl (by kernel_rfl) (.none rfl) rfl rfl (q_pickT rfl rfl (decide_eq_true (by omega)) rfl) ?_
      refine b_q (i := 23) rfl (by kernel_rfl) (.none rfl) rfl rfl (q_move rfl rfl) ?_
      refine b_q (i := 24) rfl (by kernel_rfl) (.on rfl rfl rfl (decide_eq_true (by omega))) rfl rfl (q_fieldB (d := 5) rfl Try.underlying30 rfl rfl sz26 rfl) ?_
      refine b_q (i := 25) rfl (by kernel_rfl) (.on rfl rfl rfl (decide_eq_true (by omega))) rfl rfl (q_loadB rfl one26 rfl (.there (.there (.there (.there (.there (.there (.there (.there Sel.here)))))))) rfl) ?_
      refine b_q (i := 26) rfl (by kernel_rfl) (.on rfl rfl rfl (decide_eq_true (by omega))) rfl rfl (q_move rfl rfl) ?_
      refine b_q (i := 27) rfl (by kernel_rfl) (.on rfl rfl rfl (decide_eq_true (by omega))) rfl rfl (q_indexS (q := (posH (short x).hs h)) rfl Try.underlying26 sz53 rfl rfl (.own (.there (.there (.there (.there (.there (.there (.there (.there (.there Sel.here)))))))))) (by rw [List.length_map]) rfl (by omega)) ?_
      refine b_q (i := 28) rfl (by kernel_rfl) (.on rfl rfl rfl (decide_eq_true (by omega))) rfl rfl (q_loadE rfl agg53 rfl (.own (.there (.there (.there (.there (.there (.there (.there (.there (.there Sel.here)))))))))) (show ((addC (short x) h).hs.map Hd.enc)[(posH (short x).hs h)]? = some h.enc from by rw [getmap (by omega)]; exact congrArg (fun z => some (Hd.enc z)) (add_nth _ _)) rfl) ?_
      refine b_q (i := 29) rfl (by kernel_rfl) (.on rfl rfl rfl (decide_eq_true (by omega))) rfl rfl (q_loadBN rfl agg53 rfl (.there (.there (.there (.there (.there (.there (.there (.there (.there (.there (.there (.there (.there (.there Sel.here)))))))))))))) (.cons rfl (.cons rfl (.cons rfl (.cons rfl (.cons rfl CellsAt.nil))))) rfl) ?_
      refine b_q (i := 30) rfl (by kernel_rfl) (.on rfl rfl rfl (decide_eq_true (by omega))) rfl rfl (q_eqlS rfl rfl rfl eqg53 (fun w => eqs53 _ _ _ _ _ _ _ _ _ _ w)) ?_
      refine b_q (i := 31) rfl (by kernel_rfl) (.none rfl) rfl rfl (q_pickT rfl rfl (decide_eq_true (by omega)) rfl) ?_
      refine b_q (i := 32) rfl (by kernel_rfl) (.none rfl) rfl rfl (q_move rfl rfl) ?_
      refine b_q (i := 33) rfl (by kernel_rfl) (.on rfl rfl rfl (by simp)) rfl rfl (q_move rfl rfl) ?_
      refine b_q (i := 34) rfl (by kernel_rfl) (.on rfl rfl rfl (by simp)) rfl rfl (q_eql rfl rfl rfl) ?_
      refine b_q (i := 35) rfl (by kernel_rfl) (.none rfl) rfl rfl (q_pickT rfl rfl (by simp) rfl) ?_
      refine b_q (i := 36) rfl (by kernel_rfl) (.none rfl) rfl rfl (q_move rfl rfl) ?_
      refine b_q (i := 37) rfl (by kernel_rfl) (.on rfl rfl rfl rfl) rfl rfl (q_loadBN rfl agg30 rfl (.there Sel.here) (.cons rfl (.cons rfl (.cons rfl (.cons rfl (.cons rfl (.cons rfl (.cons rfl (.cons rfl (.cons rfl (.cons rfl (.cons rfl (.cons rfl (.cons rfl CellsAt.nil))))))))))))) rfl) ?_
      refine b_q (i := 38) rfl (by kernel_rfl) (.on rfl rfl rfl rfl) rfl rfl (q_loadBN rfl agg30 rfl (.there (.there (.there (.there (.there (.there (.there (.there (.there (.there (.there (.there Sel.here)))))))))))) (.cons rfl (.cons rfl (.cons rfl (.cons rfl (.cons rfl (.cons rfl (.cons rfl (.cons rfl (.cons rfl (.cons rfl (.cons rfl (.cons rfl (.cons rfl CellsAt.nil))))))))))))) rfl) ?_
      refine b_q (i := 39) rfl (by kernel_rfl) (.on rfl rfl rfl rfl) rfl rfl (q_call rfl call25 (.cons rfl (.cons rfl Evs.nil)) (fun w hk hm => refequal_just (remX (addC (short x) h) (posH (short x).hs h)) (short x) z (Lie.mk p.HA p.hc p.GA p.gc O co) w ⟨(own_rd ((Sel.there (Sel.there Sel.here)).holds hm)), (own_rd ((Sel.there (Sel.there (Sel.there Sel.here))).holds hm)), (own_rd ((Sel.there (Sel.there (Sel.there (Sel.there Sel.here)))).holds hm))⟩ ⟨hSh.kept0 hk, hSg.kept0 hk, (own_rd ((Sel.there (Sel.there (Sel.there (Sel.there (Sel.there (Sel.there (Sel.there (Sel.there (Sel.there (Sel.there (Sel.there (Sel.there (Sel.there Sel.here))))))))))))).holds hm))⟩ (by rw [add_rem]; exact fS) fS)) ?_
      refine b_q (i := 40) rfl (by kernel_rfl) (.none rfl) rfl rfl (q_pickT rfl rfl rfl rfl) ?_
      refine b_q (i := 41) rfl (by kernel_rfl) (.none rfl) rfl rfl (q_assign rfl rfl) ?_
      refine b_nil (by kernel_rfl) ?_
      refine run_sub (subMk (.cons (s := 4) rfl .nil) .refl) ?_
      refine run_ret ?_
      exact end1 rfl rfl (congrArg Value.bool (decide_eq_true (by rw [add_rem]; exact equalP_refl _)))
  · refine b_h rfl (.none rfl) (h_buildSlice rfl rfl rfl Try.underlying26 info53 (.cons rfl rfl rfl rfl Parts.nil) rfl (by omega)) (fun _ _ => (.sub (.cons _ (.cons _ (.cons_cons _ (.cons_cons _ (.cons_cons _ (.cons_cons _ (.cons_cons _ (.cons_cons _ (.cons_cons _ .slnil))))))))))) ?_
    rintro b75 -
    refine b_one 0 (by kernel_rfl) ?_
    refine b_h rfl (.none rfl) (h_buildSlice rfl rfl rfl Try.underlying26 info53 Parts.nil rfl (by omega)) (fun _ _ => (.sub (.cons _ (.cons _ (.cons _ (.cons_cons _ (.cons_cons _ (.cons_cons _ (.cons_cons _ (.cons_cons _ (.cons_cons _ (.cons_cons _ .slnil)))))))))))) ?_
    rintro b70 -
    refine b_one 3 (by kernel_rfl) ?_
    refine b_h rfl (.none rfl) (h_append rfl rfl rfl Try.underlying26 info53 rfl rfl Sel.here rfl (.inp hSh .no) (by rw [List.length_map]) (fun z hz => Hd_len hz) (fun z hz => Hd_all hz) (by omega) (by omega)) (fun _ _ => (.sub (.cons _ (.cons _ (.cons _ (.cons_cons _ (.cons_cons _ (.cons_cons _ (.cons_cons _ (.cons_cons _ (.cons_cons _ (.cons_cons _ .slnil)))))))))))) ?_
    rintro ⟨A73, c73⟩ -
    refine b_one 6 (by kernel_rfl) ?_
    refine b_h rfl (.none rfl) (h_append rfl rfl rfl Try.underlying26 info53 rfl rfl Sel.here rfl (.own (.there Sel.here)) rfl (all1 rfl) (all1 rfl) (by omega) (by omega)) (fun _ _ => (.sub (.cons _ (.cons _ (.cons _ (.cons_cons _ (.cons_cons _ (.cons_cons _ (.cons_cons _ (.cons_cons _ (.cons_cons _ (.cons_cons _ .slnil)))))))))))) ?_
    rintro ⟨A76, c76⟩ -
    refine b_q (i := 7) rfl (by kernel_rfl) (.none rfl) rfl rfl (q_fieldB (d := 5) rfl Try.underlying30 rfl rfl sz26 rfl) ?_
    refine b_one 8 (by kernel_rfl) ?_
    refine b_h rfl (.none rfl) (h_storeB rfl rfl sz26 rfl rfl rfl rfl rfl (.there (.there Sel.here)) rfl) (fun _ _ => (.sub (.cons _ (.cons _ (.cons _ (.cons_cons _ (.cons_cons _ (.cons_cons _ (.cons_cons _ (.cons_cons _ (.cons_cons _ (.cons_cons _ .slnil)))))))))))) ?_
    rintro - -
    refine b_nil (by kernel_rfl) ?_
    refine run_sub (subMk (.cons (s := 2) rfl (.cons (s := 3) rfl (.cons (s := 4) rfl (.cons (s := 5) rfl (.cons (s := 8) rfl (.cons (s := 9) rfl (.cons (s := 10) rfl .nil))))))) .refl) ?_
    refine run_seq ?_
    refine run_sub (subMk .refl (.cons Sel.here (.blk (.cons (s := 0) rfl (.cons (s := 1) rfl (.cons (s := 2) rfl (.cons (s := 3) rfl (.cons (s := 4) rfl (.cons' (s := 5) (v' := .slice A76 (addX (short x) h).hs.length c76) rfl (by congr 1; simp [addX]) (.cons (s := 6) rfl (.cons (s := 7) rfl (.cons (s := 8) rfl (.cons (s := 9) rfl (.cons (s := 10) rfl (.cons (s := 11) rfl (.cons (s := 12) rfl (.nil))))))))))))))) (.cons Sel.here (.own (m' := (addX (short x) h).hs.length) (xs' := (addX (short x) h).hs.map Hd.enc) rfl (by simp [addX]) rfl (by simp [addX, Hd.enc, vlist])) (.cons Sel.here .refl (.cons Sel.here .refl (.cons Sel.here .refl (.cons Sel.here .refl (.cons Sel.here .refl (.cons Sel.here .refl (.cons Sel.here .refl (.cons Sel.here .refl .nil))))))))))) ?_
    refine run_region ?_
    refine run_q (.none rfl) rfl rfl (q_loadBN rfl agg30 rfl (.there (.there (.there Sel.here))) (.cons rfl (.cons rfl (.cons rfl (.cons rfl (.cons rfl (.cons rfl (.cons rfl (.cons rfl (.cons rfl (.cons rfl (.cons rfl (.cons rfl (.cons rfl CellsAt.nil))))))))))))) rfl) ?_
    refine run_q (.none rfl) rfl rfl (q_fieldB (d := 0) rfl Try.underlying53 rfl rfl sz51 rfl) ?_
    refine run_q (.none rfl) rfl rfl (q_loadBN rfl agg51 rfl (.there (.there (.there (.there (.there (.there (.there (.there (.there Sel.here))))))))) (.cons rfl (.cons rfl (.cons rfl CellsAt.nil))) rfl) ?_
    refine run_q (.none rfl) rfl rfl (q_call rfl call35 (.cons rfl (.cons rfl Evs.nil)) (fun w hk hm => find_just (addC (short x) h) r h.step h.alter h.oct w ⟨(own_rd ((Sel.there (Sel.there (Sel.there (Sel.there Sel.here)))).holds hm)), (own_rd ((Sel.there (Sel.there (Sel.there (Sel.there (Sel.there Sel.here))))).holds hm)), (own_rd ((Sel.there (Sel.there (Sel.there (Sel.there (Sel.there (Sel.there Sel.here)))))).holds hm))⟩ fC)) ?_
    refine run_q (.none rfl) rfl rfl (q_move rfl rfl) ?_
    refine run_q (.none rfl) rfl rfl (q_extract rfl rfl rfl) ?_
    refine run_q (.none rfl) rfl rfl (q_extract rfl rfl rfl) ?_
    refine run_q (.none rfl) rfl rfl (q_assign rfl rfl) ?_
    refine run_q (.none rfl) rfl rfl (q_assign rfl rfl) ?_
    refine run_nil ?_
    refine run_sub (subMk (.cons (s := 2) rfl (.cons (s := 3) rfl (.cons (s := 4) rfl (.cons (s := 5) rfl (.cons (s := 8) rfl (.cons (s := 9) rfl (.cons (s := 10) rfl .nil))))))) .refl) ?_
    refine run_seq ?_
    refine run_sub (subMk (.cons (s := 2) rfl (.cons (s := 3) rfl (.cons (s := 4) rfl (.cons (s := 5) rfl (.cons' (s := 8) (v' := .int .i64 ((posH (short x).hs h) : Int)) rfl (vint (add_findV q4 q5)) (.cons' (s := 9) (v' := .bool true) rfl (congrArg Value.bool (add_findB q4 q5)) (.cons (s := 10) rfl .nil))))))) .refl) ?_
    refine run_region ?_
    refine run_q (.none rfl) rfl rfl (q_loadBN rfl agg30 rfl (.there (.there (.there Sel.here))) (.cons rfl (.cons rfl (.cons rfl (.cons rfl (.cons rfl (.cons rfl (.cons rfl (.cons rfl (.cons rfl (.cons rfl (.cons rfl (.cons rfl (.cons rfl CellsAt.nil))))))))))))) rfl) ?_
    refine run_q (.none rfl) rfl rfl (q_move rfl rfl) ?_
    refine run_h (.none rfl) (h_call rfl rfl rfl call27 (.cons rfl (.cons rfl Evs.nil)) (fun w hk hm => rem_more (addC (short x) h) r (posH (short x).hs h) w ⟨(own_rd ((Sel.there (Sel.there (Sel.there (Sel.there Sel.here)))).holds hm)), (own_rd ((Sel.there (Sel.there (Sel.there (Sel.there (Sel.there Sel.here))))).holds hm)), (own_rd ((Sel.there (Sel.there (Sel.there (Sel.there (Sel.there (Sel.there Sel.here)))))).holds hm))⟩ fC (add_rmE he) (by omega))) ?_
    rintro ⟨v, m⟩ ⟨z, rfl, rfl⟩
    show Run _ _ _ _ _ _ _ ⟨(88, .tuple #[evV (remX (addC (short x) h) (posH (short x).hs h)) z, .int .i64 0]) :: _, _ :: _ :: _ :: _⟩
    refine run_q (.none rfl) rfl rfl (q_move rfl rfl) ?_
    refine run_q (.none rfl) rfl rfl (q_extract rfl rfl rfl) ?_
    refine run_q (.none rfl) rfl rfl (q_extract rfl rfl rfl) ?_
    refine run_h (.none rfl) (h_alloc rfl rfl rfl info30) ?_
    rintro b11 -
    refine run_h (.none rfl) (h_storeB rfl rfl sz30 rfl rfl rfl rfl rfl Sel.here rfl) ?_
    rintro - -
    refine run_q (.none rfl) rfl rfl (q_assign rfl rfl) ?_
    refine run_nil ?_
    refine run_sub (subMk (.cons (s := 2) rfl (.cons (s := 3) rfl (.cons (s := 4) rfl (.cons (s := 5) rfl (.cons (s := 8) rfl (.cons (s := 9) rfl (.cons (s := 10) rfl (.cons (s := 11) rfl (.cons (s := 12) rfl .nil))))))))) .refl) ?_
    refine run_seq ?_
    refine run_fork mixed (by kernel_rfl) .refl ?_
    refine b_q (i := 0) rfl (by kernel_rfl) (.none rfl) rfl rfl (q_loadBN rfl agg30 rfl (.there (.there (.there (.there (.there (.there (.there Sel.here))))))) (.cons rfl (.cons rfl (.cons rfl (.cons rfl (.cons rfl (.cons rfl (.cons rfl (.cons rfl (.cons rfl (.cons rfl (.cons rfl (.cons rfl (.cons rfl CellsAt.nil))))))))))))) rfl) ?_
    refine b_q (i := 1) rfl (by kernel_rfl) (.none rfl) rfl rfl (q_loadBN rfl agg30 rfl (.there (.there (.there (.there Sel.here)))) (.cons rfl (.cons rfl (.cons rfl (.cons rfl (.cons rfl (.cons rfl (.cons rfl (.cons rfl (.cons rfl (.cons rfl (.cons rfl (.cons rfl (.cons rfl CellsAt.nil))))))))))))) rfl) ?_
    refine b_one 2 (by kernel_rfl) ?_
    refine b_hN rfl (.none rfl) (h_call rfl rfl rfl call26 (.cons rfl Evs.nil) (fun w hk hm => refcanon_in (addX (short x) h) (Lie.mk A76 c76 p.GA p.gc O co) w (show RdE w (addX (short x) h) (Lie.mk A76 c76 p.GA p.gc O co) from ⟨(own_rd ((Sel.there (Sel.there (Sel.there (Sel.there (Sel.there Sel.here))))).holds hm)), hSg.kept0 hk, (own_rd ((Sel.there (Sel.there (Sel.there (Sel.there (Sel.there (Sel.there (Sel.there (Sel.there (Sel.there (Sel.there (Sel.there (Sel.there Sel.here)))))))))))).holds hm))⟩) (addX_few fS (by omega)) (by show 1 ≤ (short x).n.kind ∧ (short x).n.kind ≤ 4; omega) (by show (short x).ls.length ≤ co; exact hlyc))) (fun _ _ => (.sub (List.sublist_append_right _ _))) ?_
    rintro ⟨v, m⟩ ⟨O3, co3, rfl, rfl⟩
    show RunB _ _ _ _ _ _ _ _ _ _ _ ⟨(93, evV (canE (addX (short x) h)) (Lie.mk O3 co3 (stripP (addX (short x) h) (Lie.mk A76 c76 p.GA p.gc O co)).GA (stripP (addX (short x) h) (Lie.mk A76 c76 p.GA p.gc O co)).gc (stripP (addX (short x) h) (Lie.mk A76 c76 p.GA p.gc O co)).LA (stripP (addX (short x) h) (Lie.mk A76 c76 p.GA p.gc O co)).lc)) :: _, _ :: _⟩
    refine b_q (i := 3) rfl (by kernel_rfl) (.none rfl) rfl rfl (q_call rfl call25 (.cons rfl (.cons rfl Evs.nil)) (fun w hk hm => refequal_just (addC (short x) h) (canE (addX (short x) h)) r (Lie.mk O3 co3 (stripP (addX (short x) h) (Lie.mk A76 c76 p.GA p.gc O co)).GA (stripP (addX (short x) h) (Lie.mk A76 c76 p.GA p.gc O co)).gc (stripP (addX (short x) h) (Lie.mk A76 c76 p.GA p.gc O co)).LA (stripP (addX (short x) h) (Lie.mk A76 c76 p.GA p.gc O co)).lc) w ⟨(own_rd ((Sel.there (Sel.there (Sel.there (Sel.there (Sel.there (Sel.there (Sel.there (Sel.there (Sel.there Sel.here))))))))).holds hm)), (own_rd ((Sel.there (Sel.there (Sel.there (Sel.there (Sel.there (Sel.there (Sel.there (Sel.there (Sel.there (Sel.there Sel.here)))))))))).holds hm)), (own_rd ((Sel.there (Sel.there (Sel.there (Sel.there (Sel.there (Sel.there (Sel.there (Sel.there (Sel.there (Sel.there (Sel.there Sel.here))))))))))).holds hm))⟩ ((show RdE w (addX (short x) h) (Lie.mk A76 c76 p.GA p.gc O co) from ⟨(own_rd ((Sel.there (Sel.there (Sel.there (Sel.there (Sel.there (Sel.there Sel.here)))))).holds hm)), hSg.kept0 hk, (own_rd ((Sel.there (Sel.there (Sel.there (Sel.there (Sel.there (Sel.there (Sel.there (Sel.there (Sel.there (Sel.there (Sel.there (Sel.there (Sel.there Sel.here))))))))))))).holds hm))⟩).can (by show 1 ≤ (short x).n.kind ∧ (short x).n.kind ≤ 4; omega) (own_rd (Sel.here.holds hm))) fC (can_few (addX_few fS (by omega))))) ?_
    refine b_q (i := 4) rfl (by kernel_rfl) (.none rfl) rfl rfl (q_move rfl rfl) ?_
    refine b_q (i := 5) rfl (by kernel_rfl) (.on rfl rfl rfl (decide_eq_true (by rw [hce]; exact equalP_refl _))) rfl rfl (q_loadBN rfl agg30 rfl (.there (.there (.there (.there (.there (.there (.there (.there Sel.here)))))))) (.cons rfl (.cons rfl (.cons rfl (.cons rfl (.cons rfl (.cons rfl (.cons rfl (.cons rfl (.cons rfl (.cons rfl (.cons rfl (.cons rfl (.cons rfl CellsAt.nil))))))))))))) rfl) ?_
    refine b_q (i := 6) rfl (by kernel_rfl) (.on rfl rfl rfl (decide_eq_true (by rw [hce]; exact equalP_refl _))) rfl rfl (q_call rfl call16 (.cons rfl Evs.nil) (fun w hk hm => refCheck_just (addC (short x) h) r w ⟨(own_rd ((Sel.there (Sel.there (Sel.there (Sel.there (Sel.there (Sel.there (Sel.there (Sel.there (Sel.there Sel.here))))))))).holds hm)), (own_rd ((Sel.there (Sel.there (Sel.there (Sel.there (Sel.there (Sel.there (Sel.there (Sel.there (Sel.there (Sel.there Sel.here)))))))))).holds hm)), (own_rd ((Sel.there (Sel.there (Sel.there (Sel.there (Sel.there (Sel.there (Sel.there (Sel.there (Sel.there (Sel.there (Sel.there Sel.here))))))))))).holds hm))⟩ fC)) ?_
    refine b_q (i := 7) rfl (by kernel_rfl) (.on rfl rfl rfl (decide_eq_true (by rw [hce]; exact equalP_refl _))) rfl rfl (q_eql rfl rfl rfl) ?_
    refine b_q (i := 8) rfl (by kernel_rfl) (.none rfl) rfl rfl (q_pickT rfl rfl (decide_eq_true (by rw [hce]; exact equalP_refl _)) rfl) ?_
    refine b_q (i := 9) rfl (by kernel_rfl) (.none rfl) rfl rfl (q_move rfl rfl) ?_
    refine b_q (i := 10) rfl (by kernel_rfl) (.on rfl rfl rfl (by rw [add_ok he]; rfl)) rfl rfl (q_move rfl rfl) ?_
    refine b_q (i := 11) rfl (by kernel_rfl) (.none rfl) rfl rfl (q_pickT rfl rfl (by rw [add_ok he]; rfl) rfl) ?_
    refine b_q (i := 12) rfl (by kernel_rfl) (.none rfl) rfl rfl (q_move rfl rfl) ?_
    refine b_q (i := 13) rfl (by kernel_rfl) (.on rfl rfl rfl rfl) rfl rfl (q_move rfl rfl) ?_
    refine b_q (i := 14) rfl (by kernel_rfl) (.on rfl rfl rfl rfl) rfl rfl (q_geq rfl rfl rfl) ?_
    refine b_q (i := 15) rfl (by kernel_rfl) (.none rfl) rfl rfl (q_pickT rfl rfl rfl rfl) ?_
    refine b_q (i := 16) rfl (by kernel_rfl) (.none rfl) rfl rfl (q_move rfl rfl) ?_
    refine b_q (i := 17) rfl (by kernel_rfl) (.on rfl rfl rfl (decide_eq_true (by omega))) rfl rfl (q_move rfl rfl) ?_
    refine b_q (i := 18) rfl (by kernel_rfl) (.on rfl rfl rfl (decide_eq_true (by omega))) rfl rfl (q_fieldB (d := 5) rfl Try.underlying30 rfl rfl sz26 rfl) ?_
    refine b_q (i := 19) rfl (by kernel_rfl) (.on rfl rfl rfl (decide_eq_true (by omega))) rfl rfl (q_loadB rfl one26 rfl (.there (.there (.there (.there (.there (.there (.there (.there Sel.here)))))))) rfl) ?_
    refine b_q (i := 20) rfl (by kernel_rfl) (.on rfl rfl rfl (decide_eq_true (by omega))) rfl rfl (q_len rfl Try.underlying26 rfl) ?_
    refine b_q (i := 21) rfl (by kernel_rfl) (.on rfl rfl rfl (decide_eq_true (by omega))) rfl rfl (q_lss rfl rfl rfl) ?_
    refine b_q (i := 22) rfl (by kernel_rfl) (.none rfl) rfl rfl (q_pickT rfl rfl (decide_eq_true (by omega)) rfl) ?_
    refine b_q (i := 23) rfl (by kernel_rfl) (.none rfl) rfl rfl (q_move rfl rfl) ?_
    refine b_q (i := 24) rfl (by kernel_rfl) (.on rfl rfl rfl (decide_eq_true (by omega))) rfl rfl (q_fieldB (d := 5) rfl Try.underlying30 rfl rfl sz26 rfl) ?_
    refine b_q (i := 25) rfl (by kernel_rfl) (.on rfl rfl rfl (decide_eq_true (by omega))) rfl rfl (q_loadB rfl one26 rfl (.there (.there (.there (.there (.there (.there (.there (.there Sel.here)))))))) rfl) ?_
    refine b_q (i := 26) rfl (by kernel_rfl) (.on rfl rfl rfl (decide_eq_true (by omega))) rfl rfl (q_move rfl rfl) ?_
    refine b_q (i := 27) rfl (by kernel_rfl) (.on rfl rfl rfl (decide_eq_true (by omega))) rfl rfl (q_indexS (q := (posH (short x).hs h)) rfl Try.underlying26 sz53 rfl rfl (.own (.there (.there (.there (.there (.there (.there (.there (.there (.there Sel.here)))))))))) (by rw [List.length_map]) rfl (by omega)) ?_
    refine b_q (i := 28) rfl (by kernel_rfl) (.on rfl rfl rfl (decide_eq_true (by omega))) rfl rfl (q_loadE rfl agg53 rfl (.own (.there (.there (.there (.there (.there (.there (.there (.there (.there Sel.here)))))))))) (show ((addC (short x) h).hs.map Hd.enc)[(posH (short x).hs h)]? = some h.enc from by rw [getmap (by omega)]; exact congrArg (fun z => some (Hd.enc z)) (add_nth _ _)) rfl) ?_
    refine b_q (i := 29) rfl (by kernel_rfl) (.on rfl rfl rfl (decide_eq_true (by omega))) rfl rfl (q_loadBN rfl agg53 rfl (.there (.there (.there (.there (.there (.there (.there (.there (.there (.there (.there (.there (.there (.there Sel.here)))))))))))))) (.cons rfl (.cons rfl (.cons rfl (.cons rfl (.cons rfl CellsAt.nil))))) rfl) ?_
    refine b_q (i := 30) rfl (by kernel_rfl) (.on rfl rfl rfl (decide_eq_true (by omega))) rfl rfl (q_eqlS rfl rfl rfl eqg53 (fun w => eqs53 _ _ _ _ _ _ _ _ _ _ w)) ?_
    refine b_q (i := 31) rfl (by kernel_rfl) (.none rfl) rfl rfl (q_pickT rfl rfl (decide_eq_true (by omega)) rfl) ?_
    refine b_q (i := 32) rfl (by kernel_rfl) (.none rfl) rfl rfl (q_move rfl rfl) ?_
    refine b_q (i := 33) rfl (by kernel_rfl) (.on rfl rfl rfl (by simp)) rfl rfl (q_move rfl rfl) ?_
    refine b_q (i := 34) rfl (by kernel_rfl) (.on rfl rfl rfl (by simp)) rfl rfl (q_eql rfl rfl rfl) ?_
    refine b_q (i := 35) rfl (by kernel_rfl) (.none rfl) rfl rfl (q_pickT rfl rfl (by simp) rfl) ?_
    refine b_q (i := 36) rfl (by kernel_rfl) (.none rfl) rfl rfl (q_move rfl rfl) ?_
    refine b_q (i := 37) rfl (by kernel_rfl) (.on rfl rfl rfl rfl) rfl rfl (q_loadBN rfl agg30 rfl (.there Sel.here) (.cons rfl (.cons rfl (.cons rfl (.cons rfl (.cons rfl (.cons rfl (.cons rfl (.cons rfl (.cons rfl (.cons rfl (.cons rfl (.cons rfl (.cons rfl CellsAt.nil))))))))))))) rfl) ?_
    refine b_q (i := 38) rfl (by kernel_rfl) (.on rfl rfl rfl rfl) rfl rfl (q_loadBN rfl agg30 rfl (.there (.there (.there (.there (.there (.there (.there (.there (.there (.there (.there (.there Sel.here)))))))))))) (.cons rfl (.cons rfl (.cons rfl (.cons rfl (.cons rfl (.cons rfl (.cons rfl (.cons rfl (.cons rfl (.cons rfl (.cons rfl (.cons rfl (.cons rfl CellsAt.nil))))))))))))) rfl) ?_
    refine b_q (i := 39) rfl (by kernel_rfl) (.on rfl rfl rfl rfl) rfl rfl (q_call rfl call25 (.cons rfl (.cons rfl Evs.nil)) (fun w hk hm => refequal_just (remX (addC (short x) h) (posH (short x).hs h)) (short x) z (Lie.mk p.HA p.hc p.GA p.gc O co) w ⟨(own_rd ((Sel.there (Sel.there Sel.here)).holds hm)), (own_rd ((Sel.there (Sel.there (Sel.there Sel.here))).holds hm)), (own_rd ((Sel.there (Sel.there (Sel.there (Sel.there Sel.here)))).holds hm))⟩ ⟨hSh.kept0 hk, hSg.kept0 hk, (own_rd ((Sel.there (Sel.there (Sel.there (Sel.there (Sel.there (Sel.there (Sel.there (Sel.there (Sel.there (Sel.there (Sel.there (Sel.there (Sel.there Sel.here))))))))))))).holds hm))⟩ (by rw [add_rem]; exact fS) fS)) ?_
    refine b_q (i := 40) rfl (by kernel_rfl) (.none rfl) rfl rfl (q_pickT rfl rfl rfl rfl) ?_
    refine b_q (i := 41) rfl (by kernel_rfl) (.none rfl) rfl rfl (q_assign rfl rfl) ?_
    refine b_nil (by kernel_rfl) ?_
    refine run_sub (subMk (.cons (s := 4) rfl .nil) .refl) ?_
    refine run_ret ?_
    exact end1 rfl rfl (congrArg Value.bool (decide_eq_true (by rw [add_rem]; exact equalP_refl _)))

theorem law12_just (x : Evt) (p : Lie) (h : Hd) (W : World) (hx : RdE W x p) (hc1 : x.hs.length ≤ p.hc) (hc2 : x.gs.length ≤ p.gc) (ha : x.n.art ≤ 9223372036854775807) : Calls Try.prog 12 #[evV x p, h.val] W (Just W (.bool true)) := by
  by_cases he : adE (short x) h = 0
  · exact law12_ok x p h W hx hc1 hc2 ha he
  · exact law12_err x p h W hx hc1 hc2 ha he

end Go.Proofs.Ytneadapfoaccmaa
