/- The law on heads taken out. -/
import Derived.Test.YtneadapfoaccmaaY
set_option linter.unusedSimpArgs false
set_option linter.unusedVariables false
namespace Go.Proofs.Ytneadapfoaccmaa
open Go Go.RowKit Hr

theorem call28 : Hr.Callable Try.prog 28 := fun args w => by kernel_rfl

set_option maxHeartbeats 4000000 in
set_option maxRecDepth 100000 in
theorem law6_err (x : Evt) (p : Lie) (i : Int) (W : World) (hx : RdE W x p) (hc1 : x.hs.length ≤ p.hc) (hc2 : x.gs.length ≤ p.gc) (ha : x.n.art ≤ 9223372036854775807) (h : rmE (short x) i ≠ 0) : Calls Try.prog 6 #[evV x p, .int .i64 i] W (Hr.Just W (.bool true)) := by
  have hSh : Rd W p.HA 5 ((short x).hs.map Hd.enc) := rd_takeE hx.h
  have hSg : Rd W p.GA 5 ((short x).gs.map Gr.enc) := rd_takeE hx.g
  have fS := short_few ha
  obtain ⟨fs1, fs2, fs3, fs4⟩ := id fS
  refine Just.of_ret ?_
  refine enterA (X := nX) (vs := [evV x p, .int .i64 i]) Try.func6 Try.ntmps6 rfl rfl Mem.nil ?_
  refine run_seq ?_
  refine run_region ?_
  refine run_h (.none rfl) (h_box rfl rfl rfl rfl rfl) ?_
  rintro b2 -
  refine run_q (.none rfl) rfl rfl (q_assign rfl rfl) ?_
  refine run_nil ?_
  refine run_seq ?_
  refine run_region ?_
  refine run_q (.none rfl) rfl rfl (q_loadBN rfl agg30 rfl Sel.here (.cons rfl (.cons rfl (.cons rfl (.cons rfl (.cons rfl (.cons rfl (.cons rfl (.cons rfl (.cons rfl (.cons rfl (.cons rfl (.cons rfl (.cons rfl CellsAt.nil))))))))))))) rfl) ?_
  refine run_h (.none rfl) (h_call rfl rfl rfl call13 (.cons rfl Evs.nil) (fun w hk hm => short_ret x p w (hx.kept0 hk) hc1 hc2)) ?_
  rintro ⟨v, m⟩ ⟨O, co, rfl, rfl⟩
  show Run _ _ _ _ _ _ _ ⟨(9, evV (short x) ⟨p.HA, p.hc, p.GA, p.gc, O, co⟩) :: _, _ :: _⟩
  refine run_h (.none rfl) (h_storeB rfl rfl sz30 rfl rfl rfl rfl rfl (.there Sel.here) rfl) ?_
  rintro - -
  refine run_nil ?_
  refine run_sub (subMk (.cons (s := 1) rfl (.cons (s := 2) rfl (.cons (s := 4) rfl .nil))) .refl) ?_
  refine run_seq ?_
  refine run_region ?_
  refine run_q (.none rfl) rfl rfl (q_loadBN rfl agg30 rfl Sel.here (.cons rfl (.cons rfl (.cons rfl (.cons rfl (.cons rfl (.cons rfl (.cons rfl (.cons rfl (.cons rfl (.cons rfl (.cons rfl (.cons rfl (.cons rfl CellsAt.nil))))))))))))) rfl) ?_
  refine run_q (.none rfl) rfl rfl (q_move rfl rfl) ?_
  refine run_q (.none rfl) rfl rfl (q_call rfl call27 (.cons rfl (.cons rfl Evs.nil)) (fun w hk hm => rem_err (short x) (Lie.mk p.HA p.hc p.GA p.gc O co) i w ⟨hSh.kept0 hk, hSg.kept0 hk, (own_rd ((Sel.there Sel.here).holds hm))⟩ fS h)) ?_
  refine run_q (.none rfl) rfl rfl (q_move rfl rfl) ?_
  refine run_q (.none rfl) rfl rfl (q_extract rfl rfl rfl) ?_
  refine run_q (.none rfl) rfl rfl (q_extract rfl rfl rfl) ?_
  refine run_h (.none rfl) (h_alloc rfl rfl rfl info30) ?_
  rintro b5 -
  refine run_h (.none rfl) (h_storeB rfl rfl sz30 rfl rfl rfl rfl rfl Sel.here rfl) ?_
  rintro - -
  refine run_q (.none rfl) rfl rfl (q_assign rfl rfl) ?_
  refine run_nil ?_
  refine run_sub (subMk (.cons (s := 1) rfl (.cons (s := 2) rfl (.cons (s := 4) rfl (.cons (s := 5) rfl (.cons (s := 6) rfl .nil))))) .refl) ?_
  refine run_seq ?_
  refine run_seq ?_
  refine run_region ?_
  refine run_q (.none rfl) rfl rfl (q_call rfl call14 Evs.nil (fun w hk hm => known_just w)) ?_
  refine run_q (.none rfl) rfl rfl (q_not rfl rfl) ?_
  refine run_nil ?_
  refine run_condF rfl rfl ?_
  refine run_skip ?_
  refine run_seq ?_
  refine run_region ?_
  refine run_q (.none rfl) rfl rfl (q_assign rfl rfl) ?_
  refine run_nil ?_
  refine run_seq ?_
  refine run_block ?_
  refine run_seq ?_
  refine run_region ?_
  refine run_q (.none rfl) rfl rfl (q_loadBN rfl agg30 rfl (.there Sel.here) (.cons rfl (.cons rfl (.cons rfl (.cons rfl (.cons rfl (.cons rfl (.cons rfl (.cons rfl (.cons rfl (.cons rfl (.cons rfl (.cons rfl (.cons rfl CellsAt.nil))))))))))))) rfl) ?_
  refine run_q (.none rfl) rfl rfl (q_call rfl call16 (.cons rfl Evs.nil) (fun w hk hm => refCheck_just (short x) (Lie.mk p.HA p.hc p.GA p.gc O co) w ⟨hSh.kept0 hk, hSg.kept0 hk, (own_rd ((Sel.there (Sel.there Sel.here)).holds hm))⟩ fS)) ?_
  refine run_q (.none rfl) rfl rfl (q_neq rfl rfl rfl) ?_
  refine run_q (.none rfl) rfl rfl (q_assign rfl rfl) ?_
  refine run_nil ?_
  refine run_sub (subMk (.cons (s := 1) rfl (.cons (s := 2) rfl (.cons (s := 4) rfl (.cons (s := 5) rfl (.cons (s := 6) rfl (.cons (s := 7) rfl (.cons (s := 18) rfl .nil))))))) .refl) ?_
  refine run_cond rfl (fun g18 => ?_) (fun g18 => ?_)
  · have g18' := g18
    try simp only [decide_eq_true_eq, decide_eq_false_iff_not, beq_iff_eq, beq_eq_false_iff_ne, bne_iff_ne, bne_eq_false_iff_eq, Bool.not_eq_true', Bool.not_eq_false', ne_eq, Int.not_lt, Int.not_le, Decidable.not_not] at g18'
    refine run_region ?_
    refine run_q (.none rfl) rfl rfl (q_loadBN rfl agg30 rfl (.there Sel.here) (.cons rfl (.cons rfl (.cons rfl (.cons rfl (.cons rfl (.cons rfl (.cons rfl (.cons rfl (.cons rfl (.cons rfl (.cons rfl (.cons rfl (.cons rfl CellsAt.nil))))))))))))) rfl) ?_
    refine run_q (.none rfl) rfl rfl (q_call rfl call16 (.cons rfl Evs.nil) (fun w hk hm => refCheck_just (short x) (Lie.mk p.HA p.hc p.GA p.gc O co) w ⟨hSh.kept0 hk, hSg.kept0 hk, (own_rd ((Sel.there (Sel.there Sel.here)).holds hm))⟩ fS)) ?_
    refine run_q (.none rfl) rfl rfl (q_assign rfl rfl) ?_
    refine run_nil ?_
    refine run_sub (subMk (.cons (s := 1) rfl (.cons (s := 2) rfl (.cons (s := 4) rfl (.cons (s := 5) rfl (.cons (s := 6) rfl (.cons (s := 7) rfl .nil)))))) .refl) ?_
    refine run_blk ?_
    refine run_seq ?_
    refine run_seq ?_
    refine run_sub (subMk (.cons (s := 1) rfl (.cons (s := 2) rfl (.cons (s := 4) rfl (.cons (s := 5) rfl (.cons (s := 6) rfl (.cons' (s := 7) (v' := .int .i64 (rmE (short x) i)) rfl (vint (by first | exact (rmE_1 (by omega)).symm | exact (rmE_2 (by omega) (by omega)).symm | exact (rmE_3 (by omega) (by omega) (by omega)).symm | exact (rmE_z (by omega) (by omega) (by omega)).symm)) .nil)))))) .refl) ?_
    refine run_region ?_
    refine run_q (.none rfl) rfl rfl (q_move rfl rfl) ?_
    refine run_q (.none rfl) rfl rfl (q_neq rfl rfl rfl) ?_
    refine run_q (.none rfl) rfl rfl (q_move rfl rfl) ?_
    refine run_off (.no rfl rfl rfl (by first | exact bne_iff_ne.2 h | exact decide_eq_true h)) rfl rfl ?_
    refine run_off (.no rfl rfl rfl (by first | exact bne_iff_ne.2 h | exact decide_eq_true h)) rfl rfl ?_
    refine run_q (.none rfl) rfl rfl (q_pickT rfl rfl (by first | exact bne_iff_ne.2 h | exact decide_eq_true h) rfl) ?_
    refine run_nil ?_
    refine run_sub (subMk (.cons (s := 1) rfl (.cons (s := 2) rfl (.cons (s := 4) rfl (.cons (s := 5) rfl (.cons (s := 6) rfl (.cons (s := 7) rfl (.cons (s := 43) rfl .nil))))))) .refl) ?_
    refine run_condT rfl rfl ?_
    refine run_seq ?_
    refine run_region ?_
    refine run_q (.none rfl) rfl rfl (q_move rfl rfl) ?_
    refine run_q (.none rfl) rfl rfl (q_move rfl rfl) ?_
    refine run_q (.none rfl) rfl rfl (q_eql rfl rfl rfl) ?_
    refine run_q (.none rfl) rfl rfl (q_move rfl rfl) ?_
    refine run_q (.on rfl rfl rfl (by simp)) rfl rfl (q_loadBN rfl agg30 rfl Sel.here (.cons rfl (.cons rfl (.cons rfl (.cons rfl (.cons rfl (.cons rfl (.cons rfl (.cons rfl (.cons rfl (.cons rfl (.cons rfl (.cons rfl (.cons rfl CellsAt.nil))))))))))))) rfl) ?_
    refine run_q (.on rfl rfl rfl (by simp)) rfl rfl (q_build rfl PV.nil (built30)) ?_
    refine run_q (.on rfl rfl rfl (by simp)) rfl rfl (q_call rfl call25 (.cons rfl (.cons rfl Evs.nil)) (fun w hk hm => refequal_just Evt.zero Evt.zero noL noL w zeroRd zeroRd zeroFew zeroFew)) ?_
    refine run_q (.none rfl) rfl rfl (q_pickT rfl rfl (by simp) rfl) ?_
    refine run_q (.none rfl) rfl rfl (q_assign rfl rfl) ?_
    refine run_nil ?_
    refine run_sub (subMk (.cons (s := 1) rfl (.cons (s := 2) rfl (.cons (s := 4) rfl (.cons (s := 5) rfl .nil)))) .refl) ?_
    refine run_ret ?_
    exact end1 rfl rfl (congrArg Value.bool (decide_eq_true (equalP_refl _)))
  · have g18' := g18
    try simp only [decide_eq_true_eq, decide_eq_false_iff_not, beq_iff_eq, beq_eq_false_iff_ne, bne_iff_ne, bne_eq_false_iff_eq, Bool.not_eq_true', Bool.not_eq_false', ne_eq, Int.not_lt, Int.not_le, Decidable.not_not] at g18'
    refine run_seq ?_
    refine run_region ?_
    refine run_q (.none rfl) rfl rfl (q_fieldB (d := 2) rfl Try.underlying30 rfl rfl sz3 rfl) ?_
    refine run_q (.none rfl) rfl rfl (q_loadB rfl one3 rfl (.there Sel.here) rfl) ?_
    refine run_q (.none rfl) rfl rfl (q_neq rfl rfl rfl) ?_
    refine run_q (.none rfl) rfl rfl (q_assign rfl rfl) ?_
    refine run_nil ?_
    refine run_sub (subMk (.cons (s := 1) rfl (.cons (s := 2) rfl (.cons (s := 4) rfl (.cons (s := 5) rfl (.cons (s := 6) rfl (.cons (s := 7) rfl (.cons (s := 24) rfl .nil))))))) .refl) ?_
    refine run_cond rfl (fun g24 => ?_) (fun g24 => ?_)
    · have g24' := g24
      try simp only [decide_eq_true_eq, decide_eq_false_iff_not, beq_iff_eq, beq_eq_false_iff_ne, bne_iff_ne, bne_eq_false_iff_eq, Bool.not_eq_true', Bool.not_eq_false', ne_eq, Int.not_lt, Int.not_le, Decidable.not_not] at g24'
      refine run_region ?_
      refine run_q (.none rfl) rfl rfl (q_assign rfl rfl) ?_
      refine run_nil ?_
      refine run_blk ?_
      refine run_seq ?_
      refine run_seq ?_
      refine run_sub (subMk (.cons (s := 1) rfl (.cons (s := 2) rfl (.cons (s := 4) rfl (.cons (s := 5) rfl (.cons (s := 6) rfl (.cons' (s := 7) (v' := .int .i64 (rmE (short x) i)) rfl (vint (by first | exact (rmE_1 (by omega)).symm | exact (rmE_2 (by omega) (by omega)).symm | exact (rmE_3 (by omega) (by omega) (by omega)).symm | exact (rmE_z (by omega) (by omega) (by omega)).symm)) (.cons (s := 24) rfl .nil))))))) .refl) ?_
      refine run_region ?_
      refine run_q (.none rfl) rfl rfl (q_move rfl rfl) ?_
      refine run_q (.none rfl) rfl rfl (q_neq rfl rfl rfl) ?_
      refine run_q (.none rfl) rfl rfl (q_move rfl rfl) ?_
      refine run_off (.no rfl rfl rfl (by first | exact bne_iff_ne.2 h | exact decide_eq_true h)) rfl rfl ?_
      refine run_off (.no rfl rfl rfl (by first | exact bne_iff_ne.2 h | exact decide_eq_true h)) rfl rfl ?_
      refine run_q (.none rfl) rfl rfl (q_pickT rfl rfl (by first | exact bne_iff_ne.2 h | exact decide_eq_true h) rfl) ?_
      refine run_nil ?_
      refine run_sub (subMk (.cons (s := 1) rfl (.cons (s := 2) rfl (.cons (s := 4) rfl (.cons (s := 5) rfl (.cons (s := 6) rfl (.cons (s := 7) rfl (.cons (s := 43) rfl .nil))))))) .refl) ?_
      refine run_condT rfl rfl ?_
      refine run_seq ?_
      refine run_region ?_
      refine run_q (.none rfl) rfl rfl (q_move rfl rfl) ?_
      refine run_q (.none rfl) rfl rfl (q_move rfl rfl) ?_
      refine run_q (.none rfl) rfl rfl (q_eql rfl rfl rfl) ?_
      refine run_q (.none rfl) rfl rfl (q_move rfl rfl) ?_
      refine run_q (.on rfl rfl rfl (by simp)) rfl rfl (q_loadBN rfl agg30 rfl Sel.here (.cons rfl (.cons rfl (.cons rfl (.cons rfl (.cons rfl (.cons rfl (.cons rfl (.cons rfl (.cons rfl (.cons rfl (.cons rfl (.cons rfl (.cons rfl CellsAt.nil))))))))))))) rfl) ?_
      refine run_q (.on rfl rfl rfl (by simp)) rfl rfl (q_build rfl PV.nil (built30)) ?_
      refine run_q (.on rfl rfl rfl (by simp)) rfl rfl (q_call rfl call25 (.cons rfl (.cons rfl Evs.nil)) (fun w hk hm => refequal_just Evt.zero Evt.zero noL noL w zeroRd zeroRd zeroFew zeroFew)) ?_
      refine run_q (.none rfl) rfl rfl (q_pickT rfl rfl (by simp) rfl) ?_
      refine run_q (.none rfl) rfl rfl (q_assign rfl rfl) ?_
      refine run_nil ?_
      refine run_sub (subMk (.cons (s := 1) rfl (.cons (s := 2) rfl (.cons (s := 4) rfl (.cons (s := 5) rfl .nil)))) .refl) ?_
      refine run_ret ?_
      exact end1 rfl rfl (congrArg Value.bool (decide_eq_true (equalP_refl _)))
    · have g24' := g24
      try simp only [decide_eq_true_eq, decide_eq_false_iff_not, beq_iff_eq, beq_eq_false_iff_ne, bne_iff_ne, bne_eq_false_iff_eq, Bool.not_eq_true', Bool.not_eq_false', ne_eq, Int.not_lt, Int.not_le, Decidable.not_not] at g24'
      refine run_seq ?_
      refine run_region ?_
      refine run_q (.none rfl) rfl rfl (q_move rfl rfl) ?_
      refine run_q (.none rfl) rfl rfl (q_lss rfl rfl rfl) ?_
      refine run_q (.none rfl) rfl rfl (q_move rfl rfl) ?_
      refine run_split 31 rfl (fun g31 => ?_) (fun g31 => ?_)
      · have g31' := g31
        try simp only [decide_eq_true_eq, decide_eq_false_iff_not, beq_iff_eq, beq_eq_false_iff_ne, bne_iff_ne, bne_eq_false_iff_eq, Bool.not_eq_true', Bool.not_eq_false', ne_eq, Int.not_lt, Int.not_le, Decidable.not_not] at g31'
        refine run_off (.no rfl rfl rfl g31) rfl rfl ?_
        refine run_off (.no rfl rfl rfl g31) rfl rfl ?_
        refine run_off (.no rfl rfl rfl g31) rfl rfl ?_
        refine run_off (.no rfl rfl rfl g31) rfl rfl ?_
        refine run_off (.no rfl rfl rfl g31) rfl rfl ?_
        refine run_q (.none rfl) rfl rfl (q_pickT rfl rfl g31 rfl) ?_
        refine run_q (.none rfl) rfl rfl (q_assign rfl rfl) ?_
        refine run_nil ?_
        refine run_sub (subMk (.cons (s := 1) rfl (.cons (s := 2) rfl (.cons (s := 4) rfl (.cons (s := 5) rfl (.cons (s := 6) rfl (.cons (s := 7) rfl (.cons (s := 28) rfl .nil))))))) .refl) ?_
        refine run_condT rfl rfl ?_
        refine run_region ?_
        refine run_q (.none rfl) rfl rfl (q_assign rfl rfl) ?_
        refine run_nil ?_
        refine run_blk ?_
        refine run_seq ?_
        refine run_seq ?_
        refine run_sub (subMk (.cons (s := 1) rfl (.cons (s := 2) rfl (.cons (s := 4) rfl (.cons (s := 5) rfl (.cons (s := 6) rfl (.cons' (s := 7) (v' := .int .i64 (rmE (short x) i)) rfl (vint (by first | exact (rmE_1 (by omega)).symm | exact (rmE_2 (by omega) (by omega)).symm | exact (rmE_3 (by omega) (by omega) (by omega)).symm | exact (rmE_z (by omega) (by omega) (by omega)).symm)) (.cons (s := 28) rfl .nil))))))) .refl) ?_
        refine run_region ?_
        refine run_q (.none rfl) rfl rfl (q_move rfl rfl) ?_
        refine run_q (.none rfl) rfl rfl (q_neq rfl rfl rfl) ?_
        refine run_q (.none rfl) rfl rfl (q_move rfl rfl) ?_
        refine run_off (.no rfl rfl rfl (by first | exact bne_iff_ne.2 h | exact decide_eq_true h)) rfl rfl ?_
        refine run_off (.no rfl rfl rfl (by first | exact bne_iff_ne.2 h | exact decide_eq_true h)) rfl rfl ?_
        refine run_q (.none rfl) rfl rfl (q_pickT rfl rfl (by first | exact bne_iff_ne.2 h | exact decide_eq_true h) rfl) ?_
        refine run_nil ?_
        refine run_sub (subMk (.cons (s := 1) rfl (.cons (s := 2) rfl (.cons (s := 4) rfl (.cons (s := 5) rfl (.cons (s := 6) rfl (.cons (s := 7) rfl (.cons (s := 43) rfl .nil))))))) .refl) ?_
        refine run_condT rfl rfl ?_
        refine run_seq ?_
        refine run_region ?_
        refine run_q (.none rfl) rfl rfl (q_move rfl rfl) ?_
        refine run_q (.none rfl) rfl rfl (q_move rfl rfl) ?_
        refine run_q (.none rfl) rfl rfl (q_eql rfl rfl rfl) ?_
        refine run_q (.none rfl) rfl rfl (q_move rfl rfl) ?_
        refine run_q (.on rfl rfl rfl (by simp)) rfl rfl (q_loadBN rfl agg30 rfl Sel.here (.cons rfl (.cons rfl (.cons rfl (.cons rfl (.cons rfl (.cons rfl (.cons rfl (.cons rfl (.cons rfl (.cons rfl (.cons rfl (.cons rfl (.cons rfl CellsAt.nil))))))))))))) rfl) ?_
        refine run_q (.on rfl rfl rfl (by simp)) rfl rfl (q_build rfl PV.nil (built30)) ?_
        refine run_q (.on rfl rfl rfl (by simp)) rfl rfl (q_call rfl call25 (.cons rfl (.cons rfl Evs.nil)) (fun w hk hm => refequal_just Evt.zero Evt.zero noL noL w zeroRd zeroRd zeroFew zeroFew)) ?_
        refine run_q (.none rfl) rfl rfl (q_pickT rfl rfl (by simp) rfl) ?_
        refine run_q (.none rfl) rfl rfl (q_assign rfl rfl) ?_
        refine run_nil ?_
        refine run_sub (subMk (.cons (s := 1) rfl (.cons (s := 2) rfl (.cons (s := 4) rfl (.cons (s := 5) rfl .nil)))) .refl) ?_
        refine run_ret ?_
        exact end1 rfl rfl (congrArg Value.bool (decide_eq_true (equalP_refl _)))
      · have g31' := g31
        try simp only [decide_eq_true_eq, decide_eq_false_iff_not, beq_iff_eq, beq_eq_false_iff_ne, bne_iff_ne, bne_eq_false_iff_eq, Bool.not_eq_true', Bool.not_eq_false', ne_eq, Int.not_lt, Int.not_le, Decidable.not_not] at g31'
        refine run_q (.on rfl rfl rfl g31) rfl rfl (q_move rfl rfl) ?_
        refine run_q (.on rfl rfl rfl g31) rfl rfl (q_fieldB (d := 5) rfl Try.underlying30 rfl rfl sz26 rfl) ?_
        refine run_q (.on rfl rfl rfl g31) rfl rfl (q_loadB rfl one26 rfl (.there Sel.here) rfl) ?_
        refine run_q (.on rfl rfl rfl g31) rfl rfl (q_len rfl Try.underlying26 rfl) ?_
        refine run_q (.on rfl rfl rfl g31) rfl rfl (q_geq rfl rfl rfl) ?_
        refine run_q (.none rfl) rfl rfl (q_pickF rfl rfl g31 rfl) ?_
        refine run_q (.none rfl) rfl rfl (q_assign rfl rfl) ?_
        refine run_nil ?_
        refine run_sub (subMk (.cons (s := 1) rfl (.cons (s := 2) rfl (.cons (s := 4) rfl (.cons (s := 5) rfl (.cons (s := 6) rfl (.cons (s := 7) rfl (.cons (s := 28) rfl .nil))))))) .refl) ?_
        refine run_cond rfl (fun g28 => ?_) (fun g28 => ?_)
        · have g28' := g28
          try simp only [decide_eq_true_eq, decide_eq_false_iff_not, beq_iff_eq, beq_eq_false_iff_ne, bne_iff_ne, bne_eq_false_iff_eq, Bool.not_eq_true', Bool.not_eq_false', ne_eq, Int.not_lt, Int.not_le, Decidable.not_not] at g28'
          refine run_region ?_
          refine run_q (.none rfl) rfl rfl (q_assign rfl rfl) ?_
          refine run_nil ?_
          refine run_blk ?_
          refine run_seq ?_
          refine run_seq ?_
          refine run_sub (subMk (.cons (s := 1) rfl (.cons (s := 2) rfl (.cons (s := 4) rfl (.cons (s := 5) rfl (.cons (s := 6) rfl (.cons' (s := 7) (v' := .int .i64 (rmE (short x) i)) rfl (vint (by first | exact (rmE_1 (by omega)).symm | exact (rmE_2 (by omega) (by omega)).symm | exact (rmE_3 (by omega) (by omega) (by omega)).symm | exact (rmE_z (by omega) (by omega) (by omega)).symm)) (.cons (s := 28) rfl .nil))))))) .refl) ?_
          refine run_region ?_
          refine run_q (.none rfl) rfl rfl (q_move rfl rfl) ?_
          refine run_q (.none rfl) rfl rfl (q_neq rfl rfl rfl) ?_
          refine run_q (.none rfl) rfl rfl (q_move rfl rfl) ?_
          refine run_off (.no rfl rfl rfl (by first | exact bne_iff_ne.2 h | exact decide_eq_true h)) rfl rfl ?_
          refine run_off (.no rfl rfl rfl (by first | exact bne_iff_ne.2 h | exact decide_eq_true h)) rfl rfl ?_
          refine run_q (.none rfl) rfl rfl (q_pickT rfl rfl (by first | exact bne_iff_ne.2 h | exact decide_eq_true h) rfl) ?_
          refine run_nil ?_
          refine run_sub (subMk (.cons (s := 1) rfl (.cons (s := 2) rfl (.cons (s := 4) rfl (.cons (s := 5) rfl (.cons (s := 6) rfl (.cons (s := 7) rfl (.cons (s := 43) rfl .nil))))))) .refl) ?_
          refine run_condT rfl rfl ?_
          refine run_seq ?_
          refine run_region ?_
          refine run_q (.none rfl) rfl rfl (q_move rfl rfl) ?_
          refine run_q (.none rfl) rfl rfl (q_move rfl rfl) ?_
          refine run_q (.none rfl) rfl rfl (q_eql rfl rfl rfl) ?_
          refine run_q (.none rfl) rfl rfl (q_move rfl rfl) ?_
          refine run_q (.on rfl rfl rfl (by simp)) rfl rfl (q_loadBN rfl agg30 rfl Sel.here (.cons rfl (.cons rfl (.cons rfl (.cons rfl (.cons rfl (.cons rfl (.cons rfl (.cons rfl (.cons rfl (.cons rfl (.cons rfl (.cons rfl (.cons rfl CellsAt.nil))))))))))))) rfl) ?_
          refine run_q (.on rfl rfl rfl (by simp)) rfl rfl (q_build rfl PV.nil (built30)) ?_
          refine run_q (.on rfl rfl rfl (by simp)) rfl rfl (q_call rfl call25 (.cons rfl (.cons rfl Evs.nil)) (fun w hk hm => refequal_just Evt.zero Evt.zero noL noL w zeroRd zeroRd zeroFew zeroFew)) ?_
          refine run_q (.none rfl) rfl rfl (q_pickT rfl rfl (by simp) rfl) ?_
          refine run_q (.none rfl) rfl rfl (q_assign rfl rfl) ?_
          refine run_nil ?_
          refine run_sub (subMk (.cons (s := 1) rfl (.cons (s := 2) rfl (.cons (s := 4) rfl (.cons (s := 5) rfl .nil)))) .refl) ?_
          refine run_ret ?_
          exact end1 rfl rfl (congrArg Value.bool (decide_eq_true (equalP_refl _)))
        · have g28' := g28
          try simp only [decide_eq_true_eq, decide_eq_false_iff_not, beq_iff_eq, beq_eq_false_iff_ne, bne_iff_ne, bne_eq_false_iff_eq, Bool.not_eq_true', Bool.not_eq_false', ne_eq, Int.not_lt, Int.not_le, Decidable.not_not] at g28'
          refine run_skip ?_
          refine run_blk ?_
          refine run_seq ?_
          refine run_seq ?_
          refine run_sub (subMk (.cons (s := 1) rfl (.cons (s := 2) rfl (.cons (s := 4) rfl (.cons (s := 5) rfl (.cons (s := 6) rfl (.cons' (s := 7) (v' := .int .i64 (rmE (short x) i)) rfl (vint (by first | exact (rmE_1 (by omega)).symm | exact (rmE_2 (by omega) (by omega)).symm | exact (rmE_3 (by omega) (by omega) (by omega)).symm | exact (rmE_z (by omega) (by omega) (by omega)).symm)) (.cons (s := 28) rfl .nil))))))) .refl) ?_
          refine run_region ?_
          refine run_q (.none rfl) rfl rfl (q_move rfl rfl) ?_
          refine run_q (.none rfl) rfl rfl (q_neq rfl rfl rfl) ?_
          refine run_q (.none rfl) rfl rfl (q_move rfl rfl) ?_
          refine run_off (.no rfl rfl rfl (by first | exact bne_iff_ne.2 h | exact decide_eq_true h)) rfl rfl ?_
          refine run_off (.no rfl rfl rfl (by first | exact bne_iff_ne.2 h | exact decide_eq_true h)) rfl rfl ?_
          refine run_q (.none rfl) rfl rfl (q_pickT rfl rfl (by first | exact bne_iff_ne.2 h | exact decide_eq_true h) rfl) ?_
          refine run_nil ?_
          refine run_sub (subMk (.cons (s := 1) rfl (.cons (s := 2) rfl (.cons (s := 4) rfl (.cons (s := 5) rfl (.cons (s := 6) rfl (.cons (s := 7) rfl (.cons (s := 43) rfl .nil))))))) .refl) ?_
          refine run_condT rfl rfl ?_
          refine run_seq ?_
          refine run_region ?_
          refine run_q (.none rfl) rfl rfl (q_move rfl rfl) ?_
          refine run_q (.none rfl) rfl rfl (q_move rfl rfl) ?_
          refine run_q (.none rfl) rfl rfl (q_eql rfl rfl rfl) ?_
          refine run_q (.none rfl) rfl rfl (q_move rfl rfl) ?_
          refine run_q (.on rfl rfl rfl (by simp)) rfl rfl (q_loadBN rfl agg30 rfl Sel.here (.cons rfl (.cons rfl (.cons rfl (.cons rfl (.cons rfl (.cons rfl (.cons rfl (.cons rfl (.cons rfl (.cons rfl (.cons rfl (.cons rfl (.cons rfl CellsAt.nil))))))))))))) rfl) ?_
          refine run_q (.on rfl rfl rfl (by simp)) rfl rfl (q_build rfl PV.nil (built30)) ?_
          refine run_q (.on rfl rfl rfl (by simp)) rfl rfl (q_call rfl call25 (.cons rfl (.cons rfl Evs.nil)) (fun w hk hm => refequal_just Evt.zero Evt.zero noL noL w zeroRd zeroRd zeroFew zeroFew)) ?_
          refine run_q (.none rfl) rfl rfl (q_pickT rfl rfl (by simp) rfl) ?_
          refine run_q (.none rfl) rfl rfl (q_assign rfl rfl) ?_
          refine run_nil ?_
          refine run_sub (subMk (.cons (s := 1) rfl (.cons (s := 2) rfl (.cons (s := 4) rfl (.cons (s := 5) rfl .nil)))) .refl) ?_
          refine run_ret ?_
          exact end1 rfl rfl (congrArg Value.bool (decide_eq_true (equalP_refl _)))

set_option maxHeartbeats 4000000 in
set_option maxRecDepth 100000 in
theorem law6_one (x : Evt) (p : Lie) (i : Int) (W : World) (hx : RdE W x p) (hc1 : x.hs.length ≤ p.hc) (hc2 : x.gs.length ≤ p.gc) (ha : x.n.art ≤ 9223372036854775807) (h : rmE (short x) i = 0) (h1 : (short x).hs.length = 1) : Calls Try.prog 6 #[evV x p, .int .i64 i] W (Hr.Just W (.bool true)) := by
  have hSh : Rd W p.HA 5 ((short x).hs.map Hd.enc) := rd_takeE hx.h
  have hSg : Rd W p.GA 5 ((short x).gs.map Gr.enc) := rd_takeE hx.g
  have fS := short_few ha
  obtain ⟨fs1, fs2, fs3, fs4⟩ := id fS
  obtain ⟨h2, h3, h4, h5⟩ := rmE_ok h
  refine Just.of_ret ?_
  refine enterA (X := nX) (vs := [evV x p, .int .i64 i]) Try.func6 Try.ntmps6 rfl rfl Mem.nil ?_
  refine run_seq ?_
  refine run_region ?_
  refine run_h (.none rfl) (h_box rfl rfl rfl rfl rfl) ?_
  rintro b2 -
  refine run_q (.none rfl) rfl rfl (q_assign rfl rfl) ?_
  refine run_nil ?_
  refine run_seq ?_
  refine run_region ?_
  refine run_q (.none rfl) rfl rfl (q_loadBN rfl agg30 rfl Sel.here (.cons rfl (.cons rfl (.cons rfl (.cons rfl (.cons rfl (.cons rfl (.cons rfl (.cons rfl (.cons rfl (.cons rfl (.cons rfl (.cons rfl (.cons rfl CellsAt.nil))))))))))))) rfl) ?_
  refine run_h (.none rfl) (h_call rfl rfl rfl call13 (.cons rfl Evs.nil) (fun w hk hm => short_ret x p w (hx.kept0 hk) hc1 hc2)) ?_
  rintro ⟨v, m⟩ ⟨O, co, rfl, rfl⟩
  show Run _ _ _ _ _ _ _ ⟨(9, evV (short x) ⟨p.HA, p.hc, p.GA, p.gc, O, co⟩) :: _, _ :: _⟩
  refine run_h (.none rfl) (h_storeB rfl rfl sz30 rfl rfl rfl rfl rfl (.there Sel.here) rfl) ?_
  rintro - -
  refine run_nil ?_
  refine run_sub (subMk (.cons (s := 1) rfl (.cons (s := 2) rfl (.cons (s := 4) rfl .nil))) .refl) ?_
  refine run_seq ?_
  refine run_region ?_
  refine run_q (.none rfl) rfl rfl (q_loadBN rfl agg30 rfl Sel.here (.cons rfl (.cons rfl (.cons rfl (.cons rfl (.cons rfl (.cons rfl (.cons rfl (.cons rfl (.cons rfl (.cons rfl (.cons rfl (.cons rfl (.cons rfl CellsAt.nil))))))))))))) rfl) ?_
  refine run_q (.none rfl) rfl rfl (q_move rfl rfl) ?_
  refine run_q (.none rfl) rfl rfl (q_call rfl call27 (.cons rfl (.cons rfl Evs.nil)) (fun w hk hm => rem_one (short x) (Lie.mk p.HA p.hc p.GA p.gc O co) i w ⟨hSh.kept0 hk, hSg.kept0 hk, (own_rd ((Sel.there Sel.here).holds hm))⟩ fS h h1)) ?_
  refine run_q (.none rfl) rfl rfl (q_move rfl rfl) ?_
  refine run_q (.none rfl) rfl rfl (q_extract rfl rfl rfl) ?_
  refine run_q (.none rfl) rfl rfl (q_extract rfl rfl rfl) ?_
  refine run_h (.none rfl) (h_alloc rfl rfl rfl info30) ?_
  rintro b5 -
  refine run_h (.none rfl) (h_storeB rfl rfl sz30 rfl rfl rfl rfl rfl Sel.here rfl) ?_
  rintro - -
  refine run_q (.none rfl) rfl rfl (q_assign rfl rfl) ?_
  refine run_nil ?_
  refine run_sub (subMk (.cons (s := 1) rfl (.cons (s := 2) rfl (.cons (s := 4) rfl (.cons (s := 5) rfl (.cons (s := 6) rfl .nil))))) .refl) ?_
  refine run_seq ?_
  refine run_seq ?_
  refine run_region ?_
  refine run_q (.none rfl) rfl rfl (q_call rfl call14 Evs.nil (fun w hk hm => known_just w)) ?_
  refine run_q (.none rfl) rfl rfl (q_not rfl rfl) ?_
  refine run_nil ?_
  refine run_condF rfl rfl ?_
  refine run_skip ?_
  refine run_seq ?_
  refine run_region ?_
  refine run_q (.none rfl) rfl rfl (q_assign rfl rfl) ?_
  refine run_nil ?_
  refine run_seq ?_
  refine run_block ?_
  refine run_seq ?_
  refine run_region ?_
  refine run_q (.none rfl) rfl rfl (q_loadBN rfl agg30 rfl (.there Sel.here) (.cons rfl (.cons rfl (.cons rfl (.cons rfl (.cons rfl (.cons rfl (.cons rfl (.cons rfl (.cons rfl (.cons rfl (.cons rfl (.cons rfl (.cons rfl CellsAt.nil))))))))))))) rfl) ?_
  refine run_q (.none rfl) rfl rfl (q_call rfl call16 (.cons rfl Evs.nil) (fun w hk hm => refCheck_just (short x) (Lie.mk p.HA p.hc p.GA p.gc O co) w ⟨hSh.kept0 hk, hSg.kept0 hk, (own_rd ((Sel.there (Sel.there Sel.here)).holds hm))⟩ fS)) ?_
  refine run_q (.none rfl) rfl rfl (q_neq rfl rfl rfl) ?_
  refine run_q (.none rfl) rfl rfl (q_assign rfl rfl) ?_
  refine run_nil ?_
  refine run_sub (subMk (.cons (s := 1) rfl (.cons (s := 2) rfl (.cons (s := 4) rfl (.cons (s := 5) rfl (.cons (s := 6) rfl (.cons (s := 7) rfl (.cons (s := 18) rfl .nil))))))) .refl) ?_
  refine run_condF rfl (by rw [h2]; rfl) ?_
  refine run_seq ?_
  refine run_region ?_
  refine run_q (.none rfl) rfl rfl (q_fieldB (d := 2) rfl Try.underlying30 rfl rfl sz3 rfl) ?_
  refine run_q (.none rfl) rfl rfl (q_loadB rfl one3 rfl (.there Sel.here) rfl) ?_
  refine run_q (.none rfl) rfl rfl (q_neq rfl rfl rfl) ?_
  refine run_q (.none rfl) rfl rfl (q_assign rfl rfl) ?_
  refine run_nil ?_
  refine run_sub (subMk (.cons (s := 1) rfl (.cons (s := 2) rfl (.cons (s := 4) rfl (.cons (s := 5) rfl (.cons (s := 6) rfl (.cons (s := 7) rfl (.cons (s := 24) rfl .nil))))))) .refl) ?_
  refine run_condF rfl (by rw [h3]; rfl) ?_
  refine run_seq ?_
  refine run_region ?_
  refine run_q (.none rfl) rfl rfl (q_move rfl rfl) ?_
  refine run_q (.none rfl) rfl rfl (q_lss rfl rfl rfl) ?_
  refine run_q (.none rfl) rfl rfl (q_move rfl rfl) ?_
  refine run_q (.on rfl rfl rfl (decide_eq_false (by omega))) rfl rfl (q_move rfl rfl) ?_
  refine run_q (.on rfl rfl rfl (decide_eq_false (by omega))) rfl rfl (q_fieldB (d := 5) rfl Try.underlying30 rfl rfl sz26 rfl) ?_
  refine run_q (.on rfl rfl rfl (decide_eq_false (by omega))) rfl rfl (q_loadB rfl one26 rfl (.there Sel.here) rfl) ?_
  refine run_q (.on rfl rfl rfl (decide_eq_false (by omega))) rfl rfl (q_len rfl Try.underlying26 rfl) ?_
  refine run_q (.on rfl rfl rfl (decide_eq_false (by omega))) rfl rfl (q_geq rfl rfl rfl) ?_
  refine run_q (.none rfl) rfl rfl (q_pickF rfl rfl (decide_eq_false (by omega)) rfl) ?_
  refine run_q (.none rfl) rfl rfl (q_assign rfl rfl) ?_
  refine run_nil ?_
  refine run_sub (subMk (.cons (s := 1) rfl (.cons (s := 2) rfl (.cons (s := 4) rfl (.cons (s := 5) rfl (.cons (s := 6) rfl (.cons (s := 7) rfl (.cons (s := 28) rfl .nil))))))) .refl) ?_
  refine run_condF rfl (decide_eq_false (by omega)) ?_
  refine run_skip ?_
  refine run_blk ?_
  refine run_seq ?_
  refine run_seq ?_
  refine run_region ?_
  refine run_q (.none rfl) rfl rfl (q_move rfl rfl) ?_
  refine run_q (.none rfl) rfl rfl (q_neq rfl rfl rfl) ?_
  refine run_q (.none rfl) rfl rfl (q_move rfl rfl) ?_
  refine run_q (.on rfl rfl rfl rfl) rfl rfl (q_move rfl rfl) ?_
  refine run_q (.on rfl rfl rfl rfl) rfl rfl (q_neq rfl rfl rfl) ?_
  refine run_q (.none rfl) rfl rfl (q_pickF rfl rfl rfl rfl) ?_
  refine run_nil ?_
  refine run_sub (subMk (.cons (s := 1) rfl (.cons (s := 2) rfl (.cons (s := 4) rfl (.cons (s := 5) rfl (.cons (s := 6) rfl (.cons (s := 7) rfl (.cons (s := 43) rfl .nil))))))) .refl) ?_
  refine run_condF rfl rfl ?_
  refine run_skip ?_
  refine run_seq ?_
  refine run_draw [(0, 0), (1, 0), (2, 0), (3, 0), (4, 0), (5, 0), (6, 0), (7, 0), (8, 0), (9, 0), (10, 0)] mixed (by kernel_rfl) .refl ?_
  refine d_q rfl rfl (.none rfl) rfl rfl (q_loadBN rfl agg30 rfl Sel.here (.cons rfl (.cons rfl (.cons rfl (.cons rfl (.cons rfl (.cons rfl (.cons rfl (.cons rfl (.cons rfl (.cons rfl (.cons rfl (.cons rfl (.cons rfl CellsAt.nil))))))))))))) rfl) ?_
  refine d_q rfl rfl (.none rfl) rfl rfl (q_loadBN rfl agg30 rfl (.there Sel.here) (.cons rfl (.cons rfl (.cons rfl (.cons rfl (.cons rfl (.cons rfl (.cons rfl (.cons rfl (.cons rfl (.cons rfl (.cons rfl (.cons rfl (.cons rfl CellsAt.nil))))))))))))) rfl) ?_
  refine d_q rfl rfl (.none rfl) rfl rfl (q_move rfl rfl) ?_
  refine d_q rfl rfl (.none rfl) rfl rfl (q_call rfl call28 (.cons rfl (.cons rfl Evs.nil)) (fun w hk hm => refrem_one (short x) (Lie.mk p.HA p.hc p.GA p.gc O co) i w ⟨hSh.kept0 hk, hSg.kept0 hk, (own_rd ((Sel.there (Sel.there Sel.here)).holds hm))⟩ fS h1)) ?_
  refine d_q rfl rfl (.none rfl) rfl rfl (q_call rfl call25 (.cons rfl (.cons rfl Evs.nil)) (fun w hk hm => refequal_just (stripE (to2 (short x))) (stripE (to2 (short x))) (stripP (to2 (short x)) (Lie.mk p.HA p.hc p.GA p.gc O co)) (stripP (to2 (short x)) (Lie.mk p.HA p.hc p.GA p.gc O co)) w (rd_to2 ⟨hSh.kept0 hk, hSg.kept0 hk, (own_rd ((Sel.there (Sel.there Sel.here)).holds hm))⟩) (rd_to2 ⟨hSh.kept0 hk, hSg.kept0 hk, (own_rd ((Sel.there (Sel.there Sel.here)).holds hm))⟩) (to2_few fS) (to2_few fS))) ?_
  refine d_q rfl rfl (.none rfl) rfl rfl (q_move rfl rfl) ?_
  refine d_q rfl rfl (.on rfl rfl rfl (decide_eq_true (equalP_refl _))) rfl rfl (q_loadBN rfl agg30 rfl Sel.here (.cons rfl (.cons rfl (.cons rfl (.cons rfl (.cons rfl (.cons rfl (.cons rfl (.cons rfl (.cons rfl (.cons rfl (.cons rfl (.cons rfl (.cons rfl CellsAt.nil))))))))))))) rfl) ?_
  refine d_q rfl rfl (.on rfl rfl rfl (decide_eq_true (equalP_refl _))) rfl rfl (q_call rfl call16 (.cons rfl Evs.nil) (fun w hk hm => refCheck_just (stripE (to2 (short x))) (stripP (to2 (short x)) (Lie.mk p.HA p.hc p.GA p.gc O co)) w (rd_to2 ⟨hSh.kept0 hk, hSg.kept0 hk, (own_rd ((Sel.there (Sel.there Sel.here)).holds hm))⟩) (to2_few fS))) ?_
  refine d_q rfl rfl (.on rfl rfl rfl (decide_eq_true (equalP_refl _))) rfl rfl (q_eql rfl rfl rfl) ?_
  refine d_q rfl rfl (.none rfl) rfl rfl (q_pickT rfl rfl (decide_eq_true (equalP_refl _)) rfl) ?_
  refine d_q rfl rfl (.none rfl) rfl rfl (q_assign rfl rfl) ?_
  refine d_nil ?_
  refine run_sub (subMk (.cons (s := 4) rfl .nil) .refl) ?_
  refine run_ret ?_
  exact end1 rfl rfl (by rw [rem1_ok h2 h3]; rfl)

set_option maxHeartbeats 4000000 in
set_option maxRecDepth 100000 in
theorem law6_more (x : Evt) (p : Lie) (i : Nat) (W : World) (hx : RdE W x p) (hc1 : x.hs.length ≤ p.hc) (hc2 : x.gs.length ≤ p.gc) (ha : x.n.art ≤ 9223372036854775807) (h : rmE (short x) i = 0) (h1 : (short x).hs.length ≠ 1) : Calls Try.prog 6 #[evV x p, .int .i64 (i : Int)] W (Hr.Just W (.bool true)) := by
  have hSh : Rd W p.HA 5 ((short x).hs.map Hd.enc) := rd_takeE hx.h
  have hSg : Rd W p.GA 5 ((short x).gs.map Gr.enc) := rd_takeE hx.g
  have fS := short_few ha
  obtain ⟨fs1, fs2, fs3, fs4⟩ := id fS
  obtain ⟨h2, h3, h4, h5⟩ := rmE_ok h
  refine Just.of_ret ?_
  refine enterA (X := nX) (vs := [evV x p, .int .i64 (i : Int)]) Try.func6 Try.ntmps6 rfl rfl Mem.nil ?_
  refine run_seq ?_
  refine run_region ?_
  refine run_h (.none rfl) (h_box rfl rfl rfl rfl rfl) ?_
  rintro b2 -
  refine run_q (.none rfl) rfl rfl (q_assign rfl rfl) ?_
  refine run_nil ?_
  refine run_seq ?_
  refine run_region ?_
  refine run_q (.none rfl) rfl rfl (q_loadBN rfl agg30 rfl Sel.here (.cons rfl (.cons rfl (.cons rfl (.cons rfl (.cons rfl (.cons rfl (.cons rfl (.cons rfl (.cons rfl (.cons rfl (.cons rfl (.cons rfl (.cons rfl CellsAt.nil))))))))))))) rfl) ?_
  refine run_h (.none rfl) (h_call rfl rfl rfl call13 (.cons rfl Evs.nil) (fun w hk hm => short_ret x p w (hx.kept0 hk) hc1 hc2)) ?_
  rintro ⟨v, m⟩ ⟨O, co, rfl, rfl⟩
  show Run _ _ _ _ _ _ _ ⟨(9, evV (short x) ⟨p.HA, p.hc, p.GA, p.gc, O, co⟩) :: _, _ :: _⟩
  refine run_h (.none rfl) (h_storeB rfl rfl sz30 rfl rfl rfl rfl rfl (.there Sel.here) rfl) ?_
  rintro - -
  refine run_nil ?_
  refine run_sub (subMk (.cons (s := 1) rfl (.cons (s := 2) rfl (.cons (s := 4) rfl .nil))) .refl) ?_
  refine run_seq ?_
  refine run_region ?_
  refine run_q (.none rfl) rfl rfl (q_loadBN rfl agg30 rfl Sel.here (.cons rfl (.cons rfl (.cons rfl (.cons rfl (.cons rfl (.cons rfl (.cons rfl (.cons rfl (.cons rfl (.cons rfl (.cons rfl (.cons rfl (.cons rfl CellsAt.nil))))))))))))) rfl) ?_
  refine run_q (.none rfl) rfl rfl (q_move rfl rfl) ?_
  refine run_h (.none rfl) (h_call rfl rfl rfl call27 (.cons rfl (.cons rfl Evs.nil)) (fun w hk hm => rem_more (short x) (Lie.mk p.HA p.hc p.GA p.gc O co) i w ⟨hSh.kept0 hk, hSg.kept0 hk, (own_rd ((Sel.there Sel.here).holds hm))⟩ fS h h1)) ?_
  rintro ⟨v, m⟩ ⟨r, rfl, rfl⟩
  show Run _ _ _ _ _ _ _ ⟨(13, .tuple #[evV (remX (short x) i) r, .int .i64 0]) :: _, _ :: _ :: _ :: _⟩
  refine run_q (.none rfl) rfl rfl (q_move rfl rfl) ?_
  refine run_q (.none rfl) rfl rfl (q_extract rfl rfl rfl) ?_
  refine run_q (.none rfl) rfl rfl (q_extract rfl rfl rfl) ?_
  refine run_h (.none rfl) (h_alloc rfl rfl rfl info30) ?_
  rintro b5 -
  refine run_h (.none rfl) (h_storeB rfl rfl sz30 rfl rfl rfl rfl rfl Sel.here rfl) ?_
  rintro - -
  refine run_q (.none rfl) rfl rfl (q_assign rfl rfl) ?_
  refine run_nil ?_
  refine run_sub (subMk (.cons (s := 1) rfl (.cons (s := 2) rfl (.cons (s := 4) rfl (.cons (s := 5) rfl (.cons (s := 6) rfl .nil))))) .refl) ?_
  refine run_seq ?_
  refine run_seq ?_
  refine run_region ?_
  refine run_q (.none rfl) rfl rfl (q_call rfl call14 Evs.nil (fun w hk hm => known_just w)) ?_
  refine run_q (.none rfl) rfl rfl (q_not rfl rfl) ?_
  refine run_nil ?_
  refine run_condF rfl rfl ?_
  refine run_skip ?_
  refine run_seq ?_
  refine run_region ?_
  refine run_q (.none rfl) rfl rfl (q_assign rfl rfl) ?_
  refine run_nil ?_
  refine run_seq ?_
  refine run_block ?_
  refine run_seq ?_
  refine run_region ?_
  refine run_q (.none rfl) rfl rfl (q_loadBN rfl agg30 rfl (.there (.there (.there (.there Sel.here)))) (.cons rfl (.cons rfl (.cons rfl (.cons rfl (.cons rfl (.cons rfl (.cons rfl (.cons rfl (.cons rfl (.cons rfl (.cons rfl (.cons rfl (.cons rfl CellsAt.nil))))))))))))) rfl) ?_
  refine run_q (.none rfl) rfl rfl (q_call rfl call16 (.cons rfl Evs.nil) (fun w hk hm => refCheck_just (short x) (Lie.mk p.HA p.hc p.GA p.gc O co) w ⟨hSh.kept0 hk, hSg.kept0 hk, (own_rd ((Sel.there (Sel.there (Sel.there (Sel.there (Sel.there Sel.here))))).holds hm))⟩ fS)) ?_
  refine run_q (.none rfl) rfl rfl (q_neq rfl rfl rfl) ?_
  refine run_q (.none rfl) rfl rfl (q_assign rfl rfl) ?_
  refine run_nil ?_
  refine run_sub (subMk (.cons (s := 1) rfl (.cons (s := 2) rfl (.cons (s := 4) rfl (.cons (s := 5) rfl (.cons (s := 6) rfl (.cons (s := 7) rfl (.cons (s := 18) rfl .nil))))))) .refl) ?_
  refine run_condF rfl (by rw [h2]; rfl) ?_
  refine run_seq ?_
  refine run_region ?_
  refine run_q (.none rfl) rfl rfl (q_fieldB (d := 2) rfl Try.underlying30 rfl rfl sz3 rfl) ?_
  refine run_q (.none rfl) rfl rfl (q_loadB rfl one3 rfl (.there (.there (.there (.there Sel.here)))) rfl) ?_
  refine run_q (.none rfl) rfl rfl (q_neq rfl rfl rfl) ?_
  refine run_q (.none rfl) rfl rfl (q_assign rfl rfl) ?_
  refine run_nil ?_
  refine run_sub (subMk (.cons (s := 1) rfl (.cons (s := 2) rfl (.cons (s := 4) rfl (.cons (s := 5) rfl (.cons (s := 6) rfl (.cons (s := 7) rfl (.cons (s := 24) rfl .nil))))))) .refl) ?_
  refine run_condF rfl (by rw [h3]; rfl) ?_
  refine run_seq ?_
  refine run_region ?_
  refine run_q (.none rfl) rfl rfl (q_move rfl rfl) ?_
  refine run_q (.none rfl) rfl rfl (q_lss rfl rfl rfl) ?_
  refine run_q (.none rfl) rfl rfl (q_move rfl rfl) ?_
  refine run_q (.on rfl rfl rfl (decide_eq_false (by omega))) rfl rfl (q_move rfl rfl) ?_
  refine run_q (.on rfl rfl rfl (decide_eq_false (by omega))) rfl rfl (q_fieldB (d := 5) rfl Try.underlying30 rfl rfl sz26 rfl) ?_
  refine run_q (.on rfl rfl rfl (decide_eq_false (by omega))) rfl rfl (q_loadB rfl one26 rfl (.there (.there (.there (.there Sel.here)))) rfl) ?_
  refine run_q (.on rfl rfl rfl (decide_eq_false (by omega))) rfl rfl (q_len rfl Try.underlying26 rfl) ?_
  refine run_q (.on rfl rfl rfl (decide_eq_false (by omega))) rfl rfl (q_geq rfl rfl rfl) ?_
  refine run_q (.none rfl) rfl rfl (q_pickF rfl rfl (decide_eq_false (by omega)) rfl) ?_
  refine run_q (.none rfl) rfl rfl (q_assign rfl rfl) ?_
  refine run_nil ?_
  refine run_sub (subMk (.cons (s := 1) rfl (.cons (s := 2) rfl (.cons (s := 4) rfl (.cons (s := 5) rfl (.cons (s := 6) rfl (.cons (s := 7) rfl (.cons (s := 28) rfl .nil))))))) .refl) ?_
  refine run_condF rfl (decide_eq_false (by omega)) ?_
  refine run_skip ?_
  refine run_blk ?_
  refine run_seq ?_
  refine run_seq ?_
  refine run_region ?_
  refine run_q (.none rfl) rfl rfl (q_move rfl rfl) ?_
  refine run_q (.none rfl) rfl rfl (q_neq rfl rfl rfl) ?_
  refine run_q (.none rfl) rfl rfl (q_move rfl rfl) ?_
  refine run_q (.on rfl rfl rfl rfl) rfl rfl (q_move rfl rfl) ?_
  refine run_q (.on rfl rfl rfl rfl) rfl rfl (q_neq rfl rfl rfl) ?_
  refine run_q (.none rfl) rfl rfl (q_pickF rfl rfl rfl rfl) ?_
  refine run_nil ?_
  refine run_sub (subMk (.cons (s := 1) rfl (.cons (s := 2) rfl (.cons (s := 4) rfl (.cons (s := 5) rfl (.cons (s := 6) rfl (.cons (s := 7) rfl (.cons (s := 43) rfl .nil))))))) .refl) ?_
  refine run_condF rfl rfl ?_
  refine run_skip ?_
  refine run_seq ?_
  refine run_fork mixed (by kernel_rfl) .refl ?_
  refine b_q (i := 0) rfl (by kernel_rfl) (.none rfl) rfl rfl (q_loadBN rfl agg30 rfl Sel.here (.cons rfl (.cons rfl (.cons rfl (.cons rfl (.cons rfl (.cons rfl (.cons rfl (.cons rfl (.cons rfl (.cons rfl (.cons rfl (.cons rfl (.cons rfl CellsAt.nil))))))))))))) rfl) ?_
  refine b_q (i := 1) rfl (by kernel_rfl) (.none rfl) rfl rfl (q_loadBN rfl agg30 rfl (.there (.there (.there (.there Sel.here)))) (.cons rfl (.cons rfl (.cons rfl (.cons rfl (.cons rfl (.cons rfl (.cons rfl (.cons rfl (.cons rfl (.cons rfl (.cons rfl (.cons rfl (.cons rfl CellsAt.nil))))))))))))) rfl) ?_
  refine b_q (i := 2) rfl (by kernel_rfl) (.none rfl) rfl rfl (q_move rfl rfl) ?_
  refine b_one 3 (by kernel_rfl) ?_
  refine b_hN rfl (.none rfl) (h_call rfl rfl rfl call28 (.cons rfl (.cons rfl Evs.nil)) (fun w hk hm => refrem_more (short x) (Lie.mk p.HA p.hc p.GA p.gc O co) i w ⟨hSh.kept0 hk, hSg.kept0 hk, (own_rd ((Sel.there (Sel.there (Sel.there (Sel.there (Sel.there Sel.here))))).holds hm))⟩ fS (by omega) h1 (by rw [short_hs]; show _ ≤ p.hc; omega))) (fun _ _ => (.sub (List.sublist_append_right _ _))) ?_
  rintro ⟨v, m⟩ ⟨O2, co2, rfl, rfl⟩
  show RunB _ _ _ _ _ _ _ _ _ _ _ ⟨(55, evV (remX (short x) i) (Lie.mk O2 co2 p.GA p.gc O co)) :: _, _ :: _⟩
  refine b_q (i := 4) rfl (by kernel_rfl) (.none rfl) rfl rfl (q_call rfl call25 (.cons rfl (.cons rfl Evs.nil)) (fun w hk hm => refequal_just (remX (short x) i) (remX (short x) i) r (Lie.mk O2 co2 p.GA p.gc O co) w ⟨(own_rd ((Sel.there (Sel.there Sel.here)).holds hm)), (own_rd ((Sel.there (Sel.there (Sel.there Sel.here))).holds hm)), (own_rd ((Sel.there (Sel.there (Sel.there (Sel.there Sel.here)))).holds hm))⟩ ⟨(own_rd (Sel.here.holds hm)), hSg.kept0 hk, (own_rd ((Sel.there (Sel.there (Sel.there (Sel.there (Sel.there (Sel.there Sel.here)))))).holds hm))⟩ (remX_few fS (by omega)) (remX_few fS (by omega)))) ?_
  refine b_q (i := 5) rfl (by kernel_rfl) (.none rfl) rfl rfl (q_move rfl rfl) ?_
  refine b_q (i := 6) rfl (by kernel_rfl) (.on rfl rfl rfl (decide_eq_true (equalP_refl _))) rfl rfl (q_loadBN rfl agg30 rfl (.there Sel.here) (.cons rfl (.cons rfl (.cons rfl (.cons rfl (.cons rfl (.cons rfl (.cons rfl (.cons rfl (.cons rfl (.cons rfl (.cons rfl (.cons rfl (.cons rfl CellsAt.nil))))))))))))) rfl) ?_
  refine b_q (i := 7) rfl (by kernel_rfl) (.on rfl rfl rfl (decide_eq_true (equalP_refl _))) rfl rfl (q_call rfl call16 (.cons rfl Evs.nil) (fun w hk hm => refCheck_just (remX (short x) i) r w ⟨(own_rd ((Sel.there (Sel.there Sel.here)).holds hm)), (own_rd ((Sel.there (Sel.there (Sel.there Sel.here))).holds hm)), (own_rd ((Sel.there (Sel.there (Sel.there (Sel.there Sel.here)))).holds hm))⟩ (remX_few fS (by omega)))) ?_
  refine b_q (i := 8) rfl (by kernel_rfl) (.on rfl rfl rfl (decide_eq_true (equalP_refl _))) rfl rfl (q_eql rfl rfl rfl) ?_
  refine b_q (i := 9) rfl (by kernel_rfl) (.none rfl) rfl rfl (q_pickT rfl rfl (decide_eq_true (equalP_refl _)) rfl) ?_
  refine b_q (i := 10) rfl (by kernel_rfl) (.none rfl) rfl rfl (q_assign rfl rfl) ?_
  refine b_nil (by kernel_rfl) ?_
  refine run_sub (subMk (.cons (s := 4) rfl .nil) .refl) ?_
  refine run_ret ?_
  exact end1 rfl rfl (by rw [remX_ok h2 h3 (by omega) h1]; rfl)

theorem law6_just (x : Evt) (p : Lie) (i : Int) (W : World) (hx : RdE W x p) (hc1 : x.hs.length ≤ p.hc) (hc2 : x.gs.length ≤ p.gc) (ha : x.n.art ≤ 9223372036854775807) : Calls Try.prog 6 #[evV x p, .int .i64 i] W (Just W (.bool true)) := by
  by_cases h : rmE (short x) i = 0
  · by_cases h1 : (short x).hs.length = 1
    · exact law6_one x p i W hx hc1 hc2 ha h h1
    · obtain ⟨h2, h3, h4, h5⟩ := rmE_ok h
      obtain ⟨n, rfl⟩ : ∃ n : Nat, i = (n : Int) := ⟨i.toNat, by omega⟩
      exact law6_more x p n W hx hc1 hc2 ha h h1
  · exact law6_err x p i W hx hc1 hc2 ha h

end Go.Proofs.Ytneadapfoaccmaa
