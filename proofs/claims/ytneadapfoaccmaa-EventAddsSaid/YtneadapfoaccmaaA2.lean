/- A head put in, in the program. -/
import Derived.Test.YtneadapfoaccmaaZ
import Derived.Test.YtneadapfoaccmaaAdd
set_option linter.unusedSimpArgs false
set_option linter.unusedVariables false
namespace Go.Proofs.Ytneadapfoaccmaa
open Go Go.RowKit Hr



set_option maxHeartbeats 2000000 in
set_option maxRecDepth 100000 in
theorem add_err (x : Evt) (p : Lie) (h : Hd) (W : World) (hx : RdE W x p) (fx : x.few) (he : adE x h ≠ 0) : Calls Try.prog 43 #[evV x p, h.val] W (Hr.Just W (.tuple #[evV Evt.zero noL, .int .i64 (adE x h)])) := by
  obtain ⟨fx1, fx2, fx3, fx4⟩ := id fx
  refine Just.of_ret ?_
  refine enterA (X := nX) (vs := [evV x p, h.val]) Try.func43 Try.ntmps43 rfl rfl Mem.nil ?_
  refine run_seq ?_
  refine run_region ?_
  refine run_h (.none rfl) (h_box rfl rfl rfl rfl rfl) ?_
  rintro b2 -
  refine run_h (.none rfl) (h_box rfl rfl rfl rfl rfl) ?_
  rintro b3 -
  refine run_h (.none rfl) (h_alloc rfl rfl rfl info30) ?_
  rintro b4 -
  refine run_q (.none rfl) rfl rfl (q_assign rfl rfl) ?_
  refine run_nil ?_
  refine run_seq ?_
  refine run_seq ?_
  refine run_region ?_
  refine run_q (.none rfl) rfl rfl (q_loadBN rfl agg30 rfl (.there (.there Sel.here)) (.cons rfl (.cons rfl (.cons rfl (.cons rfl (.cons rfl (.cons rfl (.cons rfl (.cons rfl (.cons rfl (.cons rfl (.cons rfl (.cons rfl (.cons rfl CellsAt.nil))))))))))))) rfl) ?_
  refine run_q (.none rfl) rfl rfl (q_call rfl call15 (.cons rfl Evs.nil) (fun w hk hm => evCheck_just x p w (hx.kept0 hk) fx)) ?_
  refine run_q (.none rfl) rfl rfl (q_assign rfl rfl) ?_
  refine run_nil ?_
  refine run_sub (subMk (.cons (s := 2) rfl (.cons (s := 3) rfl (.cons (s := 4) rfl (.cons (s := 5) rfl (.cons (s := 6) rfl .nil))))) .refl) ?_
  refine run_seq ?_
  refine run_region ?_
  refine run_q (.none rfl) rfl rfl (q_move rfl rfl) ?_
  refine run_q (.none rfl) rfl rfl (q_neq rfl rfl rfl) ?_
  refine run_nil ?_
  refine run_cond rfl (fun g13 => ?_) (fun g13 => ?_)
  · have g13' := g13
    try simp only [decide_eq_true_eq, decide_eq_false_iff_not, beq_iff_eq, beq_eq_false_iff_ne, bne_iff_ne, bne_eq_false_iff_eq, Bool.not_eq_true', Bool.not_eq_false', ne_eq, Int.not_lt, Int.not_le, Decidable.not_not] at g13'
    refine run_seq ?_
    refine run_region ?_
    refine run_q (.none rfl) rfl rfl (q_build rfl PV.nil (built30)) ?_
    refine run_q (.none rfl) rfl rfl (q_move rfl rfl) ?_
    refine run_h (.none rfl) (h_storeB rfl rfl sz30 rfl rfl rfl rfl rfl Sel.here rfl) ?_
    rintro - -
    refine run_q (.none rfl) rfl rfl (q_assign rfl rfl) ?_
    refine run_nil ?_
    refine run_sub (subMk (.cons (s := 2) rfl (.cons (s := 3) rfl (.cons (s := 4) rfl (.cons (s := 5) rfl .nil)))) .refl) ?_
    refine run_ret ?_
    exact endG rfl (.cellN rfl agg30 Sel.here (.cons rfl (.cons rfl (.cons rfl (.cons rfl (.cons rfl (.cons rfl (.cons rfl (.cons rfl (.cons rfl (.cons rfl (.cons rfl (.cons rfl (.cons rfl CellsAt.nil))))))))))))) rfl (.tmp rfl Outs.nil)) _ .nil (by rw [adE_1 g13']; rfl)
  · have g13' := g13
    try simp only [decide_eq_true_eq, decide_eq_false_iff_not, beq_iff_eq, beq_eq_false_iff_ne, bne_iff_ne, bne_eq_false_iff_eq, Bool.not_eq_true', Bool.not_eq_false', ne_eq, Int.not_lt, Int.not_le, Decidable.not_not] at g13'
    have h9 : evE x = 0 := by omega
    refine run_skip ?_
    refine run_seq ?_
    refine run_seq ?_
    refine run_region ?_
    refine run_q (.none rfl) rfl rfl (q_fieldB (d := 2) rfl Try.underlying30 rfl rfl sz3 rfl) ?_
    refine run_q (.none rfl) rfl rfl (q_loadB rfl one3 rfl (.there (.there Sel.here)) rfl) ?_
    refine run_q (.none rfl) rfl rfl (q_neq rfl rfl rfl) ?_
    refine run_nil ?_
    refine run_sub (subMk (.cons (s := 2) rfl (.cons (s := 3) rfl (.cons (s := 4) rfl (.cons (s := 5) rfl (.cons (s := 18) rfl .nil))))) .refl) ?_
    refine run_cond rfl (fun g18 => ?_) (fun g18 => ?_)
    · have g18' := g18
      try simp only [decide_eq_true_eq, decide_eq_false_iff_not, beq_iff_eq, beq_eq_false_iff_ne, bne_iff_ne, bne_eq_false_iff_eq, Bool.not_eq_true', Bool.not_eq_false', ne_eq, Int.not_lt, Int.not_le, Decidable.not_not] at g18'
      refine run_seq ?_
      refine run_region ?_
      refine run_q (.none rfl) rfl rfl (q_build rfl PV.nil (built30)) ?_
      refine run_h (.none rfl) (h_storeB rfl rfl sz30 rfl rfl rfl rfl rfl Sel.here rfl) ?_
      rintro - -
      refine run_q (.none rfl) rfl rfl (q_assign rfl rfl) ?_
      refine run_nil ?_
      refine run_ret ?_
      exact endG rfl (.cellN rfl agg30 Sel.here (.cons rfl (.cons rfl (.cons rfl (.cons rfl (.cons rfl (.cons rfl (.cons rfl (.cons rfl (.cons rfl (.cons rfl (.cons rfl (.cons rfl (.cons rfl CellsAt.nil))))))))))))) rfl (.tmp rfl Outs.nil)) _ .nil (by rw [adE_2 h9 g18']; rfl)
    · have g18' := g18
      try simp only [decide_eq_true_eq, decide_eq_false_iff_not, beq_iff_eq, beq_eq_false_iff_ne, bne_iff_ne, bne_eq_false_iff_eq, Bool.not_eq_true', Bool.not_eq_false', ne_eq, Int.not_lt, Int.not_le, Decidable.not_not] at g18'
      refine run_skip ?_
      refine run_seq ?_
      refine run_seq ?_
      refine run_region ?_
      refine run_q (.none rfl) rfl rfl (q_loadBN rfl agg53 rfl (.there Sel.here) (.cons rfl (.cons rfl (.cons rfl (.cons rfl (.cons rfl CellsAt.nil))))) rfl) ?_
      refine run_q (.none rfl) rfl rfl (q_call rfl call52 (.cons rfl Evs.nil) (fun w hk hm => well_just h w)) ?_
      refine run_q (.none rfl) rfl rfl (q_assign rfl rfl) ?_
      refine run_nil ?_
      refine run_sub (subMk (.cons (s := 2) rfl (.cons (s := 3) rfl (.cons (s := 4) rfl (.cons (s := 5) rfl (.cons (s := 7) rfl .nil))))) .refl) ?_
      refine run_seq ?_
      refine run_region ?_
      refine run_q (.none rfl) rfl rfl (q_move rfl rfl) ?_
      refine run_q (.none rfl) rfl rfl (q_neq rfl rfl rfl) ?_
      refine run_nil ?_
      refine run_cond rfl (fun g23 => ?_) (fun g23 => ?_)
      · have g23' := g23
        try simp only [decide_eq_true_eq, decide_eq_false_iff_not, beq_iff_eq, beq_eq_false_iff_ne, bne_iff_ne, bne_eq_false_iff_eq, Bool.not_eq_true', Bool.not_eq_false', ne_eq, Int.not_lt, Int.not_le, Decidable.not_not] at g23'
        refine run_seq ?_
        refine run_region ?_
        refine run_q (.none rfl) rfl rfl (q_build rfl PV.nil (built30)) ?_
        refine run_q (.none rfl) rfl rfl (q_move rfl rfl) ?_
        refine run_h (.none rfl) (h_storeB rfl rfl sz30 rfl rfl rfl rfl rfl Sel.here rfl) ?_
        rintro - -
        refine run_q (.none rfl) rfl rfl (q_assign rfl rfl) ?_
        refine run_nil ?_
        refine run_sub (subMk (.cons (s := 2) rfl (.cons (s := 3) rfl (.cons (s := 4) rfl (.cons (s := 5) rfl .nil)))) .refl) ?_
        refine run_ret ?_
        exact endG rfl (.cellN rfl agg30 Sel.here (.cons rfl (.cons rfl (.cons rfl (.cons rfl (.cons rfl (.cons rfl (.cons rfl (.cons rfl (.cons rfl (.cons rfl (.cons rfl (.cons rfl (.cons rfl CellsAt.nil))))))))))))) rfl (.tmp rfl Outs.nil)) _ .nil (by rw [adE_3 h9 g18' g23']; rfl)
      · have g23' := g23
        try simp only [decide_eq_true_eq, decide_eq_false_iff_not, beq_iff_eq, beq_eq_false_iff_ne, bne_iff_ne, bne_eq_false_iff_eq, Bool.not_eq_true', Bool.not_eq_false', ne_eq, Int.not_lt, Int.not_le, Decidable.not_not] at g23'
        refine run_skip ?_
        refine run_seq ?_
        refine run_seq ?_
        refine run_region ?_
        refine run_q (.none rfl) rfl rfl (q_loadBN rfl agg30 rfl (.there (.there Sel.here)) (.cons rfl (.cons rfl (.cons rfl (.cons rfl (.cons rfl (.cons rfl (.cons rfl (.cons rfl (.cons rfl (.cons rfl (.cons rfl (.cons rfl (.cons rfl CellsAt.nil))))))))))))) rfl) ?_
        refine run_q (.none rfl) rfl rfl (q_fieldB (d := 0) rfl Try.underlying53 rfl rfl sz51 rfl) ?_
        refine run_q (.none rfl) rfl rfl (q_loadBN rfl agg51 rfl (.there Sel.here) (.cons rfl (.cons rfl (.cons rfl CellsAt.nil))) rfl) ?_
        refine run_q (.none rfl) rfl rfl (q_call rfl call35 (.cons rfl (.cons rfl Evs.nil)) (fun w hk hm => find_just x p h.step h.alter h.oct w (hx.kept0 hk) fx)) ?_
        refine run_q (.none rfl) rfl rfl (q_move rfl rfl) ?_
        refine run_q (.none rfl) rfl rfl (q_extract rfl rfl rfl) ?_
        refine run_q (.none rfl) rfl rfl (q_extract rfl rfl rfl) ?_
        refine run_q (.none rfl) rfl rfl (q_assign rfl rfl) ?_
        refine run_q (.none rfl) rfl rfl (q_assign rfl rfl) ?_
        refine run_nil ?_
        refine run_sub (subMk (.cons (s := 2) rfl (.cons (s := 3) rfl (.cons (s := 4) rfl (.cons (s := 5) rfl (.cons (s := 9) rfl .nil))))) .refl) ?_
        refine run_seq ?_
        refine run_region ?_
        refine run_q (.none rfl) rfl rfl (q_move rfl rfl) ?_
        refine run_nil ?_
        refine run_cond rfl (fun g33 => ?_) (fun g33 => ?_)
        · have g33' := g33
          try simp only [decide_eq_true_eq, decide_eq_false_iff_not, beq_iff_eq, beq_eq_false_iff_ne, bne_iff_ne, bne_eq_false_iff_eq, Bool.not_eq_true', Bool.not_eq_false', ne_eq, Int.not_lt, Int.not_le, Decidable.not_not] at g33'
          refine run_seq ?_
          refine run_region ?_
          refine run_q (.none rfl) rfl rfl (q_build rfl PV.nil (built30)) ?_
          refine run_h (.none rfl) (h_storeB rfl rfl sz30 rfl rfl rfl rfl rfl Sel.here rfl) ?_
          rintro - -
          refine run_q (.none rfl) rfl rfl (q_assign rfl rfl) ?_
          refine run_nil ?_
          refine run_sub (subMk (.cons (s := 2) rfl (.cons (s := 3) rfl (.cons (s := 4) rfl (.cons (s := 5) rfl .nil)))) .refl) ?_
          refine run_ret ?_
          exact endG rfl (.cellN rfl agg30 Sel.here (.cons rfl (.cons rfl (.cons rfl (.cons rfl (.cons rfl (.cons rfl (.cons rfl (.cons rfl (.cons rfl (.cons rfl (.cons rfl (.cons rfl (.cons rfl CellsAt.nil))))))))))))) rfl (.tmp rfl Outs.nil)) _ .nil (by rw [adE_4 h9 g18' (by omega) g33]; rfl)
        · have g33' := g33
          try simp only [decide_eq_true_eq, decide_eq_false_iff_not, beq_iff_eq, beq_eq_false_iff_ne, bne_iff_ne, bne_eq_false_iff_eq, Bool.not_eq_true', Bool.not_eq_false', ne_eq, Int.not_lt, Int.not_le, Decidable.not_not] at g33'
          refine run_skip ?_
          refine run_seq ?_
          refine run_seq ?_
          refine run_region ?_
          refine run_q (.none rfl) rfl rfl (q_fieldB (d := 5) rfl Try.underlying30 rfl rfl sz26 rfl) ?_
          refine run_q (.none rfl) rfl rfl (q_loadB rfl one26 rfl (.there (.there Sel.here)) rfl) ?_
          refine run_q (.none rfl) rfl rfl (q_len rfl Try.underlying26 rfl) ?_
          refine run_q (.none rfl) rfl rfl (q_eql rfl rfl rfl) ?_
          refine run_nil ?_
          refine run_sub (subMk (.cons (s := 2) rfl (.cons (s := 3) rfl (.cons (s := 4) rfl (.cons (s := 5) rfl (.cons (s := 38) rfl .nil))))) .refl) ?_
          refine run_cond rfl (fun g38 => ?_) (fun g38 => ?_)
          · have g38' := g38
            try simp only [decide_eq_true_eq, decide_eq_false_iff_not, beq_iff_eq, beq_eq_false_iff_ne, bne_iff_ne, bne_eq_false_iff_eq, Bool.not_eq_true', Bool.not_eq_false', ne_eq, Int.not_lt, Int.not_le, Decidable.not_not] at g38'
            refine run_seq ?_
            refine run_region ?_
            refine run_q (.none rfl) rfl rfl (q_build rfl PV.nil (built30)) ?_
            refine run_h (.none rfl) (h_storeB rfl rfl sz30 rfl rfl rfl rfl rfl Sel.here rfl) ?_
            rintro - -
            refine run_q (.none rfl) rfl rfl (q_assign rfl rfl) ?_
            refine run_nil ?_
            refine run_ret ?_
            exact endG rfl (.cellN rfl agg30 Sel.here (.cons rfl (.cons rfl (.cons rfl (.cons rfl (.cons rfl (.cons rfl (.cons rfl (.cons rfl (.cons rfl (.cons rfl (.cons rfl (.cons rfl (.cons rfl CellsAt.nil))))))))))))) rfl (.tmp rfl Outs.nil)) _ .nil (by rw [adE_5 h9 g18' (by omega) g33 (by omega)]; rfl)
          · have g38' := g38
            try simp only [decide_eq_true_eq, decide_eq_false_iff_not, beq_iff_eq, beq_eq_false_iff_ne, bne_iff_ne, bne_eq_false_iff_eq, Bool.not_eq_true', Bool.not_eq_false', ne_eq, Int.not_lt, Int.not_le, Decidable.not_not] at g38'
            refine run_skip ?_
            refine run_seq ?_
            exact absurd (adE_6 h9 g18' (by omega) g33 (by omega)) he

set_option maxHeartbeats 2000000 in
set_option maxRecDepth 100000 in
theorem add_ret0 (x : Evt) (p : Lie) (h : Hd) (W : World) (hx : RdE W x p) (fx : x.few) (he : adE x h = 0) : Calls Try.prog 43 #[evV x p, h.val] W (Ret W nX (fun v m => ∃ q : Lie, v = .tuple #[evV (canE (addX x h)) q, .int .i64 0] ∧ m = [.own 53 5 q.HA (canE (addX x h)).hs.length q.hc ((canE (addX x h)).hs.map Hd.enc), .own 55 5 q.GA (canE (addX x h)).gs.length q.gc ((canE (addX x h)).gs.map Gr.enc), .own 57 2 q.LA (canE (addX x h)).ls.length q.lc ((canE (addX x h)).ls.map Syl.enc)])) := by
  obtain ⟨fx1, fx2, fx3, fx4⟩ := id fx
  obtain ⟨h2, h3, h4, h5, h6⟩ := adE_ok he
  obtain ⟨q1, q2, q3, q4, q5, hce⟩ := add_facts he
  refine enterA (X := nX) (vs := [evV x p, h.val]) Try.func43 Try.ntmps43 rfl rfl Mem.nil ?_
  refine run_seq ?_
  refine run_region ?_
  refine run_h (.none rfl) (h_box rfl rfl rfl rfl rfl) ?_
  rintro b2 -
  refine run_h (.none rfl) (h_box rfl rfl rfl rfl rfl) ?_
  rintro b3 -
  refine run_h (.none rfl) (h_alloc rfl rfl rfl info30) ?_
  rintro b4 -
  refine run_q (.none rfl) rfl rfl (q_assign rfl rfl) ?_
  refine run_nil ?_
  refine run_seq ?_
  refine run_seq ?_
  refine run_region ?_
  refine run_q (.none rfl) rfl rfl (q_loadBN rfl agg30 rfl (.there (.there Sel.here)) (.cons rfl (.cons rfl (.cons rfl (.cons rfl (.cons rfl (.cons rfl (.cons rfl (.cons rfl (.cons rfl (.cons rfl (.cons rfl (.cons rfl (.cons rfl CellsAt.nil))))))))))))) rfl) ?_
  refine run_q (.none rfl) rfl rfl (q_call rfl call15 (.cons rfl Evs.nil) (fun w hk hm => evCheck_just x p w (hx.kept0 hk) fx)) ?_
  refine run_q (.none rfl) rfl rfl (q_assign rfl rfl) ?_
  refine run_nil ?_
  refine run_sub (subMk (.cons (s := 2) rfl (.cons (s := 3) rfl (.cons (s := 4) rfl (.cons (s := 5) rfl (.cons (s := 6) rfl .nil))))) .refl) ?_
  refine run_seq ?_
  refine run_region ?_
  refine run_q (.none rfl) rfl rfl (q_move rfl rfl) ?_
  refine run_q (.none rfl) rfl rfl (q_neq rfl rfl rfl) ?_
  refine run_nil ?_
  refine run_condF rfl (by rw [h2]; rfl) ?_
  refine run_skip ?_
  refine run_seq ?_
  refine run_seq ?_
  refine run_region ?_
  refine run_q (.none rfl) rfl rfl (q_fieldB (d := 2) rfl Try.underlying30 rfl rfl sz3 rfl) ?_
  refine run_q (.none rfl) rfl rfl (q_loadB rfl one3 rfl (.there (.there Sel.here)) rfl) ?_
  refine run_q (.none rfl) rfl rfl (q_neq rfl rfl rfl) ?_
  refine run_nil ?_
  refine run_sub (subMk (.cons (s := 2) rfl (.cons (s := 3) rfl (.cons (s := 4) rfl (.cons (s := 5) rfl (.cons (s := 18) rfl .nil))))) .refl) ?_
  refine run_condF rfl (by rw [h3]; rfl) ?_
  refine run_skip ?_
  refine run_seq ?_
  refine run_seq ?_
  refine run_region ?_
  refine run_q (.none rfl) rfl rfl (q_loadBN rfl agg53 rfl (.there Sel.here) (.cons rfl (.cons rfl (.cons rfl (.cons rfl (.cons rfl CellsAt.nil))))) rfl) ?_
  refine run_q (.none rfl) rfl rfl (q_call rfl call52 (.cons rfl Evs.nil) (fun w hk hm => well_just h w)) ?_
  refine run_q (.none rfl) rfl rfl (q_assign rfl rfl) ?_
  refine run_nil ?_
  refine run_sub (subMk (.cons (s := 2) rfl (.cons (s := 3) rfl (.cons (s := 4) rfl (.cons (s := 5) rfl (.cons (s := 7) rfl .nil))))) .refl) ?_
  refine run_seq ?_
  refine run_region ?_
  refine run_q (.none rfl) rfl rfl (q_move rfl rfl) ?_
  refine run_q (.none rfl) rfl rfl (q_neq rfl rfl rfl) ?_
  refine run_nil ?_
  refine run_condF rfl (by rw [h4]; rfl) ?_
  refine run_skip ?_
  refine run_seq ?_
  refine run_seq ?_
  refine run_region ?_
  refine run_q (.none rfl) rfl rfl (q_loadBN rfl agg30 rfl (.there (.there Sel.here)) (.cons rfl (.cons rfl (.cons rfl (.cons rfl (.cons rfl (.cons rfl (.cons rfl (.cons rfl (.cons rfl (.cons rfl (.cons rfl (.cons rfl (.cons rfl CellsAt.nil))))))))))))) rfl) ?_
  refine run_q (.none rfl) rfl rfl (q_fieldB (d := 0) rfl Try.underlying53 rfl rfl sz51 rfl) ?_
  refine run_q (.none rfl) rfl rfl (q_loadBN rfl agg51 rfl (.there Sel.here) (.cons rfl (.cons rfl (.cons rfl CellsAt.nil))) rfl) ?_
  refine run_q (.none rfl) rfl rfl (q_call rfl call35 (.cons rfl (.cons rfl Evs.nil)) (fun w hk hm => find_just x p h.step h.alter h.oct w (hx.kept0 hk) fx)) ?_
  refine run_q (.none rfl) rfl rfl (q_move rfl rfl) ?_
  refine run_q (.none rfl) rfl rfl (q_extract rfl rfl rfl) ?_
  refine run_q (.none rfl) rfl rfl (q_extract rfl rfl rfl) ?_
  refine run_q (.none rfl) rfl rfl (q_assign rfl rfl) ?_
  refine run_q (.none rfl) rfl rfl (q_assign rfl rfl) ?_
  refine run_nil ?_
  refine run_sub (subMk (.cons (s := 2) rfl (.cons (s := 3) rfl (.cons (s := 4) rfl (.cons (s := 5) rfl (.cons (s := 9) rfl .nil))))) .refl) ?_
  refine run_seq ?_
  refine run_region ?_
  refine run_q (.none rfl) rfl rfl (q_move rfl rfl) ?_
  refine run_nil ?_
  refine run_condF rfl h5 ?_
  refine run_skip ?_
  refine run_seq ?_
  refine run_seq ?_
  refine run_region ?_
  refine run_q (.none rfl) rfl rfl (q_fieldB (d := 5) rfl Try.underlying30 rfl rfl sz26 rfl) ?_
  refine run_q (.none rfl) rfl rfl (q_loadB rfl one26 rfl (.there (.there Sel.here)) rfl) ?_
  refine run_q (.none rfl) rfl rfl (q_len rfl Try.underlying26 rfl) ?_
  refine run_q (.none rfl) rfl rfl (q_eql rfl rfl rfl) ?_
  refine run_nil ?_
  refine run_sub (subMk (.cons (s := 2) rfl (.cons (s := 3) rfl (.cons (s := 4) rfl (.cons (s := 5) rfl (.cons (s := 38) rfl .nil))))) .refl) ?_
  refine run_condF rfl (beq_false_of_ne (by omega)) ?_
  refine run_skip ?_
  refine run_seq ?_
  refine run_fork mixed (by kernel_rfl) (Sel.rest (.there (.there Sel.here))) ?_
  refine b_q (i := 0) rfl (by kernel_rfl) (.none rfl) rfl rfl (q_fieldB (d := 5) rfl Try.underlying30 rfl rfl sz26 rfl) ?_
  refine b_q (i := 3) rfl (by kernel_rfl) (.none rfl) rfl rfl (q_loadBN rfl agg53 rfl (.there Sel.here) (.cons rfl (.cons rfl (.cons rfl (.cons rfl (.cons rfl CellsAt.nil))))) rfl) ?_
  refine b_two 1 4 (by kernel_rfl) ?_ ?_
  · refine b_h rfl (.none rfl) (.of_q rfl rfl (q_loadB rfl one26 rfl (.there (.there Sel.here)) rfl)) (fun _ _ => (.sub (.cons_cons _ (.cons_cons _ (.cons _ .slnil))))) ?_
    rintro - -
    refine b_two 2 4 (by kernel_rfl) ?_ ?_
    · refine b_h rfl (.none rfl) (h_call rfl rfl rfl call64 (.cons rfl Evs.nil) (fun w hk hm => cloneH x.hs p.HA p.hc w (hx.h.kept0 hk) (by omega))) (fun _ _ => (.sub (.trans (.cons_cons _ (.cons_cons _ (.cons _ .slnil))) (List.sublist_append_right _ _)))) ?_
      rintro ⟨v, m⟩ ⟨O42, c42, rfl, rfl⟩
      show RunB _ _ _ _ _ _ _ _ _ _ _ ⟨(42, .slice O42 x.hs.length c42) :: _, _ :: _⟩
      refine b_one 4 (by kernel_rfl) ?_
      refine b_h rfl (.none rfl) (h_buildSlice rfl rfl rfl Try.underlying26 info53 (.cons rfl rfl rfl rfl Parts.nil) rfl (by omega)) (fun _ _ => (.sub (.cons _ (.cons _ (.cons_cons _ (.cons_cons _ (.cons _ .slnil))))))) ?_
      rintro b44 -
      refine b_one 5 (by kernel_rfl) ?_
      refine b_h rfl (.none rfl) (h_append rfl rfl rfl Try.underlying26 info53 rfl rfl (.there Sel.here) rfl (.own Sel.here) rfl (all1 rfl) (all1 rfl) (by omega) (by omega)) (fun _ _ => (.sub (.cons _ (.cons _ (.cons_cons _ (.cons_cons _ (.cons _ .slnil))))))) ?_
      rintro ⟨A45, c45⟩ -
      refine b_q (i := 6) rfl (by kernel_rfl) (.none rfl) rfl rfl (q_fieldB (d := 5) rfl Try.underlying30 rfl rfl sz26 rfl) ?_
      refine b_one 7 (by kernel_rfl) ?_
      refine b_h rfl (.none rfl) (h_storeB rfl rfl sz26 rfl rfl rfl rfl rfl (.there (.there (.there (.there Sel.here)))) rfl) (fun _ _ => (.sub (.cons _ (.cons _ (.cons _ (.cons_cons _ (.cons_cons _ .slnil))))))) ?_
      rintro - -
      refine b_nil (by kernel_rfl) ?_
      refine run_sub (subMk (.cons (s := 2) rfl (.cons (s := 4) rfl (.cons (s := 5) rfl .nil))) .refl) ?_
      refine run_seq ?_
      refine run_sub (subMk .refl (.cons Sel.here (.blk (.cons (s := 0) rfl (.cons (s := 1) rfl (.cons (s := 2) rfl (.cons (s := 3) rfl (.cons (s := 4) rfl (.cons' (s := 5) (v' := .slice A45 (addX x h).hs.length c45) rfl (by congr 1; simp [addX]) (.cons (s := 6) rfl (.cons (s := 7) rfl (.cons (s := 8) rfl (.cons (s := 9) rfl (.cons (s := 10) rfl (.cons (s := 11) rfl (.cons (s := 12) rfl (.nil))))))))))))))) (.cons Sel.here (.own (m' := (addX x h).hs.length) (xs' := (addX x h).hs.map Hd.enc) rfl (by simp [addX]) rfl (by simp [addX, Hd.enc, vlist])) (.cons Sel.here .refl (.cons Sel.here .refl (.cons Sel.here .refl .nil)))))) ?_
      refine run_region ?_
      refine run_q (.none rfl) rfl rfl (q_loadBN rfl agg30 rfl Sel.here (.cons rfl (.cons rfl (.cons rfl (.cons rfl (.cons rfl (.cons rfl (.cons rfl (.cons rfl (.cons rfl (.cons rfl (.cons rfl (.cons rfl (.cons rfl CellsAt.nil))))))))))))) rfl) ?_
      refine run_h (.none rfl) (h_call rfl rfl rfl call24 (.cons rfl Evs.nil) (fun w hk hm => canonical_ret (addX x h) (Lie.mk A45 c45 p.GA p.gc p.LA p.lc) w ⟨(own_rd ((Sel.there Sel.here).holds hm)), hx.g.kept0 hk, hx.l.kept0 hk⟩ (addX_few fx (by omega)) (by show (x.hs ++ [h]).length ≤ 20; rw [List.length_append, List.length_singleton]; omega))) ?_
      rintro ⟨v, m⟩ ⟨q, rfl, rfl⟩
      show Run _ _ _ _ _ _ _ ⟨(48, evV (canE (addX x h)) q) :: _, _ :: _ :: _ :: _⟩
      refine run_h (.none rfl) (h_storeB rfl rfl sz30 rfl rfl rfl rfl rfl (.there (.there (.there (.there (.there (.there Sel.here)))))) rfl) ?_
      rintro - -
      refine run_q (.none rfl) rfl rfl (q_assign rfl rfl) ?_
      refine run_nil ?_
      refine run_sub (subMk (.cons (s := 4) rfl (.cons (s := 5) rfl .nil)) .refl) ?_
      refine run_ret ?_
      exact endG rfl (.cellN rfl agg30 Sel.here (.cons rfl (.cons rfl (.cons rfl (.cons rfl (.cons rfl (.cons rfl (.cons rfl (.cons rfl (.cons rfl (.cons rfl (.cons rfl (.cons rfl (.cons rfl CellsAt.nil))))))))))))) rfl (.tmp rfl Outs.nil)) _ (.cons (.there Sel.here) .refl (.cons (.there Sel.here) .refl (.cons (.there Sel.here) .refl .nil))) ⟨q, rfl, rfl⟩
    · refine b_h rfl (.none rfl) (h_buildSlice rfl rfl rfl Try.underlying26 info53 (.cons rfl rfl rfl rfl Parts.nil) rfl (by omega)) (fun _ _ => (.sub (.cons _ (.cons_cons _ (.cons_cons _ (.cons _ .slnil)))))) ?_
      rintro b44 -
      refine b_one 2 (by kernel_rfl) ?_
      refine b_h rfl (.none rfl) (h_call rfl rfl rfl call64 (.cons rfl Evs.nil) (fun w hk hm => cloneH x.hs p.HA p.hc w (hx.h.kept0 hk) (by omega))) (fun _ _ => (.sub (.trans (.cons _ (.cons_cons _ (.cons_cons _ (.cons _ .slnil)))) (List.sublist_append_right _ _)))) ?_
      rintro ⟨v, m⟩ ⟨O42, c42, rfl, rfl⟩
      show RunB _ _ _ _ _ _ _ _ _ _ _ ⟨(42, .slice O42 x.hs.length c42) :: _, _ :: _⟩
      refine b_one 5 (by kernel_rfl) ?_
      refine b_h rfl (.none rfl) (h_append rfl rfl rfl Try.underlying26 info53 rfl rfl Sel.here rfl (.own (.there Sel.here)) rfl (all1 rfl) (all1 rfl) (by omega) (by omega)) (fun _ _ => (.sub (.cons _ (.cons _ (.cons_cons _ (.cons_cons _ (.cons _ .slnil))))))) ?_
      rintro ⟨A45, c45⟩ -
      refine b_q (i := 6) rfl (by kernel_rfl) (.none rfl) rfl rfl (q_fieldB (d := 5) rfl Try.underlying30 rfl rfl sz26 rfl) ?_
      refine b_one 7 (by kernel_rfl) ?_
      refine b_h rfl (.none rfl) (h_storeB rfl rfl sz26 rfl rfl rfl rfl rfl (.there (.there (.there (.there Sel.here)))) rfl) (fun _ _ => (.sub (.cons _ (.cons _ (.cons _ (.cons_cons _ (.cons_cons _ .slnil))))))) ?_
      rintro - -
      refine b_nil (by kernel_rfl) ?_
      refine run_sub (subMk (.cons (s := 2) rfl (.cons (s := 4) rfl (.cons (s := 5) rfl .nil))) .refl) ?_
      refine run_seq ?_
      refine run_sub (subMk .refl (.cons Sel.here (.blk (.cons (s := 0) rfl (.cons (s := 1) rfl (.cons (s := 2) rfl (.cons (s := 3) rfl (.cons (s := 4) rfl (.cons' (s := 5) (v' := .slice A45 (addX x h).hs.length c45) rfl (by congr 1; simp [addX]) (.cons (s := 6) rfl (.cons (s := 7) rfl (.cons (s := 8) rfl (.cons (s := 9) rfl (.cons (s := 10) rfl (.cons (s := 11) rfl (.cons (s := 12) rfl (.nil))))))))))))))) (.cons Sel.here (.own (m' := (addX x h).hs.length) (xs' := (addX x h).hs.map Hd.enc) rfl (by simp [addX]) rfl (by simp [addX, Hd.enc, vlist])) (.cons Sel.here .refl (.cons Sel.here .refl (.cons Sel.here .refl .nil)))))) ?_
      refine run_region ?_
      refine run_q (.none rfl) rfl rfl (q_loadBN rfl agg30 rfl Sel.here (.cons rfl (.cons rfl (.cons rfl (.cons rfl (.cons rfl (.cons rfl (.cons rfl (.cons rfl (.cons rfl (.cons rfl (.cons rfl (.cons rfl (.cons rfl CellsAt.nil))))))))))))) rfl) ?_
      refine run_h (.none rfl) (h_call rfl rfl rfl call24 (.cons rfl Evs.nil) (fun w hk hm => canonical_ret (addX x h) (Lie.mk A45 c45 p.GA p.gc p.LA p.lc) w ⟨(own_rd ((Sel.there Sel.here).holds hm)), hx.g.kept0 hk, hx.l.kept0 hk⟩ (addX_few fx (by omega)) (by show (x.hs ++ [h]).length ≤ 20; rw [List.length_append, List.length_singleton]; omega))) ?_
      rintro ⟨v, m⟩ ⟨q, rfl, rfl⟩
      show Run _ _ _ _ _ _ _ ⟨(48, evV (canE (addX x h)) q) :: _, _ :: _ :: _ :: _⟩
      refine run_h (.none rfl) (h_storeB rfl rfl sz30 rfl rfl rfl rfl rfl (.there (.there (.there (.there (.there (.there Sel.here)))))) rfl) ?_
      rintro - -
      refine run_q (.none rfl) rfl rfl (q_assign rfl rfl) ?_
      refine run_nil ?_
      refine run_sub (subMk (.cons (s := 4) rfl (.cons (s := 5) rfl .nil)) .refl) ?_
      refine run_ret ?_
      exact endG rfl (.cellN rfl agg30 Sel.here (.cons rfl (.cons rfl (.cons rfl (.cons rfl (.cons rfl (.cons rfl (.cons rfl (.cons rfl (.cons rfl (.cons rfl (.cons rfl (.cons rfl (.cons rfl CellsAt.nil))))))))))))) rfl (.tmp rfl Outs.nil)) _ (.cons (.there Sel.here) .refl (.cons (.there Sel.here) .refl (.cons (.there Sel.here) .refl .nil))) ⟨q, rfl, rfl⟩
  · refine b_h rfl (.none rfl) (h_buildSlice rfl rfl rfl Try.underlying26 info53 (.cons rfl rfl rfl rfl Parts.nil) rfl (by omega)) (fun _ _ => (.sub (.cons _ (.cons_cons _ (.cons_cons _ (.cons _ .slnil)))))) ?_
    rintro b44 -
    refine b_one 1 (by kernel_rfl) ?_
    refine b_h rfl (.none rfl) (.of_q rfl rfl (q_loadB rfl one26 rfl (.there (.there (.there Sel.here))) rfl)) (fun _ _ => (.sub (.cons _ (.cons_cons _ (.cons_cons _ (.cons _ .slnil)))))) ?_
    rintro - -
    refine b_one 2 (by kernel_rfl) ?_
    refine b_h rfl (.none rfl) (h_call rfl rfl rfl call64 (.cons rfl Evs.nil) (fun w hk hm => cloneH x.hs p.HA p.hc w (hx.h.kept0 hk) (by omega))) (fun _ _ => (.sub (.trans (.cons _ (.cons_cons _ (.cons_cons _ (.cons _ .slnil)))) (List.sublist_append_right _ _)))) ?_
    rintro ⟨v, m⟩ ⟨O42, c42, rfl, rfl⟩
    show RunB _ _ _ _ _ _ _ _ _ _ _ ⟨(42, .slice O42 x.hs.length c42) :: _, _ :: _⟩
    refine b_one 5 (by kernel_rfl) ?_
    refine b_h rfl (.none rfl) (h_append rfl rfl rfl Try.underlying26 info53 rfl rfl Sel.here rfl (.own (.there Sel.here)) rfl (all1 rfl) (all1 rfl) (by omega) (by omega)) (fun _ _ => (.sub (.cons _ (.cons _ (.cons_cons _ (.cons_cons _ (.cons _ .slnil))))))) ?_
    rintro ⟨A45, c45⟩ -
    refine b_q (i := 6) rfl (by kernel_rfl) (.none rfl) rfl rfl (q_fieldB (d := 5) rfl Try.underlying30 rfl rfl sz26 rfl) ?_
    refine b_one 7 (by kernel_rfl) ?_
    refine b_h rfl (.none rfl) (h_storeB rfl rfl sz26 rfl rfl rfl rfl rfl (.there (.there (.there (.there Sel.here)))) rfl) (fun _ _ => (.sub (.cons _ (.cons _ (.cons _ (.cons_cons _ (.cons_cons _ .slnil))))))) ?_
    rintro - -
    refine b_nil (by kernel_rfl) ?_
    refine run_sub (subMk (.cons (s := 2) rfl (.cons (s := 4) rfl (.cons (s := 5) rfl .nil))) .refl) ?_
    refine run_seq ?_
    refine run_sub (subMk .refl (.cons Sel.here (.blk (.cons (s := 0) rfl (.cons (s := 1) rfl (.cons (s := 2) rfl (.cons (s := 3) rfl (.cons (s := 4) rfl (.cons' (s := 5) (v' := .slice A45 (addX x h).hs.length c45) rfl (by congr 1; simp [addX]) (.cons (s := 6) rfl (.cons (s := 7) rfl (.cons (s := 8) rfl (.cons (s := 9) rfl (.cons (s := 10) rfl (.cons (s := 11) rfl (.cons (s := 12) rfl (.nil))))))))))))))) (.cons Sel.here (.own (m' := (addX x h).hs.length) (xs' := (addX x h).hs.map Hd.enc) rfl (by simp [addX]) rfl (by simp [addX, Hd.enc, vlist])) (.cons Sel.here .refl (.cons Sel.here .refl (.cons Sel.here .refl .nil)))))) ?_
    refine run_region ?_
    refine run_q (.none rfl) rfl rfl (q_loadBN rfl agg30 rfl Sel.here (.cons rfl (.cons rfl (.cons rfl (.cons rfl (.cons rfl (.cons rfl (.cons rfl (.cons rfl (.cons rfl (.cons rfl (.cons rfl (.cons rfl (.cons rfl CellsAt.nil))))))))))))) rfl) ?_
    refine run_h (.none rfl) (h_call rfl rfl rfl call24 (.cons rfl Evs.nil) (fun w hk hm => canonical_ret (addX x h) (Lie.mk A45 c45 p.GA p.gc p.LA p.lc) w ⟨(own_rd ((Sel.there Sel.here).holds hm)), hx.g.kept0 hk, hx.l.kept0 hk⟩ (addX_few fx (by omega)) (by show (x.hs ++ [h]).length ≤ 20; rw [List.length_append, List.length_singleton]; omega))) ?_
    rintro ⟨v, m⟩ ⟨q, rfl, rfl⟩
    show Run _ _ _ _ _ _ _ ⟨(48, evV (canE (addX x h)) q) :: _, _ :: _ :: _ :: _⟩
    refine run_h (.none rfl) (h_storeB rfl rfl sz30 rfl rfl rfl rfl rfl (.there (.there (.there (.there (.there (.there Sel.here)))))) rfl) ?_
    rintro - -
    refine run_q (.none rfl) rfl rfl (q_assign rfl rfl) ?_
    refine run_nil ?_
    refine run_sub (subMk (.cons (s := 4) rfl (.cons (s := 5) rfl .nil)) .refl) ?_
    refine run_ret ?_
    exact endG rfl (.cellN rfl agg30 Sel.here (.cons rfl (.cons rfl (.cons rfl (.cons rfl (.cons rfl (.cons rfl (.cons rfl (.cons rfl (.cons rfl (.cons rfl (.cons rfl (.cons rfl (.cons rfl CellsAt.nil))))))))))))) rfl (.tmp rfl Outs.nil)) _ (.cons (.there Sel.here) .refl (.cons (.there Sel.here) .refl (.cons (.there Sel.here) .refl .nil))) ⟨q, rfl, rfl⟩

theorem add_ret (x : Evt) (p : Lie) (h : Hd) (W : World) (hx : RdE W x p) (fx : x.few) (he : adE x h = 0) : Calls Try.prog 43 #[evV x p, h.val] W (Ret W nX (fun v m => ∃ q : Lie, v = .tuple #[evV (addC x h) q, .int .i64 0] ∧ m = [.own 53 5 q.HA (addC x h).hs.length q.hc ((addC x h).hs.map Hd.enc), .own 55 5 q.GA (addC x h).gs.length q.gc ((addC x h).gs.map Gr.enc), .own 57 2 q.LA (addC x h).ls.length q.lc ((addC x h).ls.map Syl.enc)])) := by
  have h9 := add_ret0 x p h W hx fx he
  rw [(add_facts he).2.2.2.2.2] at h9; exact h9

end Go.Proofs.Ytneadapfoaccmaa
