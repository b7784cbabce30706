/- The reference's canonical form. -/
import Derived.Test.YtneadapfoaccmaaL
import Derived.Test.YtneadapfoaccmaaLaw
set_option linter.unusedSimpArgs false
set_option linter.unusedVariables false
namespace Go.Proofs.Ytneadapfoaccmaa
open Go Go.RowKit Hr



set_option maxHeartbeats 1000000 in
set_option maxRecDepth 100000 in
theorem refcanon_out (x : Evt) (p : Lie) (W : World) (hx : RdE W x p) (fx : x.few) (hk9 : x.n.kind < 1 ∨ 4 < x.n.kind) : Calls Try.prog 26 #[evV x p] W (Hr.Just W (evV (canE x) p)) := by
  obtain ⟨fx1, fx2, fx3, fx4⟩ := id fx
  refine Just.of_ret ?_
  refine enterA (X := nX) (vs := [evV x p]) Try.func26 Try.ntmps26 rfl rfl Mem.nil ?_
  refine run_seq ?_
  refine run_region ?_
  refine run_h (.none rfl) (h_box rfl rfl rfl rfl rfl) ?_
  rintro b1 -
  refine run_h (.none rfl) (h_alloc rfl rfl rfl info30) ?_
  rintro b2 -
  refine run_nil ?_
  refine run_seq ?_
  refine run_seq ?_
  refine run_region ?_
  refine run_q (.none rfl) rfl rfl (q_fieldB (d := 2) rfl Try.underlying30 rfl rfl sz3 rfl) ?_
  refine run_q (.none rfl) rfl rfl (q_loadB rfl one3 rfl (.there Sel.here) rfl) ?_
  refine run_q (.none rfl) rfl rfl (q_call rfl call49 (.cons rfl (.cons rfl (.cons rfl Evs.nil))) (fun w hk hm => in_just _ _ _ w)) ?_
  refine run_q (.none rfl) rfl rfl (q_not rfl rfl) ?_
  refine run_nil ?_
  refine run_sub (subMk (.cons (s := 1) rfl (.cons (s := 2) rfl (.cons (s := 9) rfl .nil))) .refl) ?_
  refine run_condT rfl (by rw [decide_eq_false (by omega)]; rfl) ?_
  refine run_seq ?_
  refine run_region ?_
  refine run_q (.none rfl) rfl rfl (q_loadBN rfl agg30 rfl (.there Sel.here) (.cons rfl (.cons rfl (.cons rfl (.cons rfl (.cons rfl (.cons rfl (.cons rfl (.cons rfl (.cons rfl (.cons rfl (.cons rfl (.cons rfl (.cons rfl CellsAt.nil))))))))))))) rfl) ?_
  refine run_h (.none rfl) (h_storeB rfl rfl sz30 rfl rfl rfl rfl rfl Sel.here rfl) ?_
  rintro - -
  refine run_nil ?_
  refine run_ret ?_
  exact endG rfl (.cellN rfl agg30 Sel.here (.cons rfl (.cons rfl (.cons rfl (.cons rfl (.cons rfl (.cons rfl (.cons rfl (.cons rfl (.cons rfl (.cons rfl (.cons rfl (.cons rfl (.cons rfl CellsAt.nil))))))))))))) rfl Outs.nil) _ .nil (by rw [canE_out hk9]; rfl)

set_option maxHeartbeats 4000000 in
set_option maxRecDepth 100000 in
theorem refcanon_in (x : Evt) (p : Lie) (W : World) (hx : RdE W x p) (fx : x.few) (hk9 : 1 ≤ x.n.kind ∧ x.n.kind ≤ 4) (hlc : x.ls.length ≤ p.lc) : Calls Try.prog 26 #[evV x p] W (Ret W nX (fun v m => ∃ O co, v = evV (canE x) ⟨O, co, (stripP x p).GA, (stripP x p).gc, (stripP x p).LA, (stripP x p).lc⟩ ∧ m = [.own 53 5 O (canE x).hs.length co ((canE x).hs.map Hd.enc)])) := by
  obtain ⟨fx1, fx2, fx3, fx4⟩ := id fx
  have hxs := hx.strip
  have fs := fx.strip
  obtain ⟨fs1, fs2, fs3, fs4⟩ := id fs
  have hcs : x.n.kind = 1 ∨ bare x.n.kind := by unfold bare; omega
  have hlcs := strip_lc hlc
  refine enterA (X := nX) (vs := [evV x p]) Try.func26 Try.ntmps26 rfl rfl Mem.nil ?_
  refine run_seq ?_
  refine run_region ?_
  refine run_h (.none rfl) (h_box rfl rfl rfl rfl rfl) ?_
  rintro b1 -
  refine run_h (.none rfl) (h_alloc rfl rfl rfl info30) ?_
  rintro b2 -
  refine run_nil ?_
  refine run_seq ?_
  refine run_seq ?_
  refine run_region ?_
  refine run_q (.none rfl) rfl rfl (q_fieldB (d := 2) rfl Try.underlying30 rfl rfl sz3 rfl) ?_
  refine run_q (.none rfl) rfl rfl (q_loadB rfl one3 rfl (.there Sel.here) rfl) ?_
  refine run_q (.none rfl) rfl rfl (q_call rfl call49 (.cons rfl (.cons rfl (.cons rfl Evs.nil))) (fun w hk hm => in_just _ _ _ w)) ?_
  refine run_q (.none rfl) rfl rfl (q_not rfl rfl) ?_
  refine run_nil ?_
  refine run_sub (subMk (.cons (s := 1) rfl (.cons (s := 2) rfl (.cons (s := 9) rfl .nil))) .refl) ?_
  refine run_condF rfl (by rw [decide_eq_true hk9]; rfl) ?_
  refine run_skip ?_
  refine run_seq ?_
  refine run_region ?_
  refine run_q (.none rfl) rfl rfl (q_loadBN rfl agg30 rfl (.there Sel.here) (.cons rfl (.cons rfl (.cons rfl (.cons rfl (.cons rfl (.cons rfl (.cons rfl (.cons rfl (.cons rfl (.cons rfl (.cons rfl (.cons rfl (.cons rfl CellsAt.nil))))))))))))) rfl) ?_
  refine run_q (.none rfl) rfl rfl (q_call rfl call50 (.cons rfl Evs.nil) (fun w hk hm => refstrip_just x p w (hx.kept0 hk) fx)) ?_
  refine run_h (.none rfl) (h_alloc rfl rfl rfl info30) ?_
  rintro b3 -
  refine run_h (.none rfl) (h_storeB rfl rfl sz30 rfl rfl rfl rfl rfl Sel.here rfl) ?_
  rintro - -
  refine run_nil ?_
  refine run_sub (subMk (.cons (s := 1) rfl (.cons (s := 2) rfl (.cons (s := 3) rfl .nil))) .refl) ?_
  refine run_seq ?_
  refine run_region ?_
  refine run_q (.none rfl) rfl rfl (q_fieldB (d := 5) rfl Try.underlying30 rfl rfl sz26 rfl) ?_
  refine run_h (.none rfl) (h_storeB rfl rfl sz26 rfl rfl rfl rfl rfl Sel.here rfl) ?_
  rintro - -
  refine run_nil ?_
  refine run_seq ?_
  refine run_seq ?_
  refine run_region ?_
  refine run_q (.none rfl) rfl rfl (q_assign rfl rfl) ?_
  refine run_nil ?_
  refine run_block ?_
  refine run_sub (subMk .refl (MemSub.nilOwn 53 5)) ?_
  refine run_sub (subMk (.cons (s := 4) rfl (.cons (s := 1) rfl (.cons (s := 2) rfl (.cons (s := 3) rfl .nil)))) (.cons (.there Sel.here) .refl (.cons Sel.here .refl (.cons Sel.here .refl (.cons Sel.here .refl .nil))))) ?_
  refine run_loopC1M2 (ι := Nat × (Option Addr) × Nat) (fun gg => gg.1 ≤ 128 ∧ True) (fun gg => .int .i64 (gg.1 : Int)) (fun gg => .blk b3 30 [(0, .int .i64 (stripE x).n.site), (1, .int .i64 (stripE x).n.num), (2, .int .i64 (stripE x).n.kind), (3, .int .i64 (stripE x).n.log), (4, .int .i64 (stripE x).n.dots), (5, .slice gg.2.1 (refH (stripE x).hs gg.1).length gg.2.2), (6, .slice (stripP x p).GA (stripE x).gs.length (stripP x p).gc), (7, .int .i64 (stripE x).n.art), (8, .int .i64 (stripE x).n.orn), (9, .int .i64 (stripE x).n.dyn), (10, .slice (stripP x p).LA (stripE x).ls.length (stripP x p).lc), (11, .int .i64 (stripE x).n.stem), (12, .int .i64 (stripE x).n.beam)]) (fun gg => .own 53 5 gg.2.1 (refH (stripE x).hs gg.1).length gg.2.2 ((refH (stripE x).hs gg.1).map Hd.enc)) (fun gg => 128 - gg.1) (0, none, 0) (by (try dsimp only); exact ⟨by omega, trivial⟩) rfl (.blk (.cons (s := 0) rfl (.cons (s := 1) rfl (.cons (s := 2) rfl (.cons (s := 3) rfl (.cons (s := 4) rfl (.cons (s := 5) rfl (.cons (s := 6) rfl (.cons (s := 7) rfl (.cons (s := 8) rfl (.cons (s := 9) rfl (.cons (s := 10) rfl (.cons (s := 11) rfl (.cons (s := 12) rfl (.nil))))))))))))))) (.own rfl rfl rfl rfl) ?_
  rintro ⟨n, O, co⟩ hq
  (try dsimp only at hq)
  obtain ⟨hn, -⟩ := hq
  show Run _ _ _ _ _ _ _ ⟨(4, .int .i64 (n : Int)) :: _, .blk b3 30 [(0, .int .i64 (stripE x).n.site), (1, .int .i64 (stripE x).n.num), (2, .int .i64 (stripE x).n.kind), (3, .int .i64 (stripE x).n.log), (4, .int .i64 (stripE x).n.dots), (5, .slice O (refH (stripE x).hs n).length co), (6, .slice (stripP x p).GA (stripE x).gs.length (stripP x p).gc), (7, .int .i64 (stripE x).n.art), (8, .int .i64 (stripE x).n.orn), (9, .int .i64 (stripE x).n.dyn), (10, .slice (stripP x p).LA (stripE x).ls.length (stripP x p).lc), (11, .int .i64 (stripE x).n.stem), (12, .int .i64 (stripE x).n.beam)] :: .own 53 5 O (refH (stripE x).hs n).length co ((refH (stripE x).hs n).map Hd.enc) :: _⟩
  refine run_seq ?_
  refine run_seq ?_
  refine run_region ?_
  refine run_q (.none rfl) rfl rfl (q_move rfl rfl) ?_
  refine run_q (.none rfl) rfl rfl (q_lss rfl rfl rfl) ?_
  refine run_nil ?_
  refine run_cond rfl (fun g15 => ?_) (fun g15 => ?_)
  · have g15' := g15
    try simp only [decide_eq_true_eq, decide_eq_false_iff_not, beq_iff_eq, beq_eq_false_iff_ne, bne_iff_ne, bne_eq_false_iff_eq, Bool.not_eq_true', Bool.not_eq_false', ne_eq, Int.not_lt, Int.not_le, Decidable.not_not] at g15'
    have hrl := refH_len (stripE x).hs n
    refine run_skip ?_
    refine run_seq ?_
    refine run_block ?_
    refine run_seq ?_
    refine run_region ?_
    refine run_q (.none rfl) rfl rfl (q_assign rfl rfl) ?_
    refine run_nil ?_
    refine run_block ?_
    refine run_sub (subMk (.cons (s := 5) rfl (.cons (s := 1) rfl (.cons (s := 2) rfl (.cons (s := 3) rfl (.cons (s := 4) rfl .nil))))) (.cons Sel.here .refl (.cons Sel.here .refl (.cons Sel.here .refl (.cons Sel.here .refl .nil))))) ?_
    refine run_loopC1M0 (ι := Nat) (fun i => i ≤ x.hs.length ∧ Flt.fidx (numIs (n : Int)) x.hs = i + Flt.fidx (numIs (n : Int)) (x.hs.drop i)) (fun i => .int .i64 (i : Int))  (fun i => x.hs.length - i) 0 (by (try dsimp only); exact ⟨by omega, by simp⟩) rfl  ?_
    rintro i hq
    (try dsimp only at hq)
    obtain ⟨hi, hE⟩ := hq
    show Run _ _ _ _ _ _ _ ⟨(5, .int .i64 (i : Int)) :: _, _⟩
    refine run_seq ?_
    refine run_seq ?_
    refine run_region ?_
    refine run_q (.none rfl) rfl rfl (q_move rfl rfl) ?_
    refine run_q (.none rfl) rfl rfl (q_fieldB (d := 5) rfl Try.underlying30 rfl rfl sz26 rfl) ?_
    refine run_q (.none rfl) rfl rfl (q_loadB rfl one26 rfl (.there (.there (.there Sel.here))) rfl) ?_
    refine run_q (.none rfl) rfl rfl (q_len rfl Try.underlying26 rfl) ?_
    refine run_q (.none rfl) rfl rfl (q_lss rfl rfl rfl) ?_
    refine run_q (.none rfl) rfl rfl (q_move rfl rfl) ?_
    refine run_split 23 rfl (fun g23 => ?_) (fun g23 => ?_)
    · have g23' := g23
      try simp only [decide_eq_true_eq, decide_eq_false_iff_not, beq_iff_eq, beq_eq_false_iff_ne, bne_iff_ne, bne_eq_false_iff_eq, Bool.not_eq_true', Bool.not_eq_false', ne_eq, Int.not_lt, Int.not_le, Decidable.not_not] at g23'
      have hkl : i < x.hs.length := by omega
      refine run_q (.on rfl rfl rfl g23) rfl rfl (q_fieldB (d := 2) rfl Try.underlying30 rfl rfl sz3 rfl) ?_
      refine run_q (.on rfl rfl rfl g23) rfl rfl (q_loadB rfl one3 rfl (.there (.there (.there Sel.here))) rfl) ?_
      refine run_q (.on rfl rfl rfl g23) rfl rfl (q_eql rfl rfl rfl) ?_
      refine run_q (.none rfl) rfl rfl (q_pickT rfl rfl g23 rfl) ?_
      refine run_nil ?_
      refine run_sub (subMk (.cons (s := 1) rfl (.cons (s := 2) rfl (.cons (s := 3) rfl (.cons (s := 4) rfl (.cons (s := 5) rfl (.cons (s := 27) rfl .nil)))))) .refl) ?_
      refine run_cond rfl (fun g27 => ?_) (fun g27 => ?_)
      · have g27' := g27
        try simp only [decide_eq_true_eq, decide_eq_false_iff_not, beq_iff_eq, beq_eq_false_iff_ne, bne_iff_ne, bne_eq_false_iff_eq, Bool.not_eq_true', Bool.not_eq_false', ne_eq, Int.not_lt, Int.not_le, Decidable.not_not] at g27'
        have hkl : i < x.hs.length := by omega
        have hs1 : (stripE x).hs = x.hs := strip_one g27'
        refine run_skip ?_
        refine run_seq ?_
        refine run_block ?_
        refine run_seq ?_
        refine run_region ?_
        refine run_q (.none rfl) rfl rfl (q_fieldB (d := 5) rfl Try.underlying30 rfl rfl sz26 rfl) ?_
        refine run_q (.none rfl) rfl rfl (q_loadB rfl one26 rfl (.there (.there (.there Sel.here))) rfl) ?_
        refine run_q (.none rfl) rfl rfl (q_move rfl rfl) ?_
        refine run_q (.none rfl) rfl rfl (q_indexS (q := i) rfl Try.underlying26 sz53 rfl rfl (.inp hx.h .no) (by simp <;> omega) rfl (by omega)) ?_
        refine run_q (.none rfl) rfl rfl (q_fieldAddr (d := 0) rfl Try.underlying53 rfl rfl sz51 rfl) ?_
        refine run_q (.none rfl) rfl rfl (q_loadFN rfl agg51 rfl (.inp hx.h .no) (getmap (by omega)) rfl rfl) ?_
        refine run_q (.none rfl) rfl rfl (q_call rfl call36 (.cons rfl Evs.nil) (fun w hk hm => refNumber_just (nth x.hs i).step (nth x.hs i).alter (nth x.hs i).oct w)) ?_
        refine run_q (.none rfl) rfl rfl (q_move rfl rfl) ?_
        refine run_q (.none rfl) rfl rfl (q_eql rfl rfl rfl) ?_
        refine run_nil ?_
        refine run_sub (subMk (.cons (s := 1) rfl (.cons (s := 2) rfl (.cons (s := 3) rfl (.cons (s := 4) rfl (.cons (s := 5) rfl (.cons (s := 38) rfl .nil)))))) .refl) ?_
        refine run_cond rfl (fun g38 => ?_) (fun g38 => ?_)
        · have g38' := g38
          try simp only [decide_eq_true_eq, decide_eq_false_iff_not, beq_iff_eq, beq_eq_false_iff_ne, bne_iff_ne, bne_eq_false_iff_eq, Bool.not_eq_true', Bool.not_eq_false', ne_eq, Int.not_lt, Int.not_le, Decidable.not_not] at g38'
          refine run_seq ?_
          refine run_draw [(0, 0), (1, 0), (2, 0), (3, 0), (4, 0), (5, 0), (6, 0), (7, 1), (8, 2), (9, 2), (10, 2)] mixed (by kernel_rfl) .refl ?_
          refine d_q rfl rfl (.none rfl) rfl rfl (q_fieldB (d := 5) rfl Try.underlying30 rfl rfl sz26 rfl) ?_
          refine d_q rfl rfl (.none rfl) rfl rfl (q_loadB rfl one26 rfl Sel.here rfl) ?_
          refine d_q rfl rfl (.none rfl) rfl rfl (q_fieldB (d := 5) rfl Try.underlying30 rfl rfl sz26 rfl) ?_
          refine d_q rfl rfl (.none rfl) rfl rfl (q_loadB rfl one26 rfl (.there (.there (.there Sel.here))) rfl) ?_
          refine d_q rfl rfl (.none rfl) rfl rfl (q_move rfl rfl) ?_
          refine d_q rfl rfl (.none rfl) rfl rfl (q_indexS (q := i) rfl Try.underlying26 sz53 rfl rfl (.inp hx.h .no) (by simp <;> omega) rfl (by omega)) ?_
          refine d_q rfl rfl (.none rfl) rfl rfl (q_loadE rfl agg53 rfl (.inp hx.h .no) (getmap (by omega)) rfl) ?_
          refine d_h rfl rfl (.none rfl) (h_buildSlice rfl rfl rfl Try.underlying26 info53 (.cons rfl rfl rfl rfl Parts.nil) rfl (by omega)) (fun _ _ => (.sub (by repeat (first | exact List.Sublist.refl _ | apply List.Sublist.cons)))) ?_
          rintro b46 -
          refine d_t rfl rfl (.none rfl) (h_append rfl rfl rfl Try.underlying26 info53 rfl rfl (.there (.there Sel.here)) rfl (.own Sel.here) rfl (all1 rfl) (all1 rfl) (by omega) (by omega)) ?_
          rintro ⟨A47, c47⟩ -
          refine d_t rfl rfl (.none rfl) (.of_q rfl rfl (q_fieldB (d := 5) rfl Try.underlying30 rfl rfl sz26 rfl)) ?_
          rintro - -
          refine d_t rfl rfl (.none rfl) (h_storeB rfl rfl sz26 rfl rfl rfl rfl rfl (.there (.there Sel.here)) rfl) ?_
          rintro - -
          refine d_nil ?_
          refine run_sub (subMk (.cons (s := 1) rfl (.cons (s := 2) rfl (.cons (s := 3) rfl (.cons (s := 4) rfl (.cons (s := 5) rfl .nil))))) .refl) ?_
          refine run_exit rfl ?_
          refine run_blk ?_
          have hst : (refH (stripE x).hs (n + 1)) = (refH (stripE x).hs n) ++ [nth x.hs i] := by rw [refH, hs1, pk_hit hkl hE g38]
          refine run_region ?_
          refine run_q (.none rfl) rfl rfl (q_move rfl rfl) ?_
          refine run_q (.none rfl) rfl rfl (q_add rfl rfl rfl (by omega)) ?_
          refine run_q (.none rfl) rfl rfl (q_assign rfl rfl) ?_
          refine run_nil ?_
          refine run_sub (subMk (.cons (s := 1) rfl (.cons (s := 2) rfl (.cons (s := 3) rfl (.cons (s := 4) rfl .nil)))) .refl) ?_
          exact run_again (n + 1, A47, c47) (by (try dsimp only); exact ⟨by omega, trivial⟩) (by (try dsimp only); omega) (subMk (.cons' (s := 4) rfl (vint (by omega)) (.cons (s := 1) rfl (.cons (s := 2) rfl (.cons (s := 3) rfl .nil)))) (.cons Sel.here (.blk (.cons (s := 0) rfl (.cons (s := 1) rfl (.cons (s := 2) rfl (.cons (s := 3) rfl (.cons (s := 4) rfl (.cons' (s := 5) (v' := .slice A47 (refH (stripE x).hs (n + 1)).length c47) rfl (by rw [hst]; simp) (.cons (s := 6) rfl (.cons (s := 7) rfl (.cons (s := 8) rfl (.cons (s := 9) rfl (.cons (s := 10) rfl (.cons (s := 11) rfl (.cons (s := 12) rfl (.nil))))))))))))))) (.cons Sel.here (.own (m' := (refH (stripE x).hs (n + 1)).length) (xs' := (refH (stripE x).hs (n + 1)).map Hd.enc) rfl (by rw [hst]; simp) rfl (by rw [hst, List.map_append]; rfl)) (.cons (.there Sel.here) .refl (.cons (.there Sel.here) .refl .nil)))))
        · have g38' := g38
          try simp only [decide_eq_true_eq, decide_eq_false_iff_not, beq_iff_eq, beq_eq_false_iff_ne, bne_iff_ne, bne_eq_false_iff_eq, Bool.not_eq_true', Bool.not_eq_false', ne_eq, Int.not_lt, Int.not_le, Decidable.not_not] at g38'
          refine run_skip ?_
          refine run_blk ?_
          refine run_region ?_
          refine run_q (.none rfl) rfl rfl (q_move rfl rfl) ?_
          refine run_q (.none rfl) rfl rfl (q_add rfl rfl rfl (by omega)) ?_
          refine run_q (.none rfl) rfl rfl (q_assign rfl rfl) ?_
          refine run_nil ?_
          refine run_sub (subMk (.cons (s := 1) rfl (.cons (s := 2) rfl (.cons (s := 3) rfl (.cons (s := 4) rfl (.cons (s := 5) rfl .nil))))) .refl) ?_
          exact run_again (i + 1) (by (try dsimp only); exact ⟨by omega, Flt.fidx_step hkl hE (show numIs (n : Int) (nth x.hs i) = false from g38)⟩) (by (try dsimp only); omega) (subMk (.cons' (s := 5) rfl (vint (by omega)) (.cons (s := 1) rfl (.cons (s := 2) rfl (.cons (s := 3) rfl (.cons (s := 4) rfl .nil))))) (.cons Sel.here .refl (.cons Sel.here .refl (.cons Sel.here .refl (.cons Sel.here .refl .nil)))))
      · have g27' := g27
        try simp only [decide_eq_true_eq, decide_eq_false_iff_not, beq_iff_eq, beq_eq_false_iff_ne, bne_iff_ne, bne_eq_false_iff_eq, Bool.not_eq_true', Bool.not_eq_false', ne_eq, Int.not_lt, Int.not_le, Decidable.not_not] at g27'
        have hb : bare x.n.kind := by rcases hcs with h1 | h1; (· exact absurd h1 g27'); (· exact h1)
        refine run_exit rfl ?_
        refine run_blk ?_
        have hst : (refH (stripE x).hs (n + 1)) = (refH (stripE x).hs n) := by rw [refH, strip_bare hb, refH_nil]; rfl
        refine run_region ?_
        refine run_q (.none rfl) rfl rfl (q_move rfl rfl) ?_
        refine run_q (.none rfl) rfl rfl (q_add rfl rfl rfl (by omega)) ?_
        refine run_q (.none rfl) rfl rfl (q_assign rfl rfl) ?_
        refine run_nil ?_
        refine run_sub (subMk (.cons (s := 1) rfl (.cons (s := 2) rfl (.cons (s := 3) rfl (.cons (s := 4) rfl .nil)))) .refl) ?_
        exact run_again (n + 1, O, co) (by (try dsimp only); exact ⟨by omega, trivial⟩) (by (try dsimp only); omega) (subMk (.cons' (s := 4) rfl (vint (by omega)) (.cons (s := 1) rfl (.cons (s := 2) rfl (.cons (s := 3) rfl .nil)))) (.cons Sel.here (.blk (.cons (s := 0) rfl (.cons (s := 1) rfl (.cons (s := 2) rfl (.cons (s := 3) rfl (.cons (s := 4) rfl (.cons' (s := 5) (v' := .slice O (refH (stripE x).hs (n + 1)).length co) rfl (by rw [hst]) (.cons (s := 6) rfl (.cons (s := 7) rfl (.cons (s := 8) rfl (.cons (s := 9) rfl (.cons (s := 10) rfl (.cons (s := 11) rfl (.cons (s := 12) rfl (.nil))))))))))))))) (.cons Sel.here (.own (m' := (refH (stripE x).hs (n + 1)).length) (xs' := (refH (stripE x).hs (n + 1)).map Hd.enc) rfl (by rw [hst]) rfl (by rw [hst])) (.cons Sel.here .refl (.cons Sel.here .refl .nil)))))
    · have g23' := g23
      try simp only [decide_eq_true_eq, decide_eq_false_iff_not, beq_iff_eq, beq_eq_false_iff_ne, bne_iff_ne, bne_eq_false_iff_eq, Bool.not_eq_true', Bool.not_eq_false', ne_eq, Int.not_lt, Int.not_le, Decidable.not_not] at g23'
      refine run_off (.no rfl rfl rfl g23) rfl rfl ?_
      refine run_off (.no rfl rfl rfl g23) rfl rfl ?_
      refine run_off (.no rfl rfl rfl g23) rfl rfl ?_
      refine run_q (.none rfl) rfl rfl (q_pickF rfl rfl g23 rfl) ?_
      refine run_nil ?_
      refine run_sub (subMk (.cons (s := 1) rfl (.cons (s := 2) rfl (.cons (s := 3) rfl (.cons (s := 4) rfl (.cons (s := 5) rfl (.cons (s := 27) rfl .nil)))))) .refl) ?_
      refine run_condF rfl rfl ?_
      refine run_exit rfl ?_
      refine run_blk ?_
      have hst : (refH (stripE x).hs (n + 1)) = (refH (stripE x).hs n) := by rcases hcs with h1 | h1; (· rw [refH, strip_one h1, pk_none (by omega) hE, List.append_nil]); (· rw [refH, strip_bare h1, refH_nil]; rfl)
      refine run_region ?_
      refine run_q (.none rfl) rfl rfl (q_move rfl rfl) ?_
      refine run_q (.none rfl) rfl rfl (q_add rfl rfl rfl (by omega)) ?_
      refine run_q (.none rfl) rfl rfl (q_assign rfl rfl) ?_
      refine run_nil ?_
      refine run_sub (subMk (.cons (s := 1) rfl (.cons (s := 2) rfl (.cons (s := 3) rfl (.cons (s := 4) rfl .nil)))) .refl) ?_
      exact run_again (n + 1, O, co) (by (try dsimp only); exact ⟨by omega, trivial⟩) (by (try dsimp only); omega) (subMk (.cons' (s := 4) rfl (vint (by omega)) (.cons (s := 1) rfl (.cons (s := 2) rfl (.cons (s := 3) rfl .nil)))) (.cons Sel.here (.blk (.cons (s := 0) rfl (.cons (s := 1) rfl (.cons (s := 2) rfl (.cons (s := 3) rfl (.cons (s := 4) rfl (.cons' (s := 5) (v' := .slice O (refH (stripE x).hs (n + 1)).length co) rfl (by rw [hst]) (.cons (s := 6) rfl (.cons (s := 7) rfl (.cons (s := 8) rfl (.cons (s := 9) rfl (.cons (s := 10) rfl (.cons (s := 11) rfl (.cons (s := 12) rfl (.nil))))))))))))))) (.cons Sel.here (.own (m' := (refH (stripE x).hs (n + 1)).length) (xs' := (refH (stripE x).hs (n + 1)).map Hd.enc) rfl (by rw [hst]) rfl (by rw [hst])) (.cons Sel.here .refl (.cons Sel.here .refl .nil)))))
  · have g15' := g15
    try simp only [decide_eq_true_eq, decide_eq_false_iff_not, beq_iff_eq, beq_eq_false_iff_ne, bne_iff_ne, bne_eq_false_iff_eq, Bool.not_eq_true', Bool.not_eq_false', ne_eq, Int.not_lt, Int.not_le, Decidable.not_not] at g15'
    refine run_exit rfl ?_
    refine run_sub (subMk (.cons (s := 2) rfl (.cons (s := 3) rfl .nil)) .refl) ?_
    refine run_seq ?_
    refine run_block ?_
    refine run_sub (subMk (.cons (s := 2) rfl (.cons (s := 3) rfl .nil)) (.cons Sel.here .refl (.cons Sel.here .refl (.cons Sel.here .refl (.cons Sel.here .refl .nil))))) ?_
    refine run_loopC0M1 (ι := Nat) (fun k => k ≤ (stripE x).ls.length ∧ trimN (stripE x).ls (stripE x).ls.length = trimN (stripE x).ls k)  (fun k => .blk b3 30 [(0, .int .i64 (stripE x).n.site), (1, .int .i64 (stripE x).n.num), (2, .int .i64 (stripE x).n.kind), (3, .int .i64 (stripE x).n.log), (4, .int .i64 (stripE x).n.dots), (5, .slice O (refH (stripE x).hs 128).length co), (6, .slice (stripP x p).GA (stripE x).gs.length (stripP x p).gc), (7, .int .i64 (stripE x).n.art), (8, .int .i64 (stripE x).n.orn), (9, .int .i64 (stripE x).n.dyn), (10, .slice (stripP x p).LA k (stripP x p).lc), (11, .int .i64 (stripE x).n.stem), (12, .int .i64 (stripE x).n.beam)]) (fun k => k) (stripE x).ls.length (by (try dsimp only); exact ⟨by omega, rfl⟩)  (.blk (.cons (s := 0) rfl (.cons (s := 1) rfl (.cons (s := 2) rfl (.cons (s := 3) rfl (.cons (s := 4) rfl (.cons' (s := 5) (v' := .slice O (refH (stripE x).hs 128).length co) rfl (by rw [show n = 128 from by omega]) (.cons (s := 6) rfl (.cons (s := 7) rfl (.cons (s := 8) rfl (.cons (s := 9) rfl (.cons (s := 10) rfl (.cons (s := 11) rfl (.cons (s := 12) rfl (.nil))))))))))))))) ?_
    rintro k hq
    (try dsimp only at hq)
    obtain ⟨hk0, hT⟩ := hq
    show Run _ _ _ _ _ _ _ ⟨_, .blk b3 30 [(0, .int .i64 (stripE x).n.site), (1, .int .i64 (stripE x).n.num), (2, .int .i64 (stripE x).n.kind), (3, .int .i64 (stripE x).n.log), (4, .int .i64 (stripE x).n.dots), (5, .slice O (refH (stripE x).hs 128).length co), (6, .slice (stripP x p).GA (stripE x).gs.length (stripP x p).gc), (7, .int .i64 (stripE x).n.art), (8, .int .i64 (stripE x).n.orn), (9, .int .i64 (stripE x).n.dyn), (10, .slice (stripP x p).LA k (stripP x p).lc), (11, .int .i64 (stripE x).n.stem), (12, .int .i64 (stripE x).n.beam)] :: _⟩
    refine run_seq ?_
    refine run_seq ?_
    refine run_region ?_
    refine run_q (.none rfl) rfl rfl (q_fieldB (d := 10) rfl Try.underlying30 rfl rfl sz28 rfl) ?_
    refine run_q (.none rfl) rfl rfl (q_loadB rfl one28 rfl Sel.here rfl) ?_
    refine run_q (.none rfl) rfl rfl (q_len rfl Try.underlying28 rfl) ?_
    refine run_q (.none rfl) rfl rfl (q_gtr rfl rfl rfl) ?_
    refine run_q (.none rfl) rfl rfl (q_move rfl rfl) ?_
    refine run_split 53 rfl (fun g53 => ?_) (fun g53 => ?_)
    · have g53' := g53
      try simp only [decide_eq_true_eq, decide_eq_false_iff_not, beq_iff_eq, beq_eq_false_iff_ne, bne_iff_ne, bne_eq_false_iff_eq, Bool.not_eq_true', Bool.not_eq_false', ne_eq, Int.not_lt, Int.not_le, Decidable.not_not] at g53'
      refine run_q (.on rfl rfl rfl g53) rfl rfl (q_fieldB (d := 10) rfl Try.underlying30 rfl rfl sz28 rfl) ?_
      refine run_q (.on rfl rfl rfl g53) rfl rfl (q_loadB rfl one28 rfl Sel.here rfl) ?_
      refine run_q (.on rfl rfl rfl g53) rfl rfl (q_fieldB (d := 10) rfl Try.underlying30 rfl rfl sz28 rfl) ?_
      refine run_q (.on rfl rfl rfl g53) rfl rfl (q_loadB rfl one28 rfl Sel.here rfl) ?_
      refine run_q (.on rfl rfl rfl g53) rfl rfl (q_len rfl Try.underlying28 rfl) ?_
      refine run_q (.on rfl rfl rfl g53) rfl rfl (q_sub rfl rfl rfl (by omega)) ?_
      refine run_q (.on rfl rfl rfl g53) rfl rfl (q_indexS (q := (k - 1)) rfl Try.underlying28 sz57 rfl rfl ((RdS.inp hxs.l .no).take k) (by rw [List.length_take, List.length_map]; omega) (by omega) (by omega)) ?_
      refine run_q (.on rfl rfl rfl g53) rfl rfl (q_loadE rfl agg57 rfl ((RdS.inp hxs.l .no).take k) (getmapT2 (by omega) (by omega)) rfl) ?_
      refine run_q (.on rfl rfl rfl g53) rfl rfl (q_call rfl call56 (.cons rfl Evs.nil) (fun w hk hm => refabsent_just (nth (stripE x).ls (k - 1)) w)) ?_
      refine run_q (.none rfl) rfl rfl (q_pickT rfl rfl g53 rfl) ?_
      refine run_nil ?_
      refine run_sub (subMk (.cons (s := 2) rfl (.cons (s := 3) rfl (.cons (s := 63) rfl .nil))) .refl) ?_
      refine run_cond rfl (fun g63 => ?_) (fun g63 => ?_)
      · have g63' := g63
        try simp only [decide_eq_true_eq, decide_eq_false_iff_not, beq_iff_eq, beq_eq_false_iff_ne, bne_iff_ne, bne_eq_false_iff_eq, Bool.not_eq_true', Bool.not_eq_false', ne_eq, Int.not_lt, Int.not_le, Decidable.not_not] at g63'
        refine run_skip ?_
        refine run_block ?_
        refine run_region ?_
        refine run_q (.none rfl) rfl rfl (q_fieldB (d := 10) rfl Try.underlying30 rfl rfl sz28 rfl) ?_
        refine run_q (.none rfl) rfl rfl (q_loadB rfl one28 rfl Sel.here rfl) ?_
        refine run_q (.none rfl) rfl rfl (q_fieldB (d := 10) rfl Try.underlying30 rfl rfl sz28 rfl) ?_
        refine run_q (.none rfl) rfl rfl (q_loadB rfl one28 rfl Sel.here rfl) ?_
        refine run_q (.none rfl) rfl rfl (q_len rfl Try.underlying28 rfl) ?_
        refine run_q (.none rfl) rfl rfl (q_sub rfl rfl rfl (by omega)) ?_
        refine run_q (.none rfl) rfl rfl (q_sliceH rfl Try.underlying28 sz57 rfl rfl (by omega)) ?_
        refine run_q (.none rfl) rfl rfl (q_fieldB (d := 10) rfl Try.underlying30 rfl rfl sz28 rfl) ?_
        refine run_h (.none rfl) (h_storeB rfl rfl sz28 rfl rfl rfl rfl rfl Sel.here rfl) ?_
        rintro - -
        refine run_nil ?_
        refine run_sub (subMk (.cons (s := 2) rfl (.cons (s := 3) rfl .nil)) .refl) ?_
        refine run_blk ?_
        exact run_again (k - 1) (by (try dsimp only); exact ⟨by omega, by rw [hT, trimN_skip (by omega) g63']⟩) (by (try dsimp only); omega) (subMk (.cons (s := 2) rfl (.cons (s := 3) rfl .nil)) (.cons Sel.here (.blk (.cons (s := 0) rfl (.cons (s := 1) rfl (.cons (s := 2) rfl (.cons (s := 3) rfl (.cons (s := 4) rfl (.cons (s := 5) rfl (.cons (s := 6) rfl (.cons (s := 7) rfl (.cons (s := 8) rfl (.cons (s := 9) rfl (.cons' (s := 10) (v' := .slice (stripP x p).LA (k - 1) (stripP x p).lc) rfl (by congr 1; omega) (.cons (s := 11) rfl (.cons (s := 12) rfl (.nil))))))))))))))) (.cons Sel.here .refl (.cons Sel.here .refl (.cons Sel.here .refl .nil)))))
      · have g63' := g63
        try simp only [decide_eq_true_eq, decide_eq_false_iff_not, beq_iff_eq, beq_eq_false_iff_ne, bne_iff_ne, bne_eq_false_iff_eq, Bool.not_eq_true', Bool.not_eq_false', ne_eq, Int.not_lt, Int.not_le, Decidable.not_not] at g63'
        refine run_exit rfl ?_
        refine run_seq ?_
        refine run_region ?_
        refine run_q (.none rfl) rfl rfl (q_loadBN rfl agg30 rfl Sel.here (.cons rfl (.cons rfl (.cons rfl (.cons rfl (.cons rfl (.cons rfl (.cons rfl (.cons rfl (.cons rfl (.cons rfl (.cons rfl (.cons rfl (.cons rfl CellsAt.nil))))))))))))) rfl) ?_
        refine run_h (.none rfl) (h_storeB rfl rfl sz30 rfl rfl rfl rfl rfl (.there (.there Sel.here)) rfl) ?_
        rintro - -
        refine run_nil ?_
        refine run_sub (subMk (.cons (s := 2) rfl .nil) .refl) ?_
        refine run_ret ?_
        exact endG rfl (.cellN rfl agg30 Sel.here (.cons rfl (.cons rfl (.cons rfl (.cons rfl (.cons rfl (.cons rfl (.cons rfl (.cons rfl (.cons rfl (.cons rfl (.cons rfl (.cons rfl (.cons rfl CellsAt.nil))))))))))))) rfl Outs.nil) _ (.cons (.there (.there Sel.here)) .refl .nil) (by have hn' : n = 128 := (by omega); subst hn'; have hTn := hT.trans (trimN_stop (.inr g63')); have hE := canE_in (x := x) (by omega) hTn; have hl := take_le hk0; refine ⟨O, co, ?_, ?_⟩; (· rw [hE]; unfold evV evC; simp only [hl, canH_eq]; rfl); (· rw [hE]; simp only [canH_eq]))
    · have g53' := g53
      try simp only [decide_eq_true_eq, decide_eq_false_iff_not, beq_iff_eq, beq_eq_false_iff_ne, bne_iff_ne, bne_eq_false_iff_eq, Bool.not_eq_true', Bool.not_eq_false', ne_eq, Int.not_lt, Int.not_le, Decidable.not_not] at g53'
      refine run_off (.no rfl rfl rfl g53) rfl rfl ?_
      refine run_off (.no rfl rfl rfl g53) rfl rfl ?_
      refine run_off (.no rfl rfl rfl g53) rfl rfl ?_
      refine run_off (.no rfl rfl rfl g53) rfl rfl ?_
      refine run_off (.no rfl rfl rfl g53) rfl rfl ?_
      refine run_off (.no rfl rfl rfl g53) rfl rfl ?_
      refine run_off (.no rfl rfl rfl g53) rfl rfl ?_
      refine run_off (.no rfl rfl rfl g53) rfl rfl ?_
      refine run_off (.no rfl rfl rfl g53) rfl rfl ?_
      refine run_q (.none rfl) rfl rfl (q_pickF rfl rfl g53 rfl) ?_
      refine run_nil ?_
      refine run_sub (subMk (.cons (s := 2) rfl (.cons (s := 3) rfl (.cons (s := 63) rfl .nil))) .refl) ?_
      refine run_condF rfl rfl ?_
      refine run_exit rfl ?_
      refine run_seq ?_
      refine run_region ?_
      refine run_q (.none rfl) rfl rfl (q_loadBN rfl agg30 rfl Sel.here (.cons rfl (.cons rfl (.cons rfl (.cons rfl (.cons rfl (.cons rfl (.cons rfl (.cons rfl (.cons rfl (.cons rfl (.cons rfl (.cons rfl (.cons rfl CellsAt.nil))))))))))))) rfl) ?_
      refine run_h (.none rfl) (h_storeB rfl rfl sz30 rfl rfl rfl rfl rfl (.there (.there Sel.here)) rfl) ?_
      rintro - -
      refine run_nil ?_
      refine run_sub (subMk (.cons (s := 2) rfl .nil) .refl) ?_
      refine run_ret ?_
      exact endG rfl (.cellN rfl agg30 Sel.here (.cons rfl (.cons rfl (.cons rfl (.cons rfl (.cons rfl (.cons rfl (.cons rfl (.cons rfl (.cons rfl (.cons rfl (.cons rfl (.cons rfl (.cons rfl CellsAt.nil))))))))))))) rfl Outs.nil) _ (.cons (.there (.there Sel.here)) .refl .nil) (by have hn' : n = 128 := (by omega); subst hn'; have hTn := hT.trans (trimN_stop (.inl (by omega))); have hE := canE_in (x := x) (by omega) hTn; have hl := take_le hk0; refine ⟨O, co, ?_, ?_⟩; (· rw [hE]; unfold evV evC; simp only [hl, canH_eq]; rfl); (· rw [hE]; simp only [canH_eq]))

end Go.Proofs.Ytneadapfoaccmaa
