/- The laws on checks, in the program. -/
import Derived.Test.YtneadapfoaccmaaK
set_option linter.unusedSimpArgs false
set_option linter.unusedVariables false
namespace Go.Proofs.Ytneadapfoaccmaa
open Go Go.RowKit Hr

theorem call17 : Hr.Callable Try.prog 17 := fun args w => by kernel_rfl
theorem call13 : Hr.Callable Try.prog 13 := fun args w => by kernel_rfl
theorem call14 : Hr.Callable Try.prog 14 := fun args w => by kernel_rfl
theorem call16 : Hr.Callable Try.prog 16 := fun args w => by kernel_rfl

set_option maxHeartbeats 1000000 in
set_option maxRecDepth 100000 in
theorem shortLyrics_ret (l : List Syl) (A : Option Addr) (ca : Nat) (W : World) (hr : Rd W A 2 (l.map Syl.enc)) : Calls Try.prog 17 #[.slice A l.length ca] W (Ret W nX (fun v m => ∃ O co, v = .slice O (shortL l).length co ∧ m = [.own 57 2 O (shortL l).length co ((shortL l).map Syl.enc)])) := by
  refine enterA (X := nX) (vs := [.slice A l.length ca]) Try.func17 Try.ntmps17 rfl rfl Mem.nil ?_
  refine run_seq ?_
  refine run_region ?_
  refine run_q (.none rfl) rfl rfl (q_assign rfl rfl) ?_
  refine run_nil ?_
  refine run_seq ?_
  refine run_region ?_
  refine run_q (.none rfl) rfl rfl (q_assign rfl rfl) ?_
  refine run_nil ?_
  refine run_seq ?_
  refine run_seq ?_
  refine run_region ?_
  refine run_q (.none rfl) rfl rfl (q_assign rfl rfl) ?_
  refine run_nil ?_
  refine run_block ?_
  refine run_sub (subMk .refl (MemSub.nilOwn 57 2)) ?_
  refine run_sub (subMk (.cons (s := 4) rfl (.cons (s := 3) rfl (.cons (s := 0) rfl (.cons (s := 2) rfl .nil)))) (.cons Sel.here .refl .nil)) ?_
  refine run_loopC2M1 (ι := Nat × (Option Addr) × Nat) (fun gg => gg.1 ≤ l.length ∧ gg.1 ≤ 6) (fun gg => .int .i64 (gg.1 : Int)) (fun gg => .slice gg.2.1 gg.1 gg.2.2) (fun gg => .own 57 2 gg.2.1 gg.1 gg.2.2 (((l.take gg.1).map trunc).map Syl.enc)) (fun gg => 6 - gg.1) (0, none, 0) (by (try dsimp only); exact ⟨by omega, by omega⟩) rfl rfl (.own rfl rfl rfl rfl) ?_
  rintro ⟨k, O, co⟩ hq
  (try dsimp only at hq)
  obtain ⟨hk, hk6⟩ := hq
  show Run _ _ _ _ _ _ _ ⟨(4, .int .i64 (k : Int)) :: (3, .slice O k co) :: _, .own 57 2 O k co (((l.take k).map trunc).map Syl.enc) :: _⟩
  refine run_seq ?_
  refine run_seq ?_
  refine run_region ?_
  refine run_q (.none rfl) rfl rfl (q_move rfl rfl) ?_
  refine run_q (.none rfl) rfl rfl (q_move rfl rfl) ?_
  refine run_q (.none rfl) rfl rfl (q_len rfl Try.underlying28 rfl) ?_
  refine run_q (.none rfl) rfl rfl (q_lss rfl rfl rfl) ?_
  refine run_q (.none rfl) rfl rfl (q_move rfl rfl) ?_
  refine run_split 10 rfl (fun g10 => ?_) (fun g10 => ?_)
  · have g10' := g10
    try simp only [decide_eq_true_eq, decide_eq_false_iff_not, beq_iff_eq, beq_eq_false_iff_ne, bne_iff_ne, bne_eq_false_iff_eq, Bool.not_eq_true', Bool.not_eq_false', ne_eq, Int.not_lt, Int.not_le, Decidable.not_not] at g10'
    have hkl : k < l.length := by omega
    refine run_q (.on rfl rfl rfl g10) rfl rfl (q_move rfl rfl) ?_
    refine run_q (.on rfl rfl rfl g10) rfl rfl (q_lss rfl rfl rfl) ?_
    refine run_q (.none rfl) rfl rfl (q_pickT rfl rfl g10 rfl) ?_
    refine run_nil ?_
    refine run_sub (subMk (.cons (s := 0) rfl (.cons (s := 2) rfl (.cons (s := 3) rfl (.cons (s := 4) rfl (.cons (s := 13) rfl .nil))))) .refl) ?_
    refine run_cond rfl (fun g13 => ?_) (fun g13 => ?_)
    · have g13' := g13
      try simp only [decide_eq_true_eq, decide_eq_false_iff_not, beq_iff_eq, beq_eq_false_iff_ne, bne_iff_ne, bne_eq_false_iff_eq, Bool.not_eq_true', Bool.not_eq_false', ne_eq, Int.not_lt, Int.not_le, Decidable.not_not] at g13'
      have hkl : k < l.length := by omega
      refine run_skip ?_
      refine run_seq ?_
      refine run_block ?_
      refine run_seq ?_
      refine run_region ?_
      refine run_q (.none rfl) rfl rfl (q_move rfl rfl) ?_
      refine run_q (.none rfl) rfl rfl (q_move rfl rfl) ?_
      refine run_q (.none rfl) rfl rfl (q_indexS (q := k) rfl Try.underlying28 sz57 rfl rfl (.inp hr .no) (by simp <;> omega) rfl (by omega)) ?_
      refine run_q (.none rfl) rfl rfl (q_loadE rfl agg57 rfl (.inp hr .no) (getmap (by omega)) rfl) ?_
      refine run_h (.none rfl) (h_alloc rfl rfl rfl info57) ?_
      rintro b5 -
      refine run_h (.none rfl) (h_storeB rfl rfl sz57 rfl rfl rfl rfl rfl Sel.here rfl) ?_
      rintro - -
      refine run_nil ?_
      refine run_sub (subMk (.cons (s := 0) rfl (.cons (s := 2) rfl (.cons (s := 3) rfl (.cons (s := 4) rfl (.cons (s := 5) rfl .nil))))) .refl) ?_
      refine run_seq ?_
      refine run_region ?_
      refine run_q (.none rfl) rfl rfl (q_fieldB (d := 0) rfl Try.underlying57 rfl rfl sz9 rfl) ?_
      refine run_q (.none rfl) rfl rfl (q_loadB rfl one9 rfl Sel.here rfl) ?_
      refine run_q (.none rfl) rfl rfl (q_fieldB (d := 0) rfl Try.underlying57 rfl rfl sz9 rfl) ?_
      refine run_q (.none rfl) rfl rfl (q_loadB rfl one9 rfl Sel.here rfl) ?_
      refine run_q (.none rfl) rfl rfl (q_lens rfl Try.underlying9 rfl) ?_
      refine run_q (.none rfl) rfl rfl (q_min2 rfl rfl rfl) ?_
      refine run_q (.none rfl) rfl rfl (q_sliceStrH rfl Try.underlying9 rfl rfl (by omega)) ?_
      refine run_q (.none rfl) rfl rfl (q_fieldB (d := 0) rfl Try.underlying57 rfl rfl sz9 rfl) ?_
      refine run_h (.none rfl) (h_storeB rfl rfl sz9 rfl rfl rfl rfl rfl Sel.here rfl) ?_
      rintro - -
      refine run_nil ?_
      refine run_sub (subMk (.cons (s := 0) rfl (.cons (s := 2) rfl (.cons (s := 3) rfl (.cons (s := 4) rfl (.cons (s := 5) rfl .nil))))) .refl) ?_
      refine run_region ?_
      refine run_q (.none rfl) rfl rfl (q_move rfl rfl) ?_
      refine run_q (.none rfl) rfl rfl (q_loadBN rfl agg57 rfl Sel.here (.cons rfl (.cons rfl CellsAt.nil)) rfl) ?_
      refine run_h (.none rfl) (h_buildSlice rfl rfl rfl Try.underlying28 info57 (.cons rfl rfl rfl rfl Parts.nil) rfl (by omega)) ?_
      rintro b30 -
      refine run_h (.none rfl) (h_append rfl rfl rfl Try.underlying28 info57 rfl rfl (.there (.there Sel.here)) rfl (.own Sel.here) rfl (all1 rfl) (all1 rfl) (by omega) (by omega)) ?_
      rintro ⟨A31, c31⟩ -
      refine run_q (.none rfl) rfl rfl (q_assign rfl rfl) ?_
      refine run_nil ?_
      refine run_sub (subMk (.cons (s := 0) rfl (.cons (s := 2) rfl (.cons (s := 3) rfl (.cons (s := 4) rfl .nil)))) .refl) ?_
      refine run_blk ?_
      refine run_region ?_
      refine run_q (.none rfl) rfl rfl (q_move rfl rfl) ?_
      refine run_q (.none rfl) rfl rfl (q_add rfl rfl rfl (by omega)) ?_
      refine run_q (.none rfl) rfl rfl (q_assign rfl rfl) ?_
      refine run_nil ?_
      exact run_again (k + 1, A31, c31) (by (try dsimp only); exact ⟨by omega, by omega⟩) (by (try dsimp only); omega) (subMk (.cons' (s := 4) rfl (vint (by omega)) (.cons' (s := 3) rfl rfl (.cons (s := 0) rfl (.cons (s := 2) rfl .nil)))) (.cons Sel.here (.own rfl rfl rfl (by rw [take_nth hkl, List.map_append, List.map_append]; rfl)) .nil))
    · have g13' := g13
      try simp only [decide_eq_true_eq, decide_eq_false_iff_not, beq_iff_eq, beq_eq_false_iff_ne, bne_iff_ne, bne_eq_false_iff_eq, Bool.not_eq_true', Bool.not_eq_false', ne_eq, Int.not_lt, Int.not_le, Decidable.not_not] at g13'
      refine run_exit rfl ?_
      refine run_sub (subMk (.cons (s := 2) rfl (.cons (s := 3) rfl .nil)) .refl) ?_
      refine run_seq ?_
      refine run_region ?_
      refine run_q (.none rfl) rfl rfl (q_move rfl rfl) ?_
      refine run_q (.none rfl) rfl rfl (q_assign rfl rfl) ?_
      refine run_nil ?_
      refine run_ret ?_
      refine run_sub (subMk .refl (.cons Sel.here (.own (m' := (shortL l).length) (xs' := (shortL l).map Syl.enc) rfl (by simp [shortL]; omega) rfl (by rw [shortL, shortK (k := k) (by omega)])) .nil)) ?_
      exact end1 rfl rfl ⟨O, co, by rw [show (shortL l).length = k from by simp [shortL]; omega], rfl⟩
  · have g10' := g10
    try simp only [decide_eq_true_eq, decide_eq_false_iff_not, beq_iff_eq, beq_eq_false_iff_ne, bne_iff_ne, bne_eq_false_iff_eq, Bool.not_eq_true', Bool.not_eq_false', ne_eq, Int.not_lt, Int.not_le, Decidable.not_not] at g10'
    refine run_off (.no rfl rfl rfl g10) rfl rfl ?_
    refine run_off (.no rfl rfl rfl g10) rfl rfl ?_
    refine run_q (.none rfl) rfl rfl (q_pickF rfl rfl g10 rfl) ?_
    refine run_nil ?_
    refine run_sub (subMk (.cons (s := 0) rfl (.cons (s := 2) rfl (.cons (s := 3) rfl (.cons (s := 4) rfl (.cons (s := 13) rfl .nil))))) .refl) ?_
    refine run_condF rfl rfl ?_
    refine run_exit rfl ?_
    refine run_sub (subMk (.cons (s := 2) rfl (.cons (s := 3) rfl .nil)) .refl) ?_
    refine run_seq ?_
    refine run_region ?_
    refine run_q (.none rfl) rfl rfl (q_move rfl rfl) ?_
    refine run_q (.none rfl) rfl rfl (q_assign rfl rfl) ?_
    refine run_nil ?_
    refine run_ret ?_
    refine run_sub (subMk .refl (.cons Sel.here (.own (m' := (shortL l).length) (xs' := (shortL l).map Syl.enc) rfl (by simp [shortL]; omega) rfl (by rw [shortL, shortK (k := k) (by omega)])) .nil)) ?_
    exact end1 rfl rfl ⟨O, co, by rw [show (shortL l).length = k from by simp [shortL]; omega], rfl⟩

set_option maxHeartbeats 1000000 in
set_option maxRecDepth 100000 in
theorem short_ret (x : Evt) (p : Lie) (W : World) (hx : RdE W x p) (hc1 : x.hs.length ≤ p.hc) (hc2 : x.gs.length ≤ p.gc) : Calls Try.prog 13 #[evV x p] W (Ret W nX (fun v m => ∃ O co, v = evV (short x) ⟨p.HA, p.hc, p.GA, p.gc, O, co⟩ ∧ m = [.own 57 2 O (short x).ls.length co ((short x).ls.map Syl.enc)])) := by
  refine enterA (X := nX) (vs := [evV x p]) Try.func13 Try.ntmps13 rfl rfl Mem.nil ?_
  refine run_seq ?_
  refine run_region ?_
  refine run_h (.none rfl) (h_box rfl rfl rfl rfl rfl) ?_
  rintro b1 -
  refine run_h (.none rfl) (h_alloc rfl rfl rfl info30) ?_
  rintro b2 -
  refine run_nil ?_
  refine run_seq ?_
  refine run_pure [(0, 0), (1, 0), (2, 0), (3, 0), (4, 0), (5, 0), (6, 0), (7, 0), (8, 0), (9, 0), (10, 0), (11, 3), (12, 3), (13, 3), (14, 0), (15, 2), (16, 2), (17, 2)] mixed (by kernel_rfl) .refl ?_
  refine p_q rfl rfl (.none rfl) rfl rfl (q_fieldB (d := 5) rfl Try.underlying30 rfl rfl sz26 rfl) ?_
  refine p_q rfl rfl (.none rfl) rfl rfl (q_loadB rfl one26 rfl (.there Sel.here) rfl) ?_
  refine p_q rfl rfl (.none rfl) rfl rfl (q_fieldB (d := 5) rfl Try.underlying30 rfl rfl sz26 rfl) ?_
  refine p_q rfl rfl (.none rfl) rfl rfl (q_loadB rfl one26 rfl (.there Sel.here) rfl) ?_
  refine p_q rfl rfl (.none rfl) rfl rfl (q_len rfl Try.underlying26 rfl) ?_
  refine p_q rfl rfl (.none rfl) rfl rfl (q_min2 rfl rfl rfl) ?_
  refine p_q rfl rfl (.none rfl) rfl rfl (q_sliceH rfl Try.underlying26 sz53 rfl rfl (by omega)) ?_
  refine p_q rfl rfl (.none rfl) rfl rfl (q_fieldB (d := 6) rfl Try.underlying30 rfl rfl sz27 rfl) ?_
  refine p_q rfl rfl (.none rfl) rfl rfl (q_loadB rfl one27 rfl (.there Sel.here) rfl) ?_
  refine p_q rfl rfl (.none rfl) rfl rfl (q_fieldB (d := 6) rfl Try.underlying30 rfl rfl sz27 rfl) ?_
  refine p_q rfl rfl (.none rfl) rfl rfl (q_loadB rfl one27 rfl (.there Sel.here) rfl) ?_
  refine p_p rfl rfl (.none rfl) rfl rfl (q_len rfl Try.underlying27 rfl) ?_
  refine p_p rfl rfl (.none rfl) rfl rfl (q_min2 rfl rfl rfl) ?_
  refine p_p rfl rfl (.none rfl) rfl rfl (q_sliceH rfl Try.underlying27 sz55 rfl rfl (by omega)) ?_
  refine p_q rfl rfl (.none rfl) rfl rfl (q_fieldB (d := 5) rfl Try.underlying30 rfl rfl sz26 rfl) ?_
  refine p_t rfl rfl (.none rfl) (h_storeB rfl rfl sz26 rfl rfl rfl rfl rfl (.there Sel.here) rfl) ?_
  rintro - -
  refine p_t rfl rfl (.none rfl) (.of_q rfl rfl (q_fieldB (d := 6) rfl Try.underlying30 rfl rfl sz27 rfl)) ?_
  rintro - -
  refine p_t rfl rfl (.none rfl) (h_storeB rfl rfl sz27 rfl rfl rfl rfl rfl Sel.here rfl) ?_
  rintro - -
  refine p_nil ?_
  refine run_sub (subMk (.cons (s := 1) rfl (.cons (s := 2) rfl .nil)) .refl) ?_
  refine run_seq ?_
  refine run_region ?_
  refine run_q (.none rfl) rfl rfl (q_fieldB (d := 10) rfl Try.underlying30 rfl rfl sz28 rfl) ?_
  refine run_q (.none rfl) rfl rfl (q_loadB rfl one28 rfl Sel.here rfl) ?_
  refine run_h (.none rfl) (h_call rfl rfl rfl call17 (.cons rfl Evs.nil) (fun w hk hm => shortLyrics_ret x.ls p.LA p.lc w (hx.l.kept0 hk))) ?_
  rintro ⟨v, m⟩ ⟨O, co, rfl, rfl⟩
  show Run _ _ _ _ _ _ _ ⟨(21, .slice O (shortL x.ls).length co) :: _, _ :: _⟩
  refine run_q (.none rfl) rfl rfl (q_fieldB (d := 10) rfl Try.underlying30 rfl rfl sz28 rfl) ?_
  refine run_h (.none rfl) (h_storeB rfl rfl sz28 rfl rfl rfl rfl rfl (.there Sel.here) rfl) ?_
  rintro - -
  refine run_nil ?_
  refine run_sub (subMk (.cons (s := 1) rfl (.cons (s := 2) rfl .nil)) .refl) ?_
  refine run_seq ?_
  refine run_region ?_
  refine run_q (.none rfl) rfl rfl (q_loadBN rfl agg30 rfl Sel.here (.cons rfl (.cons rfl (.cons rfl (.cons rfl (.cons rfl (.cons rfl (.cons rfl (.cons rfl (.cons rfl (.cons rfl (.cons rfl (.cons rfl (.cons rfl CellsAt.nil))))))))))))) rfl) ?_
  refine run_h (.none rfl) (h_storeB rfl rfl sz30 rfl rfl rfl rfl rfl (.there (.there Sel.here)) rfl) ?_
  rintro - -
  refine run_nil ?_
  refine run_ret ?_
  exact endG rfl (.cellN rfl agg30 Sel.here (.cons rfl (.cons rfl (.cons rfl (.cons rfl (.cons rfl (.cons rfl (.cons rfl (.cons rfl (.cons rfl (.cons rfl (.cons rfl (.cons rfl (.cons rfl CellsAt.nil))))))))))))) rfl Outs.nil) _ (.cons (.there (.there Sel.here)) .refl .nil) ⟨O, co, by rw [evV_short]; rfl, rfl⟩

set_option maxHeartbeats 2000000 in
set_option maxRecDepth 100000 in
theorem law3_just (x : Evt) (p : Lie) (W : World) (hx : RdE W x p) (hc1 : x.hs.length ≤ p.hc) (hc2 : x.gs.length ≤ p.gc) (ha : x.n.art ≤ 9223372036854775807) : Calls Try.prog 3 #[evV x p] W (Hr.Just W (.bool true)) := by
  have hSh : Rd W p.HA 5 ((short x).hs.map Hd.enc) := rd_takeE hx.h
  have hSg : Rd W p.GA 5 ((short x).gs.map Gr.enc) := rd_takeE hx.g
  have fS := short_few ha
  refine Just.of_ret ?_
  refine enterA (X := nX) (vs := [evV x p]) Try.func3 Try.ntmps3 rfl rfl Mem.nil ?_
  refine run_seq ?_
  refine run_region ?_
  refine run_h (.none rfl) (h_box rfl rfl rfl rfl rfl) ?_
  rintro b1 -
  refine run_q (.none rfl) rfl rfl (q_assign rfl rfl) ?_
  refine run_nil ?_
  refine run_seq ?_
  refine run_region ?_
  refine run_q (.none rfl) rfl rfl (q_loadBN rfl agg30 rfl Sel.here (.cons rfl (.cons rfl (.cons rfl (.cons rfl (.cons rfl (.cons rfl (.cons rfl (.cons rfl (.cons rfl (.cons rfl (.cons rfl (.cons rfl (.cons rfl CellsAt.nil))))))))))))) rfl) ?_
  refine run_h (.none rfl) (h_call rfl rfl rfl call13 (.cons rfl Evs.nil) (fun w hk hm => short_ret x p w (hx.kept0 hk) hc1 hc2)) ?_
  rintro ⟨v, m⟩ ⟨O, co, rfl, rfl⟩
  show Run _ _ _ _ _ _ _ ⟨(4, evV (short x) ⟨p.HA, p.hc, p.GA, p.gc, O, co⟩) :: _, _ :: _⟩
  refine run_h (.none rfl) (h_storeB rfl rfl sz30 rfl rfl rfl rfl rfl (.there Sel.here) rfl) ?_
  rintro - -
  refine run_nil ?_
  refine run_sub (subMk (.cons (s := 1) rfl (.cons (s := 2) rfl .nil)) .refl) ?_
  refine run_seq ?_
  refine run_draw [(0, 0), (1, 0), (2, 0), (3, 0), (4, 0), (5, 0), (6, 0), (7, 0), (8, 0)] mixed (by kernel_rfl) .refl ?_
  refine d_q rfl rfl (.none rfl) rfl rfl (q_call rfl call14 Evs.nil (fun w hk hm => known_just w)) ?_
  refine d_q rfl rfl (.none rfl) rfl rfl (q_move rfl rfl) ?_
  refine d_q rfl rfl (.on rfl rfl rfl rfl) rfl rfl (q_loadBN rfl agg30 rfl Sel.here (.cons rfl (.cons rfl (.cons rfl (.cons rfl (.cons rfl (.cons rfl (.cons rfl (.cons rfl (.cons rfl (.cons rfl (.cons rfl (.cons rfl (.cons rfl CellsAt.nil))))))))))))) rfl) ?_
  refine d_q rfl rfl (.on rfl rfl rfl rfl) rfl rfl (q_call rfl call15 (.cons rfl Evs.nil) (fun w hk hm => evCheck_just (short x) (Lie.mk p.HA p.hc p.GA p.gc O co) w ⟨hSh.kept0 hk, hSg.kept0 hk, (own_rd ((Sel.there Sel.here).holds hm))⟩ fS)) ?_
  refine d_q rfl rfl (.on rfl rfl rfl rfl) rfl rfl (q_loadBN rfl agg30 rfl Sel.here (.cons rfl (.cons rfl (.cons rfl (.cons rfl (.cons rfl (.cons rfl (.cons rfl (.cons rfl (.cons rfl (.cons rfl (.cons rfl (.cons rfl (.cons rfl CellsAt.nil))))))))))))) rfl) ?_
  refine d_q rfl rfl (.on rfl rfl rfl rfl) rfl rfl (q_call rfl call16 (.cons rfl Evs.nil) (fun w hk hm => refCheck_just (short x) (Lie.mk p.HA p.hc p.GA p.gc O co) w ⟨hSh.kept0 hk, hSg.kept0 hk, (own_rd ((Sel.there Sel.here).holds hm))⟩ fS)) ?_
  refine d_q rfl rfl (.on rfl rfl rfl rfl) rfl rfl (q_eql rfl rfl rfl) ?_
  refine d_q rfl rfl (.none rfl) rfl rfl (q_pickT rfl rfl rfl rfl) ?_
  refine d_q rfl rfl (.none rfl) rfl rfl (q_assign rfl rfl) ?_
  refine d_nil ?_
  refine run_sub (subMk (.cons (s := 2) rfl .nil) .refl) ?_
  refine run_ret ?_
  exact end1 rfl rfl (by simp)

set_option maxHeartbeats 2000000 in
set_option maxRecDepth 100000 in
theorem law4_just (hs : List Hd) (gs : List Gr) (ls : List Syl) (HA GA LA : Option Addr) (hc gc lc : Nat) (W : World) (hh : Rd W HA 5 (hs.map Hd.enc)) (hg : Rd W GA 5 (gs.map Gr.enc)) (hl : Rd W LA 2 (ls.map Syl.enc)) (hc1 : hs.length ≤ hc) (hc2 : gs.length ≤ gc) : Calls Try.prog 4 #[.slice HA hs.length hc, .slice GA gs.length gc, .slice LA ls.length lc] W (Hr.Just W (.bool true)) := by
  have hSh : Rd W HA 5 ((hs.take 12).map Hd.enc) := rd_takeE hh
  have hSg : Rd W GA 5 ((gs.take 12).map Gr.enc) := rd_takeE hg
  refine Just.of_ret ?_
  refine enterA (X := nX) (vs := [.slice HA hs.length hc, .slice GA gs.length gc, .slice LA ls.length lc]) Try.func4 Try.ntmps4 rfl rfl Mem.nil ?_
  refine run_seq ?_
  refine run_region ?_
  refine run_q (.none rfl) rfl rfl (q_assign rfl rfl) ?_
  refine run_nil ?_
  refine run_seq ?_
  refine run_draw [(0, 0), (1, 0), (2, 0), (3, 0), (4, 0), (5, 0), (6, 0), (7, 0), (8, 0), (9, 0), (10, 0), (11, 0)] mixed (by kernel_rfl) .refl ?_
  refine d_q rfl rfl (.none rfl) rfl rfl (q_move rfl rfl) ?_
  refine d_q rfl rfl (.none rfl) rfl rfl (q_move rfl rfl) ?_
  refine d_q rfl rfl (.none rfl) rfl rfl (q_len rfl Try.underlying26 rfl) ?_
  refine d_q rfl rfl (.none rfl) rfl rfl (q_min2 rfl rfl rfl) ?_
  refine d_q rfl rfl (.none rfl) rfl rfl (q_sliceH rfl Try.underlying26 sz53 rfl rfl (by omega)) ?_
  refine d_q rfl rfl (.none rfl) rfl rfl (q_move rfl rfl) ?_
  refine d_q rfl rfl (.none rfl) rfl rfl (q_move rfl rfl) ?_
  refine d_q rfl rfl (.none rfl) rfl rfl (q_len rfl Try.underlying27 rfl) ?_
  refine d_q rfl rfl (.none rfl) rfl rfl (q_min2 rfl rfl rfl) ?_
  refine d_q rfl rfl (.none rfl) rfl rfl (q_sliceH rfl Try.underlying27 sz55 rfl rfl (by omega)) ?_
  refine d_q rfl rfl (.none rfl) rfl rfl (q_assign rfl rfl) ?_
  refine d_q rfl rfl (.none rfl) rfl rfl (q_assign rfl rfl) ?_
  refine d_nil ?_
  refine run_sub (subMk (.cons (s := 0) rfl (.cons (s := 1) rfl (.cons (s := 2) rfl (.cons (s := 6) rfl .nil)))) .refl) ?_
  refine run_seq ?_
  refine run_sub (subMk (.cons' (s := 0) (v' := .slice HA (hs.take 12).length hc) rfl (by congr 1; simp; omega) (.cons' (s := 1) (v' := .slice GA (gs.take 12).length gc) rfl (by congr 1; simp; omega) (.cons (s := 2) rfl (.cons (s := 6) rfl .nil)))) .refl) ?_
  refine run_region ?_
  refine run_q (.none rfl) rfl rfl (q_move rfl rfl) ?_
  refine run_h (.none rfl) (h_call rfl rfl rfl call17 (.cons rfl Evs.nil) (fun w hk hm => shortLyrics_ret ls LA lc w (hl.kept0 hk))) ?_
  rintro ⟨v, m⟩ ⟨O, co, rfl, rfl⟩
  show Run _ _ _ _ _ _ _ ⟨(18, .slice O (shortL ls).length co) :: _, _ :: _⟩
  refine run_q (.none rfl) rfl rfl (q_assign rfl rfl) ?_
  refine run_nil ?_
  refine run_seq ?_
  refine run_region ?_
  refine run_q (.none rfl) rfl rfl (q_call rfl call14 Evs.nil (fun w hk hm => known_just w)) ?_
  refine run_q (.none rfl) rfl rfl (q_move rfl rfl) ?_
  refine run_q (.on rfl rfl rfl rfl) rfl rfl (q_move rfl rfl) ?_
  refine run_q (.on rfl rfl rfl rfl) rfl rfl (q_call rfl call18 (.cons rfl Evs.nil) (fun w hk hm => heads_just (hs.take 12) HA hc w (hSh.kept0 hk) (by simp; omega))) ?_
  refine run_q (.on rfl rfl rfl rfl) rfl rfl (q_move rfl rfl) ?_
  refine run_q (.on rfl rfl rfl rfl) rfl rfl (q_call rfl call19 (.cons rfl Evs.nil) (fun w hk hm => refHeads_just (hs.take 12) HA hc w (hSh.kept0 hk) (by simp; omega))) ?_
  refine run_q (.on rfl rfl rfl rfl) rfl rfl (q_eql rfl rfl rfl) ?_
  refine run_q (.none rfl) rfl rfl (q_pickT rfl rfl rfl rfl) ?_
  refine run_q (.none rfl) rfl rfl (q_move rfl rfl) ?_
  refine run_q (.on rfl rfl rfl (by simp)) rfl rfl (q_move rfl rfl) ?_
  refine run_q (.on rfl rfl rfl (by simp)) rfl rfl (q_call rfl call20 (.cons rfl Evs.nil) (fun w hk hm => graces_just (gs.take 12) GA gc w (hSg.kept0 hk) (by simp; omega))) ?_
  refine run_q (.on rfl rfl rfl (by simp)) rfl rfl (q_move rfl rfl) ?_
  refine run_q (.on rfl rfl rfl (by simp)) rfl rfl (q_call rfl call21 (.cons rfl Evs.nil) (fun w hk hm => refGraces_just (gs.take 12) GA gc w (hSg.kept0 hk) (by simp; omega))) ?_
  refine run_q (.on rfl rfl rfl (by simp)) rfl rfl (q_eql rfl rfl rfl) ?_
  refine run_q (.none rfl) rfl rfl (q_pickT rfl rfl (by simp) rfl) ?_
  refine run_q (.none rfl) rfl rfl (q_move rfl rfl) ?_
  refine run_q (.on rfl rfl rfl (by simp)) rfl rfl (q_move rfl rfl) ?_
  refine run_q (.on rfl rfl rfl (by simp)) rfl rfl (q_call rfl call22 (.cons rfl Evs.nil) (fun w hk hm => lyrics_just (shortL ls) O co w (own_rd (Sel.here.holds hm)) (by simp [shortL]; omega))) ?_
  refine run_q (.on rfl rfl rfl (by simp)) rfl rfl (q_move rfl rfl) ?_
  refine run_q (.on rfl rfl rfl (by simp)) rfl rfl (q_call rfl call23 (.cons rfl Evs.nil) (fun w hk hm => refLyrics_just (shortL ls) O co w (own_rd (Sel.here.holds hm)) (by simp [shortL]; omega))) ?_
  refine run_q (.on rfl rfl rfl (by simp)) rfl rfl (q_eql rfl rfl rfl) ?_
  refine run_q (.none rfl) rfl rfl (q_pickT rfl rfl (by simp) rfl) ?_
  refine run_q (.none rfl) rfl rfl (q_assign rfl rfl) ?_
  refine run_nil ?_
  refine run_sub (subMk (.cons (s := 6) rfl .nil) .refl) ?_
  refine run_ret ?_
  exact end1 rfl rfl (by simp)

end Go.Proofs.Ytneadapfoaccmaa
