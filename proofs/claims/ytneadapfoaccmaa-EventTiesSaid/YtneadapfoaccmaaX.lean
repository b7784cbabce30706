/- The law on ties. -/
import Derived.Test.YtneadapfoaccmaaW
set_option linter.unusedSimpArgs false
set_option linter.unusedVariables false
namespace Go.Proofs.Ytneadapfoaccmaa
open Go Go.RowKit Hr

theorem call39 : Hr.Callable Try.prog 39 := fun args w => by kernel_rfl
theorem call40 : Hr.Callable Try.prog 40 := fun args w => by kernel_rfl
theorem call41 : Hr.Callable Try.prog 41 := fun args w => by kernel_rfl
theorem call42 : Hr.Callable Try.prog 42 := fun args w => by kernel_rfl

set_option maxHeartbeats 8000000 in
set_option maxRecDepth 100000 in
theorem law11_just (x y : Evt) (p q : Lie) (W : World) (hx : RdE W x p) (hc1 : x.hs.length ≤ p.hc) (hc2 : x.gs.length ≤ p.gc) (ha : x.n.art ≤ 9223372036854775807) (hy : RdE W y q) (hd1 : y.hs.length ≤ q.hc) (hd2 : y.gs.length ≤ q.gc) (hb : y.n.art ≤ 9223372036854775807) : Calls Try.prog 11 #[evV x p, evV y q] W (Hr.Just W (.bool true)) := by
  have hSh : Rd W p.HA 5 ((short x).hs.map Hd.enc) := rd_takeE hx.h
  have hSg : Rd W p.GA 5 ((short x).gs.map Gr.enc) := rd_takeE hx.g
  have fS := short_few ha
  have hTh : Rd W q.HA 5 ((short y).hs.map Hd.enc) := rd_takeE hy.h
  have hTg : Rd W q.GA 5 ((short y).gs.map Gr.enc) := rd_takeE hy.g
  have fT := short_few hb
  obtain ⟨fs1, fs2, fs3, fs4⟩ := id fS
  obtain ⟨ft1, ft2, ft3, ft4⟩ := id fT
  refine Just.of_ret ?_
  refine enterA (X := nX) (vs := [evV x p, evV y q]) Try.func11 Try.ntmps11 rfl rfl Mem.nil ?_
  refine run_seq ?_
  refine run_region ?_
  refine run_h (.none rfl) (h_box rfl rfl rfl rfl rfl) ?_
  rintro b2 -
  refine run_h (.none rfl) (h_box rfl rfl rfl rfl rfl) ?_
  rintro b3 -
  refine run_q (.none rfl) rfl rfl (q_assign rfl rfl) ?_
  refine run_nil ?_
  refine run_seq ?_
  refine run_draw [(0, 0), (2, 0), (1, 1), (3, 2), (4, 2), (5, 2)] mixed (by kernel_rfl) .refl ?_
  refine d_q rfl rfl (.none rfl) rfl rfl (q_loadBN rfl agg30 rfl (.there Sel.here) (.cons rfl (.cons rfl (.cons rfl (.cons rfl (.cons rfl (.cons rfl (.cons rfl (.cons rfl (.cons rfl (.cons rfl (.cons rfl (.cons rfl (.cons rfl CellsAt.nil))))))))))))) rfl) ?_
  refine d_q rfl rfl (.none rfl) rfl rfl (q_loadBN rfl agg30 rfl Sel.here (.cons rfl (.cons rfl (.cons rfl (.cons rfl (.cons rfl (.cons rfl (.cons rfl (.cons rfl (.cons rfl (.cons rfl (.cons rfl (.cons rfl (.cons rfl CellsAt.nil))))))))))))) rfl) ?_
  refine d_h rfl rfl (.none rfl) (h_call rfl rfl rfl call13 (.cons rfl Evs.nil) (fun w hk hm => short_ret x p w (hx.kept0 hk) hc1 hc2)) (fun _ _ => (.sub (List.sublist_append_right _ _))) ?_
  rintro ⟨v, m⟩ ⟨O, co, rfl, rfl⟩
  show RunD _ _ _ _ _ _ _ _ _ _ _ ⟨(15, evV (short x) ⟨p.HA, p.hc, p.GA, p.gc, O, co⟩) :: _, _ :: _⟩
  refine d_t rfl rfl (.none rfl) (h_call rfl rfl rfl call13 (.cons rfl Evs.nil) (fun w hk hm => short_ret y q w (hy.kept0 hk) hd1 hd2)) ?_
  rintro ⟨v, m⟩ ⟨O2, co2, rfl, rfl⟩
  show RunD _ _ _ _ _ _ _ _ _ _ _ ⟨(17, evV (short y) (Lie.mk q.HA q.hc q.GA q.gc O2 co2)) :: _, _ :: _⟩
  refine d_t rfl rfl (.none rfl) (h_storeB rfl rfl sz30 rfl rfl rfl rfl rfl (.there (.there (.there Sel.here))) rfl) ?_
  rintro - -
  refine d_t rfl rfl (.none rfl) (h_storeB rfl rfl sz30 rfl rfl rfl rfl rfl (.there (.there (.there Sel.here))) rfl) ?_
  rintro - -
  refine d_nil ?_
  refine run_sub (subMk (.cons (s := 2) rfl (.cons (s := 3) rfl (.cons (s := 4) rfl .nil))) .refl) ?_
  refine run_seq ?_
  refine run_region ?_
  refine run_q (.none rfl) rfl rfl (q_fieldB (d := 2) rfl Try.underlying30 rfl rfl sz3 rfl) ?_
  refine run_q (.none rfl) rfl rfl (q_loadB rfl one3 rfl (.there Sel.here) rfl) ?_
  refine run_q (.none rfl) rfl rfl (q_eql rfl rfl rfl) ?_
  refine run_q (.none rfl) rfl rfl (q_assign rfl rfl) ?_
  refine run_nil ?_
  refine run_sub (subMk (.cons (s := 2) rfl (.cons (s := 3) rfl (.cons (s := 4) rfl (.cons (s := 5) rfl .nil)))) .refl) ?_
  refine run_seq ?_
  refine run_sub (subMk (.cons (s := 2) rfl (.cons (s := 3) rfl (.cons (s := 4) rfl (.cons' (s := 5) (v' := .bool (decide ((short x).n.kind = 1))) rfl (congrArg Value.bool (by rw [Bool.eq_iff_iff]; simp)) .nil)))) .refl) ?_
  refine run_region ?_
  refine run_q (.none rfl) rfl rfl (q_assign rfl rfl) ?_
  refine run_q (.none rfl) rfl rfl (q_assign rfl rfl) ?_
  refine run_nil ?_
  refine run_seq ?_
  refine run_region ?_
  refine run_q (.none rfl) rfl rfl (q_loadBN rfl agg30 rfl (.there Sel.here) (.cons rfl (.cons rfl (.cons rfl (.cons rfl (.cons rfl (.cons rfl (.cons rfl (.cons rfl (.cons rfl (.cons rfl (.cons rfl (.cons rfl (.cons rfl CellsAt.nil))))))))))))) rfl) ?_
  refine run_h (.none rfl) (h_alloc rfl rfl rfl info30) ?_
  rintro b8 -
  refine run_h (.none rfl) (h_storeB rfl rfl sz30 rfl rfl rfl rfl rfl Sel.here rfl) ?_
  rintro - -
  refine run_nil ?_
  refine run_seq ?_
  refine run_region ?_
  refine run_q (.none rfl) rfl rfl (q_fieldB (d := 5) rfl Try.underlying30 rfl rfl sz26 rfl) ?_
  refine run_h (.none rfl) (h_storeB rfl rfl sz26 rfl rfl rfl rfl rfl Sel.here rfl) ?_
  rintro - -
  refine run_nil ?_
  refine run_seq ?_
  refine run_seq ?_
  refine run_region ?_
  refine run_q (.none rfl) rfl rfl (q_assign rfl rfl) ?_
  refine run_nil ?_
  refine run_block ?_
  refine run_sub (subMk .refl (MemSub.nilOwn 53 5)) ?_
  refine run_sub (subMk (.cons (s := 9) rfl (.cons (s := 6) rfl (.cons (s := 7) rfl (.cons (s := 2) rfl (.cons (s := 3) rfl (.cons (s := 4) rfl (.cons (s := 5) rfl (.cons (s := 8) rfl .nil)))))))) (.cons (.there Sel.here) .refl (.cons Sel.here .refl (.cons Sel.here .refl (.cons Sel.here .refl (.cons Sel.here .refl (.cons Sel.here .refl .nil))))))) ?_
  refine run_loopC3M2 (ι := Nat × (Option Addr) × Nat) (fun gg => gg.1 ≤ (short x).hs.length) (fun gg => .int .i64 (gg.1 : Int)) (fun gg => .bool ((decide ((short x).n.kind = 1)) && anyT tiedP (short x).hs gg.1)) (fun gg => .bool (allT (lawJ (decide ((short x).n.kind = 1)) (short y)) (short x).hs gg.1)) (fun gg => .blk b8 30 [(0, .int .i64 (short x).n.site), (1, .int .i64 (short x).n.num), (2, .int .i64 (short x).n.kind), (3, .int .i64 (short x).n.log), (4, .int .i64 (short x).n.dots), (5, .slice gg.2.1 gg.1 gg.2.2), (6, .slice (Lie.mk p.HA p.hc p.GA p.gc O co).GA (short x).gs.length (Lie.mk p.HA p.hc p.GA p.gc O co).gc), (7, .int .i64 (short x).n.art), (8, .int .i64 (short x).n.orn), (9, .int .i64 (short x).n.dyn), (10, .slice (Lie.mk p.HA p.hc p.GA p.gc O co).LA (short x).ls.length (Lie.mk p.HA p.hc p.GA p.gc O co).lc), (11, .int .i64 (short x).n.stem), (12, .int .i64 (short x).n.beam)]) (fun gg => .own 53 5 gg.2.1 gg.1 gg.2.2 ((((short x).hs.take gg.1).map untie).map Hd.enc)) (fun gg => (short x).hs.length - gg.1) (0, none, 0) (by (try dsimp only); exact (by omega)) rfl (congrArg Value.bool (by simp [anyT])) rfl (.blk (.cons (s := 0) rfl (.cons (s := 1) rfl (.cons (s := 2) rfl (.cons (s := 3) rfl (.cons (s := 4) rfl (.cons (s := 5) rfl (.cons (s := 6) rfl (.cons (s := 7) rfl (.cons (s := 8) rfl (.cons (s := 9) rfl (.cons (s := 10) rfl (.cons (s := 11) rfl (.cons (s := 12) rfl (.nil))))))))))))))) (.own rfl rfl rfl rfl) ?_
  rintro ⟨i, P, cp⟩ hi
  (try dsimp only at hi)
  show Run _ _ _ _ _ _ _ ⟨(9, .int .i64 (i : Int)) :: (6, .bool ((decide ((short x).n.kind = 1)) && anyT tiedP (short x).hs i)) :: (7, .bool (allT (lawJ (decide ((short x).n.kind = 1)) (short y)) (short x).hs i)) :: _, .blk b8 30 [(0, .int .i64 (short x).n.site), (1, .int .i64 (short x).n.num), (2, .int .i64 (short x).n.kind), (3, .int .i64 (short x).n.log), (4, .int .i64 (short x).n.dots), (5, .slice P i cp), (6, .slice (Lie.mk p.HA p.hc p.GA p.gc O co).GA (short x).gs.length (Lie.mk p.HA p.hc p.GA p.gc O co).gc), (7, .int .i64 (short x).n.art), (8, .int .i64 (short x).n.orn), (9, .int .i64 (short x).n.dyn), (10, .slice (Lie.mk p.HA p.hc p.GA p.gc O co).LA (short x).ls.length (Lie.mk p.HA p.hc p.GA p.gc O co).lc), (11, .int .i64 (short x).n.stem), (12, .int .i64 (short x).n.beam)] :: .own 53 5 P i cp ((((short x).hs.take i).map untie).map Hd.enc) :: _⟩
  refine run_seq ?_
  refine run_seq ?_
  refine run_region ?_
  refine run_q (.none rfl) rfl rfl (q_move rfl rfl) ?_
  refine run_q (.none rfl) rfl rfl (q_fieldB (d := 5) rfl Try.underlying30 rfl rfl sz26 rfl) ?_
  refine run_q (.none rfl) rfl rfl (q_loadB rfl one26 rfl (.there (.there (.there Sel.here))) rfl) ?_
  refine run_q (.none rfl) rfl rfl (q_len rfl Try.underlying26 rfl) ?_
  refine run_q (.none rfl) rfl rfl (q_lss rfl rfl rfl) ?_
  refine run_nil ?_
  refine run_sub (subMk (.cons (s := 2) rfl (.cons (s := 3) rfl (.cons (s := 4) rfl (.cons (s := 5) rfl (.cons (s := 6) rfl (.cons (s := 7) rfl (.cons (s := 8) rfl (.cons (s := 9) rfl (.cons (s := 27) rfl .nil))))))))) .refl) ?_
  refine run_cond rfl (fun g27 => ?_) (fun g27 => ?_)
  · have g27' := g27
    try simp only [decide_eq_true_eq, decide_eq_false_iff_not, beq_iff_eq, beq_eq_false_iff_ne, bne_iff_ne, bne_eq_false_iff_eq, Bool.not_eq_true', Bool.not_eq_false', ne_eq, Int.not_lt, Int.not_le, Decidable.not_not] at g27'
    have hil : i < (short x).hs.length := by omega
    refine run_skip ?_
    refine run_seq ?_
    refine run_block ?_
    refine run_seq ?_
    refine run_region ?_
    refine run_q (.none rfl) rfl rfl (q_fieldB (d := 5) rfl Try.underlying30 rfl rfl sz26 rfl) ?_
    refine run_q (.none rfl) rfl rfl (q_loadB rfl one26 rfl (.there (.there (.there Sel.here))) rfl) ?_
    refine run_q (.none rfl) rfl rfl (q_move rfl rfl) ?_
    refine run_q (.none rfl) rfl rfl (q_indexS (q := i) rfl Try.underlying26 sz53 rfl rfl (.inp hSh .no) (by simp <;> omega) rfl (by omega)) ?_
    refine run_q (.none rfl) rfl rfl (q_loadE rfl agg53 rfl (.inp hSh .no) (getmap (by omega)) rfl) ?_
    refine run_h (.none rfl) (h_alloc rfl rfl rfl info53) ?_
    rintro b10 -
    refine run_h (.none rfl) (h_storeB rfl rfl sz53 rfl rfl rfl rfl rfl Sel.here rfl) ?_
    rintro - -
    refine run_nil ?_
    refine run_sub (subMk (.cons (s := 2) rfl (.cons (s := 3) rfl (.cons (s := 4) rfl (.cons (s := 5) rfl (.cons (s := 6) rfl (.cons (s := 7) rfl (.cons (s := 8) rfl (.cons (s := 9) rfl (.cons (s := 10) rfl .nil))))))))) .refl) ?_
    refine run_seq ?_
    refine run_region ?_
    refine run_q (.none rfl) rfl rfl (q_assign rfl rfl) ?_
    refine run_nil ?_
    refine run_seq ?_
    refine run_seq ?_
    refine run_region ?_
    refine run_q (.none rfl) rfl rfl (q_assign rfl rfl) ?_
    refine run_nil ?_
    refine run_block ?_
    refine run_sub (subMk (.cons (s := 12) rfl (.cons (s := 11) rfl (.cons (s := 2) rfl (.cons (s := 3) rfl (.cons (s := 4) rfl (.cons (s := 5) rfl (.cons (s := 6) rfl (.cons (s := 7) rfl (.cons (s := 8) rfl (.cons (s := 9) rfl (.cons (s := 10) rfl .nil))))))))))) (.cons Sel.here .refl (.cons Sel.here .refl (.cons Sel.here .refl (.cons Sel.here .refl (.cons Sel.here .refl (.cons Sel.here .refl (.cons Sel.here .refl .nil)))))))) ?_
    refine run_loopC2M0 (ι := Nat) (fun k => k ≤ (short y).hs.length) (fun k => .int .i64 (k : Int)) (fun k => .bool ((decide ((short y).n.kind = 1)) && anyT (pitEq (nth (short x).hs i)) (short y).hs k))  (fun k => (short y).hs.length - k) 0 (by (try dsimp only); exact (by omega)) rfl (congrArg Value.bool (by simp [anyT]))  ?_
    rintro k hk2
    (try dsimp only at hk2)
    show Run _ _ _ _ _ _ _ ⟨(12, .int .i64 (k : Int)) :: (11, .bool ((decide ((short y).n.kind = 1)) && anyT (pitEq (nth (short x).hs i)) (short y).hs k)) :: _, _⟩
    refine run_seq ?_
    refine run_seq ?_
    refine run_region ?_
    refine run_q (.none rfl) rfl rfl (q_move rfl rfl) ?_
    refine run_q (.none rfl) rfl rfl (q_fieldB (d := 5) rfl Try.underlying30 rfl rfl sz26 rfl) ?_
    refine run_q (.none rfl) rfl rfl (q_loadB rfl one26 rfl (.there (.there (.there Sel.here))) rfl) ?_
    refine run_q (.none rfl) rfl rfl (q_len rfl Try.underlying26 rfl) ?_
    refine run_q (.none rfl) rfl rfl (q_lss rfl rfl rfl) ?_
    refine run_nil ?_
    refine run_sub (subMk (.cons (s := 2) rfl (.cons (s := 3) rfl (.cons (s := 4) rfl (.cons (s := 5) rfl (.cons (s := 6) rfl (.cons (s := 7) rfl (.cons (s := 8) rfl (.cons (s := 9) rfl (.cons (s := 10) rfl (.cons (s := 11) rfl (.cons (s := 12) rfl (.cons (s := 39) rfl .nil)))))))))))) .refl) ?_
    refine run_cond rfl (fun g39 => ?_) (fun g39 => ?_)
    · have g39' := g39
      try simp only [decide_eq_true_eq, decide_eq_false_iff_not, beq_iff_eq, beq_eq_false_iff_ne, bne_iff_ne, bne_eq_false_iff_eq, Bool.not_eq_true', Bool.not_eq_false', ne_eq, Int.not_lt, Int.not_le, Decidable.not_not] at g39'
      have hkk : k < (short y).hs.length := by omega
      refine run_skip ?_
      refine run_seq ?_
      refine run_block ?_
      refine run_draw [(0, 0), (1, 0), (2, 0), (3, 0), (4, 0), (5, 0), (6, 0), (7, 0), (8, 0), (9, 0), (10, 0), (11, 0), (12, 0), (13, 0), (14, 0), (15, 0), (16, 0), (17, 0)] mixed (by kernel_rfl) .refl ?_
      refine d_q rfl rfl (.none rfl) rfl rfl (q_move rfl rfl) ?_
      refine d_q rfl rfl (.none rfl) rfl rfl (q_move rfl rfl) ?_
      refine d_split 43 rfl (fun g43 => ?_) (fun g43 => ?_)
      · have g43' := g43
        try simp only [decide_eq_true_eq, decide_eq_false_iff_not, beq_iff_eq, beq_eq_false_iff_ne, bne_iff_ne, bne_eq_false_iff_eq, Bool.not_eq_true', Bool.not_eq_false', ne_eq, Int.not_lt, Int.not_le, Decidable.not_not] at g43'
        refine d_off rfl rfl (.no rfl rfl rfl g43) rfl rfl ?_
        refine d_off rfl rfl (.no rfl rfl rfl g43) rfl rfl ?_
        refine d_off rfl rfl (.no rfl rfl rfl g43) rfl rfl ?_
        refine d_off rfl rfl (.no rfl rfl rfl g43) rfl rfl ?_
        refine d_off rfl rfl (.off rfl rfl rfl) rfl rfl ?_
        refine d_off rfl rfl (.off rfl rfl rfl) rfl rfl ?_
        refine d_off rfl rfl (.off rfl rfl rfl) rfl rfl ?_
        refine d_off rfl rfl (.off rfl rfl rfl) rfl rfl ?_
        refine d_off rfl rfl (.off rfl rfl rfl) rfl rfl ?_
        refine d_off rfl rfl (.off rfl rfl rfl) rfl rfl ?_
        refine d_off rfl rfl (.off rfl rfl rfl) rfl rfl ?_
        refine d_off rfl rfl (.off rfl rfl rfl) rfl rfl ?_
        refine d_off rfl rfl (.off rfl rfl rfl) rfl rfl ?_
        refine d_off rfl rfl (.no rfl rfl rfl g43) rfl rfl ?_
        refine d_q rfl rfl (.none rfl) rfl rfl (q_pickT rfl rfl g43 rfl) ?_
        refine d_q rfl rfl (.none rfl) rfl rfl (q_assign rfl rfl) ?_
        refine d_nil ?_
        refine run_sub (subMk (.cons (s := 2) rfl (.cons (s := 3) rfl (.cons (s := 4) rfl (.cons (s := 5) rfl (.cons (s := 6) rfl (.cons (s := 7) rfl (.cons (s := 8) rfl (.cons (s := 9) rfl (.cons (s := 10) rfl (.cons (s := 11) rfl (.cons (s := 12) rfl .nil))))))))))) .refl) ?_
        refine run_blk ?_
        refine run_region ?_
        refine run_q (.none rfl) rfl rfl (q_move rfl rfl) ?_
        refine run_q (.none rfl) rfl rfl (q_add rfl rfl rfl (by omega)) ?_
        refine run_q (.none rfl) rfl rfl (q_assign rfl rfl) ?_
        refine run_nil ?_
        exact run_again (k + 1) (by (try dsimp only); exact (by omega)) (by (try dsimp only); omega) (subMk (.cons' (s := 12) rfl (vint (by omega)) (.cons' (s := 11) rfl (congrArg Value.bool (by rw [anyT_succ hkk]; exact found_t g43)) (.cons (s := 2) rfl (.cons (s := 3) rfl (.cons (s := 4) rfl (.cons (s := 5) rfl (.cons (s := 6) rfl (.cons (s := 7) rfl (.cons (s := 8) rfl (.cons (s := 9) rfl (.cons (s := 10) rfl .nil))))))))))) (.cons Sel.here .refl (.cons Sel.here .refl (.cons Sel.here .refl (.cons Sel.here .refl (.cons Sel.here .refl (.cons Sel.here .refl (.cons Sel.here .refl .nil))))))))
      · have g43' := g43
        try simp only [decide_eq_true_eq, decide_eq_false_iff_not, beq_iff_eq, beq_eq_false_iff_ne, bne_iff_ne, bne_eq_false_iff_eq, Bool.not_eq_true', Bool.not_eq_false', ne_eq, Int.not_lt, Int.not_le, Decidable.not_not] at g43'
        refine d_q rfl rfl (.on rfl rfl rfl g43) rfl rfl (q_fieldB (d := 2) rfl Try.underlying30 rfl rfl sz3 rfl) ?_
        refine d_q rfl rfl (.on rfl rfl rfl g43) rfl rfl (q_loadB rfl one3 rfl (.there (.there (.there Sel.here))) rfl) ?_
        refine d_q rfl rfl (.on rfl rfl rfl g43) rfl rfl (q_eql rfl rfl rfl) ?_
        refine d_q rfl rfl (.on rfl rfl rfl g43) rfl rfl (q_move rfl rfl) ?_
        refine d_split 47 rfl (fun g47 => ?_) (fun g47 => ?_)
        · have g47' := g47
          try simp only [decide_eq_true_eq, decide_eq_false_iff_not, beq_iff_eq, beq_eq_false_iff_ne, bne_iff_ne, bne_eq_false_iff_eq, Bool.not_eq_true', Bool.not_eq_false', ne_eq, Int.not_lt, Int.not_le, Decidable.not_not] at g47'
          refine d_q rfl rfl (.on rfl rfl rfl g47) rfl rfl (q_fieldB (d := 5) rfl Try.underlying30 rfl rfl sz26 rfl) ?_
          refine d_q rfl rfl (.on rfl rfl rfl g47) rfl rfl (q_loadB rfl one26 rfl (.there (.there (.there Sel.here))) rfl) ?_
          refine d_q rfl rfl (.on rfl rfl rfl g47) rfl rfl (q_move rfl rfl) ?_
          refine d_q rfl rfl (.on rfl rfl rfl g47) rfl rfl (q_indexS (q := k) rfl Try.underlying26 sz53 rfl rfl (.inp hTh .no) (by simp <;> omega) rfl (by omega)) ?_
          refine d_q rfl rfl (.on rfl rfl rfl g47) rfl rfl (q_fieldAddr (d := 0) rfl Try.underlying53 rfl rfl sz51 rfl) ?_
          refine d_q rfl rfl (.on rfl rfl rfl g47) rfl rfl (q_loadFN rfl agg51 rfl (.inp hTh .no) (getmap (by omega)) rfl rfl) ?_
          refine d_q rfl rfl (.on rfl rfl rfl g47) rfl rfl (q_fieldB (d := 0) rfl Try.underlying53 rfl rfl sz51 rfl) ?_
          refine d_q rfl rfl (.on rfl rfl rfl g47) rfl rfl (q_loadBN rfl agg51 rfl Sel.here (.cons rfl (.cons rfl (.cons rfl CellsAt.nil))) rfl) ?_
          refine d_q rfl rfl (.on rfl rfl rfl g47) rfl rfl (q_eqlS rfl rfl rfl eqg51 (fun w => eqs51 _ _ _ _ _ _ w)) ?_
          refine d_q rfl rfl (.on rfl rfl rfl g43) rfl rfl (q_pickT rfl rfl g47 rfl) ?_
          refine d_q rfl rfl (.none rfl) rfl rfl (q_pickF rfl rfl g43 rfl) ?_
          refine d_q rfl rfl (.none rfl) rfl rfl (q_assign rfl rfl) ?_
          refine d_nil ?_
          refine run_sub (subMk (.cons (s := 2) rfl (.cons (s := 3) rfl (.cons (s := 4) rfl (.cons (s := 5) rfl (.cons (s := 6) rfl (.cons (s := 7) rfl (.cons (s := 8) rfl (.cons (s := 9) rfl (.cons (s := 10) rfl (.cons (s := 11) rfl (.cons (s := 12) rfl .nil))))))))))) .refl) ?_
          refine run_blk ?_
          refine run_region ?_
          refine run_q (.none rfl) rfl rfl (q_move rfl rfl) ?_
          refine run_q (.none rfl) rfl rfl (q_add rfl rfl rfl (by omega)) ?_
          refine run_q (.none rfl) rfl rfl (q_assign rfl rfl) ?_
          refine run_nil ?_
          exact run_again (k + 1) (by (try dsimp only); exact (by omega)) (by (try dsimp only); omega) (subMk (.cons' (s := 12) rfl (vint (by omega)) (.cons' (s := 11) rfl (congrArg Value.bool (by rw [anyT_succ hkk]; exact found_f (decide_eq_true g47') g43)) (.cons (s := 2) rfl (.cons (s := 3) rfl (.cons (s := 4) rfl (.cons (s := 5) rfl (.cons (s := 6) rfl (.cons (s := 7) rfl (.cons (s := 8) rfl (.cons (s := 9) rfl (.cons (s := 10) rfl .nil))))))))))) (.cons Sel.here .refl (.cons Sel.here .refl (.cons Sel.here .refl (.cons Sel.here .refl (.cons Sel.here .refl (.cons Sel.here .refl (.cons Sel.here .refl .nil))))))))
        · have g47' := g47
          try simp only [decide_eq_true_eq, decide_eq_false_iff_not, beq_iff_eq, beq_eq_false_iff_ne, bne_iff_ne, bne_eq_false_iff_eq, Bool.not_eq_true', Bool.not_eq_false', ne_eq, Int.not_lt, Int.not_le, Decidable.not_not] at g47'
          refine d_off rfl rfl (.no rfl rfl rfl g47) rfl rfl ?_
          refine d_off rfl rfl (.no rfl rfl rfl g47) rfl rfl ?_
          refine d_off rfl rfl (.no rfl rfl rfl g47) rfl rfl ?_
          refine d_off rfl rfl (.no rfl rfl rfl g47) rfl rfl ?_
          refine d_off rfl rfl (.no rfl rfl rfl g47) rfl rfl ?_
          refine d_off rfl rfl (.no rfl rfl rfl g47) rfl rfl ?_
          refine d_off rfl rfl (.no rfl rfl rfl g47) rfl rfl ?_
          refine d_off rfl rfl (.no rfl rfl rfl g47) rfl rfl ?_
          refine d_off rfl rfl (.no rfl rfl rfl g47) rfl rfl ?_
          refine d_q rfl rfl (.on rfl rfl rfl g43) rfl rfl (q_pickF rfl rfl g47 rfl) ?_
          refine d_q rfl rfl (.none rfl) rfl rfl (q_pickF rfl rfl g43 rfl) ?_
          refine d_q rfl rfl (.none rfl) rfl rfl (q_assign rfl rfl) ?_
          refine d_nil ?_
          refine run_sub (subMk (.cons (s := 2) rfl (.cons (s := 3) rfl (.cons (s := 4) rfl (.cons (s := 5) rfl (.cons (s := 6) rfl (.cons (s := 7) rfl (.cons (s := 8) rfl (.cons (s := 9) rfl (.cons (s := 10) rfl (.cons (s := 11) rfl (.cons (s := 12) rfl .nil))))))))))) .refl) ?_
          refine run_blk ?_
          refine run_region ?_
          refine run_q (.none rfl) rfl rfl (q_move rfl rfl) ?_
          refine run_q (.none rfl) rfl rfl (q_add rfl rfl rfl (by omega)) ?_
          refine run_q (.none rfl) rfl rfl (q_assign rfl rfl) ?_
          refine run_nil ?_
          exact run_again (k + 1) (by (try dsimp only); exact (by omega)) (by (try dsimp only); omega) (subMk (.cons' (s := 12) rfl (vint (by omega)) (.cons' (s := 11) rfl (congrArg Value.bool (by rw [anyT_succ hkk]; exact found_n (decide_eq_false g47'))) (.cons (s := 2) rfl (.cons (s := 3) rfl (.cons (s := 4) rfl (.cons (s := 5) rfl (.cons (s := 6) rfl (.cons (s := 7) rfl (.cons (s := 8) rfl (.cons (s := 9) rfl (.cons (s := 10) rfl .nil))))))))))) (.cons Sel.here .refl (.cons Sel.here .refl (.cons Sel.here .refl (.cons Sel.here .refl (.cons Sel.here .refl (.cons Sel.here .refl (.cons Sel.here .refl .nil))))))))
    · have g39' := g39
      try simp only [decide_eq_true_eq, decide_eq_false_iff_not, beq_iff_eq, beq_eq_false_iff_ne, bne_iff_ne, bne_eq_false_iff_eq, Bool.not_eq_true', Bool.not_eq_false', ne_eq, Int.not_lt, Int.not_le, Decidable.not_not] at g39'
      refine run_exit rfl ?_
      refine run_seq ?_
      by_cases hC : (decide ((short x).n.kind = 1)) = true
      · refine run_sub (subMk (.cons (s := 2) rfl (.cons (s := 3) rfl (.cons (s := 4) rfl (.cons (s := 5) rfl (.cons (s := 6) rfl (.cons (s := 7) rfl (.cons (s := 8) rfl (.cons (s := 9) rfl (.cons (s := 10) rfl (.cons' (s := 11) (v' := .bool ((decide ((short y).n.kind = 1)) && (short y).hs.any (pitEq (nth (short x).hs i)))) rfl (congrArg Value.bool (by rw [anyT_end (by omega)])) (.cons (s := 12) rfl (.cons (s := 39) rfl .nil)))))))))))) .refl) ?_
        refine run_region ?_
        refine run_q (.none rfl) rfl rfl (q_move rfl rfl) ?_
        refine run_q (.none rfl) rfl rfl (q_move rfl rfl) ?_
        refine run_split 60 rfl (fun g60 => ?_) (fun g60 => ?_)
        · have g60' := g60
          try simp only [decide_eq_true_eq, decide_eq_false_iff_not, beq_iff_eq, beq_eq_false_iff_ne, bne_iff_ne, bne_eq_false_iff_eq, Bool.not_eq_true', Bool.not_eq_false', ne_eq, Int.not_lt, Int.not_le, Decidable.not_not] at g60'
          refine run_off (.no rfl rfl rfl g60) rfl rfl ?_
          refine run_off (.no rfl rfl rfl g60) rfl rfl ?_
          refine run_off (.off rfl rfl rfl) rfl rfl ?_
          refine run_off (.off rfl rfl rfl) rfl rfl ?_
          refine run_off (.no rfl rfl rfl g60) rfl rfl ?_
          refine run_q (.none rfl) rfl rfl (q_pickT rfl rfl g60 rfl) ?_
          refine run_q (.none rfl) rfl rfl (q_assign rfl rfl) ?_
          refine run_nil ?_
          refine run_sub (subMk (.cons (s := 2) rfl (.cons (s := 3) rfl (.cons (s := 4) rfl (.cons (s := 5) rfl (.cons (s := 6) rfl (.cons (s := 7) rfl (.cons (s := 8) rfl (.cons (s := 9) rfl (.cons (s := 10) rfl (.cons (s := 11) rfl .nil)))))))))) .refl) ?_
          refine run_seq ?_
          refine run_region ?_
          refine run_q (.none rfl) rfl rfl (q_move rfl rfl) ?_
          refine run_q (.none rfl) rfl rfl (q_move rfl rfl) ?_
          refine run_split 68 rfl (fun g68 => ?_) (fun g68 => ?_)
          · have g68' := g68
            try simp only [decide_eq_true_eq, decide_eq_false_iff_not, beq_iff_eq, beq_eq_false_iff_ne, bne_iff_ne, bne_eq_false_iff_eq, Bool.not_eq_true', Bool.not_eq_false', ne_eq, Int.not_lt, Int.not_le, Decidable.not_not] at g68'
            refine run_q (.on rfl rfl rfl g68) rfl rfl (q_move rfl rfl) ?_
            refine run_q (.on rfl rfl rfl g68) rfl rfl (q_not rfl rfl) ?_
            refine run_q (.on rfl rfl rfl g68) rfl rfl (q_move rfl rfl) ?_
            refine run_q (.on rfl rfl rfl (by rw [hC]; try rfl)) rfl rfl (q_fieldB (d := 3) rfl Try.underlying53 rfl rfl sz4 rfl) ?_
            refine run_q (.on rfl rfl rfl (by rw [hC]; try rfl)) rfl rfl (q_loadB rfl one4 rfl Sel.here rfl) ?_
            refine run_q (.on rfl rfl rfl (by rw [hC]; try rfl)) rfl rfl (q_not rfl rfl) ?_
            refine run_q (.on rfl rfl rfl g68) rfl rfl (q_pickF rfl rfl (by rw [hC]; try rfl) rfl) ?_
            refine run_q (.on rfl rfl rfl g68) rfl rfl (q_move rfl rfl) ?_
            refine run_split 76 rfl (fun g76 => ?_) (fun g76 => ?_)
            · have g76' := g76
              try simp only [decide_eq_true_eq, decide_eq_false_iff_not, beq_iff_eq, beq_eq_false_iff_ne, bne_iff_ne, bne_eq_false_iff_eq, Bool.not_eq_true', Bool.not_eq_false', ne_eq, Int.not_lt, Int.not_le, Decidable.not_not] at g76'
              refine run_off (.no rfl rfl rfl g76) rfl rfl ?_
              refine run_q (.on rfl rfl rfl g68) rfl rfl (q_pickT rfl rfl g76 rfl) ?_
              refine run_q (.none rfl) rfl rfl (q_pickT rfl rfl g68 rfl) ?_
              refine run_q (.none rfl) rfl rfl (q_assign rfl rfl) ?_
              refine run_nil ?_
              refine run_sub (subMk (.cons (s := 2) rfl (.cons (s := 3) rfl (.cons (s := 4) rfl (.cons (s := 5) rfl (.cons (s := 6) rfl (.cons (s := 7) rfl (.cons (s := 8) rfl (.cons (s := 9) rfl (.cons (s := 10) rfl .nil))))))))) .refl) ?_
              refine run_seq ?_
              refine run_region ?_
              refine run_q (.none rfl) rfl rfl (q_fieldB (d := 3) rfl Try.underlying53 rfl rfl sz4 rfl) ?_
              refine run_h (.none rfl) (h_storeB rfl rfl sz4 rfl rfl rfl rfl rfl Sel.here rfl) ?_
              rintro - -
              refine run_nil ?_
              refine run_region ?_
              refine run_q (.none rfl) rfl rfl (q_fieldB (d := 5) rfl Try.underlying30 rfl rfl sz26 rfl) ?_
              refine run_q (.none rfl) rfl rfl (q_loadB rfl one26 rfl (.there Sel.here) rfl) ?_
              refine run_q (.none rfl) rfl rfl (q_loadBN rfl agg53 rfl Sel.here (.cons rfl (.cons rfl (.cons rfl (.cons rfl (.cons rfl CellsAt.nil))))) rfl) ?_
              refine run_h (.none rfl) (h_buildSlice rfl rfl rfl Try.underlying26 info53 (.cons rfl rfl rfl rfl Parts.nil) rfl (by omega)) ?_
              rintro b84 -
              refine run_h (.none rfl) (h_append rfl rfl rfl Try.underlying26 info53 rfl rfl (.there (.there (.there Sel.here))) rfl (.own Sel.here) rfl (all1 rfl) (all1 rfl) (by omega) (by omega)) ?_
              rintro ⟨A85, c85⟩ -
              refine run_q (.none rfl) rfl rfl (q_fieldB (d := 5) rfl Try.underlying30 rfl rfl sz26 rfl) ?_
              refine run_h (.none rfl) (h_storeB rfl rfl sz26 rfl rfl rfl rfl rfl (.there (.there (.there Sel.here))) rfl) ?_
              rintro - -
              refine run_nil ?_
              refine run_sub (subMk (.cons (s := 2) rfl (.cons (s := 3) rfl (.cons (s := 4) rfl (.cons (s := 5) rfl (.cons (s := 6) rfl (.cons (s := 7) rfl (.cons (s := 8) rfl (.cons (s := 9) rfl .nil)))))))) .refl) ?_
              refine run_blk ?_
              refine run_region ?_
              refine run_q (.none rfl) rfl rfl (q_move rfl rfl) ?_
              refine run_q (.none rfl) rfl rfl (q_add rfl rfl rfl (by omega)) ?_
              refine run_q (.none rfl) rfl rfl (q_assign rfl rfl) ?_
              refine run_nil ?_
              exact run_again (i + 1, A85, c85) (by (try dsimp only); exact (by omega)) (by (try dsimp only); omega) (subMk (.cons' (s := 9) rfl (vint (by omega)) (.cons' (s := 6) rfl (congrArg Value.bool (by rw [anyT_succ hil]; exact found_t g60)) (.cons' (s := 7) rfl (congrArg Value.bool (by rw [allT_succ hil, g68, lawJ, joinH, g76]; simp)) (.cons (s := 2) rfl (.cons (s := 3) rfl (.cons (s := 4) rfl (.cons (s := 5) rfl (.cons (s := 8) rfl .nil)))))))) (.cons Sel.here (.blk (.cons (s := 0) rfl (.cons (s := 1) rfl (.cons (s := 2) rfl (.cons (s := 3) rfl (.cons (s := 4) rfl (.cons (s := 5) rfl (.cons (s := 6) rfl (.cons (s := 7) rfl (.cons (s := 8) rfl (.cons (s := 9) rfl (.cons (s := 10) rfl (.cons (s := 11) rfl (.cons (s := 12) rfl (.nil))))))))))))))) (.cons Sel.here (.own rfl rfl rfl (by rw [take_nth hil, List.map_append, List.map_append]; rfl)) (.cons (.there (.there Sel.here)) .refl (.cons (.there (.there Sel.here)) .refl (.cons (.there (.there Sel.here)) .refl (.cons (.there (.there Sel.here)) .refl .nil)))))))
            · have g76' := g76
              try simp only [decide_eq_true_eq, decide_eq_false_iff_not, beq_iff_eq, beq_eq_false_iff_ne, bne_iff_ne, bne_eq_false_iff_eq, Bool.not_eq_true', Bool.not_eq_false', ne_eq, Int.not_lt, Int.not_le, Decidable.not_not] at g76'
              refine run_q (.on rfl rfl rfl g76) rfl rfl (q_move rfl rfl) ?_
              refine run_q (.on rfl rfl rfl g68) rfl rfl (q_pickF rfl rfl g76 rfl) ?_
              refine run_q (.none rfl) rfl rfl (q_pickT rfl rfl g68 rfl) ?_
              refine run_q (.none rfl) rfl rfl (q_assign rfl rfl) ?_
              refine run_nil ?_
              refine run_sub (subMk (.cons (s := 2) rfl (.cons (s := 3) rfl (.cons (s := 4) rfl (.cons (s := 5) rfl (.cons (s := 6) rfl (.cons (s := 7) rfl (.cons (s := 8) rfl (.cons (s := 9) rfl (.cons (s := 10) rfl .nil))))))))) .refl) ?_
              refine run_seq ?_
              refine run_region ?_
              refine run_q (.none rfl) rfl rfl (q_fieldB (d := 3) rfl Try.underlying53 rfl rfl sz4 rfl) ?_
              refine run_h (.none rfl) (h_storeB rfl rfl sz4 rfl rfl rfl rfl rfl Sel.here rfl) ?_
              rintro - -
              refine run_nil ?_
              refine run_region ?_
              refine run_q (.none rfl) rfl rfl (q_fieldB (d := 5) rfl Try.underlying30 rfl rfl sz26 rfl) ?_
              refine run_q (.none rfl) rfl rfl (q_loadB rfl one26 rfl (.there Sel.here) rfl) ?_
              refine run_q (.none rfl) rfl rfl (q_loadBN rfl agg53 rfl Sel.here (.cons rfl (.cons rfl (.cons rfl (.cons rfl (.cons rfl CellsAt.nil))))) rfl) ?_
              refine run_h (.none rfl) (h_buildSlice rfl rfl rfl Try.underlying26 info53 (.cons rfl rfl rfl rfl Parts.nil) rfl (by omega)) ?_
              rintro b84 -
              refine run_h (.none rfl) (h_append rfl rfl rfl Try.underlying26 info53 rfl rfl (.there (.there (.there Sel.here))) rfl (.own Sel.here) rfl (all1 rfl) (all1 rfl) (by omega) (by omega)) ?_
              rintro ⟨A85, c85⟩ -
              refine run_q (.none rfl) rfl rfl (q_fieldB (d := 5) rfl Try.underlying30 rfl rfl sz26 rfl) ?_
              refine run_h (.none rfl) (h_storeB rfl rfl sz26 rfl rfl rfl rfl rfl (.there (.there (.there Sel.here))) rfl) ?_
              rintro - -
              refine run_nil ?_
              refine run_sub (subMk (.cons (s := 2) rfl (.cons (s := 3) rfl (.cons (s := 4) rfl (.cons (s := 5) rfl (.cons (s := 6) rfl (.cons (s := 7) rfl (.cons (s := 8) rfl (.cons (s := 9) rfl .nil)))))))) .refl) ?_
              refine run_blk ?_
              refine run_region ?_
              refine run_q (.none rfl) rfl rfl (q_move rfl rfl) ?_
              refine run_q (.none rfl) rfl rfl (q_add rfl rfl rfl (by omega)) ?_
              refine run_q (.none rfl) rfl rfl (q_assign rfl rfl) ?_
              refine run_nil ?_
              exact run_again (i + 1, A85, c85) (by (try dsimp only); exact (by omega)) (by (try dsimp only); omega) (subMk (.cons' (s := 9) rfl (vint (by omega)) (.cons' (s := 6) rfl (congrArg Value.bool (by rw [anyT_succ hil]; exact found_t g60)) (.cons' (s := 7) rfl (congrArg Value.bool (by rw [allT_succ hil, g68, lawJ, joinH, hC, g76]; rfl)) (.cons (s := 2) rfl (.cons (s := 3) rfl (.cons (s := 4) rfl (.cons (s := 5) rfl (.cons (s := 8) rfl .nil)))))))) (.cons Sel.here (.blk (.cons (s := 0) rfl (.cons (s := 1) rfl (.cons (s := 2) rfl (.cons (s := 3) rfl (.cons (s := 4) rfl (.cons (s := 5) rfl (.cons (s := 6) rfl (.cons (s := 7) rfl (.cons (s := 8) rfl (.cons (s := 9) rfl (.cons (s := 10) rfl (.cons (s := 11) rfl (.cons (s := 12) rfl (.nil))))))))))))))) (.cons Sel.here (.own rfl rfl rfl (by rw [take_nth hil, List.map_append, List.map_append]; rfl)) (.cons (.there (.there Sel.here)) .refl (.cons (.there (.there Sel.here)) .refl (.cons (.there (.there Sel.here)) .refl (.cons (.there (.there Sel.here)) .refl .nil)))))))
          · have g68' := g68
            try simp only [decide_eq_true_eq, decide_eq_false_iff_not, beq_iff_eq, beq_eq_false_iff_ne, bne_iff_ne, bne_eq_false_iff_eq, Bool.not_eq_true', Bool.not_eq_false', ne_eq, Int.not_lt, Int.not_le, Decidable.not_not] at g68'
            refine run_off (.no rfl rfl rfl g68) rfl rfl ?_
            refine run_off (.no rfl rfl rfl g68) rfl rfl ?_
            refine run_off (.no rfl rfl rfl g68) rfl rfl ?_
            refine run_off (.off rfl rfl rfl) rfl rfl ?_
            refine run_off (.off rfl rfl rfl) rfl rfl ?_
            refine run_off (.off rfl rfl rfl) rfl rfl ?_
            refine run_off (.no rfl rfl rfl g68) rfl rfl ?_
            refine run_off (.no rfl rfl rfl g68) rfl rfl ?_
            refine run_off (.off rfl rfl rfl) rfl rfl ?_
            refine run_off (.no rfl rfl rfl g68) rfl rfl ?_
            refine run_q (.none rfl) rfl rfl (q_pickF rfl rfl g68 rfl) ?_
            refine run_q (.none rfl) rfl rfl (q_assign rfl rfl) ?_
            refine run_nil ?_
            refine run_sub (subMk (.cons (s := 2) rfl (.cons (s := 3) rfl (.cons (s := 4) rfl (.cons (s := 5) rfl (.cons (s := 6) rfl (.cons (s := 7) rfl (.cons (s := 8) rfl (.cons (s := 9) rfl (.cons (s := 10) rfl .nil))))))))) .refl) ?_
            refine run_seq ?_
            refine run_region ?_
            refine run_q (.none rfl) rfl rfl (q_fieldB (d := 3) rfl Try.underlying53 rfl rfl sz4 rfl) ?_
            refine run_h (.none rfl) (h_storeB rfl rfl sz4 rfl rfl rfl rfl rfl Sel.here rfl) ?_
            rintro - -
            refine run_nil ?_
            refine run_region ?_
            refine run_q (.none rfl) rfl rfl (q_fieldB (d := 5) rfl Try.underlying30 rfl rfl sz26 rfl) ?_
            refine run_q (.none rfl) rfl rfl (q_loadB rfl one26 rfl (.there Sel.here) rfl) ?_
            refine run_q (.none rfl) rfl rfl (q_loadBN rfl agg53 rfl Sel.here (.cons rfl (.cons rfl (.cons rfl (.cons rfl (.cons rfl CellsAt.nil))))) rfl) ?_
            refine run_h (.none rfl) (h_buildSlice rfl rfl rfl Try.underlying26 info53 (.cons rfl rfl rfl rfl Parts.nil) rfl (by omega)) ?_
            rintro b84 -
            refine run_h (.none rfl) (h_append rfl rfl rfl Try.underlying26 info53 rfl rfl (.there (.there (.there Sel.here))) rfl (.own Sel.here) rfl (all1 rfl) (all1 rfl) (by omega) (by omega)) ?_
            rintro ⟨A85, c85⟩ -
            refine run_q (.none rfl) rfl rfl (q_fieldB (d := 5) rfl Try.underlying30 rfl rfl sz26 rfl) ?_
            refine run_h (.none rfl) (h_storeB rfl rfl sz26 rfl rfl rfl rfl rfl (.there (.there (.there Sel.here))) rfl) ?_
            rintro - -
            refine run_nil ?_
            refine run_sub (subMk (.cons (s := 2) rfl (.cons (s := 3) rfl (.cons (s := 4) rfl (.cons (s := 5) rfl (.cons (s := 6) rfl (.cons (s := 7) rfl (.cons (s := 8) rfl (.cons (s := 9) rfl .nil)))))))) .refl) ?_
            refine run_blk ?_
            refine run_region ?_
            refine run_q (.none rfl) rfl rfl (q_move rfl rfl) ?_
            refine run_q (.none rfl) rfl rfl (q_add rfl rfl rfl (by omega)) ?_
            refine run_q (.none rfl) rfl rfl (q_assign rfl rfl) ?_
            refine run_nil ?_
            exact run_again (i + 1, A85, c85) (by (try dsimp only); exact (by omega)) (by (try dsimp only); omega) (subMk (.cons' (s := 9) rfl (vint (by omega)) (.cons' (s := 6) rfl (congrArg Value.bool (by rw [anyT_succ hil]; exact found_t g60)) (.cons' (s := 7) rfl (congrArg Value.bool (by rw [allT_succ hil, g68]; rfl)) (.cons (s := 2) rfl (.cons (s := 3) rfl (.cons (s := 4) rfl (.cons (s := 5) rfl (.cons (s := 8) rfl .nil)))))))) (.cons Sel.here (.blk (.cons (s := 0) rfl (.cons (s := 1) rfl (.cons (s := 2) rfl (.cons (s := 3) rfl (.cons (s := 4) rfl (.cons (s := 5) rfl (.cons (s := 6) rfl (.cons (s := 7) rfl (.cons (s := 8) rfl (.cons (s := 9) rfl (.cons (s := 10) rfl (.cons (s := 11) rfl (.cons (s := 12) rfl (.nil))))))))))))))) (.cons Sel.here (.own rfl rfl rfl (by rw [take_nth hil, List.map_append, List.map_append]; rfl)) (.cons (.there (.there Sel.here)) .refl (.cons (.there (.there Sel.here)) .refl (.cons (.there (.there Sel.here)) .refl (.cons (.there (.there Sel.here)) .refl .nil)))))))
        · have g60' := g60
          try simp only [decide_eq_true_eq, decide_eq_false_iff_not, beq_iff_eq, beq_eq_false_iff_ne, bne_iff_ne, bne_eq_false_iff_eq, Bool.not_eq_true', Bool.not_eq_false', ne_eq, Int.not_lt, Int.not_le, Decidable.not_not] at g60'
          refine run_q (.on rfl rfl rfl g60) rfl rfl (q_move rfl rfl) ?_
          refine run_q (.on rfl rfl rfl g60) rfl rfl (q_move rfl rfl) ?_
          refine run_q (.on rfl rfl rfl hC) rfl rfl (q_fieldB (d := 3) rfl Try.underlying53 rfl rfl sz4 rfl) ?_
          refine run_q (.on rfl rfl rfl hC) rfl rfl (q_loadB rfl one4 rfl Sel.here rfl) ?_
          refine run_q (.on rfl rfl rfl g60) rfl rfl (q_pickT rfl rfl hC rfl) ?_
          refine run_q (.none rfl) rfl rfl (q_pickF rfl rfl g60 rfl) ?_
          refine run_q (.none rfl) rfl rfl (q_assign rfl rfl) ?_
          refine run_nil ?_
          refine run_sub (subMk (.cons (s := 2) rfl (.cons (s := 3) rfl (.cons (s := 4) rfl (.cons (s := 5) rfl (.cons (s := 6) rfl (.cons (s := 7) rfl (.cons (s := 8) rfl (.cons (s := 9) rfl (.cons (s := 10) rfl (.cons (s := 11) rfl .nil)))))))))) .refl) ?_
          refine run_seq ?_
          refine run_region ?_
          refine run_q (.none rfl) rfl rfl (q_move rfl rfl) ?_
          refine run_q (.none rfl) rfl rfl (q_move rfl rfl) ?_
          refine run_split 68 rfl (fun g68 => ?_) (fun g68 => ?_)
          · have g68' := g68
            try simp only [decide_eq_true_eq, decide_eq_false_iff_not, beq_iff_eq, beq_eq_false_iff_ne, bne_iff_ne, bne_eq_false_iff_eq, Bool.not_eq_true', Bool.not_eq_false', ne_eq, Int.not_lt, Int.not_le, Decidable.not_not] at g68'
            refine run_q (.on rfl rfl rfl g68) rfl rfl (q_move rfl rfl) ?_
            refine run_q (.on rfl rfl rfl g68) rfl rfl (q_not rfl rfl) ?_
            refine run_q (.on rfl rfl rfl g68) rfl rfl (q_move rfl rfl) ?_
            refine run_q (.on rfl rfl rfl (by rw [hC]; try rfl)) rfl rfl (q_fieldB (d := 3) rfl Try.underlying53 rfl rfl sz4 rfl) ?_
            refine run_q (.on rfl rfl rfl (by rw [hC]; try rfl)) rfl rfl (q_loadB rfl one4 rfl Sel.here rfl) ?_
            refine run_q (.on rfl rfl rfl (by rw [hC]; try rfl)) rfl rfl (q_not rfl rfl) ?_
            refine run_q (.on rfl rfl rfl g68) rfl rfl (q_pickF rfl rfl (by rw [hC]; try rfl) rfl) ?_
            refine run_q (.on rfl rfl rfl g68) rfl rfl (q_move rfl rfl) ?_
            refine run_split 76 rfl (fun g76 => ?_) (fun g76 => ?_)
            · have g76' := g76
              try simp only [decide_eq_true_eq, decide_eq_false_iff_not, beq_iff_eq, beq_eq_false_iff_ne, bne_iff_ne, bne_eq_false_iff_eq, Bool.not_eq_true', Bool.not_eq_false', ne_eq, Int.not_lt, Int.not_le, Decidable.not_not] at g76'
              refine run_off (.no rfl rfl rfl g76) rfl rfl ?_
              refine run_q (.on rfl rfl rfl g68) rfl rfl (q_pickT rfl rfl g76 rfl) ?_
              refine run_q (.none rfl) rfl rfl (q_pickT rfl rfl g68 rfl) ?_
              refine run_q (.none rfl) rfl rfl (q_assign rfl rfl) ?_
              refine run_nil ?_
              refine run_sub (subMk (.cons (s := 2) rfl (.cons (s := 3) rfl (.cons (s := 4) rfl (.cons (s := 5) rfl (.cons (s := 6) rfl (.cons (s := 7) rfl (.cons (s := 8) rfl (.cons (s := 9) rfl (.cons (s := 10) rfl .nil))))))))) .refl) ?_
              refine run_seq ?_
              refine run_region ?_
              refine run_q (.none rfl) rfl rfl (q_fieldB (d := 3) rfl Try.underlying53 rfl rfl sz4 rfl) ?_
              refine run_h (.none rfl) (h_storeB rfl rfl sz4 rfl rfl rfl rfl rfl Sel.here rfl) ?_
              rintro - -
              refine run_nil ?_
              refine run_region ?_
              refine run_q (.none rfl) rfl rfl (q_fieldB (d := 5) rfl Try.underlying30 rfl rfl sz26 rfl) ?_
              refine run_q (.none rfl) rfl rfl (q_loadB rfl one26 rfl (.there Sel.here) rfl) ?_
              refine run_q (.none rfl) rfl rfl (q_loadBN rfl agg53 rfl Sel.here (.cons rfl (.cons rfl (.cons rfl (.cons rfl (.cons rfl CellsAt.nil))))) rfl) ?_
              refine run_h (.none rfl) (h_buildSlice rfl rfl rfl Try.underlying26 info53 (.cons rfl rfl rfl rfl Parts.nil) rfl (by omega)) ?_
              rintro b84 -
              refine run_h (.none rfl) (h_append rfl rfl rfl Try.underlying26 info53 rfl rfl (.there (.there (.there Sel.here))) rfl (.own Sel.here) rfl (all1 rfl) (all1 rfl) (by omega) (by omega)) ?_
              rintro ⟨A85, c85⟩ -
              refine run_q (.none rfl) rfl rfl (q_fieldB (d := 5) rfl Try.underlying30 rfl rfl sz26 rfl) ?_
              refine run_h (.none rfl) (h_storeB rfl rfl sz26 rfl rfl rfl rfl rfl (.there (.there (.there Sel.here))) rfl) ?_
              rintro - -
              refine run_nil ?_
              refine run_sub (subMk (.cons (s := 2) rfl (.cons (s := 3) rfl (.cons (s := 4) rfl (.cons (s := 5) rfl (.cons (s := 6) rfl (.cons (s := 7) rfl (.cons (s := 8) rfl (.cons (s := 9) rfl .nil)))))))) .refl) ?_
              refine run_blk ?_
              refine run_region ?_
              refine run_q (.none rfl) rfl rfl (q_move rfl rfl) ?_
              refine run_q (.none rfl) rfl rfl (q_add rfl rfl rfl (by omega)) ?_
              refine run_q (.none rfl) rfl rfl (q_assign rfl rfl) ?_
              refine run_nil ?_
              exact run_again (i + 1, A85, c85) (by (try dsimp only); exact (by omega)) (by (try dsimp only); omega) (subMk (.cons' (s := 9) rfl (vint (by omega)) (.cons' (s := 6) rfl (congrArg Value.bool (by rw [anyT_succ hil]; exact found_f hC g60)) (.cons' (s := 7) rfl (congrArg Value.bool (by rw [allT_succ hil, g68, lawJ, joinH, g76]; simp)) (.cons (s := 2) rfl (.cons (s := 3) rfl (.cons (s := 4) rfl (.cons (s := 5) rfl (.cons (s := 8) rfl .nil)))))))) (.cons Sel.here (.blk (.cons (s := 0) rfl (.cons (s := 1) rfl (.cons (s := 2) rfl (.cons (s := 3) rfl (.cons (s := 4) rfl (.cons (s := 5) rfl (.cons (s := 6) rfl (.cons (s := 7) rfl (.cons (s := 8) rfl (.cons (s := 9) rfl (.cons (s := 10) rfl (.cons (s := 11) rfl (.cons (s := 12) rfl (.nil))))))))))))))) (.cons Sel.here (.own rfl rfl rfl (by rw [take_nth hil, List.map_append, List.map_append]; rfl)) (.cons (.there (.there Sel.here)) .refl (.cons (.there (.there Sel.here)) .refl (.cons (.there (.there Sel.here)) .refl (.cons (.there (.there Sel.here)) .refl .nil)))))))
            · have g76' := g76
              try simp only [decide_eq_true_eq, decide_eq_false_iff_not, beq_iff_eq, beq_eq_false_iff_ne, bne_iff_ne, bne_eq_false_iff_eq, Bool.not_eq_true', Bool.not_eq_false', ne_eq, Int.not_lt, Int.not_le, Decidable.not_not] at g76'
              refine run_q (.on rfl rfl rfl g76) rfl rfl (q_move rfl rfl) ?_
              refine run_q (.on rfl rfl rfl g68) rfl rfl (q_pickF rfl rfl g76 rfl) ?_
              refine run_q (.none rfl) rfl rfl (q_pickT rfl rfl g68 rfl) ?_
              refine run_q (.none rfl) rfl rfl (q_assign rfl rfl) ?_
              refine run_nil ?_
              refine run_sub (subMk (.cons (s := 2) rfl (.cons (s := 3) rfl (.cons (s := 4) rfl (.cons (s := 5) rfl (.cons (s := 6) rfl (.cons (s := 7) rfl (.cons (s := 8) rfl (.cons (s := 9) rfl (.cons (s := 10) rfl .nil))))))))) .refl) ?_
              refine run_seq ?_
              refine run_region ?_
              refine run_q (.none rfl) rfl rfl (q_fieldB (d := 3) rfl Try.underlying53 rfl rfl sz4 rfl) ?_
              refine run_h (.none rfl) (h_storeB rfl rfl sz4 rfl rfl rfl rfl rfl Sel.here rfl) ?_
              rintro - -
              refine run_nil ?_
              refine run_region ?_
              refine run_q (.none rfl) rfl rfl (q_fieldB (d := 5) rfl Try.underlying30 rfl rfl sz26 rfl) ?_
              refine run_q (.none rfl) rfl rfl (q_loadB rfl one26 rfl (.there Sel.here) rfl) ?_
              refine run_q (.none rfl) rfl rfl (q_loadBN rfl agg53 rfl Sel.here (.cons rfl (.cons rfl (.cons rfl (.cons rfl (.cons rfl CellsAt.nil))))) rfl) ?_
              refine run_h (.none rfl) (h_buildSlice rfl rfl rfl Try.underlying26 info53 (.cons rfl rfl rfl rfl Parts.nil) rfl (by omega)) ?_
              rintro b84 -
              refine run_h (.none rfl) (h_append rfl rfl rfl Try.underlying26 info53 rfl rfl (.there (.there (.there Sel.here))) rfl (.own Sel.here) rfl (all1 rfl) (all1 rfl) (by omega) (by omega)) ?_
              rintro ⟨A85, c85⟩ -
              refine run_q (.none rfl) rfl rfl (q_fieldB (d := 5) rfl Try.underlying30 rfl rfl sz26 rfl) ?_
              refine run_h (.none rfl) (h_storeB rfl rfl sz26 rfl rfl rfl rfl rfl (.there (.there (.there Sel.here))) rfl) ?_
              rintro - -
              refine run_nil ?_
              refine run_sub (subMk (.cons (s := 2) rfl (.cons (s := 3) rfl (.cons (s := 4) rfl (.cons (s := 5) rfl (.cons (s := 6) rfl (.cons (s := 7) rfl (.cons (s := 8) rfl (.cons (s := 9) rfl .nil)))))))) .refl) ?_
              refine run_blk ?_
              refine run_region ?_
              refine run_q (.none rfl) rfl rfl (q_move rfl rfl) ?_
              refine run_q (.none rfl) rfl rfl (q_add rfl rfl rfl (by omega)) ?_
              refine run_q (.none rfl) rfl rfl (q_assign rfl rfl) ?_
              refine run_nil ?_
              exact run_again (i + 1, A85, c85) (by (try dsimp only); exact (by omega)) (by (try dsimp only); omega) (subMk (.cons' (s := 9) rfl (vint (by omega)) (.cons' (s := 6) rfl (congrArg Value.bool (by rw [anyT_succ hil]; exact found_f hC g60)) (.cons' (s := 7) rfl (congrArg Value.bool (by rw [allT_succ hil, g68, lawJ, joinH, hC, g76]; rfl)) (.cons (s := 2) rfl (.cons (s := 3) rfl (.cons (s := 4) rfl (.cons (s := 5) rfl (.cons (s := 8) rfl .nil)))))))) (.cons Sel.here (.blk (.cons (s := 0) rfl (.cons (s := 1) rfl (.cons (s := 2) rfl (.cons (s := 3) rfl (.cons (s := 4) rfl (.cons (s := 5) rfl (.cons (s := 6) rfl (.cons (s := 7) rfl (.cons (s := 8) rfl (.cons (s := 9) rfl (.cons (s := 10) rfl (.cons (s := 11) rfl (.cons (s := 12) rfl (.nil))))))))))))))) (.cons Sel.here (.own rfl rfl rfl (by rw [take_nth hil, List.map_append, List.map_append]; rfl)) (.cons (.there (.there Sel.here)) .refl (.cons (.there (.there Sel.here)) .refl (.cons (.there (.there Sel.here)) .refl (.cons (.there (.there Sel.here)) .refl .nil)))))))
          · have g68' := g68
            try simp only [decide_eq_true_eq, decide_eq_false_iff_not, beq_iff_eq, beq_eq_false_iff_ne, bne_iff_ne, bne_eq_false_iff_eq, Bool.not_eq_true', Bool.not_eq_false', ne_eq, Int.not_lt, Int.not_le, Decidable.not_not] at g68'
            refine run_off (.no rfl rfl rfl g68) rfl rfl ?_
            refine run_off (.no rfl rfl rfl g68) rfl rfl ?_
            refine run_off (.no rfl rfl rfl g68) rfl rfl ?_
            refine run_off (.off rfl rfl rfl) rfl rfl ?_
            refine run_off (.off rfl rfl rfl) rfl rfl ?_
            refine run_off (.off rfl rfl rfl) rfl rfl ?_
            refine run_off (.no rfl rfl rfl g68) rfl rfl ?_
            refine run_off (.no rfl rfl rfl g68) rfl rfl ?_
            refine run_off (.off rfl rfl rfl) rfl rfl ?_
            refine run_off (.no rfl rfl rfl g68) rfl rfl ?_
            refine run_q (.none rfl) rfl rfl (q_pickF rfl rfl g68 rfl) ?_
            refine run_q (.none rfl) rfl rfl (q_assign rfl rfl) ?_
            refine run_nil ?_
            refine run_sub (subMk (.cons (s := 2) rfl (.cons (s := 3) rfl (.cons (s := 4) rfl (.cons (s := 5) rfl (.cons (s := 6) rfl (.cons (s := 7) rfl (.cons (s := 8) rfl (.cons (s := 9) rfl (.cons (s := 10) rfl .nil))))))))) .refl) ?_
            refine run_seq ?_
            refine run_region ?_
            refine run_q (.none rfl) rfl rfl (q_fieldB (d := 3) rfl Try.underlying53 rfl rfl sz4 rfl) ?_
            refine run_h (.none rfl) (h_storeB rfl rfl sz4 rfl rfl rfl rfl rfl Sel.here rfl) ?_
            rintro - -
            refine run_nil ?_
            refine run_region ?_
            refine run_q (.none rfl) rfl rfl (q_fieldB (d := 5) rfl Try.underlying30 rfl rfl sz26 rfl) ?_
            refine run_q (.none rfl) rfl rfl (q_loadB rfl one26 rfl (.there Sel.here) rfl) ?_
            refine run_q (.none rfl) rfl rfl (q_loadBN rfl agg53 rfl Sel.here (.cons rfl (.cons rfl (.cons rfl (.cons rfl (.cons rfl CellsAt.nil))))) rfl) ?_
            refine run_h (.none rfl) (h_buildSlice rfl rfl rfl Try.underlying26 info53 (.cons rfl rfl rfl rfl Parts.nil) rfl (by omega)) ?_
            rintro b84 -
            refine run_h (.none rfl) (h_append rfl rfl rfl Try.underlying26 info53 rfl rfl (.there (.there (.there Sel.here))) rfl (.own Sel.here) rfl (all1 rfl) (all1 rfl) (by omega) (by omega)) ?_
            rintro ⟨A85, c85⟩ -
            refine run_q (.none rfl) rfl rfl (q_fieldB (d := 5) rfl Try.underlying30 rfl rfl sz26 rfl) ?_
            refine run_h (.none rfl) (h_storeB rfl rfl sz26 rfl rfl rfl rfl rfl (.there (.there (.there Sel.here))) rfl) ?_
            rintro - -
            refine run_nil ?_
            refine run_sub (subMk (.cons (s := 2) rfl (.cons (s := 3) rfl (.cons (s := 4) rfl (.cons (s := 5) rfl (.cons (s := 6) rfl (.cons (s := 7) rfl (.cons (s := 8) rfl (.cons (s := 9) rfl .nil)))))))) .refl) ?_
            refine run_blk ?_
            refine run_region ?_
            refine run_q (.none rfl) rfl rfl (q_move rfl rfl) ?_
            refine run_q (.none rfl) rfl rfl (q_add rfl rfl rfl (by omega)) ?_
            refine run_q (.none rfl) rfl rfl (q_assign rfl rfl) ?_
            refine run_nil ?_
            exact run_again (i + 1, A85, c85) (by (try dsimp only); exact (by omega)) (by (try dsimp only); omega) (subMk (.cons' (s := 9) rfl (vint (by omega)) (.cons' (s := 6) rfl (congrArg Value.bool (by rw [anyT_succ hil]; exact found_f hC g60)) (.cons' (s := 7) rfl (congrArg Value.bool (by rw [allT_succ hil, g68]; rfl)) (.cons (s := 2) rfl (.cons (s := 3) rfl (.cons (s := 4) rfl (.cons (s := 5) rfl (.cons (s := 8) rfl .nil)))))))) (.cons Sel.here (.blk (.cons (s := 0) rfl (.cons (s := 1) rfl (.cons (s := 2) rfl (.cons (s := 3) rfl (.cons (s := 4) rfl (.cons (s := 5) rfl (.cons (s := 6) rfl (.cons (s := 7) rfl (.cons (s := 8) rfl (.cons (s := 9) rfl (.cons (s := 10) rfl (.cons (s := 11) rfl (.cons (s := 12) rfl (.nil))))))))))))))) (.cons Sel.here (.own rfl rfl rfl (by rw [take_nth hil, List.map_append, List.map_append]; rfl)) (.cons (.there (.there Sel.here)) .refl (.cons (.there (.there Sel.here)) .refl (.cons (.there (.there Sel.here)) .refl (.cons (.there (.there Sel.here)) .refl .nil)))))))
      · refine run_sub (subMk (.cons (s := 2) rfl (.cons (s := 3) rfl (.cons (s := 4) rfl (.cons (s := 5) rfl (.cons (s := 6) rfl (.cons (s := 7) rfl (.cons (s := 8) rfl (.cons (s := 9) rfl (.cons (s := 10) rfl (.cons' (s := 11) (v' := .bool ((decide ((short y).n.kind = 1)) && (short y).hs.any (pitEq (nth (short x).hs i)))) rfl (congrArg Value.bool (by rw [anyT_end (by omega)])) (.cons (s := 12) rfl (.cons (s := 39) rfl .nil)))))))))))) .refl) ?_
        refine run_region ?_
        refine run_q (.none rfl) rfl rfl (q_move rfl rfl) ?_
        refine run_q (.none rfl) rfl rfl (q_move rfl rfl) ?_
        refine run_split 60 rfl (fun g60 => ?_) (fun g60 => ?_)
        · have g60' := g60
          try simp only [decide_eq_true_eq, decide_eq_false_iff_not, beq_iff_eq, beq_eq_false_iff_ne, bne_iff_ne, bne_eq_false_iff_eq, Bool.not_eq_true', Bool.not_eq_false', ne_eq, Int.not_lt, Int.not_le, Decidable.not_not] at g60'
          refine run_off (.no rfl rfl rfl g60) rfl rfl ?_
          refine run_off (.no rfl rfl rfl g60) rfl rfl ?_
          refine run_off (.off rfl rfl rfl) rfl rfl ?_
          refine run_off (.off rfl rfl rfl) rfl rfl ?_
          refine run_off (.no rfl rfl rfl g60) rfl rfl ?_
          refine run_q (.none rfl) rfl rfl (q_pickT rfl rfl g60 rfl) ?_
          refine run_q (.none rfl) rfl rfl (q_assign rfl rfl) ?_
          refine run_nil ?_
          refine run_sub (subMk (.cons (s := 2) rfl (.cons (s := 3) rfl (.cons (s := 4) rfl (.cons (s := 5) rfl (.cons (s := 6) rfl (.cons (s := 7) rfl (.cons (s := 8) rfl (.cons (s := 9) rfl (.cons (s := 10) rfl (.cons (s := 11) rfl .nil)))))))))) .refl) ?_
          refine run_seq ?_
          refine run_region ?_
          refine run_q (.none rfl) rfl rfl (q_move rfl rfl) ?_
          refine run_q (.none rfl) rfl rfl (q_move rfl rfl) ?_
          refine run_split 68 rfl (fun g68 => ?_) (fun g68 => ?_)
          · have g68' := g68
            try simp only [decide_eq_true_eq, decide_eq_false_iff_not, beq_iff_eq, beq_eq_false_iff_ne, bne_iff_ne, bne_eq_false_iff_eq, Bool.not_eq_true', Bool.not_eq_false', ne_eq, Int.not_lt, Int.not_le, Decidable.not_not] at g68'
            refine run_q (.on rfl rfl rfl g68) rfl rfl (q_move rfl rfl) ?_
            refine run_q (.on rfl rfl rfl g68) rfl rfl (q_not rfl rfl) ?_
            refine run_q (.on rfl rfl rfl g68) rfl rfl (q_move rfl rfl) ?_
            refine run_off (.no rfl rfl rfl (by rw [Bool.eq_false_iff.2 hC]; try rfl)) rfl rfl ?_
            refine run_off (.no rfl rfl rfl (by rw [Bool.eq_false_iff.2 hC]; try rfl)) rfl rfl ?_
            refine run_off (.no rfl rfl rfl (by rw [Bool.eq_false_iff.2 hC]; try rfl)) rfl rfl ?_
            refine run_q (.on rfl rfl rfl g68) rfl rfl (q_pickT rfl rfl (by rw [Bool.eq_false_iff.2 hC]; try rfl) rfl) ?_
            refine run_q (.on rfl rfl rfl g68) rfl rfl (q_move rfl rfl) ?_
            refine run_off (.no rfl rfl rfl rfl) rfl rfl ?_
            refine run_q (.on rfl rfl rfl g68) rfl rfl (q_pickT rfl rfl rfl rfl) ?_
            refine run_q (.none rfl) rfl rfl (q_pickT rfl rfl g68 rfl) ?_
            refine run_q (.none rfl) rfl rfl (q_assign rfl rfl) ?_
            refine run_nil ?_
            refine run_sub (subMk (.cons (s := 2) rfl (.cons (s := 3) rfl (.cons (s := 4) rfl (.cons (s := 5) rfl (.cons (s := 6) rfl (.cons (s := 7) rfl (.cons (s := 8) rfl (.cons (s := 9) rfl (.cons (s := 10) rfl .nil))))))))) .refl) ?_
            refine run_seq ?_
            refine run_region ?_
            refine run_q (.none rfl) rfl rfl (q_fieldB (d := 3) rfl Try.underlying53 rfl rfl sz4 rfl) ?_
            refine run_h (.none rfl) (h_storeB rfl rfl sz4 rfl rfl rfl rfl rfl Sel.here rfl) ?_
            rintro - -
            refine run_nil ?_
            refine run_region ?_
            refine run_q (.none rfl) rfl rfl (q_fieldB (d := 5) rfl Try.underlying30 rfl rfl sz26 rfl) ?_
            refine run_q (.none rfl) rfl rfl (q_loadB rfl one26 rfl (.there Sel.here) rfl) ?_
            refine run_q (.none rfl) rfl rfl (q_loadBN rfl agg53 rfl Sel.here (.cons rfl (.cons rfl (.cons rfl (.cons rfl (.cons rfl CellsAt.nil))))) rfl) ?_
            refine run_h (.none rfl) (h_buildSlice rfl rfl rfl Try.underlying26 info53 (.cons rfl rfl rfl rfl Parts.nil) rfl (by omega)) ?_
            rintro b84 -
            refine run_h (.none rfl) (h_append rfl rfl rfl Try.underlying26 info53 rfl rfl (.there (.there (.there Sel.here))) rfl (.own Sel.here) rfl (all1 rfl) (all1 rfl) (by omega) (by omega)) ?_
            rintro ⟨A85, c85⟩ -
            refine run_q (.none rfl) rfl rfl (q_fieldB (d := 5) rfl Try.underlying30 rfl rfl sz26 rfl) ?_
            refine run_h (.none rfl) (h_storeB rfl rfl sz26 rfl rfl rfl rfl rfl (.there (.there (.there Sel.here))) rfl) ?_
            rintro - -
            refine run_nil ?_
            refine run_sub (subMk (.cons (s := 2) rfl (.cons (s := 3) rfl (.cons (s := 4) rfl (.cons (s := 5) rfl (.cons (s := 6) rfl (.cons (s := 7) rfl (.cons (s := 8) rfl (.cons (s := 9) rfl .nil)))))))) .refl) ?_
            refine run_blk ?_
            refine run_region ?_
            refine run_q (.none rfl) rfl rfl (q_move rfl rfl) ?_
            refine run_q (.none rfl) rfl rfl (q_add rfl rfl rfl (by omega)) ?_
            refine run_q (.none rfl) rfl rfl (q_assign rfl rfl) ?_
            refine run_nil ?_
            exact run_again (i + 1, A85, c85) (by (try dsimp only); exact (by omega)) (by (try dsimp only); omega) (subMk (.cons' (s := 9) rfl (vint (by omega)) (.cons' (s := 6) rfl (congrArg Value.bool (by rw [anyT_succ hil]; exact found_t g60)) (.cons' (s := 7) rfl (congrArg Value.bool (by rw [allT_succ hil, g68, lawJ, Bool.eq_false_iff.2 hC]; rfl)) (.cons (s := 2) rfl (.cons (s := 3) rfl (.cons (s := 4) rfl (.cons (s := 5) rfl (.cons (s := 8) rfl .nil)))))))) (.cons Sel.here (.blk (.cons (s := 0) rfl (.cons (s := 1) rfl (.cons (s := 2) rfl (.cons (s := 3) rfl (.cons (s := 4) rfl (.cons (s := 5) rfl (.cons (s := 6) rfl (.cons (s := 7) rfl (.cons (s := 8) rfl (.cons (s := 9) rfl (.cons (s := 10) rfl (.cons (s := 11) rfl (.cons (s := 12) rfl (.nil))))))))))))))) (.cons Sel.here (.own rfl rfl rfl (by rw [take_nth hil, List.map_append, List.map_append]; rfl)) (.cons (.there (.there Sel.here)) .refl (.cons (.there (.there Sel.here)) .refl (.cons (.there (.there Sel.here)) .refl (.cons (.there (.there Sel.here)) .refl .nil)))))))
          · have g68' := g68
            try simp only [decide_eq_true_eq, decide_eq_false_iff_not, beq_iff_eq, beq_eq_false_iff_ne, bne_iff_ne, bne_eq_false_iff_eq, Bool.not_eq_true', Bool.not_eq_false', ne_eq, Int.not_lt, Int.not_le, Decidable.not_not] at g68'
            refine run_off (.no rfl rfl rfl g68) rfl rfl ?_
            refine run_off (.no rfl rfl rfl g68) rfl rfl ?_
            refine run_off (.no rfl rfl rfl g68) rfl rfl ?_
            refine run_off (.off rfl rfl rfl) rfl rfl ?_
            refine run_off (.off rfl rfl rfl) rfl rfl ?_
            refine run_off (.off rfl rfl rfl) rfl rfl ?_
            refine run_off (.no rfl rfl rfl g68) rfl rfl ?_
            refine run_off (.no rfl rfl rfl g68) rfl rfl ?_
            refine run_off (.off rfl rfl rfl) rfl rfl ?_
            refine run_off (.no rfl rfl rfl g68) rfl rfl ?_
            refine run_q (.none rfl) rfl rfl (q_pickF rfl rfl g68 rfl) ?_
            refine run_q (.none rfl) rfl rfl (q_assign rfl rfl) ?_
            refine run_nil ?_
            refine run_sub (subMk (.cons (s := 2) rfl (.cons (s := 3) rfl (.cons (s := 4) rfl (.cons (s := 5) rfl (.cons (s := 6) rfl (.cons (s := 7) rfl (.cons (s := 8) rfl (.cons (s := 9) rfl (.cons (s := 10) rfl .nil))))))))) .refl) ?_
            refine run_seq ?_
            refine run_region ?_
            refine run_q (.none rfl) rfl rfl (q_fieldB (d := 3) rfl Try.underlying53 rfl rfl sz4 rfl) ?_
            refine run_h (.none rfl) (h_storeB rfl rfl sz4 rfl rfl rfl rfl rfl Sel.here rfl) ?_
            rintro - -
            refine run_nil ?_
            refine run_region ?_
            refine run_q (.none rfl) rfl rfl (q_fieldB (d := 5) rfl Try.underlying30 rfl rfl sz26 rfl) ?_
            refine run_q (.none rfl) rfl rfl (q_loadB rfl one26 rfl (.there Sel.here) rfl) ?_
            refine run_q (.none rfl) rfl rfl (q_loadBN rfl agg53 rfl Sel.here (.cons rfl (.cons rfl (.cons rfl (.cons rfl (.cons rfl CellsAt.nil))))) rfl) ?_
            refine run_h (.none rfl) (h_buildSlice rfl rfl rfl Try.underlying26 info53 (.cons rfl rfl rfl rfl Parts.nil) rfl (by omega)) ?_
            rintro b84 -
            refine run_h (.none rfl) (h_append rfl rfl rfl Try.underlying26 info53 rfl rfl (.there (.there (.there Sel.here))) rfl (.own Sel.here) rfl (all1 rfl) (all1 rfl) (by omega) (by omega)) ?_
            rintro ⟨A85, c85⟩ -
            refine run_q (.none rfl) rfl rfl (q_fieldB (d := 5) rfl Try.underlying30 rfl rfl sz26 rfl) ?_
            refine run_h (.none rfl) (h_storeB rfl rfl sz26 rfl rfl rfl rfl rfl (.there (.there (.there Sel.here))) rfl) ?_
            rintro - -
            refine run_nil ?_
            refine run_sub (subMk (.cons (s := 2) rfl (.cons (s := 3) rfl (.cons (s := 4) rfl (.cons (s := 5) rfl (.cons (s := 6) rfl (.cons (s := 7) rfl (.cons (s := 8) rfl (.cons (s := 9) rfl .nil)))))))) .refl) ?_
            refine run_blk ?_
            refine run_region ?_
            refine run_q (.none rfl) rfl rfl (q_move rfl rfl) ?_
            refine run_q (.none rfl) rfl rfl (q_add rfl rfl rfl (by omega)) ?_
            refine run_q (.none rfl) rfl rfl (q_assign rfl rfl) ?_
            refine run_nil ?_
            exact run_again (i + 1, A85, c85) (by (try dsimp only); exact (by omega)) (by (try dsimp only); omega) (subMk (.cons' (s := 9) rfl (vint (by omega)) (.cons' (s := 6) rfl (congrArg Value.bool (by rw [anyT_succ hil]; exact found_t g60)) (.cons' (s := 7) rfl (congrArg Value.bool (by rw [allT_succ hil, g68]; rfl)) (.cons (s := 2) rfl (.cons (s := 3) rfl (.cons (s := 4) rfl (.cons (s := 5) rfl (.cons (s := 8) rfl .nil)))))))) (.cons Sel.here (.blk (.cons (s := 0) rfl (.cons (s := 1) rfl (.cons (s := 2) rfl (.cons (s := 3) rfl (.cons (s := 4) rfl (.cons (s := 5) rfl (.cons (s := 6) rfl (.cons (s := 7) rfl (.cons (s := 8) rfl (.cons (s := 9) rfl (.cons (s := 10) rfl (.cons (s := 11) rfl (.cons (s := 12) rfl (.nil))))))))))))))) (.cons Sel.here (.own rfl rfl rfl (by rw [take_nth hil, List.map_append, List.map_append]; rfl)) (.cons (.there (.there Sel.here)) .refl (.cons (.there (.there Sel.here)) .refl (.cons (.there (.there Sel.here)) .refl (.cons (.there (.there Sel.here)) .refl .nil)))))))
        · have g60' := g60
          try simp only [decide_eq_true_eq, decide_eq_false_iff_not, beq_iff_eq, beq_eq_false_iff_ne, bne_iff_ne, bne_eq_false_iff_eq, Bool.not_eq_true', Bool.not_eq_false', ne_eq, Int.not_lt, Int.not_le, Decidable.not_not] at g60'
          refine run_q (.on rfl rfl rfl g60) rfl rfl (q_move rfl rfl) ?_
          refine run_q (.on rfl rfl rfl g60) rfl rfl (q_move rfl rfl) ?_
          refine run_off (.no rfl rfl rfl (Bool.eq_false_iff.2 hC)) rfl rfl ?_
          refine run_off (.no rfl rfl rfl (Bool.eq_false_iff.2 hC)) rfl rfl ?_
          refine run_q (.on rfl rfl rfl g60) rfl rfl (q_pickF rfl rfl (Bool.eq_false_iff.2 hC) rfl) ?_
          refine run_q (.none rfl) rfl rfl (q_pickF rfl rfl g60 rfl) ?_
          refine run_q (.none rfl) rfl rfl (q_assign rfl rfl) ?_
          refine run_nil ?_
          refine run_sub (subMk (.cons (s := 2) rfl (.cons (s := 3) rfl (.cons (s := 4) rfl (.cons (s := 5) rfl (.cons (s := 6) rfl (.cons (s := 7) rfl (.cons (s := 8) rfl (.cons (s := 9) rfl (.cons (s := 10) rfl (.cons (s := 11) rfl .nil)))))))))) .refl) ?_
          refine run_seq ?_
          refine run_region ?_
          refine run_q (.none rfl) rfl rfl (q_move rfl rfl) ?_
          refine run_q (.none rfl) rfl rfl (q_move rfl rfl) ?_
          refine run_split 68 rfl (fun g68 => ?_) (fun g68 => ?_)
          · have g68' := g68
            try simp only [decide_eq_true_eq, decide_eq_false_iff_not, beq_iff_eq, beq_eq_false_iff_ne, bne_iff_ne, bne_eq_false_iff_eq, Bool.not_eq_true', Bool.not_eq_false', ne_eq, Int.not_lt, Int.not_le, Decidable.not_not] at g68'
            refine run_q (.on rfl rfl rfl g68) rfl rfl (q_move rfl rfl) ?_
            refine run_q (.on rfl rfl rfl g68) rfl rfl (q_not rfl rfl) ?_
            refine run_q (.on rfl rfl rfl g68) rfl rfl (q_move rfl rfl) ?_
            refine run_off (.no rfl rfl rfl (by rw [Bool.eq_false_iff.2 hC]; try rfl)) rfl rfl ?_
            refine run_off (.no rfl rfl rfl (by rw [Bool.eq_false_iff.2 hC]; try rfl)) rfl rfl ?_
            refine run_off (.no rfl rfl rfl (by rw [Bool.eq_false_iff.2 hC]; try rfl)) rfl rfl ?_
            refine run_q (.on rfl rfl rfl g68) rfl rfl (q_pickT rfl rfl (by rw [Bool.eq_false_iff.2 hC]; try rfl) rfl) ?_
            refine run_q (.on rfl rfl rfl g68) rfl rfl (q_move rfl rfl) ?_
            refine run_off (.no rfl rfl rfl rfl) rfl rfl ?_
            refine run_q (.on rfl rfl rfl g68) rfl rfl (q_pickT rfl rfl rfl rfl) ?_
            refine run_q (.none rfl) rfl rfl (q_pickT rfl rfl g68 rfl) ?_
            refine run_q (.none rfl) rfl rfl (q_assign rfl rfl) ?_
            refine run_nil ?_
            refine run_sub (subMk (.cons (s := 2) rfl (.cons (s := 3) rfl (.cons (s := 4) rfl (.cons (s := 5) rfl (.cons (s := 6) rfl (.cons (s := 7) rfl (.cons (s := 8) rfl (.cons (s := 9) rfl (.cons (s := 10) rfl .nil))))))))) .refl) ?_
            refine run_seq ?_
            refine run_region ?_
            refine run_q (.none rfl) rfl rfl (q_fieldB (d := 3) rfl Try.underlying53 rfl rfl sz4 rfl) ?_
            refine run_h (.none rfl) (h_storeB rfl rfl sz4 rfl rfl rfl rfl rfl Sel.here rfl) ?_
            rintro - -
            refine run_nil ?_
            refine run_region ?_
            refine run_q (.none rfl) rfl rfl (q_fieldB (d := 5) rfl Try.underlying30 rfl rfl sz26 rfl) ?_
            refine run_q (.none rfl) rfl rfl (q_loadB rfl one26 rfl (.there Sel.here) rfl) ?_
            refine run_q (.none rfl) rfl rfl (q_loadBN rfl agg53 rfl Sel.here (.cons rfl (.cons rfl (.cons rfl (.cons rfl (.cons rfl CellsAt.nil))))) rfl) ?_
            refine run_h (.none rfl) (h_buildSlice rfl rfl rfl Try.underlying26 info53 (.cons rfl rfl rfl rfl Parts.nil) rfl (by omega)) ?_
            rintro b84 -
            refine run_h (.none rfl) (h_append rfl rfl rfl Try.underlying26 info53 rfl rfl (.there (.there (.there Sel.here))) rfl (.own Sel.here) rfl (all1 rfl) (all1 rfl) (by omega) (by omega)) ?_
            rintro ⟨A85, c85⟩ -
            refine run_q (.none rfl) rfl rfl (q_fieldB (d := 5) rfl Try.underlying30 rfl rfl sz26 rfl) ?_
            refine run_h (.none rfl) (h_storeB rfl rfl sz26 rfl rfl rfl rfl rfl (.there (.there (.there Sel.here))) rfl) ?_
            rintro - -
            refine run_nil ?_
            refine run_sub (subMk (.cons (s := 2) rfl (.cons (s := 3) rfl (.cons (s := 4) rfl (.cons (s := 5) rfl (.cons (s := 6) rfl (.cons (s := 7) rfl (.cons (s := 8) rfl (.cons (s := 9) rfl .nil)))))))) .refl) ?_
            refine run_blk ?_
            refine run_region ?_
            refine run_q (.none rfl) rfl rfl (q_move rfl rfl) ?_
            refine run_q (.none rfl) rfl rfl (q_add rfl rfl rfl (by omega)) ?_
            refine run_q (.none rfl) rfl rfl (q_assign rfl rfl) ?_
            refine run_nil ?_
            exact run_again (i + 1, A85, c85) (by (try dsimp only); exact (by omega)) (by (try dsimp only); omega) (subMk (.cons' (s := 9) rfl (vint (by omega)) (.cons' (s := 6) rfl (congrArg Value.bool (by rw [anyT_succ hil]; exact found_n (Bool.eq_false_iff.2 hC))) (.cons' (s := 7) rfl (congrArg Value.bool (by rw [allT_succ hil, g68, lawJ, Bool.eq_false_iff.2 hC]; rfl)) (.cons (s := 2) rfl (.cons (s := 3) rfl (.cons (s := 4) rfl (.cons (s := 5) rfl (.cons (s := 8) rfl .nil)))))))) (.cons Sel.here (.blk (.cons (s := 0) rfl (.cons (s := 1) rfl (.cons (s := 2) rfl (.cons (s := 3) rfl (.cons (s := 4) rfl (.cons (s := 5) rfl (.cons (s := 6) rfl (.cons (s := 7) rfl (.cons (s := 8) rfl (.cons (s := 9) rfl (.cons (s := 10) rfl (.cons (s := 11) rfl (.cons (s := 12) rfl (.nil))))))))))))))) (.cons Sel.here (.own rfl rfl rfl (by rw [take_nth hil, List.map_append, List.map_append]; rfl)) (.cons (.there (.there Sel.here)) .refl (.cons (.there (.there Sel.here)) .refl (.cons (.there (.there Sel.here)) .refl (.cons (.there (.there Sel.here)) .refl .nil)))))))
          · have g68' := g68
            try simp only [decide_eq_true_eq, decide_eq_false_iff_not, beq_iff_eq, beq_eq_false_iff_ne, bne_iff_ne, bne_eq_false_iff_eq, Bool.not_eq_true', Bool.not_eq_false', ne_eq, Int.not_lt, Int.not_le, Decidable.not_not] at g68'
            refine run_off (.no rfl rfl rfl g68) rfl rfl ?_
            refine run_off (.no rfl rfl rfl g68) rfl rfl ?_
            refine run_off (.no rfl rfl rfl g68) rfl rfl ?_
            refine run_off (.off rfl rfl rfl) rfl rfl ?_
            refine run_off (.off rfl rfl rfl) rfl rfl ?_
            refine run_off (.off rfl rfl rfl) rfl rfl ?_
            refine run_off (.no rfl rfl rfl g68) rfl rfl ?_
            refine run_off (.no rfl rfl rfl g68) rfl rfl ?_
            refine run_off (.off rfl rfl rfl) rfl rfl ?_
            refine run_off (.no rfl rfl rfl g68) rfl rfl ?_
            refine run_q (.none rfl) rfl rfl (q_pickF rfl rfl g68 rfl) ?_
            refine run_q (.none rfl) rfl rfl (q_assign rfl rfl) ?_
            refine run_nil ?_
            refine run_sub (subMk (.cons (s := 2) rfl (.cons (s := 3) rfl (.cons (s := 4) rfl (.cons (s := 5) rfl (.cons (s := 6) rfl (.cons (s := 7) rfl (.cons (s := 8) rfl (.cons (s := 9) rfl (.cons (s := 10) rfl .nil))))))))) .refl) ?_
            refine run_seq ?_
            refine run_region ?_
            refine run_q (.none rfl) rfl rfl (q_fieldB (d := 3) rfl Try.underlying53 rfl rfl sz4 rfl) ?_
            refine run_h (.none rfl) (h_storeB rfl rfl sz4 rfl rfl rfl rfl rfl Sel.here rfl) ?_
            rintro - -
            refine run_nil ?_
            refine run_region ?_
            refine run_q (.none rfl) rfl rfl (q_fieldB (d := 5) rfl Try.underlying30 rfl rfl sz26 rfl) ?_
            refine run_q (.none rfl) rfl rfl (q_loadB rfl one26 rfl (.there Sel.here) rfl) ?_
            refine run_q (.none rfl) rfl rfl (q_loadBN rfl agg53 rfl Sel.here (.cons rfl (.cons rfl (.cons rfl (.cons rfl (.cons rfl CellsAt.nil))))) rfl) ?_
            refine run_h (.none rfl) (h_buildSlice rfl rfl rfl Try.underlying26 info53 (.cons rfl rfl rfl rfl Parts.nil) rfl (by omega)) ?_
            rintro b84 -
            refine run_h (.none rfl) (h_append rfl rfl rfl Try.underlying26 info53 rfl rfl (.there (.there (.there Sel.here))) rfl (.own Sel.here) rfl (all1 rfl) (all1 rfl) (by omega) (by omega)) ?_
            rintro ⟨A85, c85⟩ -
            refine run_q (.none rfl) rfl rfl (q_fieldB (d := 5) rfl Try.underlying30 rfl rfl sz26 rfl) ?_
            refine run_h (.none rfl) (h_storeB rfl rfl sz26 rfl rfl rfl rfl rfl (.there (.there (.there Sel.here))) rfl) ?_
            rintro - -
            refine run_nil ?_
            refine run_sub (subMk (.cons (s := 2) rfl (.cons (s := 3) rfl (.cons (s := 4) rfl (.cons (s := 5) rfl (.cons (s := 6) rfl (.cons (s := 7) rfl (.cons (s := 8) rfl (.cons (s := 9) rfl .nil)))))))) .refl) ?_
            refine run_blk ?_
            refine run_region ?_
            refine run_q (.none rfl) rfl rfl (q_move rfl rfl) ?_
            refine run_q (.none rfl) rfl rfl (q_add rfl rfl rfl (by omega)) ?_
            refine run_q (.none rfl) rfl rfl (q_assign rfl rfl) ?_
            refine run_nil ?_
            exact run_again (i + 1, A85, c85) (by (try dsimp only); exact (by omega)) (by (try dsimp only); omega) (subMk (.cons' (s := 9) rfl (vint (by omega)) (.cons' (s := 6) rfl (congrArg Value.bool (by rw [anyT_succ hil]; exact found_n (Bool.eq_false_iff.2 hC))) (.cons' (s := 7) rfl (congrArg Value.bool (by rw [allT_succ hil, g68]; rfl)) (.cons (s := 2) rfl (.cons (s := 3) rfl (.cons (s := 4) rfl (.cons (s := 5) rfl (.cons (s := 8) rfl .nil)))))))) (.cons Sel.here (.blk (.cons (s := 0) rfl (.cons (s := 1) rfl (.cons (s := 2) rfl (.cons (s := 3) rfl (.cons (s := 4) rfl (.cons (s := 5) rfl (.cons (s := 6) rfl (.cons (s := 7) rfl (.cons (s := 8) rfl (.cons (s := 9) rfl (.cons (s := 10) rfl (.cons (s := 11) rfl (.cons (s := 12) rfl (.nil))))))))))))))) (.cons Sel.here (.own rfl rfl rfl (by rw [take_nth hil, List.map_append, List.map_append]; rfl)) (.cons (.there (.there Sel.here)) .refl (.cons (.there (.there Sel.here)) .refl (.cons (.there (.there Sel.here)) .refl (.cons (.there (.there Sel.here)) .refl .nil)))))))
  · have g27' := g27
    try simp only [decide_eq_true_eq, decide_eq_false_iff_not, beq_iff_eq, beq_eq_false_iff_ne, bne_iff_ne, bne_eq_false_iff_eq, Bool.not_eq_true', Bool.not_eq_false', ne_eq, Int.not_lt, Int.not_le, Decidable.not_not] at g27'
    refine run_exit rfl ?_
    refine run_seq ?_
    refine run_sub (subMk (.cons (s := 2) rfl (.cons (s := 3) rfl (.cons (s := 4) rfl (.cons (s := 5) rfl (.cons' (s := 6) (v' := .bool (tiesB (short x))) rfl (congrArg Value.bool (by rw [anyT_end (by omega)]; rfl)) (.cons' (s := 7) (v' := .bool (joinsB (short x) (short y))) rfl (congrArg Value.bool (by rw [allT_end (by omega), lawJ_all])) (.cons (s := 8) rfl (.cons (s := 9) rfl (.cons (s := 27) rfl .nil))))))))) .refl) ?_
    refine run_sub (subMk .refl (.cons Sel.here (.blk (.cons (s := 0) rfl (.cons (s := 1) rfl (.cons (s := 2) rfl (.cons (s := 3) rfl (.cons (s := 4) rfl (.cons' (s := 5) (v' := .slice P (untieE (short x)).hs.length cp) rfl (by rw [show i = (short x).hs.length from by omega]; simp [untieE]) (.cons (s := 6) rfl (.cons (s := 7) rfl (.cons (s := 8) rfl (.cons (s := 9) rfl (.cons (s := 10) rfl (.cons (s := 11) rfl (.cons (s := 12) rfl (.nil))))))))))))))) (.cons Sel.here (.own (m' := (untieE (short x)).hs.length) (xs' := (untieE (short x)).hs.map Hd.enc) rfl (by rw [show i = (short x).hs.length from by omega]; simp [untieE]) rfl (by rw [List.take_of_length_le (by omega)]; rfl)) (.cons Sel.here .refl (.cons Sel.here .refl (.cons Sel.here .refl (.cons Sel.here .refl .nil))))))) ?_
    refine run_region ?_
    refine run_q (.none rfl) rfl rfl (q_loadBN rfl agg30 rfl (.there (.there (.there Sel.here))) (.cons rfl (.cons rfl (.cons rfl (.cons rfl (.cons rfl (.cons rfl (.cons rfl (.cons rfl (.cons rfl (.cons rfl (.cons rfl (.cons rfl (.cons rfl CellsAt.nil))))))))))))) rfl) ?_
    refine run_h (.none rfl) (h_call rfl rfl rfl call39 (.cons rfl Evs.nil) (fun w hk hm => untie_ret (short x) (Lie.mk p.HA p.hc p.GA p.gc O co) w ⟨hSh.kept0 hk, hSg.kept0 hk, (own_rd ((Sel.there (Sel.there (Sel.there (Sel.there (Sel.there Sel.here))))).holds hm))⟩ fS)) ?_
    rintro ⟨v, m⟩ ⟨r, rfl, rfl⟩
    show Run _ _ _ _ _ _ _ ⟨(88, evV (untieE (short x)) r) :: _, _ :: _ :: _ :: _⟩
    refine run_h (.none rfl) (h_alloc rfl rfl rfl info30) ?_
    rintro b13 -
    refine run_h (.none rfl) (h_storeB rfl rfl sz30 rfl rfl rfl rfl rfl Sel.here rfl) ?_
    rintro - -
    refine run_nil ?_
    refine run_sub (subMk (.cons (s := 2) rfl (.cons (s := 3) rfl (.cons (s := 4) rfl (.cons (s := 5) rfl (.cons (s := 6) rfl (.cons (s := 7) rfl (.cons (s := 8) rfl (.cons (s := 13) rfl .nil)))))))) .refl) ?_
    refine run_seq ?_
    refine run_region ?_
    refine run_q (.none rfl) rfl rfl (q_call rfl call14 Evs.nil (fun w hk hm => known_just w)) ?_
    refine run_q (.none rfl) rfl rfl (q_move rfl rfl) ?_
    refine run_q (.on rfl rfl rfl rfl) rfl rfl (q_loadBN rfl agg30 rfl (.there (.there (.there (.there (.there (.there (.there Sel.here))))))) (.cons rfl (.cons rfl (.cons rfl (.cons rfl (.cons rfl (.cons rfl (.cons rfl (.cons rfl (.cons rfl (.cons rfl (.cons rfl (.cons rfl (.cons rfl CellsAt.nil))))))))))))) rfl) ?_
    refine run_q (.on rfl rfl rfl rfl) rfl rfl (q_call rfl call40 (.cons rfl Evs.nil) (fun w hk hm => sounds_just (short x) (Lie.mk p.HA p.hc p.GA p.gc O co) w ⟨hSh.kept0 hk, hSg.kept0 hk, (own_rd ((Sel.there (Sel.there (Sel.there (Sel.there (Sel.there (Sel.there (Sel.there (Sel.there (Sel.there Sel.here))))))))).holds hm))⟩ fS)) ?_
    refine run_q (.on rfl rfl rfl rfl) rfl rfl (q_move rfl rfl) ?_
    refine run_q (.on rfl rfl rfl rfl) rfl rfl (q_move rfl rfl) ?_
    refine run_split 94 rfl (fun g94 => ?_) (fun g94 => ?_)
    · have g94' := g94
      try simp only [decide_eq_true_eq, decide_eq_false_iff_not, beq_iff_eq, beq_eq_false_iff_ne, bne_iff_ne, bne_eq_false_iff_eq, Bool.not_eq_true', Bool.not_eq_false', ne_eq, Int.not_lt, Int.not_le, Decidable.not_not] at g94'
      refine run_q (.on rfl rfl rfl g94) rfl rfl (q_fieldB (d := 5) rfl Try.underlying30 rfl rfl sz26 rfl) ?_
      refine run_q (.on rfl rfl rfl g94) rfl rfl (q_loadB rfl one26 rfl (.there (.there (.there (.there (.there (.there (.there Sel.here))))))) rfl) ?_
      refine run_q (.on rfl rfl rfl g94) rfl rfl (q_len rfl Try.underlying26 rfl) ?_
      refine run_q (.on rfl rfl rfl g94) rfl rfl (q_gtr rfl rfl rfl) ?_
      refine run_q (.on rfl rfl rfl rfl) rfl rfl (q_pickT rfl rfl g94 rfl) ?_
      refine run_q (.on rfl rfl rfl rfl) rfl rfl (q_eqlB rfl rfl rfl Try.underlying4) ?_
      refine run_q (.none rfl) rfl rfl (q_pickT rfl rfl rfl rfl) ?_
      refine run_q (.none rfl) rfl rfl (q_move rfl rfl) ?_
      refine run_q (.on rfl rfl rfl (by rw [soundB, g94]; simp)) rfl rfl (q_loadBN rfl agg30 rfl (.there (.there (.there (.there (.there (.there (.there Sel.here))))))) (.cons rfl (.cons rfl (.cons rfl (.cons rfl (.cons rfl (.cons rfl (.cons rfl (.cons rfl (.cons rfl (.cons rfl (.cons rfl (.cons rfl (.cons rfl CellsAt.nil))))))))))))) rfl) ?_
      refine run_q (.on rfl rfl rfl (by rw [soundB, g94]; simp)) rfl rfl (q_call rfl call41 (.cons rfl Evs.nil) (fun w hk hm => ties_just (short x) (Lie.mk p.HA p.hc p.GA p.gc O co) w ⟨hSh.kept0 hk, hSg.kept0 hk, (own_rd ((Sel.there (Sel.there (Sel.there (Sel.there (Sel.there (Sel.there (Sel.there (Sel.there (Sel.there Sel.here))))))))).holds hm))⟩ fS)) ?_
      refine run_q (.on rfl rfl rfl (by rw [soundB, g94]; simp)) rfl rfl (q_move rfl rfl) ?_
      refine run_q (.on rfl rfl rfl (by rw [soundB, g94]; simp)) rfl rfl (q_eqlB rfl rfl rfl Try.underlying4) ?_
      refine run_q (.none rfl) rfl rfl (q_pickT rfl rfl (by rw [soundB, g94]; simp) rfl) ?_
      refine run_q (.none rfl) rfl rfl (q_move rfl rfl) ?_
      refine run_q (.on rfl rfl rfl (by simp)) rfl rfl (q_loadBN rfl agg30 rfl (.there (.there (.there (.there (.there (.there (.there Sel.here))))))) (.cons rfl (.cons rfl (.cons rfl (.cons rfl (.cons rfl (.cons rfl (.cons rfl (.cons rfl (.cons rfl (.cons rfl (.cons rfl (.cons rfl (.cons rfl CellsAt.nil))))))))))))) rfl) ?_
      refine run_q (.on rfl rfl rfl (by simp)) rfl rfl (q_loadBN rfl agg30 rfl (.there (.there (.there (.there (.there (.there Sel.here)))))) (.cons rfl (.cons rfl (.cons rfl (.cons rfl (.cons rfl (.cons rfl (.cons rfl (.cons rfl (.cons rfl (.cons rfl (.cons rfl (.cons rfl (.cons rfl CellsAt.nil))))))))))))) rfl) ?_
      refine run_q (.on rfl rfl rfl (by simp)) rfl rfl (q_call rfl call42 (.cons rfl (.cons rfl Evs.nil)) (fun w hk hm => joins_just (short x) (short y) (Lie.mk p.HA p.hc p.GA p.gc O co) (Lie.mk q.HA q.hc q.GA q.gc O2 co2) w ⟨hSh.kept0 hk, hSg.kept0 hk, (own_rd ((Sel.there (Sel.there (Sel.there (Sel.there (Sel.there (Sel.there (Sel.there (Sel.there (Sel.there Sel.here))))))))).holds hm))⟩ ⟨hTh.kept0 hk, hTg.kept0 hk, (own_rd ((Sel.there (Sel.there (Sel.there (Sel.there (Sel.there (Sel.there (Sel.there (Sel.there Sel.here)))))))).holds hm))⟩ fS fT)) ?_
      refine run_q (.on rfl rfl rfl (by simp)) rfl rfl (q_move rfl rfl) ?_
      refine run_q (.on rfl rfl rfl (by simp)) rfl rfl (q_eqlB rfl rfl rfl Try.underlying4) ?_
      refine run_q (.none rfl) rfl rfl (q_pickT rfl rfl (by simp) rfl) ?_
      refine run_q (.none rfl) rfl rfl (q_move rfl rfl) ?_
      refine run_q (.on rfl rfl rfl (by simp)) rfl rfl (q_loadBN rfl agg30 rfl Sel.here (.cons rfl (.cons rfl (.cons rfl (.cons rfl (.cons rfl (.cons rfl (.cons rfl (.cons rfl (.cons rfl (.cons rfl (.cons rfl (.cons rfl (.cons rfl CellsAt.nil))))))))))))) rfl) ?_
      refine run_q (.on rfl rfl rfl (by simp)) rfl rfl (q_loadBN rfl agg30 rfl (.there (.there (.there (.there Sel.here)))) (.cons rfl (.cons rfl (.cons rfl (.cons rfl (.cons rfl (.cons rfl (.cons rfl (.cons rfl (.cons rfl (.cons rfl (.cons rfl (.cons rfl (.cons rfl CellsAt.nil))))))))))))) rfl) ?_
      refine run_q (.on rfl rfl rfl (by simp)) rfl rfl (q_call rfl call25 (.cons rfl (.cons rfl Evs.nil)) (fun w hk hm => refequal_just (untieE (short x)) (untieE (short x)) r ⟨P, cp, p.GA, p.gc, O, co⟩ w ⟨(own_rd ((Sel.there Sel.here).holds hm)), (own_rd ((Sel.there (Sel.there Sel.here)).holds hm)), (own_rd ((Sel.there (Sel.there (Sel.there Sel.here))).holds hm))⟩ ⟨(own_rd ((Sel.there (Sel.there (Sel.there (Sel.there (Sel.there Sel.here))))).holds hm)), hSg.kept0 hk, (own_rd ((Sel.there (Sel.there (Sel.there (Sel.there (Sel.there (Sel.there (Sel.there (Sel.there (Sel.there Sel.here))))))))).holds hm))⟩ (untie_few fS) (untie_few fS))) ?_
      refine run_q (.none rfl) rfl rfl (q_pickT rfl rfl (by simp) rfl) ?_
      refine run_q (.none rfl) rfl rfl (q_move rfl rfl) ?_
      refine run_q (.on rfl rfl rfl (decide_eq_true (equalP_refl _))) rfl rfl (q_loadBN rfl agg30 rfl Sel.here (.cons rfl (.cons rfl (.cons rfl (.cons rfl (.cons rfl (.cons rfl (.cons rfl (.cons rfl (.cons rfl (.cons rfl (.cons rfl (.cons rfl (.cons rfl CellsAt.nil))))))))))))) rfl) ?_
      refine run_q (.on rfl rfl rfl (decide_eq_true (equalP_refl _))) rfl rfl (q_call rfl call41 (.cons rfl Evs.nil) (fun w hk hm => ties_just (untieE (short x)) r w ⟨(own_rd ((Sel.there Sel.here).holds hm)), (own_rd ((Sel.there (Sel.there Sel.here)).holds hm)), (own_rd ((Sel.there (Sel.there (Sel.there Sel.here))).holds hm))⟩ (untie_few fS))) ?_
      refine run_q (.on rfl rfl rfl (decide_eq_true (equalP_refl _))) rfl rfl (q_not rfl rfl) ?_
      refine run_q (.none rfl) rfl rfl (q_pickT rfl rfl (decide_eq_true (equalP_refl _)) rfl) ?_
      refine run_q (.none rfl) rfl rfl (q_move rfl rfl) ?_
      refine run_q (.on rfl rfl rfl (by rw [untie_ties]; rfl)) rfl rfl (q_loadBN rfl agg30 rfl Sel.here (.cons rfl (.cons rfl (.cons rfl (.cons rfl (.cons rfl (.cons rfl (.cons rfl (.cons rfl (.cons rfl (.cons rfl (.cons rfl (.cons rfl (.cons rfl CellsAt.nil))))))))))))) rfl) ?_
      refine run_q (.on rfl rfl rfl (by rw [untie_ties]; rfl)) rfl rfl (q_loadBN rfl agg30 rfl (.there (.there (.there (.there (.there (.there Sel.here)))))) (.cons rfl (.cons rfl (.cons rfl (.cons rfl (.cons rfl (.cons rfl (.cons rfl (.cons rfl (.cons rfl (.cons rfl (.cons rfl (.cons rfl (.cons rfl CellsAt.nil))))))))))))) rfl) ?_
      refine run_q (.on rfl rfl rfl (by rw [untie_ties]; rfl)) rfl rfl (q_call rfl call42 (.cons rfl (.cons rfl Evs.nil)) (fun w hk hm => joins_just (untieE (short x)) (short y) r (Lie.mk q.HA q.hc q.GA q.gc O2 co2) w ⟨(own_rd ((Sel.there Sel.here).holds hm)), (own_rd ((Sel.there (Sel.there Sel.here)).holds hm)), (own_rd ((Sel.there (Sel.there (Sel.there Sel.here))).holds hm))⟩ ⟨hTh.kept0 hk, hTg.kept0 hk, (own_rd ((Sel.there (Sel.there (Sel.there (Sel.there (Sel.there (Sel.there (Sel.there (Sel.there Sel.here)))))))).holds hm))⟩ (untie_few fS) fT)) ?_
      refine run_q (.none rfl) rfl rfl (q_pickT rfl rfl (by rw [untie_ties]; rfl) rfl) ?_
      refine run_q (.none rfl) rfl rfl (q_assign rfl rfl) ?_
      refine run_nil ?_
      refine run_sub (subMk (.cons (s := 4) rfl .nil) .refl) ?_
      refine run_ret ?_
      exact end1 rfl rfl (congrArg Value.bool (untie_joins _ _))
    · have g94' := g94
      try simp only [decide_eq_true_eq, decide_eq_false_iff_not, beq_iff_eq, beq_eq_false_iff_ne, bne_iff_ne, bne_eq_false_iff_eq, Bool.not_eq_true', Bool.not_eq_false', ne_eq, Int.not_lt, Int.not_le, Decidable.not_not] at g94'
      refine run_off (.no rfl rfl rfl g94) rfl rfl ?_
      refine run_off (.no rfl rfl rfl g94) rfl rfl ?_
      refine run_off (.no rfl rfl rfl g94) rfl rfl ?_
      refine run_off (.no rfl rfl rfl g94) rfl rfl ?_
      refine run_q (.on rfl rfl rfl rfl) rfl rfl (q_pickF rfl rfl g94 rfl) ?_
      refine run_q (.on rfl rfl rfl rfl) rfl rfl (q_eqlB rfl rfl rfl Try.underlying4) ?_
      refine run_q (.none rfl) rfl rfl (q_pickT rfl rfl rfl rfl) ?_
      refine run_q (.none rfl) rfl rfl (q_move rfl rfl) ?_
      refine run_q (.on rfl rfl rfl (by rw [soundB, g94]; rfl)) rfl rfl (q_loadBN rfl agg30 rfl (.there (.there (.there (.there (.there (.there (.there Sel.here))))))) (.cons rfl (.cons rfl (.cons rfl (.cons rfl (.cons rfl (.cons rfl (.cons rfl (.cons rfl (.cons rfl (.cons rfl (.cons rfl (.cons rfl (.cons rfl CellsAt.nil))))))))))))) rfl) ?_
      refine run_q (.on rfl rfl rfl (by rw [soundB, g94]; rfl)) rfl rfl (q_call rfl call41 (.cons rfl Evs.nil) (fun w hk hm => ties_just (short x) (Lie.mk p.HA p.hc p.GA p.gc O co) w ⟨hSh.kept0 hk, hSg.kept0 hk, (own_rd ((Sel.there (Sel.there (Sel.there (Sel.there (Sel.there (Sel.there (Sel.there (Sel.there (Sel.there Sel.here))))))))).holds hm))⟩ fS)) ?_
      refine run_q (.on rfl rfl rfl (by rw [soundB, g94]; rfl)) rfl rfl (q_move rfl rfl) ?_
      refine run_q (.on rfl rfl rfl (by rw [soundB, g94]; rfl)) rfl rfl (q_eqlB rfl rfl rfl Try.underlying4) ?_
      refine run_q (.none rfl) rfl rfl (q_pickT rfl rfl (by rw [soundB, g94]; rfl) rfl) ?_
      refine run_q (.none rfl) rfl rfl (q_move rfl rfl) ?_
      refine run_q (.on rfl rfl rfl (by simp)) rfl rfl (q_loadBN rfl agg30 rfl (.there (.there (.there (.there (.there (.there (.there Sel.here))))))) (.cons rfl (.cons rfl (.cons rfl (.cons rfl (.cons rfl (.cons rfl (.cons rfl (.cons rfl (.cons rfl (.cons rfl (.cons rfl (.cons rfl (.cons rfl CellsAt.nil))))))))))))) rfl) ?_
      refine run_q (.on rfl rfl rfl (by simp)) rfl rfl (q_loadBN rfl agg30 rfl (.there (.there (.there (.there (.there (.there Sel.here)))))) (.cons rfl (.cons rfl (.cons rfl (.cons rfl (.cons rfl (.cons rfl (.cons rfl (.cons rfl (.cons rfl (.cons rfl (.cons rfl (.cons rfl (.cons rfl CellsAt.nil))))))))))))) rfl) ?_
      refine run_q (.on rfl rfl rfl (by simp)) rfl rfl (q_call rfl call42 (.cons rfl (.cons rfl Evs.nil)) (fun w hk hm => joins_just (short x) (short y) (Lie.mk p.HA p.hc p.GA p.gc O co) (Lie.mk q.HA q.hc q.GA q.gc O2 co2) w ⟨hSh.kept0 hk, hSg.kept0 hk, (own_rd ((Sel.there (Sel.there (Sel.there (Sel.there (Sel.there (Sel.there (Sel.there (Sel.there (Sel.there Sel.here))))))))).holds hm))⟩ ⟨hTh.kept0 hk, hTg.kept0 hk, (own_rd ((Sel.there (Sel.there (Sel.there (Sel.there (Sel.there (Sel.there (Sel.there (Sel.there Sel.here)))))))).holds hm))⟩ fS fT)) ?_
      refine run_q (.on rfl rfl rfl (by simp)) rfl rfl (q_move rfl rfl) ?_
      refine run_q (.on rfl rfl rfl (by simp)) rfl rfl (q_eqlB rfl rfl rfl Try.underlying4) ?_
      refine run_q (.none rfl) rfl rfl (q_pickT rfl rfl (by simp) rfl) ?_
      refine run_q (.none rfl) rfl rfl (q_move rfl rfl) ?_
      refine run_q (.on rfl rfl rfl (by simp)) rfl rfl (q_loadBN rfl agg30 rfl Sel.here (.cons rfl (.cons rfl (.cons rfl (.cons rfl (.cons rfl (.cons rfl (.cons rfl (.cons rfl (.cons rfl (.cons rfl (.cons rfl (.cons rfl (.cons rfl CellsAt.nil))))))))))))) rfl) ?_
      refine run_q (.on rfl rfl rfl (by simp)) rfl rfl (q_loadBN rfl agg30 rfl (.there (.there (.there (.there Sel.here)))) (.cons rfl (.cons rfl (.cons rfl (.cons rfl (.cons rfl (.cons rfl (.cons rfl (.cons rfl (.cons rfl (.cons rfl (.cons rfl (.cons rfl (.cons rfl CellsAt.nil))))))))))))) rfl) ?_
      refine run_q (.on rfl rfl rfl (by simp)) rfl rfl (q_call rfl call25 (.cons rfl (.cons rfl Evs.nil)) (fun w hk hm => refequal_just (untieE (short x)) (untieE (short x)) r ⟨P, cp, p.GA, p.gc, O, co⟩ w ⟨(own_rd ((Sel.there Sel.here).holds hm)), (own_rd ((Sel.there (Sel.there Sel.here)).holds hm)), (own_rd ((Sel.there (Sel.there (Sel.there Sel.here))).holds hm))⟩ ⟨(own_rd ((Sel.there (Sel.there (Sel.there (Sel.there (Sel.there Sel.here))))).holds hm)), hSg.kept0 hk, (own_rd ((Sel.there (Sel.there (Sel.there (Sel.there (Sel.there (Sel.there (Sel.there (Sel.there (Sel.there Sel.here))))))))).holds hm))⟩ (untie_few fS) (untie_few fS))) ?_
      refine run_q (.none rfl) rfl rfl (q_pickT rfl rfl (by simp) rfl) ?_
      refine run_q (.none rfl) rfl rfl (q_move rfl rfl) ?_
      refine run_q (.on rfl rfl rfl (decide_eq_true (equalP_refl _))) rfl rfl (q_loadBN rfl agg30 rfl Sel.here (.cons rfl (.cons rfl (.cons rfl (.cons rfl (.cons rfl (.cons rfl (.cons rfl (.cons rfl (.cons rfl (.cons rfl (.cons rfl (.cons rfl (.cons rfl CellsAt.nil))))))))))))) rfl) ?_
      refine run_q (.on rfl rfl rfl (decide_eq_true (equalP_refl _))) rfl rfl (q_call rfl call41 (.cons rfl Evs.nil) (fun w hk hm => ties_just (untieE (short x)) r w ⟨(own_rd ((Sel.there Sel.here).holds hm)), (own_rd ((Sel.there (Sel.there Sel.here)).holds hm)), (own_rd ((Sel.there (Sel.there (Sel.there Sel.here))).holds hm))⟩ (untie_few fS))) ?_
      refine run_q (.on rfl rfl rfl (decide_eq_true (equalP_refl _))) rfl rfl (q_not rfl rfl) ?_
      refine run_q (.none rfl) rfl rfl (q_pickT rfl rfl (decide_eq_true (equalP_refl _)) rfl) ?_
      refine run_q (.none rfl) rfl rfl (q_move rfl rfl) ?_
      refine run_q (.on rfl rfl rfl (by rw [untie_ties]; rfl)) rfl rfl (q_loadBN rfl agg30 rfl Sel.here (.cons rfl (.cons rfl (.cons rfl (.cons rfl (.cons rfl (.cons rfl (.cons rfl (.cons rfl (.cons rfl (.cons rfl (.cons rfl (.cons rfl (.cons rfl CellsAt.nil))))))))))))) rfl) ?_
      refine run_q (.on rfl rfl rfl (by rw [untie_ties]; rfl)) rfl rfl (q_loadBN rfl agg30 rfl (.there (.there (.there (.there (.there (.there Sel.here)))))) (.cons rfl (.cons rfl (.cons rfl (.cons rfl (.cons rfl (.cons rfl (.cons rfl (.cons rfl (.cons rfl (.cons rfl (.cons rfl (.cons rfl (.cons rfl CellsAt.nil))))))))))))) rfl) ?_
      refine run_q (.on rfl rfl rfl (by rw [untie_ties]; rfl)) rfl rfl (q_call rfl call42 (.cons rfl (.cons rfl Evs.nil)) (fun w hk hm => joins_just (untieE (short x)) (short y) r (Lie.mk q.HA q.hc q.GA q.gc O2 co2) w ⟨(own_rd ((Sel.there Sel.here).holds hm)), (own_rd ((Sel.there (Sel.there Sel.here)).holds hm)), (own_rd ((Sel.there (Sel.there (Sel.there Sel.here))).holds hm))⟩ ⟨hTh.kept0 hk, hTg.kept0 hk, (own_rd ((Sel.there (Sel.there (Sel.there (Sel.there (Sel.there (Sel.there (Sel.there (Sel.there Sel.here)))))))).holds hm))⟩ (untie_few fS) fT)) ?_
      refine run_q (.none rfl) rfl rfl (q_pickT rfl rfl (by rw [untie_ties]; rfl) rfl) ?_
      refine run_q (.none rfl) rfl rfl (q_assign rfl rfl) ?_
      refine run_nil ?_
      refine run_sub (subMk (.cons (s := 4) rfl .nil) .refl) ?_
      refine run_ret ?_
      exact end1 rfl rfl (congrArg Value.bool (untie_joins _ _))

end Go.Proofs.Ytneadapfoaccmaa
