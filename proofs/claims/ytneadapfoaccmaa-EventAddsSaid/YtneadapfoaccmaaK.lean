/- The chapter's example. -/
import Derived.Test.YtneadapfoaccmaaJ
import Derived.Test.YtneadapfoaccmaaMore2
set_option linter.unusedSimpArgs false
set_option linter.unusedVariables false
namespace Go.Proofs.Ytneadapfoaccmaa
open Go Go.RowKit Hr

theorem eqg23 : Try.prog.eqGuardType Try.prog.depth 23 = false := by kernel_rfl
theorem stood23 : Try.prog.stoodInHeld 23 = false := by kernel_rfl
theorem eqs23 (a0 a1 b0 b1 : Int) (w : World) : (Op.equalIn 10000 23 (.agg #[.int .i64 a0, .int .i64 a1]) (.agg #[.int .i64 b0, .int .i64 b1])).run Try.prog w = .ok (a0 == b0 && (a1 == b1)) w := by
  rw [run_equalIn_struct w 9999 23 _ _ (by simp only [Program.fieldsOf, Try.underlying23]) stood23]
  have hz : ∀ (x y : Int) (w : World), (Op.equalIn 9999 3 (.int .i64 x) (.int .i64 y)).run Try.prog w = .ok (x == y) w := fun x y w => run_equalIn_int w 9998 3 .i64 .i64 x y Try.underlying3
  cases h0 : (a0 == b0) <;> cases h1 : (a1 == b1) <;> simp [Program.fieldsOf, Try.underlying23, Op.eqFields, part, one3.1, hz, h0, h1]
theorem built30p0p1p2 (x0y0 : Int) (x0y1 : Int) (x1y : Int) (x2y0 : Int) (x2y1 : Int) : Try.prog.built 30 [(0, .agg #[.int .i64 x0y0, .int .i64 x0y1]), (1, .int .i64 x1y), (2, .agg #[.int .i64 x2y0, .int .i64 x2y1])] = some #[.int .i64 x0y0, .int .i64 x0y1, .int .i64 x1y, .int .i64 x2y0, .int .i64 x2y1, .slice none 0 0, .slice none 0 0, .int .i64 0, .int .i64 0, .int .i64 0, .slice none 0 0, .int .i64 0, .int .i64 0] := by kernel_rfl
theorem info51 : Hr.Info Try.prog 51 [.int .i64 0, .int .i64 0, .int .i64 0] 3 24 := Hr.Info.of (by kernel_rfl)
theorem built53p0 (x0y0 : Int) (x0y1 : Int) (x0y2 : Int) : Try.prog.built 53 [(0, .agg #[.int .i64 x0y0, .int .i64 x0y1, .int .i64 x0y2])] = some #[.int .i64 x0y0, .int .i64 x0y1, .int .i64 x0y2, .bool false, .int .i64 0] := by kernel_rfl
theorem call24 : Hr.Callable Try.prog 24 := fun args w => by kernel_rfl
theorem call15 : Hr.Callable Try.prog 15 := fun args w => by kernel_rfl
theorem built30  : Try.prog.built 30 [] = some #[.int .i64 0, .int .i64 0, .int .i64 0, .int .i64 0, .int .i64 0, .slice none 0 0, .slice none 0 0, .int .i64 0, .int .i64 0, .int .i64 0, .slice none 0 0, .int .i64 0, .int .i64 0] := by kernel_rfl
theorem built51p2 (x2y : Int) : Try.prog.built 51 [(2, .int .i64 x2y)] = some #[.int .i64 0, .int .i64 0, .int .i64 x2y] := by kernel_rfl
theorem built23p1 (x1y : Int) : Try.prog.built 23 [(1, .int .i64 x1y)] = some #[.int .i64 0, .int .i64 x1y] := by kernel_rfl
theorem built25p0 (x0y : Int) : Try.prog.built 25 [(0, .int .i64 x0y)] = some #[.int .i64 x0y, .int .i64 0] := by kernel_rfl
theorem built51p0p2 (x0y : Int) (x2y : Int) : Try.prog.built 51 [(0, .int .i64 x0y), (2, .int .i64 x2y)] = some #[.int .i64 x0y, .int .i64 0, .int .i64 x2y] := by kernel_rfl
theorem built51p0p1p2 (x0y : Int) (x1y : Int) (x2y : Int) : Try.prog.built 51 [(0, .int .i64 x0y), (1, .int .i64 x1y), (2, .int .i64 x2y)] = some #[.int .i64 x0y, .int .i64 x1y, .int .i64 x2y] := by kernel_rfl
theorem call34 : Hr.Callable Try.prog 34 := fun args w => by kernel_rfl
theorem built30p1p2p3p5p7 (x1y : Int) (x2y0 : Int) (x2y1 : Int) (x3yA : Option Addr) (x3yn x3yc : Nat) (x5y : Int) (x7y : Int) : Try.prog.built 30 [(1, .int .i64 x1y), (2, .agg #[.int .i64 x2y0, .int .i64 x2y1]), (3, .slice x3yA x3yn x3yc), (5, .int .i64 x5y), (7, .int .i64 x7y)] = some #[.int .i64 0, .int .i64 0, .int .i64 x1y, .int .i64 x2y0, .int .i64 x2y1, .slice x3yA x3yn x3yc, .slice none 0 0, .int .i64 x5y, .int .i64 0, .int .i64 x7y, .slice none 0 0, .int .i64 0, .int .i64 0] := by kernel_rfl
theorem call27 : Hr.Callable Try.prog 27 := fun args w => by kernel_rfl
theorem eqg51 : Try.prog.eqGuardType Try.prog.depth 51 = false := by kernel_rfl
theorem eqs51 (a0 a1 a2 b0 b1 b2 : Int) (w : World) : (Op.equalIn 10000 51 (.agg #[.int .i64 a0, .int .i64 a1, .int .i64 a2]) (.agg #[.int .i64 b0, .int .i64 b1, .int .i64 b2])).run Try.prog w = .ok (a0 == b0 && (a1 == b1 && (a2 == b2))) w := by
  rw [run_equalIn_struct w 9999 51 _ _ (by simp only [Program.fieldsOf, Try.underlying51]) stood51]
  have hz : ∀ (x y : Int) (w : World), (Op.equalIn 9999 3 (.int .i64 x) (.int .i64 y)).run Try.prog w = .ok (x == y) w := fun x y w => run_equalIn_int w 9998 3 .i64 .i64 x y Try.underlying3
  cases h0 : (a0 == b0) <;> cases h1 : (a1 == b1) <;> cases h2 : (a2 == b2) <;> simp [Program.fieldsOf, Try.underlying51, Op.eqFields, part, one3.1, hz, h0, h1, h2]

set_option maxHeartbeats 1000000 in
set_option maxRecDepth 100000 in
theorem refequal_just (x y : Evt) (p q : Lie) (W : World) (hx : RdE W x p) (hy : RdE W y q) (fx : x.few) (fy : y.few) : Calls Try.prog 25 #[evV x p, evV y q] W (Hr.Just W (.bool (decide (equalP x y)))) := by
  refine Just.of_ret ?_
  refine enterA (X := nX) (vs := [evV x p, evV y q]) Try.func25 Try.ntmps25 rfl rfl Mem.nil ?_
  refine run_seq ?_
  refine run_region ?_
  refine run_h (.none rfl) (h_box rfl rfl rfl rfl rfl) ?_
  rintro b2 -
  refine run_h (.none rfl) (h_box rfl rfl rfl rfl rfl) ?_
  rintro b3 -
  refine run_q (.none rfl) rfl rfl (q_assign rfl rfl) ?_
  refine run_nil ?_
  refine run_seq ?_
  refine run_region ?_
  refine run_q (.none rfl) rfl rfl (q_fieldB (d := 0) rfl Try.underlying30 rfl rfl sz23 rfl) ?_
  refine run_q (.none rfl) rfl rfl (q_loadBN rfl agg23 rfl (.there Sel.here) (.cons rfl (.cons rfl CellsAt.nil)) rfl) ?_
  refine run_q (.none rfl) rfl rfl (q_fieldB (d := 0) rfl Try.underlying30 rfl rfl sz23 rfl) ?_
  refine run_q (.none rfl) rfl rfl (q_loadBN rfl agg23 rfl Sel.here (.cons rfl (.cons rfl CellsAt.nil)) rfl) ?_
  refine run_q (.none rfl) rfl rfl (q_eqlS rfl rfl rfl eqg23 (fun w => eqs23 _ _ _ _ w)) ?_
  refine run_q (.none rfl) rfl rfl (q_move rfl rfl) ?_
  refine run_split 10 rfl (fun g10 => ?_) (fun g10 => ?_)
  · have g10' := g10
    try simp only [decide_eq_true_eq, decide_eq_false_iff_not, beq_iff_eq, beq_eq_false_iff_ne, bne_iff_ne, bne_eq_false_iff_eq, Bool.not_eq_true', Bool.not_eq_false', ne_eq, Int.not_lt, Int.not_le, Decidable.not_not] at g10'
    refine run_q (.on rfl rfl rfl g10) rfl rfl (q_loadBN rfl agg30 rfl (.there Sel.here) (.cons rfl (.cons rfl (.cons rfl (.cons rfl (.cons rfl (.cons rfl (.cons rfl (.cons rfl (.cons rfl (.cons rfl (.cons rfl (.cons rfl (.cons rfl CellsAt.nil))))))))))))) rfl) ?_
    refine run_q (.on rfl rfl rfl g10) rfl rfl (q_loadBN rfl agg30 rfl Sel.here (.cons rfl (.cons rfl (.cons rfl (.cons rfl (.cons rfl (.cons rfl (.cons rfl (.cons rfl (.cons rfl (.cons rfl (.cons rfl (.cons rfl (.cons rfl CellsAt.nil))))))))))))) rfl) ?_
    refine run_q (.on rfl rfl rfl g10) rfl rfl (q_call rfl call32 (.cons rfl (.cons rfl Evs.nil)) (fun w hk hm => refSame_just x y p q w (hx.kept0 hk) (hy.kept0 hk) fx fy)) ?_
    refine run_q (.none rfl) rfl rfl (q_pickT rfl rfl g10 rfl) ?_
    refine run_q (.none rfl) rfl rfl (q_assign rfl rfl) ?_
    refine run_nil ?_
    refine run_sub (subMk (.cons (s := 4) rfl .nil) .refl) ?_
    refine run_ret ?_
    exact end1 rfl rfl (congrArg Value.bool (equal_t g10).symm)
  · have g10' := g10
    try simp only [decide_eq_true_eq, decide_eq_false_iff_not, beq_iff_eq, beq_eq_false_iff_ne, bne_iff_ne, bne_eq_false_iff_eq, Bool.not_eq_true', Bool.not_eq_false', ne_eq, Int.not_lt, Int.not_le, Decidable.not_not] at g10'
    refine run_off (.no rfl rfl rfl g10) rfl rfl ?_
    refine run_off (.no rfl rfl rfl g10) rfl rfl ?_
    refine run_off (.no rfl rfl rfl g10) rfl rfl ?_
    refine run_q (.none rfl) rfl rfl (q_pickF rfl rfl g10 rfl) ?_
    refine run_q (.none rfl) rfl rfl (q_assign rfl rfl) ?_
    refine run_nil ?_
    refine run_sub (subMk (.cons (s := 4) rfl .nil) .refl) ?_
    refine run_ret ?_
    exact end1 rfl rfl (congrArg Value.bool (equal_f g10).symm)

set_option maxHeartbeats 1000000 in
set_option maxRecDepth 100000 in
theorem evEqual_just (x y : Evt) (p q : Lie) (W : World) (hx : RdE W x p) (hy : RdE W y q) (fx : x.few) (fy : y.few) : Calls Try.prog 30 #[evV x p, evV y q] W (Hr.Just W (.bool (decide (equalP x y)))) := by
  refine Just.of_ret ?_
  refine enterA (X := nX) (vs := [evV x p, evV y q]) Try.func30 Try.ntmps30 rfl rfl Mem.nil ?_
  refine run_seq ?_
  refine run_region ?_
  refine run_h (.none rfl) (h_box rfl rfl rfl rfl rfl) ?_
  rintro b2 -
  refine run_h (.none rfl) (h_box rfl rfl rfl rfl rfl) ?_
  rintro b3 -
  refine run_q (.none rfl) rfl rfl (q_assign rfl rfl) ?_
  refine run_nil ?_
  refine run_seq ?_
  refine run_region ?_
  refine run_q (.none rfl) rfl rfl (q_fieldB (d := 0) rfl Try.underlying30 rfl rfl sz23 rfl) ?_
  refine run_q (.none rfl) rfl rfl (q_loadBN rfl agg23 rfl (.there Sel.here) (.cons rfl (.cons rfl CellsAt.nil)) rfl) ?_
  refine run_q (.none rfl) rfl rfl (q_fieldB (d := 0) rfl Try.underlying30 rfl rfl sz23 rfl) ?_
  refine run_q (.none rfl) rfl rfl (q_loadBN rfl agg23 rfl Sel.here (.cons rfl (.cons rfl CellsAt.nil)) rfl) ?_
  refine run_q (.none rfl) rfl rfl (q_eqlS rfl rfl rfl eqg23 (fun w => eqs23 _ _ _ _ w)) ?_
  refine run_q (.none rfl) rfl rfl (q_move rfl rfl) ?_
  refine run_split 10 rfl (fun g10 => ?_) (fun g10 => ?_)
  · have g10' := g10
    try simp only [decide_eq_true_eq, decide_eq_false_iff_not, beq_iff_eq, beq_eq_false_iff_ne, bne_iff_ne, bne_eq_false_iff_eq, Bool.not_eq_true', Bool.not_eq_false', ne_eq, Int.not_lt, Int.not_le, Decidable.not_not] at g10'
    refine run_q (.on rfl rfl rfl g10) rfl rfl (q_loadBN rfl agg30 rfl (.there Sel.here) (.cons rfl (.cons rfl (.cons rfl (.cons rfl (.cons rfl (.cons rfl (.cons rfl (.cons rfl (.cons rfl (.cons rfl (.cons rfl (.cons rfl (.cons rfl CellsAt.nil))))))))))))) rfl) ?_
    refine run_q (.on rfl rfl rfl g10) rfl rfl (q_loadBN rfl agg30 rfl Sel.here (.cons rfl (.cons rfl (.cons rfl (.cons rfl (.cons rfl (.cons rfl (.cons rfl (.cons rfl (.cons rfl (.cons rfl (.cons rfl (.cons rfl (.cons rfl CellsAt.nil))))))))))))) rfl) ?_
    refine run_q (.on rfl rfl rfl g10) rfl rfl (q_call rfl call31 (.cons rfl (.cons rfl Evs.nil)) (fun w hk hm => same_just x y p q w (hx.kept0 hk) (hy.kept0 hk) fx fy)) ?_
    refine run_q (.none rfl) rfl rfl (q_pickT rfl rfl g10 rfl) ?_
    refine run_q (.none rfl) rfl rfl (q_assign rfl rfl) ?_
    refine run_nil ?_
    refine run_sub (subMk (.cons (s := 4) rfl .nil) .refl) ?_
    refine run_ret ?_
    exact end1 rfl rfl (congrArg Value.bool (equal_t g10).symm)
  · have g10' := g10
    try simp only [decide_eq_true_eq, decide_eq_false_iff_not, beq_iff_eq, beq_eq_false_iff_ne, bne_iff_ne, bne_eq_false_iff_eq, Bool.not_eq_true', Bool.not_eq_false', ne_eq, Int.not_lt, Int.not_le, Decidable.not_not] at g10'
    refine run_off (.no rfl rfl rfl g10) rfl rfl ?_
    refine run_off (.no rfl rfl rfl g10) rfl rfl ?_
    refine run_off (.no rfl rfl rfl g10) rfl rfl ?_
    refine run_q (.none rfl) rfl rfl (q_pickF rfl rfl g10 rfl) ?_
    refine run_q (.none rfl) rfl rfl (q_assign rfl rfl) ?_
    refine run_nil ?_
    refine run_sub (subMk (.cons (s := 4) rfl .nil) .refl) ?_
    refine run_ret ?_
    exact end1 rfl rfl (congrArg Value.bool (equal_f g10).symm)

set_option maxHeartbeats 2000000 in
set_option maxRecDepth 100000 in
theorem chord_ret (a b lg d : Int) (ps : List Pit) (P : Option Addr) (pc : Nat) (W : World) (hp : Rd W P 3 (ps.map Pit.enc)) (hl : ps.length ≤ 12) : Calls Try.prog 34 #[.agg #[.int .i64 a, .int .i64 b], .agg #[.int .i64 lg, .int .i64 d], .slice P ps.length pc] W (Ret W nX (fun v m => ∃ q : Lie, v = evV (canE (chordX a b lg d ps)) q ∧ m = [.own 53 5 q.HA (canE (chordX a b lg d ps)).hs.length q.hc ((canE (chordX a b lg d ps)).hs.map Hd.enc), .own 55 5 q.GA (canE (chordX a b lg d ps)).gs.length q.gc ((canE (chordX a b lg d ps)).gs.map Gr.enc), .own 57 2 q.LA (canE (chordX a b lg d ps)).ls.length q.lc ((canE (chordX a b lg d ps)).ls.map Syl.enc)])) := by
  refine enterA (X := nX) (vs := [.agg #[.int .i64 a, .int .i64 b], .agg #[.int .i64 lg, .int .i64 d], .slice P ps.length pc]) Try.func34 Try.ntmps34 rfl rfl Mem.nil ?_
  refine run_seq ?_
  refine run_region ?_
  refine run_h (.none rfl) (h_box rfl rfl rfl rfl rfl) ?_
  rintro b3 -
  refine run_h (.none rfl) (h_box rfl rfl rfl rfl rfl) ?_
  rintro b4 -
  refine run_h (.none rfl) (h_alloc rfl rfl rfl info30) ?_
  rintro b6 -
  refine run_nil ?_
  refine run_seq ?_
  refine run_region ?_
  refine run_q (.none rfl) rfl rfl (q_loadBN rfl agg23 rfl (.there (.there Sel.here)) (.cons rfl (.cons rfl CellsAt.nil)) rfl) ?_
  refine run_q (.none rfl) rfl rfl (q_loadBN rfl agg25 rfl (.there Sel.here) (.cons rfl (.cons rfl CellsAt.nil)) rfl) ?_
  refine run_q (.none rfl) rfl rfl (q_build rfl (.cons rfl (.cons rfl (.cons rfl PV.nil))) (built30p0p1p2 _ _ _ _ _)) ?_
  refine run_h (.none rfl) (h_alloc rfl rfl rfl info30) ?_
  rintro b7 -
  refine run_h (.none rfl) (h_storeB rfl rfl sz30 rfl rfl rfl rfl rfl Sel.here rfl) ?_
  rintro - -
  refine run_nil ?_
  refine run_sub (subMk (.cons (s := 2) rfl (.cons (s := 6) rfl (.cons (s := 7) rfl .nil))) .refl) ?_
  refine run_seq ?_
  refine run_seq ?_
  refine run_region ?_
  refine run_q (.none rfl) rfl rfl (q_move rfl rfl) ?_
  refine run_q (.none rfl) rfl rfl (q_len rfl Try.underlying58 rfl) ?_
  refine run_q (.none rfl) rfl rfl (q_move rfl rfl) ?_
  refine run_nil ?_
  refine run_block ?_
  refine run_sub (subMk .refl (MemSub.nilOwn 53 5)) ?_
  refine run_sub (subMk (.cons (s := 15) rfl (.cons (s := 6) rfl (.cons (s := 7) rfl (.cons (s := 13) rfl (.cons (s := 14) rfl .nil))))) (.cons (.there Sel.here) .refl (.cons Sel.here .refl (.cons Sel.here .refl (.cons Sel.here .refl (.cons Sel.here .refl .nil)))))) ?_
  refine run_loopC1M2 (ι := Nat × (Option Addr) × Nat) (fun gg => gg.1 ≤ ps.length ∧ True) (fun gg => .int .i64 (gg.1 : Int)) (fun gg => .blk b7 30 [(0, .int .i64 a), (1, .int .i64 b), (2, .int .i64 1), (3, .int .i64 lg), (4, .int .i64 d), (5, .slice gg.2.1 gg.1 gg.2.2), (6, .slice none 0 0), (7, .int .i64 0), (8, .int .i64 0), (9, .int .i64 0), (10, .slice none 0 0), (11, .int .i64 0), (12, .int .i64 0)]) (fun gg => .own 53 5 gg.2.1 gg.1 gg.2.2 (((ps.take gg.1).map hdOf).map Hd.enc)) (fun gg => ps.length - gg.1) (0, none, 0) (by (try dsimp only); exact ⟨by omega, trivial⟩) rfl (.blk (.cons (s := 0) rfl (.cons (s := 1) rfl (.cons (s := 2) rfl (.cons (s := 3) rfl (.cons (s := 4) rfl (.cons (s := 5) rfl (.cons (s := 6) rfl (.cons (s := 7) rfl (.cons (s := 8) rfl (.cons (s := 9) rfl (.cons (s := 10) rfl (.cons (s := 11) rfl (.cons (s := 12) rfl (.nil))))))))))))))) (.own rfl rfl rfl rfl) ?_
  rintro ⟨k, O, co⟩ hq
  (try dsimp only at hq)
  obtain ⟨hk, -⟩ := hq
  show Run _ _ _ _ _ _ _ ⟨(15, .int .i64 (k : Int)) :: _, .blk b7 30 [(0, .int .i64 a), (1, .int .i64 b), (2, .int .i64 1), (3, .int .i64 lg), (4, .int .i64 d), (5, .slice O k co), (6, .slice none 0 0), (7, .int .i64 0), (8, .int .i64 0), (9, .int .i64 0), (10, .slice none 0 0), (11, .int .i64 0), (12, .int .i64 0)] :: .own 53 5 O k co (((ps.take k).map hdOf).map Hd.enc) :: _⟩
  refine run_seq ?_
  refine run_region ?_
  refine run_q (.none rfl) rfl rfl (q_lss rfl rfl rfl) ?_
  refine run_nil ?_
  refine run_seq ?_
  refine run_cond rfl (fun g16 => ?_) (fun g16 => ?_)
  · have g16' := g16
    try simp only [decide_eq_true_eq, decide_eq_false_iff_not, beq_iff_eq, beq_eq_false_iff_ne, bne_iff_ne, bne_eq_false_iff_eq, Bool.not_eq_true', Bool.not_eq_false', ne_eq, Int.not_lt, Int.not_le, Decidable.not_not] at g16'
    have hkl : k < ps.length := by omega
    refine run_skip ?_
    refine run_seq ?_
    refine run_block ?_
    refine run_seq ?_
    refine run_region ?_
    refine run_q (.none rfl) rfl rfl (q_indexS (q := k) rfl Try.underlying58 sz51 rfl rfl (.inp hp .no) (by simp <;> omega) rfl (by omega)) ?_
    refine run_q (.none rfl) rfl rfl (q_loadE rfl agg51 rfl (.inp hp .no) (getmap (by omega)) rfl) ?_
    refine run_h (.none rfl) (h_alloc rfl rfl rfl info51) ?_
    rintro b9 -
    refine run_h (.none rfl) (h_storeB rfl rfl sz51 rfl rfl rfl rfl rfl Sel.here rfl) ?_
    rintro - -
    refine run_nil ?_
    refine run_sub (subMk (.cons (s := 6) rfl (.cons (s := 7) rfl (.cons (s := 9) rfl (.cons (s := 13) rfl (.cons (s := 14) rfl (.cons (s := 15) rfl .nil)))))) .refl) ?_
    refine run_region ?_
    refine run_q (.none rfl) rfl rfl (q_fieldB (d := 5) rfl Try.underlying30 rfl rfl sz26 rfl) ?_
    refine run_q (.none rfl) rfl rfl (q_loadB rfl one26 rfl (.there Sel.here) rfl) ?_
    refine run_q (.none rfl) rfl rfl (q_loadBN rfl agg51 rfl Sel.here (.cons rfl (.cons rfl (.cons rfl CellsAt.nil))) rfl) ?_
    refine run_q (.none rfl) rfl rfl (q_build rfl (.cons rfl PV.nil) (built53p0 _ _ _)) ?_
    refine run_h (.none rfl) (h_buildSlice rfl rfl rfl Try.underlying26 info53 (.cons rfl rfl rfl rfl Parts.nil) rfl (by omega)) ?_
    rintro b23 -
    refine run_h (.none rfl) (h_append rfl rfl rfl Try.underlying26 info53 rfl rfl (.there (.there (.there Sel.here))) rfl (.own Sel.here) rfl (all1 rfl) (all1 rfl) (by omega) (by omega)) ?_
    rintro ⟨A24, c24⟩ -
    refine run_q (.none rfl) rfl rfl (q_fieldB (d := 5) rfl Try.underlying30 rfl rfl sz26 rfl) ?_
    refine run_h (.none rfl) (h_storeB rfl rfl sz26 rfl rfl rfl rfl rfl (.there (.there (.there Sel.here))) rfl) ?_
    rintro - -
    refine run_nil ?_
    refine run_sub (subMk (.cons (s := 6) rfl (.cons (s := 7) rfl (.cons (s := 13) rfl (.cons (s := 14) rfl (.cons (s := 15) rfl .nil))))) .refl) ?_
    refine run_blk ?_
    refine run_region ?_
    refine run_q (.none rfl) rfl rfl (q_add rfl rfl rfl (by omega)) ?_
    refine run_q (.none rfl) rfl rfl (q_move rfl rfl) ?_
    refine run_nil ?_
    exact run_again (k + 1, A24, c24) (by (try dsimp only); exact ⟨by omega, trivial⟩) (by (try dsimp only); omega) (subMk (.cons' (s := 15) rfl (vint (by omega)) (.cons (s := 6) rfl (.cons (s := 7) rfl (.cons (s := 13) rfl (.cons (s := 14) rfl .nil))))) (.cons Sel.here (.blk (.cons (s := 0) rfl (.cons (s := 1) rfl (.cons (s := 2) rfl (.cons (s := 3) rfl (.cons (s := 4) rfl (.cons (s := 5) rfl (.cons (s := 6) rfl (.cons (s := 7) rfl (.cons (s := 8) rfl (.cons (s := 9) rfl (.cons (s := 10) rfl (.cons (s := 11) rfl (.cons (s := 12) rfl (.nil))))))))))))))) (.cons Sel.here (.own rfl rfl rfl (by rw [take_nth hkl, List.map_append, List.map_append]; rfl)) (.cons (.there (.there Sel.here)) .refl (.cons (.there (.there Sel.here)) .refl (.cons (.there (.there Sel.here)) .refl .nil))))))
  · have g16' := g16
    try simp only [decide_eq_true_eq, decide_eq_false_iff_not, beq_iff_eq, beq_eq_false_iff_ne, bne_iff_ne, bne_eq_false_iff_eq, Bool.not_eq_true', Bool.not_eq_false', ne_eq, Int.not_lt, Int.not_le, Decidable.not_not] at g16'
    refine run_exit rfl ?_
    refine run_sub (subMk (.cons (s := 6) rfl (.cons (s := 7) rfl .nil)) .refl) ?_
    refine run_seq ?_
    refine run_sub (subMk .refl (.cons Sel.here (.blk (.cons (s := 0) rfl (.cons (s := 1) rfl (.cons (s := 2) rfl (.cons (s := 3) rfl (.cons (s := 4) rfl (.cons' (s := 5) (v' := .slice O (chordX a b lg d ps).hs.length co) rfl (by rw [show k = ps.length from by omega]; simp [chordX]) (.cons (s := 6) rfl (.cons (s := 7) rfl (.cons (s := 8) rfl (.cons (s := 9) rfl (.cons (s := 10) rfl (.cons (s := 11) rfl (.cons (s := 12) rfl (.nil))))))))))))))) (.cons Sel.here (.own (m' := (chordX a b lg d ps).hs.length) (xs' := (chordX a b lg d ps).hs.map Hd.enc) rfl (by rw [show k = ps.length from by omega]; simp [chordX]) rfl (by rw [show k = ps.length from by omega, List.take_of_length_le (Nat.le_refl _)]; rfl)) (.cons Sel.here .refl (.cons Sel.here .refl (.cons Sel.here .refl .nil)))))) ?_
    refine run_region ?_
    refine run_q (.none rfl) rfl rfl (q_loadBN rfl agg30 rfl Sel.here (.cons rfl (.cons rfl (.cons rfl (.cons rfl (.cons rfl (.cons rfl (.cons rfl (.cons rfl (.cons rfl (.cons rfl (.cons rfl (.cons rfl (.cons rfl CellsAt.nil))))))))))))) rfl) ?_
    refine run_h (.none rfl) (h_call rfl rfl rfl call24 (.cons rfl Evs.nil) (fun w hk hm => canonical_ret (chordX a b lg d ps) ⟨O, co, none, 0, none, 0⟩ w ⟨(own_rd ((Sel.there Sel.here).holds hm)), .inl rfl, .inl rfl⟩ (chord_few hl) (by simp [chordX]; omega))) ?_
    rintro ⟨v, m⟩ ⟨q, rfl, rfl⟩
    show Run _ _ _ _ _ _ _ ⟨(28, evV (canE (chordX a b lg d ps)) q) :: _, _ :: _ :: _ :: _⟩
    refine run_h (.none rfl) (h_storeB rfl rfl sz30 rfl rfl rfl rfl rfl (.there (.there (.there (.there (.there Sel.here))))) rfl) ?_
    rintro - -
    refine run_nil ?_
    refine run_sub (subMk (.cons (s := 6) rfl .nil) .refl) ?_
    refine run_ret ?_
    exact endG rfl (.cellN rfl agg30 Sel.here (.cons rfl (.cons rfl (.cons rfl (.cons rfl (.cons rfl (.cons rfl (.cons rfl (.cons rfl (.cons rfl (.cons rfl (.cons rfl (.cons rfl (.cons rfl CellsAt.nil))))))))))))) rfl Outs.nil) _ (.cons (.there Sel.here) .refl (.cons (.there Sel.here) .refl (.cons (.there Sel.here) .refl .nil))) ⟨q, rfl, rfl⟩

set_option maxHeartbeats 2000000 in
set_option maxRecDepth 100000 in
theorem rem_err (x : Evt) (p : Lie) (i : Int) (W : World) (hx : RdE W x p) (fx : x.few) (h : rmE x i ≠ 0) : Calls Try.prog 27 #[evV x p, .int .i64 i] W (Hr.Just W (.tuple #[evV Evt.zero noL, .int .i64 (rmE x i)])) := by
  obtain ⟨fx1, fx2, fx3, fx4⟩ := id fx
  refine Just.of_ret ?_
  refine enterA (X := nX) (vs := [evV x p, .int .i64 i]) Try.func27 Try.ntmps27 rfl rfl Mem.nil ?_
  refine run_seq ?_
  refine run_region ?_
  refine run_h (.none rfl) (h_box rfl rfl rfl rfl rfl) ?_
  rintro b2 -
  refine run_h (.none rfl) (h_alloc rfl rfl rfl info30) ?_
  rintro b4 -
  refine run_q (.none rfl) rfl rfl (q_assign rfl rfl) ?_
  refine run_nil ?_
  refine run_seq ?_
  refine run_seq ?_
  refine run_region ?_
  refine run_q (.none rfl) rfl rfl (q_loadBN rfl agg30 rfl (.there Sel.here) (.cons rfl (.cons rfl (.cons rfl (.cons rfl (.cons rfl (.cons rfl (.cons rfl (.cons rfl (.cons rfl (.cons rfl (.cons rfl (.cons rfl (.cons rfl CellsAt.nil))))))))))))) rfl) ?_
  refine run_q (.none rfl) rfl rfl (q_call rfl call15 (.cons rfl Evs.nil) (fun w hk hm => evCheck_just x p w (hx.kept0 hk) fx)) ?_
  refine run_q (.none rfl) rfl rfl (q_assign rfl rfl) ?_
  refine run_nil ?_
  refine run_sub (subMk (.cons (s := 1) rfl (.cons (s := 2) rfl (.cons (s := 4) rfl (.cons (s := 5) rfl (.cons (s := 6) rfl .nil))))) .refl) ?_
  refine run_seq ?_
  refine run_region ?_
  refine run_q (.none rfl) rfl rfl (q_move rfl rfl) ?_
  refine run_q (.none rfl) rfl rfl (q_neq rfl rfl rfl) ?_
  refine run_nil ?_
  refine run_cond rfl (fun g10 => ?_) (fun g10 => ?_)
  · have g10' := g10
    try simp only [decide_eq_true_eq, decide_eq_false_iff_not, beq_iff_eq, beq_eq_false_iff_ne, bne_iff_ne, bne_eq_false_iff_eq, Bool.not_eq_true', Bool.not_eq_false', ne_eq, Int.not_lt, Int.not_le, Decidable.not_not] at g10'
    have h9 : evE x ≠ 0 := g10'
    refine run_seq ?_
    refine run_region ?_
    refine run_q (.none rfl) rfl rfl (q_build rfl PV.nil (built30)) ?_
    refine run_q (.none rfl) rfl rfl (q_move rfl rfl) ?_
    refine run_h (.none rfl) (h_storeB rfl rfl sz30 rfl rfl rfl rfl rfl Sel.here rfl) ?_
    rintro - -
    refine run_q (.none rfl) rfl rfl (q_assign rfl rfl) ?_
    refine run_nil ?_
    refine run_sub (subMk (.cons (s := 1) rfl (.cons (s := 2) rfl (.cons (s := 4) rfl (.cons (s := 5) rfl .nil)))) .refl) ?_
    refine run_ret ?_
    exact endG rfl (.cellN rfl agg30 Sel.here (.cons rfl (.cons rfl (.cons rfl (.cons rfl (.cons rfl (.cons rfl (.cons rfl (.cons rfl (.cons rfl (.cons rfl (.cons rfl (.cons rfl (.cons rfl CellsAt.nil))))))))))))) rfl (.tmp rfl Outs.nil)) _ .nil (by rw [rmE_1 h9]; rfl)
  · have g10' := g10
    try simp only [decide_eq_true_eq, decide_eq_false_iff_not, beq_iff_eq, beq_eq_false_iff_ne, bne_iff_ne, bne_eq_false_iff_eq, Bool.not_eq_true', Bool.not_eq_false', ne_eq, Int.not_lt, Int.not_le, Decidable.not_not] at g10'
    have h9 : evE x = 0 := by omega
    refine run_skip ?_
    refine run_seq ?_
    refine run_seq ?_
    refine run_region ?_
    refine run_q (.none rfl) rfl rfl (q_fieldB (d := 2) rfl Try.underlying30 rfl rfl sz3 rfl) ?_
    refine run_q (.none rfl) rfl rfl (q_loadB rfl one3 rfl (.there Sel.here) rfl) ?_
    refine run_q (.none rfl) rfl rfl (q_neq rfl rfl rfl) ?_
    refine run_nil ?_
    refine run_sub (subMk (.cons (s := 1) rfl (.cons (s := 2) rfl (.cons (s := 4) rfl (.cons (s := 5) rfl (.cons (s := 15) rfl .nil))))) .refl) ?_
    refine run_cond rfl (fun g15 => ?_) (fun g15 => ?_)
    · have g15' := g15
      try simp only [decide_eq_true_eq, decide_eq_false_iff_not, beq_iff_eq, beq_eq_false_iff_ne, bne_iff_ne, bne_eq_false_iff_eq, Bool.not_eq_true', Bool.not_eq_false', ne_eq, Int.not_lt, Int.not_le, Decidable.not_not] at g15'
      refine run_seq ?_
      refine run_region ?_
      refine run_q (.none rfl) rfl rfl (q_build rfl PV.nil (built30)) ?_
      refine run_h (.none rfl) (h_storeB rfl rfl sz30 rfl rfl rfl rfl rfl Sel.here rfl) ?_
      rintro - -
      refine run_q (.none rfl) rfl rfl (q_assign rfl rfl) ?_
      refine run_nil ?_
      refine run_ret ?_
      exact endG rfl (.cellN rfl agg30 Sel.here (.cons rfl (.cons rfl (.cons rfl (.cons rfl (.cons rfl (.cons rfl (.cons rfl (.cons rfl (.cons rfl (.cons rfl (.cons rfl (.cons rfl (.cons rfl CellsAt.nil))))))))))))) rfl (.tmp rfl Outs.nil)) _ .nil (by rw [rmE_2 h9 g15']; rfl)
    · have g15' := g15
      try simp only [decide_eq_true_eq, decide_eq_false_iff_not, beq_iff_eq, beq_eq_false_iff_ne, bne_iff_ne, bne_eq_false_iff_eq, Bool.not_eq_true', Bool.not_eq_false', ne_eq, Int.not_lt, Int.not_le, Decidable.not_not] at g15'
      refine run_skip ?_
      refine run_seq ?_
      refine run_seq ?_
      refine run_region ?_
      refine run_q (.none rfl) rfl rfl (q_move rfl rfl) ?_
      refine run_q (.none rfl) rfl rfl (q_lss rfl rfl rfl) ?_
      refine run_q (.none rfl) rfl rfl (q_move rfl rfl) ?_
      refine run_split 19 rfl (fun g19 => ?_) (fun g19 => ?_)
      · have g19' := g19
        try simp only [decide_eq_true_eq, decide_eq_false_iff_not, beq_iff_eq, beq_eq_false_iff_ne, bne_iff_ne, bne_eq_false_iff_eq, Bool.not_eq_true', Bool.not_eq_false', ne_eq, Int.not_lt, Int.not_le, Decidable.not_not] at g19'
        refine run_off (.no rfl rfl rfl g19) rfl rfl ?_
        refine run_off (.no rfl rfl rfl g19) rfl rfl ?_
        refine run_off (.no rfl rfl rfl g19) rfl rfl ?_
        refine run_off (.no rfl rfl rfl g19) rfl rfl ?_
        refine run_off (.no rfl rfl rfl g19) rfl rfl ?_
        refine run_q (.none rfl) rfl rfl (q_pickT rfl rfl g19 rfl) ?_
        refine run_nil ?_
        refine run_sub (subMk (.cons (s := 1) rfl (.cons (s := 2) rfl (.cons (s := 4) rfl (.cons (s := 5) rfl (.cons (s := 25) rfl .nil))))) .refl) ?_
        refine run_condT rfl rfl ?_
        refine run_seq ?_
        refine run_region ?_
        refine run_q (.none rfl) rfl rfl (q_build rfl PV.nil (built30)) ?_
        refine run_h (.none rfl) (h_storeB rfl rfl sz30 rfl rfl rfl rfl rfl Sel.here rfl) ?_
        rintro - -
        refine run_q (.none rfl) rfl rfl (q_assign rfl rfl) ?_
        refine run_nil ?_
        refine run_ret ?_
        exact endG rfl (.cellN rfl agg30 Sel.here (.cons rfl (.cons rfl (.cons rfl (.cons rfl (.cons rfl (.cons rfl (.cons rfl (.cons rfl (.cons rfl (.cons rfl (.cons rfl (.cons rfl (.cons rfl CellsAt.nil))))))))))))) rfl (.tmp rfl Outs.nil)) _ .nil (by rw [rmE_3 h9 g15' (by omega)]; rfl)
      · have g19' := g19
        try simp only [decide_eq_true_eq, decide_eq_false_iff_not, beq_iff_eq, beq_eq_false_iff_ne, bne_iff_ne, bne_eq_false_iff_eq, Bool.not_eq_true', Bool.not_eq_false', ne_eq, Int.not_lt, Int.not_le, Decidable.not_not] at g19'
        refine run_q (.on rfl rfl rfl g19) rfl rfl (q_move rfl rfl) ?_
        refine run_q (.on rfl rfl rfl g19) rfl rfl (q_fieldB (d := 5) rfl Try.underlying30 rfl rfl sz26 rfl) ?_
        refine run_q (.on rfl rfl rfl g19) rfl rfl (q_loadB rfl one26 rfl (.there Sel.here) rfl) ?_
        refine run_q (.on rfl rfl rfl g19) rfl rfl (q_len rfl Try.underlying26 rfl) ?_
        refine run_q (.on rfl rfl rfl g19) rfl rfl (q_geq rfl rfl rfl) ?_
        refine run_q (.none rfl) rfl rfl (q_pickF rfl rfl g19 rfl) ?_
        refine run_nil ?_
        refine run_sub (subMk (.cons (s := 1) rfl (.cons (s := 2) rfl (.cons (s := 4) rfl (.cons (s := 5) rfl (.cons (s := 25) rfl .nil))))) .refl) ?_
        refine run_cond rfl (fun g25 => ?_) (fun g25 => ?_)
        · have g25' := g25
          try simp only [decide_eq_true_eq, decide_eq_false_iff_not, beq_iff_eq, beq_eq_false_iff_ne, bne_iff_ne, bne_eq_false_iff_eq, Bool.not_eq_true', Bool.not_eq_false', ne_eq, Int.not_lt, Int.not_le, Decidable.not_not] at g25'
          refine run_seq ?_
          refine run_region ?_
          refine run_q (.none rfl) rfl rfl (q_build rfl PV.nil (built30)) ?_
          refine run_h (.none rfl) (h_storeB rfl rfl sz30 rfl rfl rfl rfl rfl Sel.here rfl) ?_
          rintro - -
          refine run_q (.none rfl) rfl rfl (q_assign rfl rfl) ?_
          refine run_nil ?_
          refine run_ret ?_
          exact endG rfl (.cellN rfl agg30 Sel.here (.cons rfl (.cons rfl (.cons rfl (.cons rfl (.cons rfl (.cons rfl (.cons rfl (.cons rfl (.cons rfl (.cons rfl (.cons rfl (.cons rfl (.cons rfl CellsAt.nil))))))))))))) rfl (.tmp rfl Outs.nil)) _ .nil (by rw [rmE_3 h9 g15' (by omega)]; rfl)
        · have g25' := g25
          try simp only [decide_eq_true_eq, decide_eq_false_iff_not, beq_iff_eq, beq_eq_false_iff_ne, bne_iff_ne, bne_eq_false_iff_eq, Bool.not_eq_true', Bool.not_eq_false', ne_eq, Int.not_lt, Int.not_le, Decidable.not_not] at g25'
          refine run_skip ?_
          refine run_seq ?_
          refine run_seq ?_
          exact absurd (rmE_z h9 g15' (by omega)) h

set_option maxHeartbeats 2000000 in
set_option maxRecDepth 100000 in
theorem rem_one (x : Evt) (p : Lie) (i : Int) (W : World) (hx : RdE W x p) (fx : x.few) (h : rmE x i = 0) (h1 : x.hs.length = 1) : Calls Try.prog 27 #[evV x p, .int .i64 i] W (Hr.Just W (.tuple #[evV (stripE (to2 x)) (stripP (to2 x) p), .int .i64 0])) := by
  obtain ⟨fx1, fx2, fx3, fx4⟩ := id fx
  obtain ⟨h2, h3, h4, h5⟩ := rmE_ok h
  refine Just.of_ret ?_
  refine enterA (X := nX) (vs := [evV x p, .int .i64 i]) Try.func27 Try.ntmps27 rfl rfl Mem.nil ?_
  refine run_seq ?_
  refine run_region ?_
  refine run_h (.none rfl) (h_box rfl rfl rfl rfl rfl) ?_
  rintro b2 -
  refine run_h (.none rfl) (h_alloc rfl rfl rfl info30) ?_
  rintro b4 -
  refine run_q (.none rfl) rfl rfl (q_assign rfl rfl) ?_
  refine run_nil ?_
  refine run_seq ?_
  refine run_seq ?_
  refine run_region ?_
  refine run_q (.none rfl) rfl rfl (q_loadBN rfl agg30 rfl (.there Sel.here) (.cons rfl (.cons rfl (.cons rfl (.cons rfl (.cons rfl (.cons rfl (.cons rfl (.cons rfl (.cons rfl (.cons rfl (.cons rfl (.cons rfl (.cons rfl CellsAt.nil))))))))))))) rfl) ?_
  refine run_q (.none rfl) rfl rfl (q_call rfl call15 (.cons rfl Evs.nil) (fun w hk hm => evCheck_just x p w (hx.kept0 hk) fx)) ?_
  refine run_q (.none rfl) rfl rfl (q_assign rfl rfl) ?_
  refine run_nil ?_
  refine run_sub (subMk (.cons (s := 1) rfl (.cons (s := 2) rfl (.cons (s := 4) rfl (.cons (s := 5) rfl (.cons (s := 6) rfl .nil))))) .refl) ?_
  refine run_seq ?_
  refine run_region ?_
  refine run_q (.none rfl) rfl rfl (q_move rfl rfl) ?_
  refine run_q (.none rfl) rfl rfl (q_neq rfl rfl rfl) ?_
  refine run_nil ?_
  refine run_condF rfl (by rw [h2]; rfl) ?_
  refine run_skip ?_
  refine run_seq ?_
  refine run_seq ?_
  refine run_region ?_
  refine run_q (.none rfl) rfl rfl (q_fieldB (d := 2) rfl Try.underlying30 rfl rfl sz3 rfl) ?_
  refine run_q (.none rfl) rfl rfl (q_loadB rfl one3 rfl (.there Sel.here) rfl) ?_
  refine run_q (.none rfl) rfl rfl (q_neq rfl rfl rfl) ?_
  refine run_nil ?_
  refine run_sub (subMk (.cons (s := 1) rfl (.cons (s := 2) rfl (.cons (s := 4) rfl (.cons (s := 5) rfl (.cons (s := 15) rfl .nil))))) .refl) ?_
  refine run_condF rfl (by rw [h3]; rfl) ?_
  refine run_skip ?_
  refine run_seq ?_
  refine run_seq ?_
  refine run_region ?_
  refine run_q (.none rfl) rfl rfl (q_move rfl rfl) ?_
  refine run_q (.none rfl) rfl rfl (q_lss rfl rfl rfl) ?_
  refine run_q (.none rfl) rfl rfl (q_move rfl rfl) ?_
  refine run_q (.on rfl rfl rfl (decide_eq_false (by omega))) rfl rfl (q_move rfl rfl) ?_
  refine run_q (.on rfl rfl rfl (decide_eq_false (by omega))) rfl rfl (q_fieldB (d := 5) rfl Try.underlying30 rfl rfl sz26 rfl) ?_
  refine run_q (.on rfl rfl rfl (decide_eq_false (by omega))) rfl rfl (q_loadB rfl one26 rfl (.there Sel.here) rfl) ?_
  refine run_q (.on rfl rfl rfl (decide_eq_false (by omega))) rfl rfl (q_len rfl Try.underlying26 rfl) ?_
  refine run_q (.on rfl rfl rfl (decide_eq_false (by omega))) rfl rfl (q_geq rfl rfl rfl) ?_
  refine run_q (.none rfl) rfl rfl (q_pickF rfl rfl (decide_eq_false (by omega)) rfl) ?_
  refine run_nil ?_
  refine run_sub (subMk (.cons (s := 1) rfl (.cons (s := 2) rfl (.cons (s := 4) rfl (.cons (s := 5) rfl (.cons (s := 25) rfl .nil))))) .refl) ?_
  refine run_condF rfl (decide_eq_false (by omega)) ?_
  refine run_skip ?_
  refine run_seq ?_
  refine run_seq ?_
  refine run_region ?_
  refine run_q (.none rfl) rfl rfl (q_fieldB (d := 5) rfl Try.underlying30 rfl rfl sz26 rfl) ?_
  refine run_q (.none rfl) rfl rfl (q_loadB rfl one26 rfl (.there Sel.here) rfl) ?_
  refine run_q (.none rfl) rfl rfl (q_len rfl Try.underlying26 rfl) ?_
  refine run_q (.none rfl) rfl rfl (q_eql rfl rfl rfl) ?_
  refine run_nil ?_
  refine run_sub (subMk (.cons (s := 1) rfl (.cons (s := 2) rfl (.cons (s := 4) rfl (.cons (s := 5) rfl (.cons (s := 30) rfl .nil))))) .refl) ?_
  refine run_condT rfl (by rw [h1]; rfl) ?_
  refine run_seq ?_
  refine run_region ?_
  refine run_q (.none rfl) rfl rfl (q_fieldB (d := 2) rfl Try.underlying30 rfl rfl sz3 rfl) ?_
  refine run_h (.none rfl) (h_storeB rfl rfl sz3 rfl rfl rfl rfl rfl (.there Sel.here) rfl) ?_
  rintro - -
  refine run_nil ?_
  refine run_seq ?_
  refine run_region ?_
  refine run_q (.none rfl) rfl rfl (q_loadBN rfl agg30 rfl Sel.here (.cons rfl (.cons rfl (.cons rfl (.cons rfl (.cons rfl (.cons rfl (.cons rfl (.cons rfl (.cons rfl (.cons rfl (.cons rfl (.cons rfl (.cons rfl CellsAt.nil))))))))))))) rfl) ?_
  refine run_q (.none rfl) rfl rfl (q_call rfl call47 (.cons rfl Evs.nil) (fun w hk hm => strip_just (to2 x) p w ⟨hx.h.kept0 hk, hx.g.kept0 hk, hx.l.kept0 hk⟩ fx)) ?_
  refine run_h (.none rfl) (h_storeB rfl rfl sz30 rfl rfl rfl rfl rfl (.there Sel.here) rfl) ?_
  rintro - -
  refine run_q (.none rfl) rfl rfl (q_assign rfl rfl) ?_
  refine run_nil ?_
  refine run_sub (subMk (.cons (s := 1) rfl (.cons (s := 2) rfl (.cons (s := 4) rfl (.cons (s := 5) rfl .nil)))) .refl) ?_
  refine run_ret ?_
  exact endG rfl (.cellN rfl agg30 Sel.here (.cons rfl (.cons rfl (.cons rfl (.cons rfl (.cons rfl (.cons rfl (.cons rfl (.cons rfl (.cons rfl (.cons rfl (.cons rfl (.cons rfl (.cons rfl CellsAt.nil))))))))))))) rfl (.tmp rfl Outs.nil)) _ .nil rfl

theorem chord_known (P : Option Addr) (pc : Nat) (W : World) (hp : Rd W P 3 (kps.map Pit.enc)) : Calls Try.prog 34 #[.agg #[.int .i64 0, .int .i64 3], .agg #[.int .i64 2, .int .i64 0], .slice P 3 pc] W (Ret W nX (fun v m => ∃ q : Lie, v = evV kch q ∧ m = [.own 53 5 q.HA kch.hs.length q.hc (kch.hs.map Hd.enc), .own 55 5 q.GA kch.gs.length q.gc (kch.gs.map Gr.enc), .own 57 2 q.LA kch.ls.length q.lc (kch.ls.map Syl.enc)])) := by
  have h := chord_ret 0 3 2 0 kps P pc W hp (by decide)
  rw [known_chord] at h; exact h

set_option maxHeartbeats 2000000 in
set_option maxRecDepth 100000 in
theorem known_just  (W : World)  : Calls Try.prog 14 #[] W (Hr.Just W (.bool true)) := by
  refine Just.of_ret ?_
  refine enterA (X := nX) (vs := []) Try.func14 Try.ntmps14 rfl rfl Mem.nil ?_
  refine run_seq ?_
  refine run_region ?_
  refine run_q (.none rfl) rfl rfl (q_assign rfl rfl) ?_
  refine run_nil ?_
  refine run_seq ?_
  refine run_region ?_
  refine run_q (.none rfl) rfl rfl (q_build rfl (.cons rfl PV.nil) (built51p2 _)) ?_
  refine run_h (.none rfl) (h_alloc rfl rfl rfl info51) ?_
  rintro b1 -
  refine run_h (.none rfl) (h_storeB rfl rfl sz51 rfl rfl rfl rfl rfl Sel.here rfl) ?_
  rintro - -
  refine run_nil ?_
  refine run_seq ?_
  refine run_region ?_
  refine run_q (.none rfl) rfl rfl (q_build rfl (.cons rfl PV.nil) (built23p1 _)) ?_
  refine run_q (.none rfl) rfl rfl (q_build rfl (.cons rfl PV.nil) (built25p0 _)) ?_
  refine run_q (.none rfl) rfl rfl (q_build rfl (.cons rfl (.cons rfl PV.nil)) (built51p0p2 _ _)) ?_
  refine run_q (.none rfl) rfl rfl (q_loadBN rfl agg51 rfl Sel.here (.cons rfl (.cons rfl (.cons rfl CellsAt.nil))) rfl) ?_
  refine run_q (.none rfl) rfl rfl (q_build rfl (.cons rfl (.cons rfl (.cons rfl PV.nil))) (built51p0p1p2 _ _ _)) ?_
  refine run_h (.none rfl) (h_buildSlice rfl rfl rfl Try.underlying58 info51 (.cons rfl rfl rfl rfl (.cons rfl rfl rfl rfl (.cons rfl rfl rfl rfl Parts.nil))) rfl (by omega)) ?_
  rintro b11 -
  refine run_h (.none rfl) (h_call rfl rfl rfl call34 (.cons rfl (.cons rfl (.cons rfl Evs.nil))) (fun w hk hm => chord_known (some ⟨b11, 0, none⟩) 3 w (own_rd (Sel.here.holds hm)))) ?_
  rintro ⟨v, m⟩ ⟨q, rfl, rfl⟩
  show Run _ _ _ _ _ _ _ ⟨(12, evV kch q) :: _, _ :: _ :: _ :: _⟩
  refine run_h (.none rfl) (h_alloc rfl rfl rfl info30) ?_
  rintro b2 -
  refine run_h (.none rfl) (h_storeB rfl rfl sz30 rfl rfl rfl rfl rfl Sel.here rfl) ?_
  rintro - -
  refine run_nil ?_
  refine run_sub (subMk (.cons (s := 0) rfl (.cons (s := 1) rfl (.cons (s := 2) rfl .nil))) .refl) ?_
  refine run_seq ?_
  refine run_region ?_
  refine run_q (.none rfl) rfl rfl (q_build rfl (.cons rfl PV.nil) (built25p0 _)) ?_
  refine run_q (.none rfl) rfl rfl (q_loadBN rfl agg51 rfl (.there (.there (.there (.there (.there Sel.here))))) (.cons rfl (.cons rfl (.cons rfl CellsAt.nil))) rfl) ?_
  refine run_q (.none rfl) rfl rfl (q_build rfl (.cons rfl PV.nil) (built53p0 _ _ _)) ?_
  refine run_h (.none rfl) (h_buildSlice rfl rfl rfl Try.underlying26 info53 (.cons rfl rfl rfl rfl Parts.nil) rfl (by omega)) ?_
  rintro b17 -
  refine run_q (.none rfl) rfl rfl (q_build rfl (.cons rfl (.cons rfl (.cons rfl (.cons rfl (.cons rfl PV.nil))))) (built30p1p2p3p5p7 _ _ _ _ _ _ _ _)) ?_
  refine run_q (.none rfl) rfl rfl (q_call rfl call27 (.cons rfl (.cons rfl Evs.nil)) (fun w hk hm => rem_one kev ⟨some ⟨b17, 0, none⟩, 1, none, 0, none, 0⟩ 0 w ⟨(own_rd (Sel.here.holds hm)), .inl rfl, .inl rfl⟩ ⟨by decide, by decide, by decide, by decide⟩ known_ev rfl)) ?_
  refine run_q (.none rfl) rfl rfl (q_move rfl rfl) ?_
  refine run_q (.none rfl) rfl rfl (q_extract rfl rfl rfl) ?_
  refine run_q (.none rfl) rfl rfl (q_extract rfl rfl rfl) ?_
  refine run_h (.none rfl) (h_alloc rfl rfl rfl info30) ?_
  rintro b3 -
  refine run_h (.none rfl) (h_storeB rfl rfl sz30 rfl rfl rfl rfl rfl Sel.here rfl) ?_
  rintro - -
  refine run_q (.none rfl) rfl rfl (q_assign rfl rfl) ?_
  refine run_nil ?_
  refine run_sub (subMk (.cons (s := 0) rfl (.cons (s := 1) rfl (.cons (s := 2) rfl (.cons (s := 3) rfl (.cons (s := 4) rfl .nil))))) .refl) ?_
  refine run_seq ?_
  refine run_draw [(0, 0), (1, 0), (2, 0), (3, 0), (4, 0), (5, 0), (6, 0), (7, 0), (8, 0), (9, 0), (10, 0), (11, 0), (12, 0), (13, 0), (14, 0), (15, 0), (16, 0), (17, 0), (18, 0), (19, 0), (20, 0), (21, 0), (22, 0), (23, 0), (24, 0), (25, 0), (26, 0), (27, 0), (28, 0), (29, 0), (30, 0), (31, 0), (32, 0), (33, 0), (34, 0), (35, 0), (36, 0), (37, 0), (38, 0), (39, 0), (40, 0), (41, 0), (42, 0), (43, 0), (44, 0), (45, 0), (46, 0), (47, 0), (48, 0), (49, 0), (50, 0), (51, 0), (52, 0), (53, 0), (54, 0), (55, 0), (56, 0), (57, 0), (58, 0), (59, 0)] mixed (by kernel_rfl) .refl ?_
  refine d_q rfl rfl (.none rfl) rfl rfl (q_fieldB (d := 5) rfl Try.underlying30 rfl rfl sz26 rfl) ?_
  refine d_q rfl rfl (.none rfl) rfl rfl (q_loadB rfl one26 rfl (.there (.there Sel.here)) rfl) ?_
  refine d_q rfl rfl (.none rfl) rfl rfl (q_len rfl Try.underlying26 rfl) ?_
  refine d_q rfl rfl (.none rfl) rfl rfl (q_eql rfl rfl rfl) ?_
  refine d_q rfl rfl (.none rfl) rfl rfl (q_move rfl rfl) ?_
  refine d_q rfl rfl (.on rfl rfl rfl rfl) rfl rfl (q_fieldB (d := 5) rfl Try.underlying30 rfl rfl sz26 rfl) ?_
  refine d_q rfl rfl (.on rfl rfl rfl rfl) rfl rfl (q_loadB rfl one26 rfl (.there (.there Sel.here)) rfl) ?_
  refine d_q rfl rfl (.on rfl rfl rfl rfl) rfl rfl (q_indexS (q := 0) rfl Try.underlying26 sz53 rfl rfl (.own (.there (.there (.there Sel.here)))) rfl rfl (by decide)) ?_
  refine d_q rfl rfl (.on rfl rfl rfl rfl) rfl rfl (q_fieldAddr (d := 0) rfl Try.underlying53 rfl rfl sz51 rfl) ?_
  refine d_q rfl rfl (.on rfl rfl rfl rfl) rfl rfl (q_loadFN rfl agg51 rfl (.own (.there (.there (.there Sel.here)))) rfl rfl rfl) ?_
  refine d_q rfl rfl (.on rfl rfl rfl rfl) rfl rfl (q_loadBN rfl agg51 rfl (.there (.there (.there (.there (.there (.there (.there Sel.here))))))) (.cons rfl (.cons rfl (.cons rfl CellsAt.nil))) rfl) ?_
  refine d_q rfl rfl (.on rfl rfl rfl rfl) rfl rfl (q_eqlS rfl rfl rfl eqg51 (fun w => eqs51 _ _ _ _ _ _ w)) ?_
  refine d_q rfl rfl (.none rfl) rfl rfl (q_pickT rfl rfl rfl rfl) ?_
  refine d_q rfl rfl (.none rfl) rfl rfl (q_move rfl rfl) ?_
  refine d_q rfl rfl (.on rfl rfl rfl rfl) rfl rfl (q_fieldB (d := 5) rfl Try.underlying30 rfl rfl sz26 rfl) ?_
  refine d_q rfl rfl (.on rfl rfl rfl rfl) rfl rfl (q_loadB rfl one26 rfl (.there (.there Sel.here)) rfl) ?_
  refine d_q rfl rfl (.on rfl rfl rfl rfl) rfl rfl (q_indexS (q := 1) rfl Try.underlying26 sz53 rfl rfl (.own (.there (.there (.there Sel.here)))) rfl rfl (by decide)) ?_
  refine d_q rfl rfl (.on rfl rfl rfl rfl) rfl rfl (q_fieldAddr (d := 0) rfl Try.underlying53 rfl rfl sz51 rfl) ?_
  refine d_q rfl rfl (.on rfl rfl rfl rfl) rfl rfl (q_fieldF (d2 := 0) rfl Try.underlying51 rfl rfl sz3 rfl) ?_
  refine d_q rfl rfl (.on rfl rfl rfl rfl) rfl rfl (q_loadF rfl one3 rfl (.own (.there (.there (.there Sel.here)))) rfl rfl) ?_
  refine d_q rfl rfl (.on rfl rfl rfl rfl) rfl rfl (q_eql rfl rfl rfl) ?_
  refine d_q rfl rfl (.none rfl) rfl rfl (q_pickT rfl rfl rfl rfl) ?_
  refine d_q rfl rfl (.none rfl) rfl rfl (q_move rfl rfl) ?_
  refine d_q rfl rfl (.on rfl rfl rfl rfl) rfl rfl (q_fieldB (d := 0) rfl Try.underlying30 rfl rfl sz23 rfl) ?_
  refine d_q rfl rfl (.on rfl rfl rfl rfl) rfl rfl (q_fieldB (d := 1) rfl Try.underlying23 rfl rfl sz3 rfl) ?_
  refine d_q rfl rfl (.on rfl rfl rfl rfl) rfl rfl (q_loadB rfl one3 rfl (.there (.there Sel.here)) rfl) ?_
  refine d_q rfl rfl (.on rfl rfl rfl rfl) rfl rfl (q_eql rfl rfl rfl) ?_
  refine d_q rfl rfl (.none rfl) rfl rfl (q_pickT rfl rfl rfl rfl) ?_
  refine d_q rfl rfl (.none rfl) rfl rfl (q_move rfl rfl) ?_
  refine d_q rfl rfl (.on rfl rfl rfl rfl) rfl rfl (q_move rfl rfl) ?_
  refine d_q rfl rfl (.on rfl rfl rfl rfl) rfl rfl (q_eql rfl rfl rfl) ?_
  refine d_q rfl rfl (.none rfl) rfl rfl (q_pickT rfl rfl rfl rfl) ?_
  refine d_q rfl rfl (.none rfl) rfl rfl (q_move rfl rfl) ?_
  refine d_q rfl rfl (.on rfl rfl rfl rfl) rfl rfl (q_fieldB (d := 2) rfl Try.underlying30 rfl rfl sz3 rfl) ?_
  refine d_q rfl rfl (.on rfl rfl rfl rfl) rfl rfl (q_loadB rfl one3 rfl Sel.here rfl) ?_
  refine d_q rfl rfl (.on rfl rfl rfl rfl) rfl rfl (q_eql rfl rfl rfl) ?_
  refine d_q rfl rfl (.none rfl) rfl rfl (q_pickT rfl rfl rfl rfl) ?_
  refine d_q rfl rfl (.none rfl) rfl rfl (q_move rfl rfl) ?_
  refine d_q rfl rfl (.on rfl rfl rfl rfl) rfl rfl (q_fieldB (d := 7) rfl Try.underlying30 rfl rfl sz3 rfl) ?_
  refine d_q rfl rfl (.on rfl rfl rfl rfl) rfl rfl (q_loadB rfl one3 rfl Sel.here rfl) ?_
  refine d_q rfl rfl (.on rfl rfl rfl rfl) rfl rfl (q_eql rfl rfl rfl) ?_
  refine d_q rfl rfl (.none rfl) rfl rfl (q_pickT rfl rfl rfl rfl) ?_
  refine d_q rfl rfl (.none rfl) rfl rfl (q_move rfl rfl) ?_
  refine d_q rfl rfl (.on rfl rfl rfl rfl) rfl rfl (q_fieldB (d := 9) rfl Try.underlying30 rfl rfl sz3 rfl) ?_
  refine d_q rfl rfl (.on rfl rfl rfl rfl) rfl rfl (q_loadB rfl one3 rfl Sel.here rfl) ?_
  refine d_q rfl rfl (.on rfl rfl rfl rfl) rfl rfl (q_eql rfl rfl rfl) ?_
  refine d_q rfl rfl (.none rfl) rfl rfl (q_pickT rfl rfl rfl rfl) ?_
  refine d_q rfl rfl (.none rfl) rfl rfl (q_move rfl rfl) ?_
  refine d_q rfl rfl (.on rfl rfl rfl rfl) rfl rfl (q_fieldB (d := 3) rfl Try.underlying30 rfl rfl sz25 rfl) ?_
  refine d_q rfl rfl (.on rfl rfl rfl rfl) rfl rfl (q_fieldB (d := 3) rfl Try.underlying25 rfl rfl sz3 rfl) ?_
  refine d_q rfl rfl (.on rfl rfl rfl rfl) rfl rfl (q_loadB rfl one3 rfl Sel.here rfl) ?_
  refine d_q rfl rfl (.on rfl rfl rfl rfl) rfl rfl (q_eql rfl rfl rfl) ?_
  refine d_q rfl rfl (.none rfl) rfl rfl (q_pickT rfl rfl rfl rfl) ?_
  refine d_q rfl rfl (.none rfl) rfl rfl (q_move rfl rfl) ?_
  refine d_q rfl rfl (.on rfl rfl rfl rfl) rfl rfl (q_fieldB (d := 5) rfl Try.underlying30 rfl rfl sz26 rfl) ?_
  refine d_q rfl rfl (.on rfl rfl rfl rfl) rfl rfl (q_loadB rfl one26 rfl Sel.here rfl) ?_
  refine d_q rfl rfl (.on rfl rfl rfl rfl) rfl rfl (q_len rfl Try.underlying26 rfl) ?_
  refine d_q rfl rfl (.on rfl rfl rfl rfl) rfl rfl (q_eql rfl rfl rfl) ?_
  refine d_q rfl rfl (.none rfl) rfl rfl (q_pickT rfl rfl rfl rfl) ?_
  refine d_q rfl rfl (.none rfl) rfl rfl (q_assign rfl rfl) ?_
  refine d_nil ?_
  refine run_sub (subMk (.cons (s := 0) rfl .nil) .refl) ?_
  refine run_ret ?_
  exact end1 rfl rfl rfl

end Go.Proofs.Ytneadapfoaccmaa
