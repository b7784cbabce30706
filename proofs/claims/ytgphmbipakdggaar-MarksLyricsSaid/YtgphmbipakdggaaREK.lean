/- The law on syllables. -/
import Derived.Test.YtgphmbipakdggaaREI
import Derived.Test.YtgphmbipakdggaaREJ
import Derived.Test.YtgphmbipakdggaaRF
set_option linter.unusedSimpArgs false
set_option linter.unusedVariables false
namespace Go.Proofs.YtgphmbipakdggaaR.Ev
open Go Go.RowKit Hr

theorem call13 : Hr.Callable Try.prog 13 := fun args w => by kernel_rfl
theorem eqg25 : Try.prog.eqGuardType Try.prog.depth 25 = false := by kernel_rfl
theorem stood25 : Try.prog.stoodInHeld 25 = false := by kernel_rfl
theorem stood23 : Try.prog.stoodInHeld 23 = false := by kernel_rfl
set_option maxRecDepth 100000 in
theorem eqs23d9999 (a0 a1 b0 b1 : Int) (w : World) : (Op.equalIn 9999 23 (.agg #[.int .i64 a0, .int .i64 a1]) (.agg #[.int .i64 b0, .int .i64 b1])).run Try.prog w = .ok (a0 == b0 && (a1 == b1)) w := by
  rw [run_equalIn_struct w 9998 23 _ _ (by simp only [Program.fieldsOf, Try.underlying23]) stood23]
  simp only [Program.fieldsOf, Try.underlying23]
  exact Eq.trans (eqF_cons (by decide) (part_one one3 rfl) (part_one one3 rfl) (run_equalIn_int w 9997 3 .i64 .i64 a0 b0 Try.underlying3) (eqF_cons (by decide) (part_one one3 rfl) (part_one one3 rfl) (run_equalIn_int w 9997 3 .i64 .i64 a1 b1 Try.underlying3) eqF_nil)) (by simp only [Bool.and_true, Bool.and_assoc])
set_option maxRecDepth 100000 in
theorem eqs25 (a0 a1 a2 a3 a4 a5 a6 a7 a8 a9 a10 a11 a12 b0 b1 b2 b3 b4 b5 b6 b7 b8 b9 b10 b11 b12 : Int) (w : World) : (Op.equalIn 10000 25 (.agg #[.int .i64 a0, .int .i64 a1, .int .i64 a2, .int .i64 a3, .int .i64 a4, .int .i64 a5, .int .i64 a6, .int .i64 a7, .int .i64 a8, .int .i64 a9, .int .i64 a10, .int .i64 a11, .int .i64 a12]) (.agg #[.int .i64 b0, .int .i64 b1, .int .i64 b2, .int .i64 b3, .int .i64 b4, .int .i64 b5, .int .i64 b6, .int .i64 b7, .int .i64 b8, .int .i64 b9, .int .i64 b10, .int .i64 b11, .int .i64 b12])).run Try.prog w = .ok (a0 == b0 && (a1 == b1 && (a2 == b2 && (a3 == b3 && (a4 == b4 && (a5 == b5 && (a6 == b6 && (a7 == b7 && (a8 == b8 && (a9 == b9 && (a10 == b10 && (a11 == b11 && (a12 == b12))))))))))))) w := by
  rw [run_equalIn_struct w 9999 25 _ _ (by simp only [Program.fieldsOf, Try.underlying25]) stood25]
  simp only [Program.fieldsOf, Try.underlying25]
  exact Eq.trans (eqF_cons (by decide) (part_one one3 rfl) (part_one one3 rfl) (run_equalIn_int w 9998 3 .i64 .i64 a0 b0 Try.underlying3) (eqF_cons (by decide) (part_one one3 rfl) (part_one one3 rfl) (run_equalIn_int w 9998 3 .i64 .i64 a1 b1 Try.underlying3) (eqF_cons (by decide) (part_one one3 rfl) (part_one one3 rfl) (run_equalIn_int w 9998 3 .i64 .i64 a2 b2 Try.underlying3) (eqF_cons (by decide) (part_one one3 rfl) (part_one one3 rfl) (run_equalIn_int w 9998 3 .i64 .i64 a3 b3 Try.underlying3) (eqF_cons (by decide) (part_one one3 rfl) (part_one one3 rfl) (run_equalIn_int w 9998 3 .i64 .i64 a4 b4 Try.underlying3) (eqF_cons (by decide) (part_one one3 rfl) (part_one one3 rfl) (run_equalIn_int w 9998 3 .i64 .i64 a5 b5 Try.underlying3) (eqF_cons (by decide) (part_one one3 rfl) (part_one one3 rfl) (run_equalIn_int w 9998 3 .i64 .i64 a6 b6 Try.underlying3) (eqF_cons (by decide) (part_one one3 rfl) (part_one one3 rfl) (run_equalIn_int w 9998 3 .i64 .i64 a7 b7 Try.underlying3) (eqF_cons (by decide) (part_agg agg23 rfl) (part_agg agg23 rfl) (eqs23d9999 a8 a9 b8 b9 w) (eqF_cons (by decide) (part_one one3 rfl) (part_one one3 rfl) (run_equalIn_int w 9998 3 .i64 .i64 a10 b10 Try.underlying3) (eqF_cons (by decide) (part_one one3 rfl) (part_one one3 rfl) (run_equalIn_int w 9998 3 .i64 .i64 a11 b11 Try.underlying3) (eqF_cons (by decide) (part_one one3 rfl) (part_one one3 rfl) (run_equalIn_int w 9998 3 .i64 .i64 a12 b12 Try.underlying3) eqF_nil)))))))))))) (by simp only [Bool.and_true, Bool.and_assoc])
theorem call32 : Hr.Callable Try.prog 32 := fun args w => by kernel_rfl
theorem call33 : Hr.Callable Try.prog 33 := fun args w => by kernel_rfl
theorem built25p0p1p2p3p4p5p6p8p9p10p11 (x0y : Int) (x1y : Int) (x2y : Int) (x3y : Int) (x4y : Int) (x5y : Int) (x6y : Int) (x8y0 : Int) (x8y1 : Int) (x9y : Int) (x10y : Int) (x11y : Int) : Try.prog.built 25 [(0, .int .i64 x0y), (1, .int .i64 x1y), (2, .int .i64 x2y), (3, .int .i64 x3y), (4, .int .i64 x4y), (5, .int .i64 x5y), (6, .int .i64 x6y), (8, .agg #[.int .i64 x8y0, .int .i64 x8y1]), (9, .int .i64 x9y), (10, .int .i64 x10y), (11, .int .i64 x11y)] = some #[.int .i64 x0y, .int .i64 x1y, .int .i64 x2y, .int .i64 x3y, .int .i64 x4y, .int .i64 x5y, .int .i64 x6y, .int .i64 0, .int .i64 x8y0, .int .i64 x8y1, .int .i64 x9y, .int .i64 x10y, .int .i64 x11y] := by kernel_rfl

set_option maxHeartbeats 4000000 in
set_option maxRecDepth 100000 in
theorem law12_A (x : Evt) (p : Lie) (v a b c d : Int) (W : World) (hx : RdE W x p) (bh : x.hs.length * 40 ≤ 140737488355328) (bg : x.gs.length * 40 ≤ 140737488355328) (bl : x.ls.length * 24 ≤ 140737488355328) (hart : x.n.art ≤ 9223372036854775807) (h0 : evE (shE x) ≠ 0) : Calls Try.prog 12 #[evV x p, .int .i64 v, .agg #[.int .i64 a, .int .i64 b, .int .i64 c, .int .i64 d]] W (Hr.Just W (.bool true)) := by
  have fsh := shE_few hart
  refine Just.of_ret ?_
  refine enterA (X := nX) (vs := [evV x p, .int .i64 v, .agg #[.int .i64 a, .int .i64 b, .int .i64 c, .int .i64 d]]) Try.func12 Try.ntmps12 rfl rfl Mem.nil ?_
  refine run_seq ?_
  refine run_region ?_
  refine run_h (.none rfl) (h_box rfl rfl rfl rfl rfl) ?_
  rintro b3 -
  refine run_h (.none rfl) (h_box rfl rfl rfl rfl rfl) ?_
  rintro b5 -
  refine run_q (.none rfl) rfl rfl (q_assign rfl rfl) ?_
  refine run_nil ?_
  refine run_seq ?_
  refine run_region ?_
  refine run_q (.none rfl) rfl rfl (q_loadBN rfl agg78 rfl (.there Sel.here) (.cons rfl (.cons rfl (.cons rfl (.cons rfl (.cons rfl (.cons rfl (.cons rfl (.cons rfl (.cons rfl (.cons rfl (.cons rfl (.cons rfl (.cons rfl CellsAt.nil))))))))))))) rfl) ?_
  refine run_h (.none rfl) (h_call rfl rfl rfl call32 (.cons rfl Evs.nil) (fun w hk hm => short29_ret x p w (hx.kept0 hk) bh bg bl)) ?_
  rintro ⟨v, m⟩ ⟨q, rfl, rfl⟩
  show Run _ _ _ _ _ _ _ ⟨(13, evV (shE x) q) :: _, _ :: _ :: _ :: _⟩
  refine run_h (.none rfl) (h_storeB rfl rfl sz78 rfl rfl rfl rfl rfl (.there (.there (.there (.there Sel.here)))) rfl) ?_
  rintro - -
  refine run_nil ?_
  refine run_sub (subMk (.cons (s := 1) rfl (.cons (s := 3) rfl (.cons (s := 5) rfl (.cons (s := 6) rfl .nil)))) .refl) ?_
  refine run_seq ?_
  refine run_region ?_
  refine run_q (.none rfl) rfl rfl (q_loadBN rfl agg78 rfl Sel.here (.cons rfl (.cons rfl (.cons rfl (.cons rfl (.cons rfl (.cons rfl (.cons rfl (.cons rfl (.cons rfl (.cons rfl (.cons rfl (.cons rfl (.cons rfl CellsAt.nil))))))))))))) rfl) ?_
  refine run_q (.none rfl) rfl rfl (q_move rfl rfl) ?_
  refine run_q (.none rfl) rfl rfl (q_fieldB (d := 0) rfl Try.underlying80 rfl rfl sz3 rfl) ?_
  refine run_q (.none rfl) rfl rfl (q_loadB rfl one3 rfl (.there (.there (.there (.there Sel.here)))) rfl) ?_
  refine run_q (.none rfl) rfl rfl (q_fieldB (d := 1) rfl Try.underlying80 rfl rfl sz3 rfl) ?_
  refine run_q (.none rfl) rfl rfl (q_loadB rfl one3 rfl (.there (.there (.there (.there Sel.here)))) rfl) ?_
  refine run_q (.none rfl) rfl rfl (q_call rfl call33 (.cons rfl (.cons rfl (.cons rfl (.cons rfl Evs.nil)))) (fun w hk hm => lyric_A (shE x) q v a b w ⟨(own_rd ((Sel.there Sel.here).holds hm)), (own_rd ((Sel.there (Sel.there Sel.here)).holds hm)), (own_rd ((Sel.there (Sel.there (Sel.there Sel.here))).holds hm))⟩ fsh h0)) ?_
  refine run_q (.none rfl) rfl rfl (q_move rfl rfl) ?_
  refine run_q (.none rfl) rfl rfl (q_extract rfl rfl rfl) ?_
  refine run_q (.none rfl) rfl rfl (q_extract rfl rfl rfl) ?_
  refine run_q (.none rfl) rfl rfl (q_extract rfl rfl rfl) ?_
  refine run_h (.none rfl) (h_alloc rfl rfl rfl info25) ?_
  rintro b7 -
  refine run_h (.none rfl) (h_storeB rfl rfl sz25 rfl rfl rfl rfl rfl Sel.here rfl) ?_
  rintro - -
  refine run_q (.none rfl) rfl rfl (q_assign rfl rfl) ?_
  refine run_q (.none rfl) rfl rfl (q_assign rfl rfl) ?_
  refine run_nil ?_
  refine run_sub (subMk (.cons (s := 1) rfl (.cons (s := 3) rfl (.cons (s := 5) rfl (.cons (s := 6) rfl (.cons (s := 7) rfl (.cons (s := 8) rfl (.cons (s := 9) rfl .nil))))))) .refl) ?_
  refine run_seq ?_
  refine run_seq ?_
  refine run_region ?_
  refine run_q (.none rfl) rfl rfl (q_call rfl call13 Evs.nil (fun w hk hm => known_just w)) ?_
  refine run_q (.none rfl) rfl rfl (q_not rfl rfl) ?_
  refine run_nil ?_
  refine run_condF rfl rfl ?_
  refine run_skip ?_
  refine run_seq ?_
  refine run_region ?_
  refine run_q (.none rfl) rfl rfl (q_loadBN rfl agg78 rfl (.there Sel.here) (.cons rfl (.cons rfl (.cons rfl (.cons rfl (.cons rfl (.cons rfl (.cons rfl (.cons rfl (.cons rfl (.cons rfl (.cons rfl (.cons rfl (.cons rfl CellsAt.nil))))))))))))) rfl) ?_
  refine run_q (.none rfl) rfl rfl (q_call rfl call34 (.cons rfl Evs.nil) (fun w hk hm => evCheck_just (shE x) q w ⟨(own_rd ((Sel.there (Sel.there Sel.here)).holds hm)), (own_rd ((Sel.there (Sel.there (Sel.there Sel.here))).holds hm)), (own_rd ((Sel.there (Sel.there (Sel.there (Sel.there Sel.here)))).holds hm))⟩ fsh)) ?_
  refine run_q (.none rfl) rfl rfl (q_assign rfl rfl) ?_
  refine run_nil ?_
  refine run_sub (subMk (.cons (s := 1) rfl (.cons (s := 3) rfl (.cons (s := 5) rfl (.cons (s := 6) rfl (.cons (s := 7) rfl (.cons (s := 8) rfl (.cons (s := 9) rfl (.cons (s := 10) rfl .nil)))))))) .refl) ?_
  refine run_seq ?_
  refine run_seq ?_
  refine run_region ?_
  refine run_q (.none rfl) rfl rfl (q_move rfl rfl) ?_
  refine run_q (.none rfl) rfl rfl (q_eql rfl rfl rfl) ?_
  refine run_q (.none rfl) rfl rfl (q_move rfl rfl) ?_
  refine run_off (.no rfl rfl rfl (beq_eq_false_iff_ne.2 h0)) rfl rfl ?_
  refine run_off (.no rfl rfl rfl (beq_eq_false_iff_ne.2 h0)) rfl rfl ?_
  refine run_off (.no rfl rfl rfl (beq_eq_false_iff_ne.2 h0)) rfl rfl ?_
  refine run_off (.off rfl rfl rfl) rfl rfl ?_
  refine run_off (.off rfl rfl rfl) rfl rfl ?_
  refine run_off (.no rfl rfl rfl (beq_eq_false_iff_ne.2 h0)) rfl rfl ?_
  refine run_off (.no rfl rfl rfl (beq_eq_false_iff_ne.2 h0)) rfl rfl ?_
  refine run_off (.off rfl rfl rfl) rfl rfl ?_
  refine run_off (.off rfl rfl rfl) rfl rfl ?_
  refine run_off (.off rfl rfl rfl) rfl rfl ?_
  refine run_off (.no rfl rfl rfl (beq_eq_false_iff_ne.2 h0)) rfl rfl ?_
  refine run_off (.no rfl rfl rfl (beq_eq_false_iff_ne.2 h0)) rfl rfl ?_
  refine run_off (.off rfl rfl rfl) rfl rfl ?_
  refine run_off (.off rfl rfl rfl) rfl rfl ?_
  refine run_off (.off rfl rfl rfl) rfl rfl ?_
  refine run_off (.no rfl rfl rfl (beq_eq_false_iff_ne.2 h0)) rfl rfl ?_
  refine run_q (.none rfl) rfl rfl (q_pickF rfl rfl (beq_eq_false_iff_ne.2 h0) rfl) ?_
  refine run_nil ?_
  refine run_sub (subMk (.cons (s := 1) rfl (.cons (s := 3) rfl (.cons (s := 5) rfl (.cons (s := 6) rfl (.cons (s := 7) rfl (.cons (s := 8) rfl (.cons (s := 9) rfl (.cons (s := 10) rfl (.cons (s := 48) rfl .nil))))))))) .refl) ?_
  refine run_condF rfl rfl ?_
  refine run_skip ?_
  refine run_seq ?_
  refine run_seq ?_
  refine run_region ?_
  refine run_q (.none rfl) rfl rfl (q_move rfl rfl) ?_
  refine run_q (.none rfl) rfl rfl (q_neq rfl rfl rfl) ?_
  refine run_q (.none rfl) rfl rfl (q_move rfl rfl) ?_
  refine run_off (.no rfl rfl rfl (bne_iff_ne.2 h0)) rfl rfl ?_
  refine run_off (.no rfl rfl rfl (bne_iff_ne.2 h0)) rfl rfl ?_
  refine run_off (.no rfl rfl rfl (bne_iff_ne.2 h0)) rfl rfl ?_
  refine run_off (.no rfl rfl rfl (bne_iff_ne.2 h0)) rfl rfl ?_
  refine run_off (.no rfl rfl rfl (bne_iff_ne.2 h0)) rfl rfl ?_
  refine run_q (.none rfl) rfl rfl (q_pickT rfl rfl (bne_iff_ne.2 h0) rfl) ?_
  refine run_q (.none rfl) rfl rfl (q_move rfl rfl) ?_
  refine run_off (.no rfl rfl rfl rfl) rfl rfl ?_
  refine run_off (.no rfl rfl rfl rfl) rfl rfl ?_
  refine run_off (.no rfl rfl rfl rfl) rfl rfl ?_
  refine run_off (.no rfl rfl rfl rfl) rfl rfl ?_
  refine run_off (.no rfl rfl rfl rfl) rfl rfl ?_
  refine run_off (.no rfl rfl rfl rfl) rfl rfl ?_
  refine run_off (.no rfl rfl rfl rfl) rfl rfl ?_
  refine run_q (.none rfl) rfl rfl (q_pickT rfl rfl rfl rfl) ?_
  refine run_nil ?_
  refine run_sub (subMk (.cons (s := 1) rfl (.cons (s := 3) rfl (.cons (s := 5) rfl (.cons (s := 6) rfl (.cons (s := 7) rfl (.cons (s := 8) rfl (.cons (s := 9) rfl (.cons (s := 10) rfl (.cons (s := 66) rfl .nil))))))))) .refl) ?_
  refine run_condT rfl rfl ?_
  refine run_seq ?_
  refine run_region ?_
  refine run_q (.none rfl) rfl rfl (q_loadBN rfl agg25 rfl Sel.here (.cons rfl (.cons rfl (.cons rfl (.cons rfl (.cons rfl (.cons rfl (.cons rfl (.cons rfl (.cons rfl (.cons rfl (.cons rfl (.cons rfl (.cons rfl CellsAt.nil))))))))))))) rfl) ?_
  refine run_q (.none rfl) rfl rfl (q_build rfl PV.nil (built25)) ?_
  refine run_q (.none rfl) rfl rfl (q_eqlS rfl rfl rfl eqg25 (fun w => eqs25 _ _ _ _ _ _ _ _ _ _ _ _ _ _ _ _ _ _ _ _ _ _ _ _ _ _ w)) ?_
  refine run_q (.none rfl) rfl rfl (q_move rfl rfl) ?_
  refine run_q (.on rfl rfl rfl (by simp)) rfl rfl (q_move rfl rfl) ?_
  refine run_q (.on rfl rfl rfl (by simp)) rfl rfl (q_not rfl rfl) ?_
  refine run_q (.none rfl) rfl rfl (q_pickT rfl rfl (by simp) rfl) ?_
  refine run_q (.none rfl) rfl rfl (q_move rfl rfl) ?_
  refine run_q (.on rfl rfl rfl rfl) rfl rfl (q_move rfl rfl) ?_
  refine run_q (.on rfl rfl rfl rfl) rfl rfl (q_move rfl rfl) ?_
  refine run_q (.on rfl rfl rfl rfl) rfl rfl (q_eql rfl rfl rfl) ?_
  refine run_q (.none rfl) rfl rfl (q_pickT rfl rfl rfl rfl) ?_
  refine run_q (.none rfl) rfl rfl (q_assign rfl rfl) ?_
  refine run_nil ?_
  refine run_sub (subMk (.cons (s := 1) rfl (.cons (s := 3) rfl (.cons (s := 5) rfl (.cons (s := 6) rfl (.cons (s := 7) rfl (.cons (s := 8) rfl (.cons (s := 9) rfl .nil))))))) .refl) ?_
  refine run_ret ?_
  exact end1 rfl rfl (by simp [onV])

set_option maxHeartbeats 4000000 in
set_option maxRecDepth 100000 in
theorem law12_B (x : Evt) (p : Lie) (v a b c d : Int) (W : World) (hx : RdE W x p) (bh : x.hs.length * 40 ≤ 140737488355328) (bg : x.gs.length * 40 ≤ 140737488355328) (bl : x.ls.length * 24 ≤ 140737488355328) (hart : x.n.art ≤ 9223372036854775807) (h0 : evE (shE x) = 0) (hb : v < 0 ∨ 4 ≤ v ∨ a < 0 ∨ b < 0) : Calls Try.prog 12 #[evV x p, .int .i64 v, .agg #[.int .i64 a, .int .i64 b, .int .i64 c, .int .i64 d]] W (Hr.Just W (.bool true)) := by
  have fsh := shE_few hart
  refine Just.of_ret ?_
  refine enterA (X := nX) (vs := [evV x p, .int .i64 v, .agg #[.int .i64 a, .int .i64 b, .int .i64 c, .int .i64 d]]) Try.func12 Try.ntmps12 rfl rfl Mem.nil ?_
  refine run_seq ?_
  refine run_region ?_
  refine run_h (.none rfl) (h_box rfl rfl rfl rfl rfl) ?_
  rintro b3 -
  refine run_h (.none rfl) (h_box rfl rfl rfl rfl rfl) ?_
  rintro b5 -
  refine run_q (.none rfl) rfl rfl (q_assign rfl rfl) ?_
  refine run_nil ?_
  refine run_seq ?_
  refine run_region ?_
  refine run_q (.none rfl) rfl rfl (q_loadBN rfl agg78 rfl (.there Sel.here) (.cons rfl (.cons rfl (.cons rfl (.cons rfl (.cons rfl (.cons rfl (.cons rfl (.cons rfl (.cons rfl (.cons rfl (.cons rfl (.cons rfl (.cons rfl CellsAt.nil))))))))))))) rfl) ?_
  refine run_h (.none rfl) (h_call rfl rfl rfl call32 (.cons rfl Evs.nil) (fun w hk hm => short29_ret x p w (hx.kept0 hk) bh bg bl)) ?_
  rintro ⟨v, m⟩ ⟨q, rfl, rfl⟩
  show Run _ _ _ _ _ _ _ ⟨(13, evV (shE x) q) :: _, _ :: _ :: _ :: _⟩
  refine run_h (.none rfl) (h_storeB rfl rfl sz78 rfl rfl rfl rfl rfl (.there (.there (.there (.there Sel.here)))) rfl) ?_
  rintro - -
  refine run_nil ?_
  refine run_sub (subMk (.cons (s := 1) rfl (.cons (s := 3) rfl (.cons (s := 5) rfl (.cons (s := 6) rfl .nil)))) .refl) ?_
  refine run_seq ?_
  refine run_region ?_
  refine run_q (.none rfl) rfl rfl (q_loadBN rfl agg78 rfl Sel.here (.cons rfl (.cons rfl (.cons rfl (.cons rfl (.cons rfl (.cons rfl (.cons rfl (.cons rfl (.cons rfl (.cons rfl (.cons rfl (.cons rfl (.cons rfl CellsAt.nil))))))))))))) rfl) ?_
  refine run_q (.none rfl) rfl rfl (q_move rfl rfl) ?_
  refine run_q (.none rfl) rfl rfl (q_fieldB (d := 0) rfl Try.underlying80 rfl rfl sz3 rfl) ?_
  refine run_q (.none rfl) rfl rfl (q_loadB rfl one3 rfl (.there (.there (.there (.there Sel.here)))) rfl) ?_
  refine run_q (.none rfl) rfl rfl (q_fieldB (d := 1) rfl Try.underlying80 rfl rfl sz3 rfl) ?_
  refine run_q (.none rfl) rfl rfl (q_loadB rfl one3 rfl (.there (.there (.there (.there Sel.here)))) rfl) ?_
  refine run_q (.none rfl) rfl rfl (q_call rfl call33 (.cons rfl (.cons rfl (.cons rfl (.cons rfl Evs.nil)))) (fun w hk hm => lyric_B (shE x) q v a b w ⟨(own_rd ((Sel.there Sel.here).holds hm)), (own_rd ((Sel.there (Sel.there Sel.here)).holds hm)), (own_rd ((Sel.there (Sel.there (Sel.there Sel.here))).holds hm))⟩ fsh h0 hb)) ?_
  refine run_q (.none rfl) rfl rfl (q_move rfl rfl) ?_
  refine run_q (.none rfl) rfl rfl (q_extract rfl rfl rfl) ?_
  refine run_q (.none rfl) rfl rfl (q_extract rfl rfl rfl) ?_
  refine run_q (.none rfl) rfl rfl (q_extract rfl rfl rfl) ?_
  refine run_h (.none rfl) (h_alloc rfl rfl rfl info25) ?_
  rintro b7 -
  refine run_h (.none rfl) (h_storeB rfl rfl sz25 rfl rfl rfl rfl rfl Sel.here rfl) ?_
  rintro - -
  refine run_q (.none rfl) rfl rfl (q_assign rfl rfl) ?_
  refine run_q (.none rfl) rfl rfl (q_assign rfl rfl) ?_
  refine run_nil ?_
  refine run_sub (subMk (.cons (s := 1) rfl (.cons (s := 3) rfl (.cons (s := 5) rfl (.cons (s := 6) rfl (.cons (s := 7) rfl (.cons (s := 8) rfl (.cons (s := 9) rfl .nil))))))) .refl) ?_
  refine run_seq ?_
  refine run_seq ?_
  refine run_region ?_
  refine run_q (.none rfl) rfl rfl (q_call rfl call13 Evs.nil (fun w hk hm => known_just w)) ?_
  refine run_q (.none rfl) rfl rfl (q_not rfl rfl) ?_
  refine run_nil ?_
  refine run_condF rfl rfl ?_
  refine run_skip ?_
  refine run_seq ?_
  refine run_region ?_
  refine run_q (.none rfl) rfl rfl (q_loadBN rfl agg78 rfl (.there Sel.here) (.cons rfl (.cons rfl (.cons rfl (.cons rfl (.cons rfl (.cons rfl (.cons rfl (.cons rfl (.cons rfl (.cons rfl (.cons rfl (.cons rfl (.cons rfl CellsAt.nil))))))))))))) rfl) ?_
  refine run_q (.none rfl) rfl rfl (q_call rfl call34 (.cons rfl Evs.nil) (fun w hk hm => evCheck_just (shE x) q w ⟨(own_rd ((Sel.there (Sel.there Sel.here)).holds hm)), (own_rd ((Sel.there (Sel.there (Sel.there Sel.here))).holds hm)), (own_rd ((Sel.there (Sel.there (Sel.there (Sel.there Sel.here)))).holds hm))⟩ fsh)) ?_
  refine run_q (.none rfl) rfl rfl (q_assign rfl rfl) ?_
  refine run_nil ?_
  refine run_sub (subMk (.cons (s := 1) rfl (.cons (s := 3) rfl (.cons (s := 5) rfl (.cons (s := 6) rfl (.cons (s := 7) rfl (.cons (s := 8) rfl (.cons (s := 9) rfl (.cons (s := 10) rfl .nil)))))))) .refl) ?_
  refine run_seq ?_
  refine run_seq ?_
  refine run_sub (subMk (.cons (s := 1) rfl (.cons (s := 3) rfl (.cons (s := 5) rfl (.cons (s := 6) rfl (.cons (s := 7) rfl (.cons (s := 8) rfl (.cons (s := 9) rfl (.cons' (s := 10) (v' := .int .i64 0) rfl (vint h0) .nil)))))))) .refl) ?_
  refine run_region ?_
  refine run_q (.none rfl) rfl rfl (q_move rfl rfl) ?_
  refine run_q (.none rfl) rfl rfl (q_eql rfl rfl rfl) ?_
  refine run_q (.none rfl) rfl rfl (q_move rfl rfl) ?_
  refine run_q (.on rfl rfl rfl rfl) rfl rfl (q_move rfl rfl) ?_
  refine run_q (.on rfl rfl rfl rfl) rfl rfl (q_lss rfl rfl rfl) ?_
  refine run_q (.on rfl rfl rfl rfl) rfl rfl (q_move rfl rfl) ?_
  refine run_split 34 rfl (fun g34 => ?_) (fun g34 => ?_)
  · have g34' := g34
    try simp only [decide_eq_true_eq, decide_eq_false_iff_not, beq_iff_eq, beq_eq_false_iff_ne, bne_iff_ne, bne_eq_false_iff_eq, Bool.not_eq_true', Bool.not_eq_false', ne_eq, Int.not_lt, Int.not_le, Decidable.not_not] at g34'
    refine run_off (.no rfl rfl rfl g34) rfl rfl ?_
    refine run_off (.no rfl rfl rfl g34) rfl rfl ?_
    refine run_q (.on rfl rfl rfl rfl) rfl rfl (q_pickT rfl rfl g34 rfl) ?_
    refine run_q (.on rfl rfl rfl rfl) rfl rfl (q_move rfl rfl) ?_
    refine run_off (.no rfl rfl rfl rfl) rfl rfl ?_
    refine run_off (.no rfl rfl rfl rfl) rfl rfl ?_
    refine run_off (.no rfl rfl rfl rfl) rfl rfl ?_
    refine run_q (.on rfl rfl rfl rfl) rfl rfl (q_pickT rfl rfl rfl rfl) ?_
    refine run_q (.on rfl rfl rfl rfl) rfl rfl (q_move rfl rfl) ?_
    refine run_off (.no rfl rfl rfl rfl) rfl rfl ?_
    refine run_off (.no rfl rfl rfl rfl) rfl rfl ?_
    refine run_off (.no rfl rfl rfl rfl) rfl rfl ?_
    refine run_q (.on rfl rfl rfl rfl) rfl rfl (q_pickT rfl rfl rfl rfl) ?_
    refine run_q (.none rfl) rfl rfl (q_pickT rfl rfl rfl rfl) ?_
    refine run_nil ?_
    refine run_sub (subMk (.cons (s := 1) rfl (.cons (s := 3) rfl (.cons (s := 5) rfl (.cons (s := 6) rfl (.cons (s := 7) rfl (.cons (s := 8) rfl (.cons (s := 9) rfl (.cons (s := 10) rfl (.cons (s := 48) rfl .nil))))))))) .refl) ?_
    refine run_condT rfl rfl ?_
    refine run_region ?_
    refine run_q (.none rfl) rfl rfl (q_assign rfl rfl) ?_
    refine run_nil ?_
    refine run_seq ?_
    refine run_seq ?_
    refine run_region ?_
    refine run_q (.none rfl) rfl rfl (q_move rfl rfl) ?_
    refine run_q (.none rfl) rfl rfl (q_neq rfl rfl rfl) ?_
    refine run_q (.none rfl) rfl rfl (q_move rfl rfl) ?_
    refine run_off (.no rfl rfl rfl rfl) rfl rfl ?_
    refine run_off (.no rfl rfl rfl rfl) rfl rfl ?_
    refine run_off (.no rfl rfl rfl rfl) rfl rfl ?_
    refine run_off (.no rfl rfl rfl rfl) rfl rfl ?_
    refine run_off (.no rfl rfl rfl rfl) rfl rfl ?_
    refine run_q (.none rfl) rfl rfl (q_pickT rfl rfl rfl rfl) ?_
    refine run_q (.none rfl) rfl rfl (q_move rfl rfl) ?_
    refine run_off (.no rfl rfl rfl rfl) rfl rfl ?_
    refine run_off (.no rfl rfl rfl rfl) rfl rfl ?_
    refine run_off (.no rfl rfl rfl rfl) rfl rfl ?_
    refine run_off (.no rfl rfl rfl rfl) rfl rfl ?_
    refine run_off (.no rfl rfl rfl rfl) rfl rfl ?_
    refine run_off (.no rfl rfl rfl rfl) rfl rfl ?_
    refine run_off (.no rfl rfl rfl rfl) rfl rfl ?_
    refine run_q (.none rfl) rfl rfl (q_pickT rfl rfl rfl rfl) ?_
    refine run_nil ?_
    refine run_sub (subMk (.cons (s := 1) rfl (.cons (s := 3) rfl (.cons (s := 5) rfl (.cons (s := 6) rfl (.cons (s := 7) rfl (.cons (s := 8) rfl (.cons (s := 9) rfl (.cons (s := 10) rfl (.cons (s := 66) rfl .nil))))))))) .refl) ?_
    refine run_condT rfl rfl ?_
    refine run_seq ?_
    refine run_region ?_
    refine run_q (.none rfl) rfl rfl (q_loadBN rfl agg25 rfl Sel.here (.cons rfl (.cons rfl (.cons rfl (.cons rfl (.cons rfl (.cons rfl (.cons rfl (.cons rfl (.cons rfl (.cons rfl (.cons rfl (.cons rfl (.cons rfl CellsAt.nil))))))))))))) rfl) ?_
    refine run_q (.none rfl) rfl rfl (q_build rfl PV.nil (built25)) ?_
    refine run_q (.none rfl) rfl rfl (q_eqlS rfl rfl rfl eqg25 (fun w => eqs25 _ _ _ _ _ _ _ _ _ _ _ _ _ _ _ _ _ _ _ _ _ _ _ _ _ _ w)) ?_
    refine run_q (.none rfl) rfl rfl (q_move rfl rfl) ?_
    refine run_q (.on rfl rfl rfl (by simp)) rfl rfl (q_move rfl rfl) ?_
    refine run_q (.on rfl rfl rfl (by simp)) rfl rfl (q_not rfl rfl) ?_
    refine run_q (.none rfl) rfl rfl (q_pickT rfl rfl (by simp) rfl) ?_
    refine run_q (.none rfl) rfl rfl (q_move rfl rfl) ?_
    refine run_q (.on rfl rfl rfl rfl) rfl rfl (q_move rfl rfl) ?_
    refine run_q (.on rfl rfl rfl rfl) rfl rfl (q_move rfl rfl) ?_
    refine run_q (.on rfl rfl rfl rfl) rfl rfl (q_eql rfl rfl rfl) ?_
    refine run_q (.none rfl) rfl rfl (q_pickT rfl rfl rfl rfl) ?_
    refine run_q (.none rfl) rfl rfl (q_assign rfl rfl) ?_
    refine run_nil ?_
    refine run_sub (subMk (.cons (s := 1) rfl (.cons (s := 3) rfl (.cons (s := 5) rfl (.cons (s := 6) rfl (.cons (s := 7) rfl (.cons (s := 8) rfl (.cons (s := 9) rfl .nil))))))) .refl) ?_
    refine run_ret ?_
    exact end1 rfl rfl (by simp [onV])
  · have g34' := g34
    try simp only [decide_eq_true_eq, decide_eq_false_iff_not, beq_iff_eq, beq_eq_false_iff_ne, bne_iff_ne, bne_eq_false_iff_eq, Bool.not_eq_true', Bool.not_eq_false', ne_eq, Int.not_lt, Int.not_le, Decidable.not_not] at g34'
    refine run_q (.on rfl rfl rfl g34) rfl rfl (q_move rfl rfl) ?_
    refine run_q (.on rfl rfl rfl g34) rfl rfl (q_geq rfl rfl rfl) ?_
    refine run_q (.on rfl rfl rfl rfl) rfl rfl (q_pickF rfl rfl g34 rfl) ?_
    refine run_q (.on rfl rfl rfl rfl) rfl rfl (q_move rfl rfl) ?_
    refine run_split 38 rfl (fun g38 => ?_) (fun g38 => ?_)
    · have g38' := g38
      try simp only [decide_eq_true_eq, decide_eq_false_iff_not, beq_iff_eq, beq_eq_false_iff_ne, bne_iff_ne, bne_eq_false_iff_eq, Bool.not_eq_true', Bool.not_eq_false', ne_eq, Int.not_lt, Int.not_le, Decidable.not_not] at g38'
      refine run_off (.no rfl rfl rfl g38) rfl rfl ?_
      refine run_off (.no rfl rfl rfl g38) rfl rfl ?_
      refine run_off (.no rfl rfl rfl g38) rfl rfl ?_
      refine run_q (.on rfl rfl rfl rfl) rfl rfl (q_pickT rfl rfl g38 rfl) ?_
      refine run_q (.on rfl rfl rfl rfl) rfl rfl (q_move rfl rfl) ?_
      refine run_off (.no rfl rfl rfl rfl) rfl rfl ?_
      refine run_off (.no rfl rfl rfl rfl) rfl rfl ?_
      refine run_off (.no rfl rfl rfl rfl) rfl rfl ?_
      refine run_q (.on rfl rfl rfl rfl) rfl rfl (q_pickT rfl rfl rfl rfl) ?_
      refine run_q (.none rfl) rfl rfl (q_pickT rfl rfl rfl rfl) ?_
      refine run_nil ?_
      refine run_sub (subMk (.cons (s := 1) rfl (.cons (s := 3) rfl (.cons (s := 5) rfl (.cons (s := 6) rfl (.cons (s := 7) rfl (.cons (s := 8) rfl (.cons (s := 9) rfl (.cons (s := 10) rfl (.cons (s := 48) rfl .nil))))))))) .refl) ?_
      refine run_condT rfl rfl ?_
      refine run_region ?_
      refine run_q (.none rfl) rfl rfl (q_assign rfl rfl) ?_
      refine run_nil ?_
      refine run_seq ?_
      refine run_seq ?_
      refine run_region ?_
      refine run_q (.none rfl) rfl rfl (q_move rfl rfl) ?_
      refine run_q (.none rfl) rfl rfl (q_neq rfl rfl rfl) ?_
      refine run_q (.none rfl) rfl rfl (q_move rfl rfl) ?_
      refine run_off (.no rfl rfl rfl rfl) rfl rfl ?_
      refine run_off (.no rfl rfl rfl rfl) rfl rfl ?_
      refine run_off (.no rfl rfl rfl rfl) rfl rfl ?_
      refine run_off (.no rfl rfl rfl rfl) rfl rfl ?_
      refine run_off (.no rfl rfl rfl rfl) rfl rfl ?_
      refine run_q (.none rfl) rfl rfl (q_pickT rfl rfl rfl rfl) ?_
      refine run_q (.none rfl) rfl rfl (q_move rfl rfl) ?_
      refine run_off (.no rfl rfl rfl rfl) rfl rfl ?_
      refine run_off (.no rfl rfl rfl rfl) rfl rfl ?_
      refine run_off (.no rfl rfl rfl rfl) rfl rfl ?_
      refine run_off (.no rfl rfl rfl rfl) rfl rfl ?_
      refine run_off (.no rfl rfl rfl rfl) rfl rfl ?_
      refine run_off (.no rfl rfl rfl rfl) rfl rfl ?_
      refine run_off (.no rfl rfl rfl rfl) rfl rfl ?_
      refine run_q (.none rfl) rfl rfl (q_pickT rfl rfl rfl rfl) ?_
      refine run_nil ?_
      refine run_sub (subMk (.cons (s := 1) rfl (.cons (s := 3) rfl (.cons (s := 5) rfl (.cons (s := 6) rfl (.cons (s := 7) rfl (.cons (s := 8) rfl (.cons (s := 9) rfl (.cons (s := 10) rfl (.cons (s := 66) rfl .nil))))))))) .refl) ?_
      refine run_condT rfl rfl ?_
      refine run_seq ?_
      refine run_region ?_
      refine run_q (.none rfl) rfl rfl (q_loadBN rfl agg25 rfl Sel.here (.cons rfl (.cons rfl (.cons rfl (.cons rfl (.cons rfl (.cons rfl (.cons rfl (.cons rfl (.cons rfl (.cons rfl (.cons rfl (.cons rfl (.cons rfl CellsAt.nil))))))))))))) rfl) ?_
      refine run_q (.none rfl) rfl rfl (q_build rfl PV.nil (built25)) ?_
      refine run_q (.none rfl) rfl rfl (q_eqlS rfl rfl rfl eqg25 (fun w => eqs25 _ _ _ _ _ _ _ _ _ _ _ _ _ _ _ _ _ _ _ _ _ _ _ _ _ _ w)) ?_
      refine run_q (.none rfl) rfl rfl (q_move rfl rfl) ?_
      refine run_q (.on rfl rfl rfl (by simp)) rfl rfl (q_move rfl rfl) ?_
      refine run_q (.on rfl rfl rfl (by simp)) rfl rfl (q_not rfl rfl) ?_
      refine run_q (.none rfl) rfl rfl (q_pickT rfl rfl (by simp) rfl) ?_
      refine run_q (.none rfl) rfl rfl (q_move rfl rfl) ?_
      refine run_q (.on rfl rfl rfl rfl) rfl rfl (q_move rfl rfl) ?_
      refine run_q (.on rfl rfl rfl rfl) rfl rfl (q_move rfl rfl) ?_
      refine run_q (.on rfl rfl rfl rfl) rfl rfl (q_eql rfl rfl rfl) ?_
      refine run_q (.none rfl) rfl rfl (q_pickT rfl rfl rfl rfl) ?_
      refine run_q (.none rfl) rfl rfl (q_assign rfl rfl) ?_
      refine run_nil ?_
      refine run_sub (subMk (.cons (s := 1) rfl (.cons (s := 3) rfl (.cons (s := 5) rfl (.cons (s := 6) rfl (.cons (s := 7) rfl (.cons (s := 8) rfl (.cons (s := 9) rfl .nil))))))) .refl) ?_
      refine run_ret ?_
      exact end1 rfl rfl (by simp [onV])
    · have g38' := g38
      try simp only [decide_eq_true_eq, decide_eq_false_iff_not, beq_iff_eq, beq_eq_false_iff_ne, bne_iff_ne, bne_eq_false_iff_eq, Bool.not_eq_true', Bool.not_eq_false', ne_eq, Int.not_lt, Int.not_le, Decidable.not_not] at g38'
      refine run_q (.on rfl rfl rfl g38) rfl rfl (q_fieldB (d := 0) rfl Try.underlying80 rfl rfl sz3 rfl) ?_
      refine run_q (.on rfl rfl rfl g38) rfl rfl (q_loadB rfl one3 rfl (.there (.there (.there (.there (.there Sel.here))))) rfl) ?_
      refine run_q (.on rfl rfl rfl g38) rfl rfl (q_lss rfl rfl rfl) ?_
      refine run_q (.on rfl rfl rfl rfl) rfl rfl (q_pickF rfl rfl g38 rfl) ?_
      refine run_q (.on rfl rfl rfl rfl) rfl rfl (q_move rfl rfl) ?_
      refine run_split 43 rfl (fun g43 => ?_) (fun g43 => ?_)
      · have g43' := g43
        try simp only [decide_eq_true_eq, decide_eq_false_iff_not, beq_iff_eq, beq_eq_false_iff_ne, bne_iff_ne, bne_eq_false_iff_eq, Bool.not_eq_true', Bool.not_eq_false', ne_eq, Int.not_lt, Int.not_le, Decidable.not_not] at g43'
        refine run_off (.no rfl rfl rfl g43) rfl rfl ?_
        refine run_off (.no rfl rfl rfl g43) rfl rfl ?_
        refine run_off (.no rfl rfl rfl g43) rfl rfl ?_
        refine run_q (.on rfl rfl rfl rfl) rfl rfl (q_pickT rfl rfl g43 rfl) ?_
        refine run_q (.none rfl) rfl rfl (q_pickT rfl rfl rfl rfl) ?_
        refine run_nil ?_
        refine run_sub (subMk (.cons (s := 1) rfl (.cons (s := 3) rfl (.cons (s := 5) rfl (.cons (s := 6) rfl (.cons (s := 7) rfl (.cons (s := 8) rfl (.cons (s := 9) rfl (.cons (s := 10) rfl (.cons (s := 48) rfl .nil))))))))) .refl) ?_
        refine run_condT rfl rfl ?_
        refine run_region ?_
        refine run_q (.none rfl) rfl rfl (q_assign rfl rfl) ?_
        refine run_nil ?_
        refine run_seq ?_
        refine run_seq ?_
        refine run_region ?_
        refine run_q (.none rfl) rfl rfl (q_move rfl rfl) ?_
        refine run_q (.none rfl) rfl rfl (q_neq rfl rfl rfl) ?_
        refine run_q (.none rfl) rfl rfl (q_move rfl rfl) ?_
        refine run_off (.no rfl rfl rfl rfl) rfl rfl ?_
        refine run_off (.no rfl rfl rfl rfl) rfl rfl ?_
        refine run_off (.no rfl rfl rfl rfl) rfl rfl ?_
        refine run_off (.no rfl rfl rfl rfl) rfl rfl ?_
        refine run_off (.no rfl rfl rfl rfl) rfl rfl ?_
        refine run_q (.none rfl) rfl rfl (q_pickT rfl rfl rfl rfl) ?_
        refine run_q (.none rfl) rfl rfl (q_move rfl rfl) ?_
        refine run_off (.no rfl rfl rfl rfl) rfl rfl ?_
        refine run_off (.no rfl rfl rfl rfl) rfl rfl ?_
        refine run_off (.no rfl rfl rfl rfl) rfl rfl ?_
        refine run_off (.no rfl rfl rfl rfl) rfl rfl ?_
        refine run_off (.no rfl rfl rfl rfl) rfl rfl ?_
        refine run_off (.no rfl rfl rfl rfl) rfl rfl ?_
        refine run_off (.no rfl rfl rfl rfl) rfl rfl ?_
        refine run_q (.none rfl) rfl rfl (q_pickT rfl rfl rfl rfl) ?_
        refine run_nil ?_
        refine run_sub (subMk (.cons (s := 1) rfl (.cons (s := 3) rfl (.cons (s := 5) rfl (.cons (s := 6) rfl (.cons (s := 7) rfl (.cons (s := 8) rfl (.cons (s := 9) rfl (.cons (s := 10) rfl (.cons (s := 66) rfl .nil))))))))) .refl) ?_
        refine run_condT rfl rfl ?_
        refine run_seq ?_
        refine run_region ?_
        refine run_q (.none rfl) rfl rfl (q_loadBN rfl agg25 rfl Sel.here (.cons rfl (.cons rfl (.cons rfl (.cons rfl (.cons rfl (.cons rfl (.cons rfl (.cons rfl (.cons rfl (.cons rfl (.cons rfl (.cons rfl (.cons rfl CellsAt.nil))))))))))))) rfl) ?_
        refine run_q (.none rfl) rfl rfl (q_build rfl PV.nil (built25)) ?_
        refine run_q (.none rfl) rfl rfl (q_eqlS rfl rfl rfl eqg25 (fun w => eqs25 _ _ _ _ _ _ _ _ _ _ _ _ _ _ _ _ _ _ _ _ _ _ _ _ _ _ w)) ?_
        refine run_q (.none rfl) rfl rfl (q_move rfl rfl) ?_
        refine run_q (.on rfl rfl rfl (by simp)) rfl rfl (q_move rfl rfl) ?_
        refine run_q (.on rfl rfl rfl (by simp)) rfl rfl (q_not rfl rfl) ?_
        refine run_q (.none rfl) rfl rfl (q_pickT rfl rfl (by simp) rfl) ?_
        refine run_q (.none rfl) rfl rfl (q_move rfl rfl) ?_
        refine run_q (.on rfl rfl rfl rfl) rfl rfl (q_move rfl rfl) ?_
        refine run_q (.on rfl rfl rfl rfl) rfl rfl (q_move rfl rfl) ?_
        refine run_q (.on rfl rfl rfl rfl) rfl rfl (q_eql rfl rfl rfl) ?_
        refine run_q (.none rfl) rfl rfl (q_pickT rfl rfl rfl rfl) ?_
        refine run_q (.none rfl) rfl rfl (q_assign rfl rfl) ?_
        refine run_nil ?_
        refine run_sub (subMk (.cons (s := 1) rfl (.cons (s := 3) rfl (.cons (s := 5) rfl (.cons (s := 6) rfl (.cons (s := 7) rfl (.cons (s := 8) rfl (.cons (s := 9) rfl .nil))))))) .refl) ?_
        refine run_ret ?_
        exact end1 rfl rfl (by simp [onV])
      · have g43' := g43
        try simp only [decide_eq_true_eq, decide_eq_false_iff_not, beq_iff_eq, beq_eq_false_iff_ne, bne_iff_ne, bne_eq_false_iff_eq, Bool.not_eq_true', Bool.not_eq_false', ne_eq, Int.not_lt, Int.not_le, Decidable.not_not] at g43'
        refine run_q (.on rfl rfl rfl g43) rfl rfl (q_fieldB (d := 1) rfl Try.underlying80 rfl rfl sz3 rfl) ?_
        refine run_q (.on rfl rfl rfl g43) rfl rfl (q_loadB rfl one3 rfl (.there (.there (.there (.there (.there Sel.here))))) rfl) ?_
        refine run_q (.on rfl rfl rfl g43) rfl rfl (q_lss rfl rfl rfl) ?_
        refine run_q (.on rfl rfl rfl rfl) rfl rfl (q_pickF rfl rfl g43 rfl) ?_
        refine run_q (.none rfl) rfl rfl (q_pickT rfl rfl rfl rfl) ?_
        refine run_nil ?_
        refine run_sub (subMk (.cons (s := 1) rfl (.cons (s := 3) rfl (.cons (s := 5) rfl (.cons (s := 6) rfl (.cons (s := 7) rfl (.cons (s := 8) rfl (.cons (s := 9) rfl (.cons (s := 10) rfl (.cons (s := 48) rfl .nil))))))))) .refl) ?_
        refine run_condT rfl (decide_eq_true (by omega)) ?_
        refine run_region ?_
        refine run_q (.none rfl) rfl rfl (q_assign rfl rfl) ?_
        refine run_nil ?_
        refine run_seq ?_
        refine run_seq ?_
        refine run_region ?_
        refine run_q (.none rfl) rfl rfl (q_move rfl rfl) ?_
        refine run_q (.none rfl) rfl rfl (q_neq rfl rfl rfl) ?_
        refine run_q (.none rfl) rfl rfl (q_move rfl rfl) ?_
        refine run_off (.no rfl rfl rfl rfl) rfl rfl ?_
        refine run_off (.no rfl rfl rfl rfl) rfl rfl ?_
        refine run_off (.no rfl rfl rfl rfl) rfl rfl ?_
        refine run_off (.no rfl rfl rfl rfl) rfl rfl ?_
        refine run_off (.no rfl rfl rfl rfl) rfl rfl ?_
        refine run_q (.none rfl) rfl rfl (q_pickT rfl rfl rfl rfl) ?_
        refine run_q (.none rfl) rfl rfl (q_move rfl rfl) ?_
        refine run_off (.no rfl rfl rfl rfl) rfl rfl ?_
        refine run_off (.no rfl rfl rfl rfl) rfl rfl ?_
        refine run_off (.no rfl rfl rfl rfl) rfl rfl ?_
        refine run_off (.no rfl rfl rfl rfl) rfl rfl ?_
        refine run_off (.no rfl rfl rfl rfl) rfl rfl ?_
        refine run_off (.no rfl rfl rfl rfl) rfl rfl ?_
        refine run_off (.no rfl rfl rfl rfl) rfl rfl ?_
        refine run_q (.none rfl) rfl rfl (q_pickT rfl rfl rfl rfl) ?_
        refine run_nil ?_
        refine run_sub (subMk (.cons (s := 1) rfl (.cons (s := 3) rfl (.cons (s := 5) rfl (.cons (s := 6) rfl (.cons (s := 7) rfl (.cons (s := 8) rfl (.cons (s := 9) rfl (.cons (s := 10) rfl (.cons (s := 66) rfl .nil))))))))) .refl) ?_
        refine run_condT rfl rfl ?_
        refine run_seq ?_
        refine run_region ?_
        refine run_q (.none rfl) rfl rfl (q_loadBN rfl agg25 rfl Sel.here (.cons rfl (.cons rfl (.cons rfl (.cons rfl (.cons rfl (.cons rfl (.cons rfl (.cons rfl (.cons rfl (.cons rfl (.cons rfl (.cons rfl (.cons rfl CellsAt.nil))))))))))))) rfl) ?_
        refine run_q (.none rfl) rfl rfl (q_build rfl PV.nil (built25)) ?_
        refine run_q (.none rfl) rfl rfl (q_eqlS rfl rfl rfl eqg25 (fun w => eqs25 _ _ _ _ _ _ _ _ _ _ _ _ _ _ _ _ _ _ _ _ _ _ _ _ _ _ w)) ?_
        refine run_q (.none rfl) rfl rfl (q_move rfl rfl) ?_
        refine run_q (.on rfl rfl rfl (by simp)) rfl rfl (q_move rfl rfl) ?_
        refine run_q (.on rfl rfl rfl (by simp)) rfl rfl (q_not rfl rfl) ?_
        refine run_q (.none rfl) rfl rfl (q_pickT rfl rfl (by simp) rfl) ?_
        refine run_q (.none rfl) rfl rfl (q_move rfl rfl) ?_
        refine run_q (.on rfl rfl rfl rfl) rfl rfl (q_move rfl rfl) ?_
        refine run_q (.on rfl rfl rfl rfl) rfl rfl (q_move rfl rfl) ?_
        refine run_q (.on rfl rfl rfl rfl) rfl rfl (q_eql rfl rfl rfl) ?_
        refine run_q (.none rfl) rfl rfl (q_pickT rfl rfl rfl rfl) ?_
        refine run_q (.none rfl) rfl rfl (q_assign rfl rfl) ?_
        refine run_nil ?_
        refine run_sub (subMk (.cons (s := 1) rfl (.cons (s := 3) rfl (.cons (s := 5) rfl (.cons (s := 6) rfl (.cons (s := 7) rfl (.cons (s := 8) rfl (.cons (s := 9) rfl .nil))))))) .refl) ?_
        refine run_ret ?_
        exact end1 rfl rfl (by simp [onV])

set_option maxHeartbeats 4000000 in
set_option maxRecDepth 100000 in
theorem law12_C (x : Evt) (p : Lie) (v a b c d : Int) (W : World) (hx : RdE W x p) (bh : x.hs.length * 40 ≤ 140737488355328) (bg : x.gs.length * 40 ≤ 140737488355328) (bl : x.ls.length * 24 ≤ 140737488355328) (hart : x.n.art ≤ 9223372036854775807) (h0 : evE (shE x) = 0) (hb : ¬ (v < 0 ∨ 4 ≤ v ∨ a < 0 ∨ b < 0)) (hc : (shE x).ls.length ≤ v ∨ empS (nth (shE x).ls v.toNat).text = true) : Calls Try.prog 12 #[evV x p, .int .i64 v, .agg #[.int .i64 a, .int .i64 b, .int .i64 c, .int .i64 d]] W (Hr.Just W (.bool true)) := by
  have fsh := shE_few hart
  refine Just.of_ret ?_
  refine enterA (X := nX) (vs := [evV x p, .int .i64 v, .agg #[.int .i64 a, .int .i64 b, .int .i64 c, .int .i64 d]]) Try.func12 Try.ntmps12 rfl rfl Mem.nil ?_
  refine run_seq ?_
  refine run_region ?_
  refine run_h (.none rfl) (h_box rfl rfl rfl rfl rfl) ?_
  rintro b3 -
  refine run_h (.none rfl) (h_box rfl rfl rfl rfl rfl) ?_
  rintro b5 -
  refine run_q (.none rfl) rfl rfl (q_assign rfl rfl) ?_
  refine run_nil ?_
  refine run_seq ?_
  refine run_region ?_
  refine run_q (.none rfl) rfl rfl (q_loadBN rfl agg78 rfl (.there Sel.here) (.cons rfl (.cons rfl (.cons rfl (.cons rfl (.cons rfl (.cons rfl (.cons rfl (.cons rfl (.cons rfl (.cons rfl (.cons rfl (.cons rfl (.cons rfl CellsAt.nil))))))))))))) rfl) ?_
  refine run_h (.none rfl) (h_call rfl rfl rfl call32 (.cons rfl Evs.nil) (fun w hk hm => short29_ret x p w (hx.kept0 hk) bh bg bl)) ?_
  rintro ⟨v, m⟩ ⟨q, rfl, rfl⟩
  show Run _ _ _ _ _ _ _ ⟨(13, evV (shE x) q) :: _, _ :: _ :: _ :: _⟩
  refine run_h (.none rfl) (h_storeB rfl rfl sz78 rfl rfl rfl rfl rfl (.there (.there (.there (.there Sel.here)))) rfl) ?_
  rintro - -
  refine run_nil ?_
  refine run_sub (subMk (.cons (s := 1) rfl (.cons (s := 3) rfl (.cons (s := 5) rfl (.cons (s := 6) rfl .nil)))) .refl) ?_
  refine run_seq ?_
  refine run_region ?_
  refine run_q (.none rfl) rfl rfl (q_loadBN rfl agg78 rfl Sel.here (.cons rfl (.cons rfl (.cons rfl (.cons rfl (.cons rfl (.cons rfl (.cons rfl (.cons rfl (.cons rfl (.cons rfl (.cons rfl (.cons rfl (.cons rfl CellsAt.nil))))))))))))) rfl) ?_
  refine run_q (.none rfl) rfl rfl (q_move rfl rfl) ?_
  refine run_q (.none rfl) rfl rfl (q_fieldB (d := 0) rfl Try.underlying80 rfl rfl sz3 rfl) ?_
  refine run_q (.none rfl) rfl rfl (q_loadB rfl one3 rfl (.there (.there (.there (.there Sel.here)))) rfl) ?_
  refine run_q (.none rfl) rfl rfl (q_fieldB (d := 1) rfl Try.underlying80 rfl rfl sz3 rfl) ?_
  refine run_q (.none rfl) rfl rfl (q_loadB rfl one3 rfl (.there (.there (.there (.there Sel.here)))) rfl) ?_
  refine run_q (.none rfl) rfl rfl (q_call rfl call33 (.cons rfl (.cons rfl (.cons rfl (.cons rfl Evs.nil)))) (fun w hk hm => lyric_C (shE x) q v a b w ⟨(own_rd ((Sel.there Sel.here).holds hm)), (own_rd ((Sel.there (Sel.there Sel.here)).holds hm)), (own_rd ((Sel.there (Sel.there (Sel.there Sel.here))).holds hm))⟩ fsh h0 hb hc)) ?_
  refine run_q (.none rfl) rfl rfl (q_move rfl rfl) ?_
  refine run_q (.none rfl) rfl rfl (q_extract rfl rfl rfl) ?_
  refine run_q (.none rfl) rfl rfl (q_extract rfl rfl rfl) ?_
  refine run_q (.none rfl) rfl rfl (q_extract rfl rfl rfl) ?_
  refine run_h (.none rfl) (h_alloc rfl rfl rfl info25) ?_
  rintro b7 -
  refine run_h (.none rfl) (h_storeB rfl rfl sz25 rfl rfl rfl rfl rfl Sel.here rfl) ?_
  rintro - -
  refine run_q (.none rfl) rfl rfl (q_assign rfl rfl) ?_
  refine run_q (.none rfl) rfl rfl (q_assign rfl rfl) ?_
  refine run_nil ?_
  refine run_sub (subMk (.cons (s := 1) rfl (.cons (s := 3) rfl (.cons (s := 5) rfl (.cons (s := 6) rfl (.cons (s := 7) rfl (.cons (s := 8) rfl (.cons (s := 9) rfl .nil))))))) .refl) ?_
  refine run_seq ?_
  refine run_seq ?_
  refine run_region ?_
  refine run_q (.none rfl) rfl rfl (q_call rfl call13 Evs.nil (fun w hk hm => known_just w)) ?_
  refine run_q (.none rfl) rfl rfl (q_not rfl rfl) ?_
  refine run_nil ?_
  refine run_condF rfl rfl ?_
  refine run_skip ?_
  refine run_seq ?_
  refine run_region ?_
  refine run_q (.none rfl) rfl rfl (q_loadBN rfl agg78 rfl (.there Sel.here) (.cons rfl (.cons rfl (.cons rfl (.cons rfl (.cons rfl (.cons rfl (.cons rfl (.cons rfl (.cons rfl (.cons rfl (.cons rfl (.cons rfl (.cons rfl CellsAt.nil))))))))))))) rfl) ?_
  refine run_q (.none rfl) rfl rfl (q_call rfl call34 (.cons rfl Evs.nil) (fun w hk hm => evCheck_just (shE x) q w ⟨(own_rd ((Sel.there (Sel.there Sel.here)).holds hm)), (own_rd ((Sel.there (Sel.there (Sel.there Sel.here))).holds hm)), (own_rd ((Sel.there (Sel.there (Sel.there (Sel.there Sel.here)))).holds hm))⟩ fsh)) ?_
  refine run_q (.none rfl) rfl rfl (q_assign rfl rfl) ?_
  refine run_nil ?_
  refine run_sub (subMk (.cons (s := 1) rfl (.cons (s := 3) rfl (.cons (s := 5) rfl (.cons (s := 6) rfl (.cons (s := 7) rfl (.cons (s := 8) rfl (.cons (s := 9) rfl (.cons (s := 10) rfl .nil)))))))) .refl) ?_
  refine run_seq ?_
  refine run_seq ?_
  refine run_sub (subMk (.cons (s := 1) rfl (.cons (s := 3) rfl (.cons (s := 5) rfl (.cons (s := 6) rfl (.cons (s := 7) rfl (.cons (s := 8) rfl (.cons (s := 9) rfl (.cons' (s := 10) (v' := .int .i64 0) rfl (vint h0) .nil)))))))) .refl) ?_
  refine run_region ?_
  refine run_q (.none rfl) rfl rfl (q_move rfl rfl) ?_
  refine run_q (.none rfl) rfl rfl (q_eql rfl rfl rfl) ?_
  refine run_q (.none rfl) rfl rfl (q_move rfl rfl) ?_
  refine run_q (.on rfl rfl rfl rfl) rfl rfl (q_move rfl rfl) ?_
  refine run_q (.on rfl rfl rfl rfl) rfl rfl (q_lss rfl rfl rfl) ?_
  refine run_q (.on rfl rfl rfl rfl) rfl rfl (q_move rfl rfl) ?_
  refine run_q (.on rfl rfl rfl (decide_eq_false (by omega))) rfl rfl (q_move rfl rfl) ?_
  refine run_q (.on rfl rfl rfl (decide_eq_false (by omega))) rfl rfl (q_geq rfl rfl rfl) ?_
  refine run_q (.on rfl rfl rfl rfl) rfl rfl (q_pickF rfl rfl (decide_eq_false (by omega)) rfl) ?_
  refine run_q (.on rfl rfl rfl rfl) rfl rfl (q_move rfl rfl) ?_
  refine run_q (.on rfl rfl rfl (decide_eq_false (by omega))) rfl rfl (q_fieldB (d := 0) rfl Try.underlying80 rfl rfl sz3 rfl) ?_
  refine run_q (.on rfl rfl rfl (decide_eq_false (by omega))) rfl rfl (q_loadB rfl one3 rfl (.there (.there (.there (.there (.there Sel.here))))) rfl) ?_
  refine run_q (.on rfl rfl rfl (decide_eq_false (by omega))) rfl rfl (q_lss rfl rfl rfl) ?_
  refine run_q (.on rfl rfl rfl rfl) rfl rfl (q_pickF rfl rfl (decide_eq_false (by omega)) rfl) ?_
  refine run_q (.on rfl rfl rfl rfl) rfl rfl (q_move rfl rfl) ?_
  refine run_q (.on rfl rfl rfl (decide_eq_false (by omega))) rfl rfl (q_fieldB (d := 1) rfl Try.underlying80 rfl rfl sz3 rfl) ?_
  refine run_q (.on rfl rfl rfl (decide_eq_false (by omega))) rfl rfl (q_loadB rfl one3 rfl (.there (.there (.there (.there (.there Sel.here))))) rfl) ?_
  refine run_q (.on rfl rfl rfl (decide_eq_false (by omega))) rfl rfl (q_lss rfl rfl rfl) ?_
  refine run_q (.on rfl rfl rfl rfl) rfl rfl (q_pickF rfl rfl (decide_eq_false (by omega)) rfl) ?_
  refine run_q (.none rfl) rfl rfl (q_pickT rfl rfl rfl rfl) ?_
  refine run_nil ?_
  refine run_sub (subMk (.cons (s := 1) rfl (.cons (s := 3) rfl (.cons (s := 5) rfl (.cons (s := 6) rfl (.cons (s := 7) rfl (.cons (s := 8) rfl (.cons (s := 9) rfl (.cons (s := 10) rfl (.cons (s := 48) rfl .nil))))))))) .refl) ?_
  refine run_condF rfl (decide_eq_false (by omega)) ?_
  refine run_skip ?_
  refine run_seq ?_
  refine run_seq ?_
  refine run_region ?_
  refine run_q (.none rfl) rfl rfl (q_move rfl rfl) ?_
  refine run_q (.none rfl) rfl rfl (q_neq rfl rfl rfl) ?_
  refine run_q (.none rfl) rfl rfl (q_move rfl rfl) ?_
  refine run_q (.on rfl rfl rfl rfl) rfl rfl (q_move rfl rfl) ?_
  refine run_q (.on rfl rfl rfl rfl) rfl rfl (q_fieldB (d := 10) rfl Try.underlying78 rfl rfl sz76 rfl) ?_
  refine run_q (.on rfl rfl rfl rfl) rfl rfl (q_loadB rfl one76 rfl (.there Sel.here) rfl) ?_
  refine run_q (.on rfl rfl rfl rfl) rfl rfl (q_len rfl Try.underlying76 rfl) ?_
  refine run_q (.on rfl rfl rfl rfl) rfl rfl (q_geq rfl rfl rfl) ?_
  refine run_q (.none rfl) rfl rfl (q_pickF rfl rfl rfl rfl) ?_
  refine run_q (.none rfl) rfl rfl (q_move rfl rfl) ?_
  refine run_split 58 rfl (fun g58 => ?_) (fun g58 => ?_)
  · have g58' := g58
    try simp only [decide_eq_true_eq, decide_eq_false_iff_not, beq_iff_eq, beq_eq_false_iff_ne, bne_iff_ne, bne_eq_false_iff_eq, Bool.not_eq_true', Bool.not_eq_false', ne_eq, Int.not_lt, Int.not_le, Decidable.not_not] at g58'
    refine run_off (.no rfl rfl rfl g58) rfl rfl ?_
    refine run_off (.no rfl rfl rfl g58) rfl rfl ?_
    refine run_off (.no rfl rfl rfl g58) rfl rfl ?_
    refine run_off (.no rfl rfl rfl g58) rfl rfl ?_
    refine run_off (.no rfl rfl rfl g58) rfl rfl ?_
    refine run_off (.no rfl rfl rfl g58) rfl rfl ?_
    refine run_off (.no rfl rfl rfl g58) rfl rfl ?_
    refine run_q (.none rfl) rfl rfl (q_pickT rfl rfl g58 rfl) ?_
    refine run_nil ?_
    refine run_sub (subMk (.cons (s := 1) rfl (.cons (s := 3) rfl (.cons (s := 5) rfl (.cons (s := 6) rfl (.cons (s := 7) rfl (.cons (s := 8) rfl (.cons (s := 9) rfl (.cons (s := 10) rfl (.cons (s := 66) rfl .nil))))))))) .refl) ?_
    refine run_condT rfl rfl ?_
    refine run_seq ?_
    refine run_region ?_
    refine run_q (.none rfl) rfl rfl (q_loadBN rfl agg25 rfl Sel.here (.cons rfl (.cons rfl (.cons rfl (.cons rfl (.cons rfl (.cons rfl (.cons rfl (.cons rfl (.cons rfl (.cons rfl (.cons rfl (.cons rfl (.cons rfl CellsAt.nil))))))))))))) rfl) ?_
    refine run_q (.none rfl) rfl rfl (q_build rfl PV.nil (built25)) ?_
    refine run_q (.none rfl) rfl rfl (q_eqlS rfl rfl rfl eqg25 (fun w => eqs25 _ _ _ _ _ _ _ _ _ _ _ _ _ _ _ _ _ _ _ _ _ _ _ _ _ _ w)) ?_
    refine run_q (.none rfl) rfl rfl (q_move rfl rfl) ?_
    refine run_q (.on rfl rfl rfl (by simp)) rfl rfl (q_move rfl rfl) ?_
    refine run_q (.on rfl rfl rfl (by simp)) rfl rfl (q_not rfl rfl) ?_
    refine run_q (.none rfl) rfl rfl (q_pickT rfl rfl (by simp) rfl) ?_
    refine run_q (.none rfl) rfl rfl (q_move rfl rfl) ?_
    refine run_q (.on rfl rfl rfl rfl) rfl rfl (q_move rfl rfl) ?_
    refine run_q (.on rfl rfl rfl rfl) rfl rfl (q_move rfl rfl) ?_
    refine run_q (.on rfl rfl rfl rfl) rfl rfl (q_eql rfl rfl rfl) ?_
    refine run_q (.none rfl) rfl rfl (q_pickT rfl rfl rfl rfl) ?_
    refine run_q (.none rfl) rfl rfl (q_assign rfl rfl) ?_
    refine run_nil ?_
    refine run_sub (subMk (.cons (s := 1) rfl (.cons (s := 3) rfl (.cons (s := 5) rfl (.cons (s := 6) rfl (.cons (s := 7) rfl (.cons (s := 8) rfl (.cons (s := 9) rfl .nil))))))) .refl) ?_
    refine run_ret ?_
    exact end1 rfl rfl (by simp [onV])
  · have g58' := g58
    try simp only [decide_eq_true_eq, decide_eq_false_iff_not, beq_iff_eq, beq_eq_false_iff_ne, bne_iff_ne, bne_eq_false_iff_eq, Bool.not_eq_true', Bool.not_eq_false', ne_eq, Int.not_lt, Int.not_le, Decidable.not_not] at g58'
    refine run_q (.on rfl rfl rfl g58) rfl rfl (q_fieldB (d := 10) rfl Try.underlying78 rfl rfl sz76 rfl) ?_
    refine run_q (.on rfl rfl rfl g58) rfl rfl (q_loadB rfl one76 rfl (.there Sel.here) rfl) ?_
    refine run_q (.on rfl rfl rfl g58) rfl rfl (q_move rfl rfl) ?_
    refine run_q (.on rfl rfl rfl g58) rfl rfl (q_indexS (q := v.toNat) rfl Try.underlying76 sz86 rfl rfl (.own (.there (.there (.there (.there Sel.here))))) (by rw [List.length_map]) (by omega) (by omega)) ?_
    refine run_q (.on rfl rfl rfl g58) rfl rfl (q_fieldAddr (d := 0) rfl Try.underlying86 rfl rfl sz9 rfl) ?_
    refine run_q (.on rfl rfl rfl g58) rfl rfl (q_loadF rfl one9 rfl (.own (.there (.there (.there (.there Sel.here))))) (getmap (by omega)) rfl) ?_
    refine run_q (.on rfl rfl rfl g58) rfl rfl (q_eqlStr rfl rfl rfl) ?_
    refine run_q (.none rfl) rfl rfl (q_pickF rfl rfl g58 rfl) ?_
    refine run_nil ?_
    refine run_sub (subMk (.cons (s := 1) rfl (.cons (s := 3) rfl (.cons (s := 5) rfl (.cons (s := 6) rfl (.cons (s := 7) rfl (.cons (s := 8) rfl (.cons (s := 9) rfl (.cons (s := 10) rfl (.cons (s := 66) rfl .nil))))))))) .refl) ?_
    refine run_condT rfl (show empS _ = true from hc.resolve_left (by omega)) ?_
    refine run_seq ?_
    refine run_region ?_
    refine run_q (.none rfl) rfl rfl (q_loadBN rfl agg25 rfl Sel.here (.cons rfl (.cons rfl (.cons rfl (.cons rfl (.cons rfl (.cons rfl (.cons rfl (.cons rfl (.cons rfl (.cons rfl (.cons rfl (.cons rfl (.cons rfl CellsAt.nil))))))))))))) rfl) ?_
    refine run_q (.none rfl) rfl rfl (q_build rfl PV.nil (built25)) ?_
    refine run_q (.none rfl) rfl rfl (q_eqlS rfl rfl rfl eqg25 (fun w => eqs25 _ _ _ _ _ _ _ _ _ _ _ _ _ _ _ _ _ _ _ _ _ _ _ _ _ _ w)) ?_
    refine run_q (.none rfl) rfl rfl (q_move rfl rfl) ?_
    refine run_q (.on rfl rfl rfl (by simp)) rfl rfl (q_move rfl rfl) ?_
    refine run_q (.on rfl rfl rfl (by simp)) rfl rfl (q_not rfl rfl) ?_
    refine run_q (.none rfl) rfl rfl (q_pickT rfl rfl (by simp) rfl) ?_
    refine run_q (.none rfl) rfl rfl (q_move rfl rfl) ?_
    refine run_q (.on rfl rfl rfl rfl) rfl rfl (q_move rfl rfl) ?_
    refine run_q (.on rfl rfl rfl rfl) rfl rfl (q_move rfl rfl) ?_
    refine run_q (.on rfl rfl rfl rfl) rfl rfl (q_eql rfl rfl rfl) ?_
    refine run_q (.none rfl) rfl rfl (q_pickT rfl rfl rfl rfl) ?_
    refine run_q (.none rfl) rfl rfl (q_assign rfl rfl) ?_
    refine run_nil ?_
    refine run_sub (subMk (.cons (s := 1) rfl (.cons (s := 3) rfl (.cons (s := 5) rfl (.cons (s := 6) rfl (.cons (s := 7) rfl (.cons (s := 8) rfl (.cons (s := 9) rfl .nil))))))) .refl) ?_
    refine run_ret ?_
    exact end1 rfl rfl (by simp [onV])

set_option maxHeartbeats 4000000 in
set_option maxRecDepth 100000 in
theorem law12_D (x : Evt) (p : Lie) (v a b c d : Int) (W : World) (hx : RdE W x p) (bh : x.hs.length * 40 ≤ 140737488355328) (bg : x.gs.length * 40 ≤ 140737488355328) (bl : x.ls.length * 24 ≤ 140737488355328) (hart : x.n.art ≤ 9223372036854775807) (h0 : evE (shE x) = 0) (hb : ¬ (v < 0 ∨ 4 ≤ v ∨ a < 0 ∨ b < 0)) (hc : v < (shE x).ls.length) (he : empS (nth (shE x).ls v.toNat).text = false) : Calls Try.prog 12 #[evV x p, .int .i64 v, .agg #[.int .i64 a, .int .i64 b, .int .i64 c, .int .i64 d]] W (Hr.Just W (.bool true)) := by
  have fsh := shE_few hart
  have ht : (nth (shE x).ls v.toNat).text.size ≤ 300 := Nat.le_trans (shE_text (by omega)) (by decide)
  have hgb := glyT_bd (nth (shE x).ls v.toNat).text (nth (shE x).ls v.toNat).text.size
  refine Just.of_ret ?_
  refine enterA (X := nX) (vs := [evV x p, .int .i64 v, .agg #[.int .i64 a, .int .i64 b, .int .i64 c, .int .i64 d]]) Try.func12 Try.ntmps12 rfl rfl Mem.nil ?_
  refine run_seq ?_
  refine run_region ?_
  refine run_h (.none rfl) (h_box rfl rfl rfl rfl rfl) ?_
  rintro b3 -
  refine run_h (.none rfl) (h_box rfl rfl rfl rfl rfl) ?_
  rintro b5 -
  refine run_q (.none rfl) rfl rfl (q_assign rfl rfl) ?_
  refine run_nil ?_
  refine run_seq ?_
  refine run_region ?_
  refine run_q (.none rfl) rfl rfl (q_loadBN rfl agg78 rfl (.there Sel.here) (.cons rfl (.cons rfl (.cons rfl (.cons rfl (.cons rfl (.cons rfl (.cons rfl (.cons rfl (.cons rfl (.cons rfl (.cons rfl (.cons rfl (.cons rfl CellsAt.nil))))))))))))) rfl) ?_
  refine run_h (.none rfl) (h_call rfl rfl rfl call32 (.cons rfl Evs.nil) (fun w hk hm => short29_ret x p w (hx.kept0 hk) bh bg bl)) ?_
  rintro ⟨v, m⟩ ⟨q, rfl, rfl⟩
  show Run _ _ _ _ _ _ _ ⟨(13, evV (shE x) q) :: _, _ :: _ :: _ :: _⟩
  refine run_h (.none rfl) (h_storeB rfl rfl sz78 rfl rfl rfl rfl rfl (.there (.there (.there (.there Sel.here)))) rfl) ?_
  rintro - -
  refine run_nil ?_
  refine run_sub (subMk (.cons (s := 1) rfl (.cons (s := 3) rfl (.cons (s := 5) rfl (.cons (s := 6) rfl .nil)))) .refl) ?_
  refine run_seq ?_
  refine run_region ?_
  refine run_q (.none rfl) rfl rfl (q_loadBN rfl agg78 rfl Sel.here (.cons rfl (.cons rfl (.cons rfl (.cons rfl (.cons rfl (.cons rfl (.cons rfl (.cons rfl (.cons rfl (.cons rfl (.cons rfl (.cons rfl (.cons rfl CellsAt.nil))))))))))))) rfl) ?_
  refine run_q (.none rfl) rfl rfl (q_move rfl rfl) ?_
  refine run_q (.none rfl) rfl rfl (q_fieldB (d := 0) rfl Try.underlying80 rfl rfl sz3 rfl) ?_
  refine run_q (.none rfl) rfl rfl (q_loadB rfl one3 rfl (.there (.there (.there (.there Sel.here)))) rfl) ?_
  refine run_q (.none rfl) rfl rfl (q_fieldB (d := 1) rfl Try.underlying80 rfl rfl sz3 rfl) ?_
  refine run_q (.none rfl) rfl rfl (q_loadB rfl one3 rfl (.there (.there (.there (.there Sel.here)))) rfl) ?_
  refine run_q (.none rfl) rfl rfl (q_call rfl call33 (.cons rfl (.cons rfl (.cons rfl (.cons rfl Evs.nil)))) (fun w hk hm => lyric_D (shE x) q v a b w ⟨(own_rd ((Sel.there Sel.here).holds hm)), (own_rd ((Sel.there (Sel.there Sel.here)).holds hm)), (own_rd ((Sel.there (Sel.there (Sel.there Sel.here))).holds hm))⟩ fsh h0 hb hc he ht)) ?_
  refine run_q (.none rfl) rfl rfl (q_move rfl rfl) ?_
  refine run_q (.none rfl) rfl rfl (q_extract rfl rfl rfl) ?_
  refine run_q (.none rfl) rfl rfl (q_extract rfl rfl rfl) ?_
  refine run_q (.none rfl) rfl rfl (q_extract rfl rfl rfl) ?_
  refine run_h (.none rfl) (h_alloc rfl rfl rfl info25) ?_
  rintro b7 -
  refine run_h (.none rfl) (h_storeB rfl rfl sz25 rfl rfl rfl rfl rfl Sel.here rfl) ?_
  rintro - -
  refine run_q (.none rfl) rfl rfl (q_assign rfl rfl) ?_
  refine run_q (.none rfl) rfl rfl (q_assign rfl rfl) ?_
  refine run_nil ?_
  refine run_sub (subMk (.cons (s := 1) rfl (.cons (s := 3) rfl (.cons (s := 5) rfl (.cons (s := 6) rfl (.cons (s := 7) rfl (.cons (s := 8) rfl (.cons (s := 9) rfl .nil))))))) .refl) ?_
  refine run_seq ?_
  refine run_seq ?_
  refine run_region ?_
  refine run_q (.none rfl) rfl rfl (q_call rfl call13 Evs.nil (fun w hk hm => known_just w)) ?_
  refine run_q (.none rfl) rfl rfl (q_not rfl rfl) ?_
  refine run_nil ?_
  refine run_condF rfl rfl ?_
  refine run_skip ?_
  refine run_seq ?_
  refine run_region ?_
  refine run_q (.none rfl) rfl rfl (q_loadBN rfl agg78 rfl (.there Sel.here) (.cons rfl (.cons rfl (.cons rfl (.cons rfl (.cons rfl (.cons rfl (.cons rfl (.cons rfl (.cons rfl (.cons rfl (.cons rfl (.cons rfl (.cons rfl CellsAt.nil))))))))))))) rfl) ?_
  refine run_q (.none rfl) rfl rfl (q_call rfl call34 (.cons rfl Evs.nil) (fun w hk hm => evCheck_just (shE x) q w ⟨(own_rd ((Sel.there (Sel.there Sel.here)).holds hm)), (own_rd ((Sel.there (Sel.there (Sel.there Sel.here))).holds hm)), (own_rd ((Sel.there (Sel.there (Sel.there (Sel.there Sel.here)))).holds hm))⟩ fsh)) ?_
  refine run_q (.none rfl) rfl rfl (q_assign rfl rfl) ?_
  refine run_nil ?_
  refine run_sub (subMk (.cons (s := 1) rfl (.cons (s := 3) rfl (.cons (s := 5) rfl (.cons (s := 6) rfl (.cons (s := 7) rfl (.cons (s := 8) rfl (.cons (s := 9) rfl (.cons (s := 10) rfl .nil)))))))) .refl) ?_
  refine run_seq ?_
  refine run_seq ?_
  refine run_sub (subMk (.cons (s := 1) rfl (.cons (s := 3) rfl (.cons (s := 5) rfl (.cons (s := 6) rfl (.cons (s := 7) rfl (.cons (s := 8) rfl (.cons (s := 9) rfl (.cons' (s := 10) (v' := .int .i64 0) rfl (vint h0) .nil)))))))) .refl) ?_
  refine run_region ?_
  refine run_q (.none rfl) rfl rfl (q_move rfl rfl) ?_
  refine run_q (.none rfl) rfl rfl (q_eql rfl rfl rfl) ?_
  refine run_q (.none rfl) rfl rfl (q_move rfl rfl) ?_
  refine run_q (.on rfl rfl rfl rfl) rfl rfl (q_move rfl rfl) ?_
  refine run_q (.on rfl rfl rfl rfl) rfl rfl (q_lss rfl rfl rfl) ?_
  refine run_q (.on rfl rfl rfl rfl) rfl rfl (q_move rfl rfl) ?_
  refine run_q (.on rfl rfl rfl (decide_eq_false (by omega))) rfl rfl (q_move rfl rfl) ?_
  refine run_q (.on rfl rfl rfl (decide_eq_false (by omega))) rfl rfl (q_geq rfl rfl rfl) ?_
  refine run_q (.on rfl rfl rfl rfl) rfl rfl (q_pickF rfl rfl (decide_eq_false (by omega)) rfl) ?_
  refine run_q (.on rfl rfl rfl rfl) rfl rfl (q_move rfl rfl) ?_
  refine run_q (.on rfl rfl rfl (decide_eq_false (by omega))) rfl rfl (q_fieldB (d := 0) rfl Try.underlying80 rfl rfl sz3 rfl) ?_
  refine run_q (.on rfl rfl rfl (decide_eq_false (by omega))) rfl rfl (q_loadB rfl one3 rfl (.there (.there (.there (.there (.there Sel.here))))) rfl) ?_
  refine run_q (.on rfl rfl rfl (decide_eq_false (by omega))) rfl rfl (q_lss rfl rfl rfl) ?_
  refine run_q (.on rfl rfl rfl rfl) rfl rfl (q_pickF rfl rfl (decide_eq_false (by omega)) rfl) ?_
  refine run_q (.on rfl rfl rfl rfl) rfl rfl (q_move rfl rfl) ?_
  refine run_q (.on rfl rfl rfl (decide_eq_false (by omega))) rfl rfl (q_fieldB (d := 1) rfl Try.underlying80 rfl rfl sz3 rfl) ?_
  refine run_q (.on rfl rfl rfl (decide_eq_false (by omega))) rfl rfl (q_loadB rfl one3 rfl (.there (.there (.there (.there (.there Sel.here))))) rfl) ?_
  refine run_q (.on rfl rfl rfl (decide_eq_false (by omega))) rfl rfl (q_lss rfl rfl rfl) ?_
  refine run_q (.on rfl rfl rfl rfl) rfl rfl (q_pickF rfl rfl (decide_eq_false (by omega)) rfl) ?_
  refine run_q (.none rfl) rfl rfl (q_pickT rfl rfl rfl rfl) ?_
  refine run_nil ?_
  refine run_sub (subMk (.cons (s := 1) rfl (.cons (s := 3) rfl (.cons (s := 5) rfl (.cons (s := 6) rfl (.cons (s := 7) rfl (.cons (s := 8) rfl (.cons (s := 9) rfl (.cons (s := 10) rfl (.cons (s := 48) rfl .nil))))))))) .refl) ?_
  refine run_condF rfl (decide_eq_false (by omega)) ?_
  refine run_skip ?_
  refine run_seq ?_
  refine run_seq ?_
  refine run_region ?_
  refine run_q (.none rfl) rfl rfl (q_move rfl rfl) ?_
  refine run_q (.none rfl) rfl rfl (q_neq rfl rfl rfl) ?_
  refine run_q (.none rfl) rfl rfl (q_move rfl rfl) ?_
  refine run_q (.on rfl rfl rfl rfl) rfl rfl (q_move rfl rfl) ?_
  refine run_q (.on rfl rfl rfl rfl) rfl rfl (q_fieldB (d := 10) rfl Try.underlying78 rfl rfl sz76 rfl) ?_
  refine run_q (.on rfl rfl rfl rfl) rfl rfl (q_loadB rfl one76 rfl (.there Sel.here) rfl) ?_
  refine run_q (.on rfl rfl rfl rfl) rfl rfl (q_len rfl Try.underlying76 rfl) ?_
  refine run_q (.on rfl rfl rfl rfl) rfl rfl (q_geq rfl rfl rfl) ?_
  refine run_q (.none rfl) rfl rfl (q_pickF rfl rfl rfl rfl) ?_
  refine run_q (.none rfl) rfl rfl (q_move rfl rfl) ?_
  refine run_q (.on rfl rfl rfl (decide_eq_false (by omega))) rfl rfl (q_fieldB (d := 10) rfl Try.underlying78 rfl rfl sz76 rfl) ?_
  refine run_q (.on rfl rfl rfl (decide_eq_false (by omega))) rfl rfl (q_loadB rfl one76 rfl (.there Sel.here) rfl) ?_
  refine run_q (.on rfl rfl rfl (decide_eq_false (by omega))) rfl rfl (q_move rfl rfl) ?_
  refine run_q (.on rfl rfl rfl (decide_eq_false (by omega))) rfl rfl (q_indexS (q := v.toNat) rfl Try.underlying76 sz86 rfl rfl (.own (.there (.there (.there (.there Sel.here))))) (by rw [List.length_map]) (by omega) (by omega)) ?_
  refine run_q (.on rfl rfl rfl (decide_eq_false (by omega))) rfl rfl (q_fieldAddr (d := 0) rfl Try.underlying86 rfl rfl sz9 rfl) ?_
  refine run_q (.on rfl rfl rfl (decide_eq_false (by omega))) rfl rfl (q_loadF rfl one9 rfl (.own (.there (.there (.there (.there Sel.here))))) (getmap (by omega)) rfl) ?_
  refine run_q (.on rfl rfl rfl (decide_eq_false (by omega))) rfl rfl (q_eqlStr rfl rfl rfl) ?_
  refine run_q (.none rfl) rfl rfl (q_pickF rfl rfl (decide_eq_false (by omega)) rfl) ?_
  refine run_nil ?_
  refine run_sub (subMk (.cons (s := 1) rfl (.cons (s := 3) rfl (.cons (s := 5) rfl (.cons (s := 6) rfl (.cons (s := 7) rfl (.cons (s := 8) rfl (.cons (s := 9) rfl (.cons (s := 10) rfl (.cons (s := 66) rfl .nil))))))))) .refl) ?_
  refine run_condF rfl (show empS _ = false from he) ?_
  refine run_skip ?_
  refine run_seq ?_
  refine run_region ?_
  refine run_q (.none rfl) rfl rfl (q_fieldB (d := 10) rfl Try.underlying78 rfl rfl sz76 rfl) ?_
  refine run_q (.none rfl) rfl rfl (q_loadB rfl one76 rfl (.there Sel.here) rfl) ?_
  refine run_q (.none rfl) rfl rfl (q_move rfl rfl) ?_
  refine run_q (.none rfl) rfl rfl (q_indexS (q := v.toNat) rfl Try.underlying76 sz86 rfl rfl (.own (.there (.there (.there (.there Sel.here))))) (by rw [List.length_map]) (by omega) (by omega)) ?_
  refine run_q (.none rfl) rfl rfl (q_fieldAddr (d := 0) rfl Try.underlying86 rfl rfl sz9 rfl) ?_
  refine run_q (.none rfl) rfl rfl (q_loadF rfl one9 rfl (.own (.there (.there (.there (.there Sel.here))))) (getmap (by omega)) rfl) ?_
  refine run_q (.none rfl) rfl rfl (q_call rfl call25 (.cons rfl Evs.nil) (fun w hk hm => glyText_just (nth (shE x).ls v.toNat).text w ht)) ?_
  refine run_q (.none rfl) rfl rfl (q_assign rfl rfl) ?_
  refine run_nil ?_
  refine run_sub (subMk (.cons (s := 1) rfl (.cons (s := 3) rfl (.cons (s := 5) rfl (.cons (s := 6) rfl (.cons (s := 7) rfl (.cons (s := 8) rfl (.cons (s := 9) rfl (.cons (s := 11) rfl .nil)))))))) .refl) ?_
  refine run_seq ?_
  refine run_region ?_
  refine run_q (.none rfl) rfl rfl (q_move rfl rfl) ?_
  refine run_q (.none rfl) rfl rfl (q_move rfl rfl) ?_
  refine run_q (.on rfl rfl rfl rfl) rfl rfl (q_move rfl rfl) ?_
  refine run_q (.on rfl rfl rfl rfl) rfl rfl (q_eql rfl rfl rfl) ?_
  refine run_q (.none rfl) rfl rfl (q_pickT rfl rfl rfl rfl) ?_
  refine run_q (.none rfl) rfl rfl (q_move rfl rfl) ?_
  refine run_q (.on rfl rfl rfl rfl) rfl rfl (q_loadBN rfl agg25 rfl Sel.here (.cons rfl (.cons rfl (.cons rfl (.cons rfl (.cons rfl (.cons rfl (.cons rfl (.cons rfl (.cons rfl (.cons rfl (.cons rfl (.cons rfl (.cons rfl CellsAt.nil))))))))))))) rfl) ?_
  refine run_q (.on rfl rfl rfl rfl) rfl rfl (q_move rfl rfl) ?_
  refine run_q (.on rfl rfl rfl rfl) rfl rfl (q_fieldB (d := 0) rfl Try.underlying80 rfl rfl sz3 rfl) ?_
  refine run_q (.on rfl rfl rfl rfl) rfl rfl (q_loadB rfl one3 rfl (.there (.there (.there (.there (.there Sel.here))))) rfl) ?_
  refine run_q (.on rfl rfl rfl rfl) rfl rfl (q_fieldB (d := 1) rfl Try.underlying80 rfl rfl sz3 rfl) ?_
  refine run_q (.on rfl rfl rfl rfl) rfl rfl (q_loadB rfl one3 rfl (.there (.there (.there (.there (.there Sel.here))))) rfl) ?_
  refine run_q (.on rfl rfl rfl rfl) rfl rfl (q_fieldB (d := 1) rfl Try.underlying80 rfl rfl sz3 rfl) ?_
  refine run_q (.on rfl rfl rfl rfl) rfl rfl (q_loadB rfl one3 rfl (.there (.there (.there (.there (.there Sel.here))))) rfl) ?_
  refine run_q (.on rfl rfl rfl rfl) rfl rfl (q_fieldB (d := 0) rfl Try.underlying78 rfl rfl sz23 rfl) ?_
  refine run_q (.on rfl rfl rfl rfl) rfl rfl (q_loadBN rfl agg23 rfl (.there Sel.here) (.cons rfl (.cons rfl CellsAt.nil)) rfl) ?_
  refine run_q (.on rfl rfl rfl rfl) rfl rfl (q_move rfl rfl) ?_
  refine run_q (.on rfl rfl rfl rfl) rfl rfl (q_quo rfl rfl rfl (by omega)) ?_
  refine run_q (.on rfl rfl rfl rfl) rfl rfl (q_move rfl rfl) ?_
  refine run_q (.on rfl rfl rfl rfl) rfl rfl (q_move rfl rfl) ?_
  refine run_q (.on rfl rfl rfl rfl) rfl rfl (q_quo rfl rfl rfl (by omega)) ?_
  refine run_q (.on rfl rfl rfl rfl) rfl rfl (q_sub rfl rfl rfl (by omega)) ?_
  refine run_q (.on rfl rfl rfl rfl) rfl rfl (q_build rfl (.cons rfl (.cons rfl (.cons rfl (.cons rfl (.cons rfl (.cons rfl (.cons rfl (.cons rfl (.cons rfl (.cons rfl (.cons rfl PV.nil))))))))))) (built25p0p1p2p3p4p5p6p8p9p10p11 _ _ _ _ _ _ _ _ _ _ _ _)) ?_
  refine run_q (.on rfl rfl rfl rfl) rfl rfl (q_eqlS rfl rfl rfl eqg25 (fun w => eqs25 _ _ _ _ _ _ _ _ _ _ _ _ _ _ _ _ _ _ _ _ _ _ _ _ _ _ w)) ?_
  refine run_q (.none rfl) rfl rfl (q_pickT rfl rfl rfl rfl) ?_
  refine run_q (.none rfl) rfl rfl (q_assign rfl rfl) ?_
  refine run_nil ?_
  refine run_sub (subMk (.cons (s := 6) rfl .nil) .refl) ?_
  refine run_ret ?_
  exact end1 rfl rfl (by simp [onV])

theorem law12_just (x : Evt) (p : Lie) (v a b c d : Int) (W : World) (hx : RdE W x p) (bh : x.hs.length * 40 ≤ 140737488355328) (bg : x.gs.length * 40 ≤ 140737488355328) (bl : x.ls.length * 24 ≤ 140737488355328) (hart : x.n.art ≤ 9223372036854775807) : Calls Try.prog 12 #[evV x p, .int .i64 v, .agg #[.int .i64 a, .int .i64 b, .int .i64 c, .int .i64 d]] W (Hr.Just W (.bool true)) := by
  by_cases h0 : evE (shE x) = 0
  · by_cases hb : v < 0 ∨ 4 ≤ v ∨ a < 0 ∨ b < 0
    · exact law12_B x p v a b c d W hx bh bg bl hart h0 hb
    · by_cases hc : (shE x).ls.length ≤ v ∨ empS (nth (shE x).ls v.toNat).text = true
      · exact law12_C x p v a b c d W hx bh bg bl hart h0 hb hc
      · exact law12_D x p v a b c d W hx bh bg bl hart h0 hb (by omega) (by cases h : empS (nth (shE x).ls v.toNat).text with | true => exact absurd (.inr h) hc | false => rfl)
  · exact law12_A x p v a b c d W hx bh bg bl hart h0

end Go.Proofs.YtgphmbipakdggaaR.Ev
