/- The law on samples within a box. -/
import Derived.Test.YtomhegnaojejnaaAC
import Derived.Test.YtomhegnaojejnaaWithin
set_option linter.unusedSimpArgs false
set_option linter.unusedVariables false
namespace Go.Proofs.Ytomhegnaojejnaa
open Go Go.RowKit Hr

theorem call30 : Hr.Callable Try.prog 30 := fun args w => by kernel_rfl
theorem call32 : Hr.Callable Try.prog 32 := fun args w => by kernel_rfl
theorem eqg69 : Try.prog.eqGuardType Try.prog.depth 69 = false := by kernel_rfl
theorem stood69 : Try.prog.stoodInHeld 69 = false := by kernel_rfl
theorem eqs69 (a0 a1 b0 b1 : Int) (w : World) : (Op.equalIn 10000 69 (.agg #[.int .i64 a0, .int .i64 a1]) (.agg #[.int .i64 b0, .int .i64 b1])).run Try.prog w = .ok (a0 == b0 && (a1 == b1)) w := by
  rw [run_equalIn_struct w 9999 69 _ _ (by simp only [Program.fieldsOf, Try.underlying69]) stood69]
  have hz : ∀ (x y : Int) (w : World), (Op.equalIn 9999 3 (.int .i64 x) (.int .i64 y)).run Try.prog w = .ok (x == y) w := fun x y w => run_equalIn_int w 9998 3 .i64 .i64 x y Try.underlying3
  cases h0 : (a0 == b0) <;> cases h1 : (a1 == b1) <;> simp [Program.fieldsOf, Try.underlying69, Op.eqFields, part, one3.1, hz, h0, h1]
theorem info70 : Hr.Info Try.prog 70 [.int .i64 0, .int .i64 0, .int .i64 0, .int .i64 0, .int .i64 0, .int .i64 0, .int .i64 0, .int .i64 0] 8 64 := Hr.Info.of (by kernel_rfl)
theorem built70p0p1p2p3 (x0y0 : Int) (x0y1 : Int) (x1y0 : Int) (x1y1 : Int) (x2y0 : Int) (x2y1 : Int) (x3y0 : Int) (x3y1 : Int) : Try.prog.built 70 [(0, .agg #[.int .i64 x0y0, .int .i64 x0y1]), (1, .agg #[.int .i64 x1y0, .int .i64 x1y1]), (2, .agg #[.int .i64 x2y0, .int .i64 x2y1]), (3, .agg #[.int .i64 x3y0, .int .i64 x3y1])] = some #[.int .i64 x0y0, .int .i64 x0y1, .int .i64 x1y0, .int .i64 x1y1, .int .i64 x2y0, .int .i64 x2y1, .int .i64 x3y0, .int .i64 x3y1] := by kernel_rfl
theorem sz70 : Hr.Sz Try.prog 70 8 := Hr.Sz.of (by kernel_rfl)
theorem built49p7 (x7y0 : Int) (x7y1 : Int) (x7y2 : Int) (x7y3 : Int) : Try.prog.built 49 [(7, .agg #[.int .i64 x7y0, .int .i64 x7y1, .int .i64 x7y2, .int .i64 x7y3])] = some #[.int .i64 0, .int .i64 0, .int .i64 0, .int .i64 0, .int .i64 0, .int .i64 0, .int .i64 0, .int .i64 0, .int .i64 x7y0, .int .i64 x7y1, .int .i64 x7y2, .int .i64 x7y3] := by kernel_rfl
theorem call33 : Hr.Callable Try.prog 33 := fun args w => by kernel_rfl

set_option maxHeartbeats 1000000 in
set_option maxRecDepth 100000 in
theorem Curve_1 (s w0 : Int) (W : World) (hs : 0 ≤ s ∧ s < 1000) (hw : 0 ≤ w0 ∧ w0 < 4000) : Calls Try.prog 33 #[.agg #[.int .i64 0, .int .i64 0, .int .i64 0, .int .i64 0, .int .i64 0, .int .i64 0, .int .i64 0, .int .i64 0, .int .i64 0, .int .i64 10, .int .i64 0, .int .i64 (10 + s)], .int .i64 1, .int .i64 5, .int .i64 (5 + w0)] W (Hr.Just W (.tuple #[.agg #[.int .i64 5, .int .i64 10, .int .i64 (5 + (5 + w0 - 5) / 4), .int .i64 (10 + 1 * (4 * (10 + s - 10) / 3)), .int .i64 (5 + w0 - (5 + w0 - 5) / 4), .int .i64 (10 + 1 * (4 * (10 + s - 10) / 3)), .int .i64 (5 + w0), .int .i64 10], .int .i64 0])) := by
  have hin : [5, 5 + w0, 10, 10 + s].any (outL 16777216) = false := by simp only [List.any_cons, List.any_nil, Bool.or_false, outL, Bool.or_eq_false_iff, decide_eq_false_iff_not]; omega
  refine Just.of_ret ?_
  refine enterA (X := nX) (vs := [.agg #[.int .i64 0, .int .i64 0, .int .i64 0, .int .i64 0, .int .i64 0, .int .i64 0, .int .i64 0, .int .i64 0, .int .i64 0, .int .i64 10, .int .i64 0, .int .i64 (10 + s)], .int .i64 1, .int .i64 5, .int .i64 (5 + w0)]) Try.func33 Try.ntmps33 rfl rfl Mem.nil ?_
  refine run_seq ?_
  refine run_region ?_
  refine run_h (.none rfl) (h_box rfl rfl rfl rfl rfl) ?_
  rintro b4 -
  refine run_h (.none rfl) (h_alloc rfl rfl rfl info70) ?_
  rintro b8 -
  refine run_q (.none rfl) rfl rfl (q_assign rfl rfl) ?_
  refine run_nil ?_
  refine run_seq ?_
  refine run_region ?_
  refine run_q (.none rfl) rfl rfl (q_fieldB (d := 8) rfl Try.underlying49 rfl rfl sz47 rfl) ?_
  refine run_q (.none rfl) rfl rfl (q_loadBN rfl agg47 rfl (.there Sel.here) (.cons rfl (.cons rfl (.cons rfl (.cons rfl CellsAt.nil)))) rfl) ?_
  refine run_h (.none rfl) (h_alloc rfl rfl rfl info47) ?_
  rintro b10 -
  refine run_h (.none rfl) (h_storeB rfl rfl sz47 rfl rfl rfl rfl rfl Sel.here rfl) ?_
  rintro - -
  refine run_nil ?_
  refine run_sub (subMk (.cons (s := 1) rfl (.cons (s := 2) rfl (.cons (s := 3) rfl (.cons (s := 8) rfl (.cons (s := 9) rfl (.cons (s := 10) rfl .nil)))))) .refl) ?_
  refine run_seq ?_
  refine run_block ?_
  refine run_seq ?_
  refine run_region ?_
  refine run_q (.none rfl) rfl rfl (q_move rfl rfl) ?_
  refine run_q (.none rfl) rfl rfl (q_neq rfl rfl rfl) ?_
  refine run_q (.none rfl) rfl rfl (q_move rfl rfl) ?_
  refine run_off (.no rfl rfl rfl rfl) rfl rfl ?_
  refine run_off (.no rfl rfl rfl rfl) rfl rfl ?_
  refine run_q (.none rfl) rfl rfl (q_pickF rfl rfl rfl rfl) ?_
  refine run_q (.none rfl) rfl rfl (q_assign rfl rfl) ?_
  refine run_nil ?_
  refine run_sub (subMk (.cons (s := 1) rfl (.cons (s := 2) rfl (.cons (s := 3) rfl (.cons (s := 8) rfl (.cons (s := 9) rfl (.cons (s := 10) rfl (.cons (s := 17) rfl .nil))))))) .refl) ?_
  refine run_condF rfl rfl ?_
  refine run_seq ?_
  refine run_region ?_
  refine run_q (.none rfl) rfl rfl (q_move rfl rfl) ?_
  refine run_q (.none rfl) rfl rfl (q_move rfl rfl) ?_
  refine run_q (.none rfl) rfl rfl (q_gtr rfl rfl rfl) ?_
  refine run_q (.none rfl) rfl rfl (q_move rfl rfl) ?_
  refine run_q (.on rfl rfl rfl (decide_eq_false (by omega))) rfl rfl (q_move rfl rfl) ?_
  refine run_q (.on rfl rfl rfl (decide_eq_false (by omega))) rfl rfl (q_move rfl rfl) ?_
  refine run_q (.on rfl rfl rfl (decide_eq_false (by omega))) rfl rfl (q_fieldB (d := 1) rfl Try.underlying47 rfl rfl sz3 rfl) ?_
  refine run_q (.on rfl rfl rfl (decide_eq_false (by omega))) rfl rfl (q_loadB rfl one3 rfl Sel.here rfl) ?_
  refine run_q (.on rfl rfl rfl (decide_eq_false (by omega))) rfl rfl (q_fieldB (d := 3) rfl Try.underlying47 rfl rfl sz3 rfl) ?_
  refine run_q (.on rfl rfl rfl (decide_eq_false (by omega))) rfl rfl (q_loadB rfl one3 rfl Sel.here rfl) ?_
  refine run_h (.on rfl rfl rfl (decide_eq_false (by omega))) (h_buildSlice rfl rfl rfl Try.underlying38 info3 (.cons rfl rfl rfl rfl (.cons rfl rfl rfl rfl (.cons rfl rfl rfl rfl (.cons rfl rfl rfl rfl Parts.nil)))) rfl (by omega)) ?_
  rintro b36 -
  refine run_q (.on rfl rfl rfl (decide_eq_false (by omega))) rfl rfl (q_call rfl call56 (.cons rfl (.cons rfl Evs.nil)) (fun w hk hm => within_just 16777216 [5, 5 + w0, 10, 10 + s] (some ⟨b36, 0, none⟩) 4 w (own_rd (Sel.here.holds hm)) (by simp) (by decide))) ?_
  refine run_q (.on rfl rfl rfl (decide_eq_false (by omega))) rfl rfl (q_not rfl rfl) ?_
  refine run_q (.none rfl) rfl rfl (q_pickF rfl rfl (decide_eq_false (by omega)) rfl) ?_
  refine run_q (.none rfl) rfl rfl (q_move rfl rfl) ?_
  refine run_q (.on rfl rfl rfl (by rw [hin]; rfl)) rfl rfl (q_fieldB (d := 3) rfl Try.underlying47 rfl rfl sz3 rfl) ?_
  refine run_q (.on rfl rfl rfl (by rw [hin]; rfl)) rfl rfl (q_loadB rfl one3 rfl (.there Sel.here) rfl) ?_
  refine run_q (.on rfl rfl rfl (by rw [hin]; rfl)) rfl rfl (q_fieldB (d := 1) rfl Try.underlying47 rfl rfl sz3 rfl) ?_
  refine run_q (.on rfl rfl rfl (by rw [hin]; rfl)) rfl rfl (q_loadB rfl one3 rfl (.there Sel.here) rfl) ?_
  refine run_q (.on rfl rfl rfl (by rw [hin]; rfl)) rfl rfl (q_lss rfl rfl rfl) ?_
  refine run_q (.none rfl) rfl rfl (q_pickF rfl rfl (by rw [hin]; rfl) rfl) ?_
  refine run_q (.none rfl) rfl rfl (q_assign rfl rfl) ?_
  refine run_nil ?_
  refine run_sub (subMk (.cons (s := 1) rfl (.cons (s := 2) rfl (.cons (s := 3) rfl (.cons (s := 8) rfl (.cons (s := 9) rfl (.cons (s := 10) rfl (.cons (s := 25) rfl .nil))))))) .refl) ?_
  refine run_condF rfl (decide_eq_false (by omega)) ?_
  refine run_skip ?_
  refine run_blk ?_
  refine run_seq ?_
  refine run_region ?_
  refine run_q (.none rfl) rfl rfl (q_fieldB (d := 1) rfl Try.underlying47 rfl rfl sz3 rfl) ?_
  refine run_q (.none rfl) rfl rfl (q_loadB rfl one3 rfl (.there Sel.here) rfl) ?_
  refine run_q (.none rfl) rfl rfl (q_assign rfl rfl) ?_
  refine run_nil ?_
  refine run_sub (subMk (.cons (s := 1) rfl (.cons (s := 2) rfl (.cons (s := 3) rfl (.cons (s := 8) rfl (.cons (s := 9) rfl (.cons (s := 10) rfl (.cons (s := 11) rfl .nil))))))) .refl) ?_
  refine run_seq ?_
  refine run_seq ?_
  refine run_region ?_
  refine run_q (.none rfl) rfl rfl (q_move rfl rfl) ?_
  refine run_q (.none rfl) rfl rfl (q_eql rfl rfl rfl) ?_
  refine run_nil ?_
  refine run_condF rfl rfl ?_
  refine run_skip ?_
  refine run_seq ?_
  refine run_draw [(0, 0), (1, 0), (2, 0), (3, 0), (4, 0), (5, 0), (6, 0), (7, 0), (8, 0), (9, 0), (10, 0), (11, 0), (12, 0)] mixed (by kernel_rfl) .refl ?_
  refine d_q rfl rfl (.none rfl) rfl rfl (q_move rfl rfl) ?_
  refine d_q rfl rfl (.none rfl) rfl rfl (q_move rfl rfl) ?_
  refine d_q rfl rfl (.none rfl) rfl rfl (q_sub rfl rfl rfl (by omega)) ?_
  refine d_q rfl rfl (.none rfl) rfl rfl (q_quo rfl rfl rfl (by omega)) ?_
  refine d_q rfl rfl (.none rfl) rfl rfl (q_fieldB (d := 3) rfl Try.underlying47 rfl rfl sz3 rfl) ?_
  refine d_q rfl rfl (.none rfl) rfl rfl (q_loadB rfl one3 rfl (.there Sel.here) rfl) ?_
  refine d_q rfl rfl (.none rfl) rfl rfl (q_fieldB (d := 1) rfl Try.underlying47 rfl rfl sz3 rfl) ?_
  refine d_q rfl rfl (.none rfl) rfl rfl (q_loadB rfl one3 rfl (.there Sel.here) rfl) ?_
  refine d_q rfl rfl (.none rfl) rfl rfl (q_sub rfl rfl rfl (by omega)) ?_
  refine d_q rfl rfl (.none rfl) rfl rfl (q_mul rfl rfl rfl (by omega)) ?_
  refine d_q rfl rfl (.none rfl) rfl rfl (q_quo rfl rfl rfl (by omega)) ?_
  refine d_q rfl rfl (.none rfl) rfl rfl (q_assign rfl rfl) ?_
  refine d_q rfl rfl (.none rfl) rfl rfl (q_assign rfl rfl) ?_
  refine d_nil ?_
  refine run_sub (subMk (.cons (s := 1) rfl (.cons (s := 2) rfl (.cons (s := 3) rfl (.cons (s := 8) rfl (.cons (s := 9) rfl (.cons (s := 11) rfl (.cons (s := 12) rfl (.cons (s := 13) rfl .nil)))))))) .refl) ?_
  refine run_seq ?_
  refine run_region ?_
  refine run_q (.none rfl) rfl rfl (q_move rfl rfl) ?_
  refine run_q (.none rfl) rfl rfl (q_move rfl rfl) ?_
  refine run_q (.none rfl) rfl rfl (q_move rfl rfl) ?_
  refine run_q (.none rfl) rfl rfl (q_mul rfl rfl rfl (by omega)) ?_
  refine run_q (.none rfl) rfl rfl (q_add rfl rfl rfl (by omega)) ?_
  refine run_q (.none rfl) rfl rfl (q_assign rfl rfl) ?_
  refine run_nil ?_
  refine run_sub (subMk (.cons (s := 2) rfl (.cons (s := 3) rfl (.cons (s := 8) rfl (.cons (s := 9) rfl (.cons (s := 11) rfl (.cons (s := 12) rfl (.cons (s := 14) rfl .nil))))))) .refl) ?_
  refine run_seq ?_
  refine run_region ?_
  refine run_q (.none rfl) rfl rfl (q_move rfl rfl) ?_
  refine run_q (.none rfl) rfl rfl (q_move rfl rfl) ?_
  refine run_q (.none rfl) rfl rfl (q_build rfl (.cons rfl (.cons rfl PV.nil)) (built69p0p1 _ _)) ?_
  refine run_q (.none rfl) rfl rfl (q_move rfl rfl) ?_
  refine run_q (.none rfl) rfl rfl (q_move rfl rfl) ?_
  refine run_q (.none rfl) rfl rfl (q_add rfl rfl rfl (by omega)) ?_
  refine run_q (.none rfl) rfl rfl (q_move rfl rfl) ?_
  refine run_q (.none rfl) rfl rfl (q_build rfl (.cons rfl (.cons rfl PV.nil)) (built69p0p1 _ _)) ?_
  refine run_q (.none rfl) rfl rfl (q_move rfl rfl) ?_
  refine run_q (.none rfl) rfl rfl (q_move rfl rfl) ?_
  refine run_q (.none rfl) rfl rfl (q_sub rfl rfl rfl (by omega)) ?_
  refine run_q (.none rfl) rfl rfl (q_move rfl rfl) ?_
  refine run_q (.none rfl) rfl rfl (q_build rfl (.cons rfl (.cons rfl PV.nil)) (built69p0p1 _ _)) ?_
  refine run_q (.none rfl) rfl rfl (q_move rfl rfl) ?_
  refine run_q (.none rfl) rfl rfl (q_move rfl rfl) ?_
  refine run_q (.none rfl) rfl rfl (q_build rfl (.cons rfl (.cons rfl PV.nil)) (built69p0p1 _ _)) ?_
  refine run_q (.none rfl) rfl rfl (q_build rfl (.cons rfl (.cons rfl (.cons rfl (.cons rfl PV.nil)))) (built70p0p1p2p3 _ _ _ _ _ _ _ _)) ?_
  refine run_h (.none rfl) (h_storeB rfl rfl sz70 rfl rfl rfl rfl rfl (.there (.there Sel.here)) rfl) ?_
  rintro - -
  refine run_q (.none rfl) rfl rfl (q_assign rfl rfl) ?_
  refine run_nil ?_
  refine run_sub (subMk (.cons (s := 8) rfl (.cons (s := 9) rfl .nil)) .refl) ?_
  refine run_ret ?_
  exact endG rfl (.cellN rfl agg70 Sel.here (.cons rfl (.cons rfl (.cons rfl (.cons rfl (.cons rfl (.cons rfl (.cons rfl (.cons rfl CellsAt.nil)))))))) rfl (.tmp rfl Outs.nil)) _ .nil rfl

set_option maxHeartbeats 1000000 in
set_option maxRecDepth 100000 in
theorem Curve_m (s w0 : Int) (W : World) (hs : 0 ≤ s ∧ s < 1000) (hw : 0 ≤ w0 ∧ w0 < 4000) : Calls Try.prog 33 #[.agg #[.int .i64 0, .int .i64 0, .int .i64 0, .int .i64 0, .int .i64 0, .int .i64 0, .int .i64 0, .int .i64 0, .int .i64 0, .int .i64 10, .int .i64 0, .int .i64 (10 + s)], .int .i64 (-1), .int .i64 5, .int .i64 (5 + w0)] W (Hr.Just W (.tuple #[.agg #[.int .i64 5, .int .i64 (10 + s), .int .i64 (5 + (5 + w0 - 5) / 4), .int .i64 (10 + s + (-1) * (4 * (10 + s - 10) / 3)), .int .i64 (5 + w0 - (5 + w0 - 5) / 4), .int .i64 (10 + s + (-1) * (4 * (10 + s - 10) / 3)), .int .i64 (5 + w0), .int .i64 (10 + s)], .int .i64 0])) := by
  have hin : [5, 5 + w0, 10, 10 + s].any (outL 16777216) = false := by simp only [List.any_cons, List.any_nil, Bool.or_false, outL, Bool.or_eq_false_iff, decide_eq_false_iff_not]; omega
  refine Just.of_ret ?_
  refine enterA (X := nX) (vs := [.agg #[.int .i64 0, .int .i64 0, .int .i64 0, .int .i64 0, .int .i64 0, .int .i64 0, .int .i64 0, .int .i64 0, .int .i64 0, .int .i64 10, .int .i64 0, .int .i64 (10 + s)], .int .i64 (-1), .int .i64 5, .int .i64 (5 + w0)]) Try.func33 Try.ntmps33 rfl rfl Mem.nil ?_
  refine run_seq ?_
  refine run_region ?_
  refine run_h (.none rfl) (h_box rfl rfl rfl rfl rfl) ?_
  rintro b4 -
  refine run_h (.none rfl) (h_alloc rfl rfl rfl info70) ?_
  rintro b8 -
  refine run_q (.none rfl) rfl rfl (q_assign rfl rfl) ?_
  refine run_nil ?_
  refine run_seq ?_
  refine run_region ?_
  refine run_q (.none rfl) rfl rfl (q_fieldB (d := 8) rfl Try.underlying49 rfl rfl sz47 rfl) ?_
  refine run_q (.none rfl) rfl rfl (q_loadBN rfl agg47 rfl (.there Sel.here) (.cons rfl (.cons rfl (.cons rfl (.cons rfl CellsAt.nil)))) rfl) ?_
  refine run_h (.none rfl) (h_alloc rfl rfl rfl info47) ?_
  rintro b10 -
  refine run_h (.none rfl) (h_storeB rfl rfl sz47 rfl rfl rfl rfl rfl Sel.here rfl) ?_
  rintro - -
  refine run_nil ?_
  refine run_sub (subMk (.cons (s := 1) rfl (.cons (s := 2) rfl (.cons (s := 3) rfl (.cons (s := 8) rfl (.cons (s := 9) rfl (.cons (s := 10) rfl .nil)))))) .refl) ?_
  refine run_seq ?_
  refine run_block ?_
  refine run_seq ?_
  refine run_region ?_
  refine run_q (.none rfl) rfl rfl (q_move rfl rfl) ?_
  refine run_q (.none rfl) rfl rfl (q_neq rfl rfl rfl) ?_
  refine run_q (.none rfl) rfl rfl (q_move rfl rfl) ?_
  refine run_q (.on rfl rfl rfl rfl) rfl rfl (q_move rfl rfl) ?_
  refine run_q (.on rfl rfl rfl rfl) rfl rfl (q_neq rfl rfl rfl) ?_
  refine run_q (.none rfl) rfl rfl (q_pickT rfl rfl rfl rfl) ?_
  refine run_q (.none rfl) rfl rfl (q_assign rfl rfl) ?_
  refine run_nil ?_
  refine run_sub (subMk (.cons (s := 1) rfl (.cons (s := 2) rfl (.cons (s := 3) rfl (.cons (s := 8) rfl (.cons (s := 9) rfl (.cons (s := 10) rfl (.cons (s := 17) rfl .nil))))))) .refl) ?_
  refine run_condF rfl rfl ?_
  refine run_seq ?_
  refine run_region ?_
  refine run_q (.none rfl) rfl rfl (q_move rfl rfl) ?_
  refine run_q (.none rfl) rfl rfl (q_move rfl rfl) ?_
  refine run_q (.none rfl) rfl rfl (q_gtr rfl rfl rfl) ?_
  refine run_q (.none rfl) rfl rfl (q_move rfl rfl) ?_
  refine run_q (.on rfl rfl rfl (decide_eq_false (by omega))) rfl rfl (q_move rfl rfl) ?_
  refine run_q (.on rfl rfl rfl (decide_eq_false (by omega))) rfl rfl (q_move rfl rfl) ?_
  refine run_q (.on rfl rfl rfl (decide_eq_false (by omega))) rfl rfl (q_fieldB (d := 1) rfl Try.underlying47 rfl rfl sz3 rfl) ?_
  refine run_q (.on rfl rfl rfl (decide_eq_false (by omega))) rfl rfl (q_loadB rfl one3 rfl Sel.here rfl) ?_
  refine run_q (.on rfl rfl rfl (decide_eq_false (by omega))) rfl rfl (q_fieldB (d := 3) rfl Try.underlying47 rfl rfl sz3 rfl) ?_
  refine run_q (.on rfl rfl rfl (decide_eq_false (by omega))) rfl rfl (q_loadB rfl one3 rfl Sel.here rfl) ?_
  refine run_h (.on rfl rfl rfl (decide_eq_false (by omega))) (h_buildSlice rfl rfl rfl Try.underlying38 info3 (.cons rfl rfl rfl rfl (.cons rfl rfl rfl rfl (.cons rfl rfl rfl rfl (.cons rfl rfl rfl rfl Parts.nil)))) rfl (by omega)) ?_
  rintro b36 -
  refine run_q (.on rfl rfl rfl (decide_eq_false (by omega))) rfl rfl (q_call rfl call56 (.cons rfl (.cons rfl Evs.nil)) (fun w hk hm => within_just 16777216 [5, 5 + w0, 10, 10 + s] (some ⟨b36, 0, none⟩) 4 w (own_rd (Sel.here.holds hm)) (by simp) (by decide))) ?_
  refine run_q (.on rfl rfl rfl (decide_eq_false (by omega))) rfl rfl (q_not rfl rfl) ?_
  refine run_q (.none rfl) rfl rfl (q_pickF rfl rfl (decide_eq_false (by omega)) rfl) ?_
  refine run_q (.none rfl) rfl rfl (q_move rfl rfl) ?_
  refine run_q (.on rfl rfl rfl (by rw [hin]; rfl)) rfl rfl (q_fieldB (d := 3) rfl Try.underlying47 rfl rfl sz3 rfl) ?_
  refine run_q (.on rfl rfl rfl (by rw [hin]; rfl)) rfl rfl (q_loadB rfl one3 rfl (.there Sel.here) rfl) ?_
  refine run_q (.on rfl rfl rfl (by rw [hin]; rfl)) rfl rfl (q_fieldB (d := 1) rfl Try.underlying47 rfl rfl sz3 rfl) ?_
  refine run_q (.on rfl rfl rfl (by rw [hin]; rfl)) rfl rfl (q_loadB rfl one3 rfl (.there Sel.here) rfl) ?_
  refine run_q (.on rfl rfl rfl (by rw [hin]; rfl)) rfl rfl (q_lss rfl rfl rfl) ?_
  refine run_q (.none rfl) rfl rfl (q_pickF rfl rfl (by rw [hin]; rfl) rfl) ?_
  refine run_q (.none rfl) rfl rfl (q_assign rfl rfl) ?_
  refine run_nil ?_
  refine run_sub (subMk (.cons (s := 1) rfl (.cons (s := 2) rfl (.cons (s := 3) rfl (.cons (s := 8) rfl (.cons (s := 9) rfl (.cons (s := 10) rfl (.cons (s := 25) rfl .nil))))))) .refl) ?_
  refine run_condF rfl (decide_eq_false (by omega)) ?_
  refine run_skip ?_
  refine run_blk ?_
  refine run_seq ?_
  refine run_region ?_
  refine run_q (.none rfl) rfl rfl (q_fieldB (d := 1) rfl Try.underlying47 rfl rfl sz3 rfl) ?_
  refine run_q (.none rfl) rfl rfl (q_loadB rfl one3 rfl (.there Sel.here) rfl) ?_
  refine run_q (.none rfl) rfl rfl (q_assign rfl rfl) ?_
  refine run_nil ?_
  refine run_sub (subMk (.cons (s := 1) rfl (.cons (s := 2) rfl (.cons (s := 3) rfl (.cons (s := 8) rfl (.cons (s := 9) rfl (.cons (s := 10) rfl (.cons (s := 11) rfl .nil))))))) .refl) ?_
  refine run_seq ?_
  refine run_seq ?_
  refine run_region ?_
  refine run_q (.none rfl) rfl rfl (q_move rfl rfl) ?_
  refine run_q (.none rfl) rfl rfl (q_eql rfl rfl rfl) ?_
  refine run_nil ?_
  refine run_condT rfl rfl ?_
  refine run_region ?_
  refine run_q (.none rfl) rfl rfl (q_fieldB (d := 3) rfl Try.underlying47 rfl rfl sz3 rfl) ?_
  refine run_q (.none rfl) rfl rfl (q_loadB rfl one3 rfl (.there Sel.here) rfl) ?_
  refine run_q (.none rfl) rfl rfl (q_assign rfl rfl) ?_
  refine run_nil ?_
  refine run_sub (subMk (.cons (s := 1) rfl (.cons (s := 2) rfl (.cons (s := 3) rfl (.cons (s := 8) rfl (.cons (s := 9) rfl (.cons (s := 10) rfl (.cons (s := 11) rfl .nil))))))) .refl) ?_
  refine run_seq ?_
  refine run_draw [(0, 0), (1, 0), (2, 0), (3, 0), (4, 0), (5, 0), (6, 0), (7, 0), (8, 0), (9, 0), (10, 0), (11, 0), (12, 0)] mixed (by kernel_rfl) .refl ?_
  refine d_q rfl rfl (.none rfl) rfl rfl (q_move rfl rfl) ?_
  refine d_q rfl rfl (.none rfl) rfl rfl (q_move rfl rfl) ?_
  refine d_q rfl rfl (.none rfl) rfl rfl (q_sub rfl rfl rfl (by omega)) ?_
  refine d_q rfl rfl (.none rfl) rfl rfl (q_quo rfl rfl rfl (by omega)) ?_
  refine d_q rfl rfl (.none rfl) rfl rfl (q_fieldB (d := 3) rfl Try.underlying47 rfl rfl sz3 rfl) ?_
  refine d_q rfl rfl (.none rfl) rfl rfl (q_loadB rfl one3 rfl (.there Sel.here) rfl) ?_
  refine d_q rfl rfl (.none rfl) rfl rfl (q_fieldB (d := 1) rfl Try.underlying47 rfl rfl sz3 rfl) ?_
  refine d_q rfl rfl (.none rfl) rfl rfl (q_loadB rfl one3 rfl (.there Sel.here) rfl) ?_
  refine d_q rfl rfl (.none rfl) rfl rfl (q_sub rfl rfl rfl (by omega)) ?_
  refine d_q rfl rfl (.none rfl) rfl rfl (q_mul rfl rfl rfl (by omega)) ?_
  refine d_q rfl rfl (.none rfl) rfl rfl (q_quo rfl rfl rfl (by omega)) ?_
  refine d_q rfl rfl (.none rfl) rfl rfl (q_assign rfl rfl) ?_
  refine d_q rfl rfl (.none rfl) rfl rfl (q_assign rfl rfl) ?_
  refine d_nil ?_
  refine run_sub (subMk (.cons (s := 1) rfl (.cons (s := 2) rfl (.cons (s := 3) rfl (.cons (s := 8) rfl (.cons (s := 9) rfl (.cons (s := 11) rfl (.cons (s := 12) rfl (.cons (s := 13) rfl .nil)))))))) .refl) ?_
  refine run_seq ?_
  refine run_region ?_
  refine run_q (.none rfl) rfl rfl (q_move rfl rfl) ?_
  refine run_q (.none rfl) rfl rfl (q_move rfl rfl) ?_
  refine run_q (.none rfl) rfl rfl (q_move rfl rfl) ?_
  refine run_q (.none rfl) rfl rfl (q_mul rfl rfl rfl (by omega)) ?_
  refine run_q (.none rfl) rfl rfl (q_add rfl rfl rfl (by omega)) ?_
  refine run_q (.none rfl) rfl rfl (q_assign rfl rfl) ?_
  refine run_nil ?_
  refine run_sub (subMk (.cons (s := 2) rfl (.cons (s := 3) rfl (.cons (s := 8) rfl (.cons (s := 9) rfl (.cons (s := 11) rfl (.cons (s := 12) rfl (.cons (s := 14) rfl .nil))))))) .refl) ?_
  refine run_seq ?_
  refine run_region ?_
  refine run_q (.none rfl) rfl rfl (q_move rfl rfl) ?_
  refine run_q (.none rfl) rfl rfl (q_move rfl rfl) ?_
  refine run_q (.none rfl) rfl rfl (q_build rfl (.cons rfl (.cons rfl PV.nil)) (built69p0p1 _ _)) ?_
  refine run_q (.none rfl) rfl rfl (q_move rfl rfl) ?_
  refine run_q (.none rfl) rfl rfl (q_move rfl rfl) ?_
  refine run_q (.none rfl) rfl rfl (q_add rfl rfl rfl (by omega)) ?_
  refine run_q (.none rfl) rfl rfl (q_move rfl rfl) ?_
  refine run_q (.none rfl) rfl rfl (q_build rfl (.cons rfl (.cons rfl PV.nil)) (built69p0p1 _ _)) ?_
  refine run_q (.none rfl) rfl rfl (q_move rfl rfl) ?_
  refine run_q (.none rfl) rfl rfl (q_move rfl rfl) ?_
  refine run_q (.none rfl) rfl rfl (q_sub rfl rfl rfl (by omega)) ?_
  refine run_q (.none rfl) rfl rfl (q_move rfl rfl) ?_
  refine run_q (.none rfl) rfl rfl (q_build rfl (.cons rfl (.cons rfl PV.nil)) (built69p0p1 _ _)) ?_
  refine run_q (.none rfl) rfl rfl (q_move rfl rfl) ?_
  refine run_q (.none rfl) rfl rfl (q_move rfl rfl) ?_
  refine run_q (.none rfl) rfl rfl (q_build rfl (.cons rfl (.cons rfl PV.nil)) (built69p0p1 _ _)) ?_
  refine run_q (.none rfl) rfl rfl (q_build rfl (.cons rfl (.cons rfl (.cons rfl (.cons rfl PV.nil)))) (built70p0p1p2p3 _ _ _ _ _ _ _ _)) ?_
  refine run_h (.none rfl) (h_storeB rfl rfl sz70 rfl rfl rfl rfl rfl (.there (.there Sel.here)) rfl) ?_
  rintro - -
  refine run_q (.none rfl) rfl rfl (q_assign rfl rfl) ?_
  refine run_nil ?_
  refine run_sub (subMk (.cons (s := 8) rfl (.cons (s := 9) rfl .nil)) .refl) ?_
  refine run_ret ?_
  exact endG rfl (.cellN rfl agg70 Sel.here (.cons rfl (.cons rfl (.cons rfl (.cons rfl (.cons rfl (.cons rfl (.cons rfl (.cons rfl CellsAt.nil)))))))) rfl (.tmp rfl Outs.nil)) _ .nil rfl

set_option maxHeartbeats 2000000 in
set_option maxRecDepth 100000 in
theorem law11_1 (a b : Int) (W : World) (ha : 0 ≤ a) (hb : 0 ≤ b) : Calls Try.prog 11 #[.int .u16 a, .int .u16 b, .bool false] W (Hr.Just W (.bool true)) := by
  have hS : 0 ≤ (a % 1000) ∧ (a % 1000) < 1000 := by omega
  have hW : 0 ≤ (b % 4000) ∧ (b % 4000) < 4000 := by omega
  refine Just.of_ret ?_
  refine enterA (X := nX) (vs := [.int .u16 a, .int .u16 b, .bool false]) Try.func11 Try.ntmps11 rfl rfl Mem.nil ?_
  refine run_seq ?_
  refine run_region ?_
  refine run_q (.none rfl) rfl rfl (q_assign rfl rfl) ?_
  refine run_nil ?_
  refine run_seq ?_
  refine run_region ?_
  refine run_q (.none rfl) rfl rfl (q_move rfl rfl) ?_
  refine run_q (.none rfl) rfl rfl (q_rem rfl rfl rfl (by omega)) ?_
  refine run_q (.none rfl) rfl rfl (q_convert' rfl rfl Try.underlying76 Try.underlying3 (by rw [IntKind.wrap_i64]; omega)) ?_
  refine run_q (.none rfl) rfl rfl (q_add rfl rfl rfl (by omega)) ?_
  refine run_q (.none rfl) rfl rfl (q_build rfl (.cons rfl (.cons rfl PV.nil)) (built47p1p3 _ _)) ?_
  refine run_q (.none rfl) rfl rfl (q_build rfl (.cons rfl PV.nil) (built49p7 _ _ _ _)) ?_
  refine run_h (.none rfl) (h_alloc rfl rfl rfl info49) ?_
  rintro b7 -
  refine run_h (.none rfl) (h_storeB rfl rfl sz49 rfl rfl rfl rfl rfl Sel.here rfl) ?_
  rintro - -
  refine run_nil ?_
  refine run_sub (subMk (.cons (s := 1) rfl (.cons (s := 2) rfl (.cons (s := 6) rfl (.cons (s := 7) rfl .nil)))) .refl) ?_
  refine run_seq ?_
  refine run_region ?_
  refine run_q (.none rfl) rfl rfl (q_move rfl rfl) ?_
  refine run_q (.none rfl) rfl rfl (q_rem rfl rfl rfl (by omega)) ?_
  refine run_q (.none rfl) rfl rfl (q_convert' rfl rfl Try.underlying76 Try.underlying3 (by rw [IntKind.wrap_i64]; omega)) ?_
  refine run_q (.none rfl) rfl rfl (q_assign rfl rfl) ?_
  refine run_nil ?_
  refine run_sub (subMk (.cons (s := 2) rfl (.cons (s := 6) rfl (.cons (s := 7) rfl (.cons (s := 8) rfl .nil)))) .refl) ?_
  refine run_seq ?_
  refine run_region ?_
  refine run_q (.none rfl) rfl rfl (q_assign rfl rfl) ?_
  refine run_nil ?_
  refine run_seq ?_
  refine run_seq ?_
  refine run_region ?_
  refine run_q (.none rfl) rfl rfl (q_move rfl rfl) ?_
  refine run_nil ?_
  refine run_condF rfl rfl ?_
  refine run_skip ?_
  refine run_seq ?_
  refine run_region ?_
  refine run_q (.none rfl) rfl rfl (q_loadBN rfl agg49 rfl Sel.here (.cons rfl (.cons rfl (.cons rfl (.cons rfl (.cons rfl (.cons rfl (.cons rfl (.cons rfl (.cons rfl (.cons rfl (.cons rfl (.cons rfl CellsAt.nil)))))))))))) rfl) ?_
  refine run_q (.none rfl) rfl rfl (q_move rfl rfl) ?_
  refine run_q (.none rfl) rfl rfl (q_move rfl rfl) ?_
  refine run_q (.none rfl) rfl rfl (q_add rfl rfl rfl (by omega)) ?_
  refine run_q (.none rfl) rfl rfl (q_call rfl call33 (.cons rfl (.cons rfl (.cons rfl (.cons rfl Evs.nil)))) (fun w hk hm => Curve_1 (a % 1000) (b % 4000) w hS hW)) ?_
  refine run_q (.none rfl) rfl rfl (q_move rfl rfl) ?_
  refine run_q (.none rfl) rfl rfl (q_extract rfl rfl rfl) ?_
  refine run_q (.none rfl) rfl rfl (q_extract rfl rfl rfl) ?_
  refine run_h (.none rfl) (h_alloc rfl rfl rfl info70) ?_
  rintro b10 -
  refine run_h (.none rfl) (h_storeB rfl rfl sz70 rfl rfl rfl rfl rfl Sel.here rfl) ?_
  rintro - -
  refine run_q (.none rfl) rfl rfl (q_assign rfl rfl) ?_
  refine run_nil ?_
  refine run_sub (subMk (.cons (s := 6) rfl (.cons (s := 7) rfl (.cons (s := 8) rfl (.cons (s := 10) rfl (.cons (s := 11) rfl .nil))))) .refl) ?_
  refine run_seq ?_
  refine run_region ?_
  refine run_q (.none rfl) rfl rfl (q_loadBN rfl agg70 rfl Sel.here (.cons rfl (.cons rfl (.cons rfl (.cons rfl (.cons rfl (.cons rfl (.cons rfl (.cons rfl CellsAt.nil)))))))) rfl) ?_
  refine run_h (.none rfl) (h_call rfl rfl rfl call30 (.cons rfl (.cons rfl Evs.nil)) (fun w hk hm => Sample_ok ⟨5, 10⟩ ⟨5 + ((5 + (b % 4000) - 5) / 4), 10 + 1 * (4 * (10 + (a % 1000) - 10) / 3)⟩ ⟨5 + (b % 4000) - ((5 + (b % 4000) - 5) / 4), 10 + 1 * (4 * (10 + (a % 1000) - 10) / 3)⟩ ⟨5 + (b % 4000), 10⟩ 64 w (by omega) (crv_ok ⟨by omega, by omega, by omega⟩ (by omega) (by omega)))) ?_
  rintro ⟨v, m⟩ ⟨O, co, rfl, rfl⟩
  show Run _ _ _ _ _ _ _ ⟨(35, .tuple #[.slice O (64 + 1) co, .int .i64 0]) :: _, _ :: _⟩
  refine run_q (.none rfl) rfl rfl (q_move rfl rfl) ?_
  refine run_q (.none rfl) rfl rfl (q_extract rfl rfl rfl) ?_
  refine run_q (.none rfl) rfl rfl (q_extract rfl rfl rfl) ?_
  refine run_q (.none rfl) rfl rfl (q_assign rfl rfl) ?_
  refine run_q (.none rfl) rfl rfl (q_assign rfl rfl) ?_
  refine run_nil ?_
  refine run_sub (subMk (.cons (s := 6) rfl (.cons (s := 7) rfl (.cons (s := 8) rfl (.cons (s := 10) rfl (.cons (s := 11) rfl (.cons (s := 12) rfl (.cons (s := 13) rfl .nil))))))) .refl) ?_
  refine run_seq ?_
  refine run_seq ?_
  refine run_region ?_
  refine run_q (.none rfl) rfl rfl (q_call rfl call12 Evs.nil (fun w hk hm => known_just w)) ?_
  refine run_q (.none rfl) rfl rfl (q_not rfl rfl) ?_
  refine run_q (.none rfl) rfl rfl (q_move rfl rfl) ?_
  refine run_q (.on rfl rfl rfl rfl) rfl rfl (q_move rfl rfl) ?_
  refine run_q (.on rfl rfl rfl rfl) rfl rfl (q_neq rfl rfl rfl) ?_
  refine run_q (.none rfl) rfl rfl (q_pickF rfl rfl rfl rfl) ?_
  refine run_q (.none rfl) rfl rfl (q_move rfl rfl) ?_
  refine run_q (.on rfl rfl rfl rfl) rfl rfl (q_move rfl rfl) ?_
  refine run_q (.on rfl rfl rfl rfl) rfl rfl (q_neq rfl rfl rfl) ?_
  refine run_q (.none rfl) rfl rfl (q_pickF rfl rfl rfl rfl) ?_
  refine run_q (.none rfl) rfl rfl (q_move rfl rfl) ?_
  refine run_q (.on rfl rfl rfl rfl) rfl rfl (q_move rfl rfl) ?_
  refine run_q (.on rfl rfl rfl rfl) rfl rfl (q_len rfl Try.underlying71 rfl) ?_
  refine run_q (.on rfl rfl rfl rfl) rfl rfl (q_neq rfl rfl rfl) ?_
  refine run_q (.none rfl) rfl rfl (q_pickF rfl rfl rfl rfl) ?_
  refine run_nil ?_
  refine run_sub (subMk (.cons (s := 6) rfl (.cons (s := 7) rfl (.cons (s := 8) rfl (.cons (s := 10) rfl (.cons (s := 12) rfl (.cons (s := 52) rfl .nil)))))) .refl) ?_
  refine run_condF rfl rfl ?_
  refine run_skip ?_
  refine run_seq ?_
  refine run_seq ?_
  refine run_region ?_
  refine run_q (.none rfl) rfl rfl (q_assign rfl rfl) ?_
  refine run_nil ?_
  refine run_block ?_
  refine run_sub (subMk (.cons (s := 14) rfl (.cons (s := 6) rfl (.cons (s := 7) rfl (.cons (s := 8) rfl (.cons (s := 10) rfl (.cons (s := 12) rfl .nil)))))) (.cons Sel.here .refl (.cons Sel.here .refl (.cons Sel.here .refl .nil)))) ?_
  refine run_loopC1M0 (ι := Nat) (fun i => i ≤ 65) (fun i => .int .i64 (i : Int))  (fun i => 65 - i) 0 (by (try dsimp only); exact (by omega)) rfl  ?_
  rintro i hi
  (try dsimp only at hi)
  show Run _ _ _ _ _ _ _ ⟨(14, .int .i64 (i : Int)) :: _, _⟩
  refine run_seq ?_
  refine run_seq ?_
  refine run_region ?_
  refine run_q (.none rfl) rfl rfl (q_move rfl rfl) ?_
  refine run_q (.none rfl) rfl rfl (q_move rfl rfl) ?_
  refine run_q (.none rfl) rfl rfl (q_len rfl Try.underlying71 rfl) ?_
  refine run_q (.none rfl) rfl rfl (q_lss rfl rfl rfl) ?_
  refine run_nil ?_
  refine run_sub (subMk (.cons (s := 6) rfl (.cons (s := 7) rfl (.cons (s := 8) rfl (.cons (s := 10) rfl (.cons (s := 12) rfl (.cons (s := 14) rfl (.cons (s := 56) rfl .nil))))))) .refl) ?_
  refine run_cond rfl (fun g56 => ?_) (fun g56 => ?_)
  · have g56' := g56
    try simp only [decide_eq_true_eq, decide_eq_false_iff_not, beq_iff_eq, beq_eq_false_iff_ne, bne_iff_ne, bne_eq_false_iff_eq, Bool.not_eq_true', Bool.not_eq_false', ne_eq, Int.not_lt, Int.not_le, Decidable.not_not] at g56'
    have hi65 : i < 65 := by omega
    refine run_skip ?_
    refine run_seq ?_
    refine run_block ?_
    refine run_seq ?_
    have hx := smp_x (k := i) (d := ((5 + (b % 4000) - 5) / 4)) (w := (b % 4000)) (n := 10) (f := 10 + 1 * (4 * (10 + (a % 1000) - 10) / 3)) ⟨by omega, by omega⟩ (by omega)
    have hy := smp_y (d := ((5 + (b % 4000) - 5) / 4)) (w := (b % 4000)) (n := 10) (f := 10 + 1 * (4 * (10 + (a % 1000) - 10) / 3)) (s := (a % 1000)) (h := 4 * (10 + (a % 1000) - 10) / 3) (k := i) ⟨by omega, by omega⟩ (by omega) (by omega)
    have hm : 0 < i → (nth (smps [⟨5, 10⟩, ⟨5 + ((5 + (b % 4000) - 5) / 4), 10 + 1 * (4 * (10 + (a % 1000) - 10) / 3)⟩, ⟨5 + (b % 4000) - ((5 + (b % 4000) - 5) / 4), 10 + 1 * (4 * (10 + (a % 1000) - 10) / 3)⟩, ⟨5 + (b % 4000), 10⟩] 64 (64 + 1)) (i - 1)).x ≤ (nth (smps [⟨5, 10⟩, ⟨5 + ((5 + (b % 4000) - 5) / 4), 10 + 1 * (4 * (10 + (a % 1000) - 10) / 3)⟩, ⟨5 + (b % 4000) - ((5 + (b % 4000) - 5) / 4), 10 + 1 * (4 * (10 + (a % 1000) - 10) / 3)⟩, ⟨5 + (b % 4000), 10⟩] 64 (64 + 1)) i).x := fun hi0 => by have h := smp_mono (k := i - 1) (d := ((5 + (b % 4000) - 5) / 4)) (w := (b % 4000)) (n := 10) (f := 10 + 1 * (4 * (10 + (a % 1000) - 10) / 3)) ⟨by omega, by omega⟩ (by omega); rwa [show i - 1 + 1 = i from by omega] at h
    refine run_draw [(0, 0), (1, 0), (2, 0), (3, 0), (4, 0), (5, 0), (6, 0), (7, 0), (8, 0), (9, 0), (10, 0), (11, 0), (12, 0), (13, 0), (14, 0), (15, 0), (16, 0), (17, 0), (18, 0), (19, 0), (20, 0), (21, 0), (22, 0), (23, 0), (24, 0), (25, 0), (26, 0), (27, 0), (28, 0), (29, 0), (30, 0), (31, 0), (32, 0), (33, 0), (34, 0), (35, 0), (36, 0), (37, 0), (38, 0), (39, 0), (40, 0), (41, 0), (42, 0), (43, 0), (44, 0), (45, 0), (46, 0), (47, 0), (48, 0), (49, 0), (50, 0), (51, 0), (52, 0), (53, 0), (54, 0), (55, 0), (56, 0)] mixed (by kernel_rfl) .refl ?_
    refine d_q rfl rfl (.none rfl) rfl rfl (q_move rfl rfl) ?_
    refine d_q rfl rfl (.none rfl) rfl rfl (q_move rfl rfl) ?_
    refine d_q rfl rfl (.none rfl) rfl rfl (q_indexS (q := i) rfl Try.underlying71 sz69 rfl rfl (.own Sel.here) (by rw [List.length_map, smps_len]) rfl (by omega)) ?_
    refine d_q rfl rfl (.none rfl) rfl rfl (q_fieldAddr (d := 0) rfl Try.underlying69 rfl rfl sz3 rfl) ?_
    refine d_q rfl rfl (.none rfl) rfl rfl (q_loadF rfl one3 rfl (.own Sel.here) (getmap (by rw [smps_len]; omega)) rfl) ?_
    refine d_q rfl rfl (.none rfl) rfl rfl (q_lss rfl rfl rfl) ?_
    refine d_q rfl rfl (.none rfl) rfl rfl (q_move rfl rfl) ?_
    refine d_q rfl rfl (.on rfl rfl rfl (decide_eq_false (by omega))) rfl rfl (q_move rfl rfl) ?_
    refine d_q rfl rfl (.on rfl rfl rfl (decide_eq_false (by omega))) rfl rfl (q_move rfl rfl) ?_
    refine d_q rfl rfl (.on rfl rfl rfl (decide_eq_false (by omega))) rfl rfl (q_indexS (q := i) rfl Try.underlying71 sz69 rfl rfl (.own Sel.here) (by rw [List.length_map, smps_len]) rfl (by omega)) ?_
    refine d_q rfl rfl (.on rfl rfl rfl (decide_eq_false (by omega))) rfl rfl (q_fieldAddr (d := 0) rfl Try.underlying69 rfl rfl sz3 rfl) ?_
    refine d_q rfl rfl (.on rfl rfl rfl (decide_eq_false (by omega))) rfl rfl (q_loadF rfl one3 rfl (.own Sel.here) (getmap (by rw [smps_len]; omega)) rfl) ?_
    refine d_q rfl rfl (.on rfl rfl rfl (decide_eq_false (by omega))) rfl rfl (q_move rfl rfl) ?_
    refine d_q rfl rfl (.on rfl rfl rfl (decide_eq_false (by omega))) rfl rfl (q_add rfl rfl rfl (by omega)) ?_
    refine d_q rfl rfl (.on rfl rfl rfl (decide_eq_false (by omega))) rfl rfl (q_gtr rfl rfl rfl) ?_
    refine d_q rfl rfl (.none rfl) rfl rfl (q_pickF rfl rfl (decide_eq_false (by omega)) rfl) ?_
    refine d_q rfl rfl (.none rfl) rfl rfl (q_move rfl rfl) ?_
    refine d_q rfl rfl (.on rfl rfl rfl (decide_eq_false (by omega))) rfl rfl (q_move rfl rfl) ?_
    refine d_q rfl rfl (.on rfl rfl rfl (decide_eq_false (by omega))) rfl rfl (q_move rfl rfl) ?_
    refine d_q rfl rfl (.on rfl rfl rfl (decide_eq_false (by omega))) rfl rfl (q_indexS (q := i) rfl Try.underlying71 sz69 rfl rfl (.own Sel.here) (by rw [List.length_map, smps_len]) rfl (by omega)) ?_
    refine d_q rfl rfl (.on rfl rfl rfl (decide_eq_false (by omega))) rfl rfl (q_fieldAddr (d := 1) rfl Try.underlying69 rfl rfl sz3 rfl) ?_
    refine d_q rfl rfl (.on rfl rfl rfl (decide_eq_false (by omega))) rfl rfl (q_loadF rfl one3 rfl (.own Sel.here) (getmap (by rw [smps_len]; omega)) rfl) ?_
    refine d_q rfl rfl (.on rfl rfl rfl (decide_eq_false (by omega))) rfl rfl (q_fieldB (d := 8) rfl Try.underlying49 rfl rfl sz47 rfl) ?_
    refine d_q rfl rfl (.on rfl rfl rfl (decide_eq_false (by omega))) rfl rfl (q_fieldB (d := 9) rfl Try.underlying47 rfl rfl sz3 rfl) ?_
    refine d_q rfl rfl (.on rfl rfl rfl (decide_eq_false (by omega))) rfl rfl (q_loadB rfl one3 rfl (.there (.there Sel.here)) rfl) ?_
    refine d_q rfl rfl (.on rfl rfl rfl (decide_eq_false (by omega))) rfl rfl (q_sub rfl rfl rfl (by omega)) ?_
    refine d_q rfl rfl (.on rfl rfl rfl (decide_eq_false (by omega))) rfl rfl (q_lss rfl rfl rfl) ?_
    refine d_q rfl rfl (.none rfl) rfl rfl (q_pickF rfl rfl (decide_eq_false (by omega)) rfl) ?_
    refine d_q rfl rfl (.none rfl) rfl rfl (q_move rfl rfl) ?_
    refine d_q rfl rfl (.on rfl rfl rfl (decide_eq_false (by omega))) rfl rfl (q_move rfl rfl) ?_
    refine d_q rfl rfl (.on rfl rfl rfl (decide_eq_false (by omega))) rfl rfl (q_move rfl rfl) ?_
    refine d_q rfl rfl (.on rfl rfl rfl (decide_eq_false (by omega))) rfl rfl (q_indexS (q := i) rfl Try.underlying71 sz69 rfl rfl (.own Sel.here) (by rw [List.length_map, smps_len]) rfl (by omega)) ?_
    refine d_q rfl rfl (.on rfl rfl rfl (decide_eq_false (by omega))) rfl rfl (q_fieldAddr (d := 1) rfl Try.underlying69 rfl rfl sz3 rfl) ?_
    refine d_q rfl rfl (.on rfl rfl rfl (decide_eq_false (by omega))) rfl rfl (q_loadF rfl one3 rfl (.own Sel.here) (getmap (by rw [smps_len]; omega)) rfl) ?_
    refine d_q rfl rfl (.on rfl rfl rfl (decide_eq_false (by omega))) rfl rfl (q_fieldB (d := 8) rfl Try.underlying49 rfl rfl sz47 rfl) ?_
    refine d_q rfl rfl (.on rfl rfl rfl (decide_eq_false (by omega))) rfl rfl (q_fieldB (d := 11) rfl Try.underlying47 rfl rfl sz3 rfl) ?_
    refine d_q rfl rfl (.on rfl rfl rfl (decide_eq_false (by omega))) rfl rfl (q_loadB rfl one3 rfl (.there (.there Sel.here)) rfl) ?_
    refine d_q rfl rfl (.on rfl rfl rfl (decide_eq_false (by omega))) rfl rfl (q_gtr rfl rfl rfl) ?_
    refine d_q rfl rfl (.none rfl) rfl rfl (q_pickF rfl rfl (decide_eq_false (by omega)) rfl) ?_
    refine d_q rfl rfl (.none rfl) rfl rfl (q_move rfl rfl) ?_
    refine d_q rfl rfl (.on rfl rfl rfl (decide_eq_false (by omega))) rfl rfl (q_move rfl rfl) ?_
    refine d_q rfl rfl (.on rfl rfl rfl (decide_eq_false (by omega))) rfl rfl (q_gtr rfl rfl rfl) ?_
    refine d_q rfl rfl (.on rfl rfl rfl (decide_eq_false (by omega))) rfl rfl (q_move rfl rfl) ?_
    refine d_split 101 rfl (fun g101 => ?_) (fun g101 => ?_)
    · have g101' := g101
      try simp only [decide_eq_true_eq, decide_eq_false_iff_not, beq_iff_eq, beq_eq_false_iff_ne, bne_iff_ne, bne_eq_false_iff_eq, Bool.not_eq_true', Bool.not_eq_false', ne_eq, Int.not_lt, Int.not_le, Decidable.not_not] at g101'
      refine d_q rfl rfl (.on rfl rfl rfl g101) rfl rfl (q_move rfl rfl) ?_
      refine d_q rfl rfl (.on rfl rfl rfl g101) rfl rfl (q_move rfl rfl) ?_
      refine d_q rfl rfl (.on rfl rfl rfl g101) rfl rfl (q_indexS (q := i) rfl Try.underlying71 sz69 rfl rfl (.own Sel.here) (by rw [List.length_map, smps_len]) rfl (by omega)) ?_
      refine d_q rfl rfl (.on rfl rfl rfl g101) rfl rfl (q_fieldAddr (d := 0) rfl Try.underlying69 rfl rfl sz3 rfl) ?_
      refine d_q rfl rfl (.on rfl rfl rfl g101) rfl rfl (q_loadF rfl one3 rfl (.own Sel.here) (getmap (by rw [smps_len]; omega)) rfl) ?_
      refine d_q rfl rfl (.on rfl rfl rfl g101) rfl rfl (q_move rfl rfl) ?_
      refine d_q rfl rfl (.on rfl rfl rfl g101) rfl rfl (q_move rfl rfl) ?_
      refine d_q rfl rfl (.on rfl rfl rfl g101) rfl rfl (q_sub rfl rfl rfl (by omega)) ?_
      refine d_q rfl rfl (.on rfl rfl rfl g101) rfl rfl (q_indexS (q := (i - 1)) rfl Try.underlying71 sz69 rfl rfl (.own Sel.here) (by rw [List.length_map, smps_len]) (by omega) (by omega)) ?_
      refine d_q rfl rfl (.on rfl rfl rfl g101) rfl rfl (q_fieldAddr (d := 0) rfl Try.underlying69 rfl rfl sz3 rfl) ?_
      refine d_q rfl rfl (.on rfl rfl rfl g101) rfl rfl (q_loadF rfl one3 rfl (.own Sel.here) (getmap (by rw [smps_len]; omega)) rfl) ?_
      refine d_q rfl rfl (.on rfl rfl rfl g101) rfl rfl (q_lss rfl rfl rfl) ?_
      refine d_q rfl rfl (.on rfl rfl rfl (decide_eq_false (by omega))) rfl rfl (q_pickT rfl rfl g101 rfl) ?_
      refine d_q rfl rfl (.none rfl) rfl rfl (q_pickF rfl rfl (decide_eq_false (by omega)) rfl) ?_
      refine d_nil ?_
      refine run_sub (subMk (.cons (s := 6) rfl (.cons (s := 7) rfl (.cons (s := 8) rfl (.cons (s := 10) rfl (.cons (s := 12) rfl (.cons (s := 14) rfl (.cons (s := 115) rfl .nil))))))) .refl) ?_
      refine run_condF rfl (decide_eq_false (by have := hm (by omega); omega)) ?_
      refine run_skip ?_
      refine run_blk ?_
      refine run_region ?_
      refine run_q (.none rfl) rfl rfl (q_move rfl rfl) ?_
      refine run_q (.none rfl) rfl rfl (q_add rfl rfl rfl (by omega)) ?_
      refine run_q (.none rfl) rfl rfl (q_assign rfl rfl) ?_
      refine run_nil ?_
      refine run_sub (subMk (.cons (s := 6) rfl (.cons (s := 7) rfl (.cons (s := 8) rfl (.cons (s := 10) rfl (.cons (s := 12) rfl (.cons (s := 14) rfl .nil)))))) .refl) ?_
      exact run_again (i + 1) (by (try dsimp only); exact (by omega)) (by (try dsimp only); omega) (subMk (.cons' (s := 14) rfl (vint (by omega)) (.cons (s := 6) rfl (.cons (s := 7) rfl (.cons (s := 8) rfl (.cons (s := 10) rfl (.cons (s := 12) rfl .nil)))))) (.cons Sel.here .refl (.cons Sel.here .refl (.cons Sel.here .refl .nil))))
    · have g101' := g101
      try simp only [decide_eq_true_eq, decide_eq_false_iff_not, beq_iff_eq, beq_eq_false_iff_ne, bne_iff_ne, bne_eq_false_iff_eq, Bool.not_eq_true', Bool.not_eq_false', ne_eq, Int.not_lt, Int.not_le, Decidable.not_not] at g101'
      refine d_off rfl rfl (.no rfl rfl rfl g101) rfl rfl ?_
      refine d_off rfl rfl (.no rfl rfl rfl g101) rfl rfl ?_
      refine d_off rfl rfl (.no rfl rfl rfl g101) rfl rfl ?_
      refine d_off rfl rfl (.no rfl rfl rfl g101) rfl rfl ?_
      refine d_off rfl rfl (.no rfl rfl rfl g101) rfl rfl ?_
      refine d_off rfl rfl (.no rfl rfl rfl g101) rfl rfl ?_
      refine d_off rfl rfl (.no rfl rfl rfl g101) rfl rfl ?_
      refine d_off rfl rfl (.no rfl rfl rfl g101) rfl rfl ?_
      refine d_off rfl rfl (.no rfl rfl rfl g101) rfl rfl ?_
      refine d_off rfl rfl (.no rfl rfl rfl g101) rfl rfl ?_
      refine d_off rfl rfl (.no rfl rfl rfl g101) rfl rfl ?_
      refine d_off rfl rfl (.no rfl rfl rfl g101) rfl rfl ?_
      refine d_q rfl rfl (.on rfl rfl rfl (decide_eq_false (by omega))) rfl rfl (q_pickF rfl rfl g101 rfl) ?_
      refine d_q rfl rfl (.none rfl) rfl rfl (q_pickF rfl rfl (decide_eq_false (by omega)) rfl) ?_
      refine d_nil ?_
      refine run_sub (subMk (.cons (s := 6) rfl (.cons (s := 7) rfl (.cons (s := 8) rfl (.cons (s := 10) rfl (.cons (s := 12) rfl (.cons (s := 14) rfl (.cons (s := 115) rfl .nil))))))) .refl) ?_
      refine run_condF rfl rfl ?_
      refine run_skip ?_
      refine run_blk ?_
      refine run_region ?_
      refine run_q (.none rfl) rfl rfl (q_move rfl rfl) ?_
      refine run_q (.none rfl) rfl rfl (q_add rfl rfl rfl (by omega)) ?_
      refine run_q (.none rfl) rfl rfl (q_assign rfl rfl) ?_
      refine run_nil ?_
      refine run_sub (subMk (.cons (s := 6) rfl (.cons (s := 7) rfl (.cons (s := 8) rfl (.cons (s := 10) rfl (.cons (s := 12) rfl (.cons (s := 14) rfl .nil)))))) .refl) ?_
      exact run_again (i + 1) (by (try dsimp only); exact (by omega)) (by (try dsimp only); omega) (subMk (.cons' (s := 14) rfl (vint (by omega)) (.cons (s := 6) rfl (.cons (s := 7) rfl (.cons (s := 8) rfl (.cons (s := 10) rfl (.cons (s := 12) rfl .nil)))))) (.cons Sel.here .refl (.cons Sel.here .refl (.cons Sel.here .refl .nil))))
  · have g56' := g56
    try simp only [decide_eq_true_eq, decide_eq_false_iff_not, beq_iff_eq, beq_eq_false_iff_ne, bne_iff_ne, bne_eq_false_iff_eq, Bool.not_eq_true', Bool.not_eq_false', ne_eq, Int.not_lt, Int.not_le, Decidable.not_not] at g56'
    refine run_exit rfl ?_
    refine run_sub (subMk (.cons (s := 6) rfl (.cons (s := 10) rfl (.cons (s := 12) rfl .nil))) .refl) ?_
    refine run_seq ?_
    refine run_draw [(0, 0), (1, 0), (2, 0), (3, 0), (4, 0), (5, 0), (6, 0), (7, 0), (8, 0), (9, 0), (10, 0), (11, 0), (12, 0), (13, 0), (14, 0)] mixed (by kernel_rfl) .refl ?_
    refine d_q rfl rfl (.none rfl) rfl rfl (q_move rfl rfl) ?_
    refine d_q rfl rfl (.none rfl) rfl rfl (q_indexS (q := 0) rfl Try.underlying71 sz69 rfl rfl (.own Sel.here) (by rw [List.length_map, smps_len]) rfl (by omega)) ?_
    refine d_q rfl rfl (.none rfl) rfl rfl (q_loadE rfl agg69 rfl (.own Sel.here) (getmap (by rw [smps_len]; omega)) rfl) ?_
    refine d_q rfl rfl (.none rfl) rfl rfl (q_indexB (q := 0) (d := 0) rfl Try.underlying70 sz69 rfl rfl rfl (by decide) rfl) ?_
    refine d_q rfl rfl (.none rfl) rfl rfl (q_loadBN rfl agg69 rfl (.there Sel.here) (.cons rfl (.cons rfl CellsAt.nil)) rfl) ?_
    refine d_q rfl rfl (.none rfl) rfl rfl (q_eqlS rfl rfl rfl eqg69 (fun w => eqs69 _ _ _ _ w)) ?_
    refine d_q rfl rfl (.none rfl) rfl rfl (q_move rfl rfl) ?_
    refine d_q rfl rfl (.on rfl rfl rfl (by rw [smp_0 (d := ((5 + (b % 4000) - 5) / 4)) (w := (b % 4000)) (n := 10) (f := 10 + 1 * (4 * (10 + (a % 1000) - 10) / 3)) ]; simp)) rfl rfl (q_move rfl rfl) ?_
    refine d_q rfl rfl (.on rfl rfl rfl (by rw [smp_0 (d := ((5 + (b % 4000) - 5) / 4)) (w := (b % 4000)) (n := 10) (f := 10 + 1 * (4 * (10 + (a % 1000) - 10) / 3)) ]; simp)) rfl rfl (q_indexS (q := 64) rfl Try.underlying71 sz69 rfl rfl (.own Sel.here) (by rw [List.length_map, smps_len]) rfl (by omega)) ?_
    refine d_q rfl rfl (.on rfl rfl rfl (by rw [smp_0 (d := ((5 + (b % 4000) - 5) / 4)) (w := (b % 4000)) (n := 10) (f := 10 + 1 * (4 * (10 + (a % 1000) - 10) / 3)) ]; simp)) rfl rfl (q_loadE rfl agg69 rfl (.own Sel.here) (getmap (by rw [smps_len]; omega)) rfl) ?_
    refine d_q rfl rfl (.on rfl rfl rfl (by rw [smp_0 (d := ((5 + (b % 4000) - 5) / 4)) (w := (b % 4000)) (n := 10) (f := 10 + 1 * (4 * (10 + (a % 1000) - 10) / 3)) ]; simp)) rfl rfl (q_indexB (q := 3) (d := 6) rfl Try.underlying70 sz69 rfl rfl rfl (by decide) rfl) ?_
    refine d_q rfl rfl (.on rfl rfl rfl (by rw [smp_0 (d := ((5 + (b % 4000) - 5) / 4)) (w := (b % 4000)) (n := 10) (f := 10 + 1 * (4 * (10 + (a % 1000) - 10) / 3)) ]; simp)) rfl rfl (q_loadBN rfl agg69 rfl (.there Sel.here) (.cons rfl (.cons rfl CellsAt.nil)) rfl) ?_
    refine d_q rfl rfl (.on rfl rfl rfl (by rw [smp_0 (d := ((5 + (b % 4000) - 5) / 4)) (w := (b % 4000)) (n := 10) (f := 10 + 1 * (4 * (10 + (a % 1000) - 10) / 3)) ]; simp)) rfl rfl (q_eqlS rfl rfl rfl eqg69 (fun w => eqs69 _ _ _ _ w)) ?_
    refine d_q rfl rfl (.none rfl) rfl rfl (q_pickT rfl rfl (by rw [smp_0 (d := ((5 + (b % 4000) - 5) / 4)) (w := (b % 4000)) (n := 10) (f := 10 + 1 * (4 * (10 + (a % 1000) - 10) / 3)) ]; simp) rfl) ?_
    refine d_q rfl rfl (.none rfl) rfl rfl (q_assign rfl rfl) ?_
    refine d_nil ?_
    refine run_sub (subMk (.cons (s := 6) rfl .nil) .refl) ?_
    refine run_ret ?_
    exact end1 rfl rfl (by rw [smp_64 (d := ((5 + (b % 4000) - 5) / 4)) (w := (b % 4000)) (n := 10) (f := 10 + 1 * (4 * (10 + (a % 1000) - 10) / 3)) ]; simp)

set_option maxHeartbeats 2000000 in
set_option maxRecDepth 100000 in
theorem law11_m (a b : Int) (W : World) (ha : 0 ≤ a) (hb : 0 ≤ b) : Calls Try.prog 11 #[.int .u16 a, .int .u16 b, .bool true] W (Hr.Just W (.bool true)) := by
  have hS : 0 ≤ (a % 1000) ∧ (a % 1000) < 1000 := by omega
  have hW : 0 ≤ (b % 4000) ∧ (b % 4000) < 4000 := by omega
  refine Just.of_ret ?_
  refine enterA (X := nX) (vs := [.int .u16 a, .int .u16 b, .bool true]) Try.func11 Try.ntmps11 rfl rfl Mem.nil ?_
  refine run_seq ?_
  refine run_region ?_
  refine run_q (.none rfl) rfl rfl (q_assign rfl rfl) ?_
  refine run_nil ?_
  refine run_seq ?_
  refine run_region ?_
  refine run_q (.none rfl) rfl rfl (q_move rfl rfl) ?_
  refine run_q (.none rfl) rfl rfl (q_rem rfl rfl rfl (by omega)) ?_
  refine run_q (.none rfl) rfl rfl (q_convert' rfl rfl Try.underlying76 Try.underlying3 (by rw [IntKind.wrap_i64]; omega)) ?_
  refine run_q (.none rfl) rfl rfl (q_add rfl rfl rfl (by omega)) ?_
  refine run_q (.none rfl) rfl rfl (q_build rfl (.cons rfl (.cons rfl PV.nil)) (built47p1p3 _ _)) ?_
  refine run_q (.none rfl) rfl rfl (q_build rfl (.cons rfl PV.nil) (built49p7 _ _ _ _)) ?_
  refine run_h (.none rfl) (h_alloc rfl rfl rfl info49) ?_
  rintro b7 -
  refine run_h (.none rfl) (h_storeB rfl rfl sz49 rfl rfl rfl rfl rfl Sel.here rfl) ?_
  rintro - -
  refine run_nil ?_
  refine run_sub (subMk (.cons (s := 1) rfl (.cons (s := 2) rfl (.cons (s := 6) rfl (.cons (s := 7) rfl .nil)))) .refl) ?_
  refine run_seq ?_
  refine run_region ?_
  refine run_q (.none rfl) rfl rfl (q_move rfl rfl) ?_
  refine run_q (.none rfl) rfl rfl (q_rem rfl rfl rfl (by omega)) ?_
  refine run_q (.none rfl) rfl rfl (q_convert' rfl rfl Try.underlying76 Try.underlying3 (by rw [IntKind.wrap_i64]; omega)) ?_
  refine run_q (.none rfl) rfl rfl (q_assign rfl rfl) ?_
  refine run_nil ?_
  refine run_sub (subMk (.cons (s := 2) rfl (.cons (s := 6) rfl (.cons (s := 7) rfl (.cons (s := 8) rfl .nil)))) .refl) ?_
  refine run_seq ?_
  refine run_region ?_
  refine run_q (.none rfl) rfl rfl (q_assign rfl rfl) ?_
  refine run_nil ?_
  refine run_seq ?_
  refine run_seq ?_
  refine run_region ?_
  refine run_q (.none rfl) rfl rfl (q_move rfl rfl) ?_
  refine run_nil ?_
  refine run_condT rfl rfl ?_
  refine run_region ?_
  refine run_q (.none rfl) rfl rfl (q_assign rfl rfl) ?_
  refine run_nil ?_
  refine run_seq ?_
  refine run_region ?_
  refine run_q (.none rfl) rfl rfl (q_loadBN rfl agg49 rfl Sel.here (.cons rfl (.cons rfl (.cons rfl (.cons rfl (.cons rfl (.cons rfl (.cons rfl (.cons rfl (.cons rfl (.cons rfl (.cons rfl (.cons rfl CellsAt.nil)))))))))))) rfl) ?_
  refine run_q (.none rfl) rfl rfl (q_move rfl rfl) ?_
  refine run_q (.none rfl) rfl rfl (q_move rfl rfl) ?_
  refine run_q (.none rfl) rfl rfl (q_add rfl rfl rfl (by omega)) ?_
  refine run_q (.none rfl) rfl rfl (q_call rfl call33 (.cons rfl (.cons rfl (.cons rfl (.cons rfl Evs.nil)))) (fun w hk hm => Curve_m (a % 1000) (b % 4000) w hS hW)) ?_
  refine run_q (.none rfl) rfl rfl (q_move rfl rfl) ?_
  refine run_q (.none rfl) rfl rfl (q_extract rfl rfl rfl) ?_
  refine run_q (.none rfl) rfl rfl (q_extract rfl rfl rfl) ?_
  refine run_h (.none rfl) (h_alloc rfl rfl rfl info70) ?_
  rintro b10 -
  refine run_h (.none rfl) (h_storeB rfl rfl sz70 rfl rfl rfl rfl rfl Sel.here rfl) ?_
  rintro - -
  refine run_q (.none rfl) rfl rfl (q_assign rfl rfl) ?_
  refine run_nil ?_
  refine run_sub (subMk (.cons (s := 6) rfl (.cons (s := 7) rfl (.cons (s := 8) rfl (.cons (s := 10) rfl (.cons (s := 11) rfl .nil))))) .refl) ?_
  refine run_seq ?_
  refine run_region ?_
  refine run_q (.none rfl) rfl rfl (q_loadBN rfl agg70 rfl Sel.here (.cons rfl (.cons rfl (.cons rfl (.cons rfl (.cons rfl (.cons rfl (.cons rfl (.cons rfl CellsAt.nil)))))))) rfl) ?_
  refine run_h (.none rfl) (h_call rfl rfl rfl call30 (.cons rfl (.cons rfl Evs.nil)) (fun w hk hm => Sample_ok ⟨5, (10 + (a % 1000))⟩ ⟨5 + ((5 + (b % 4000) - 5) / 4), 10 + (a % 1000) + (-1) * (4 * (10 + (a % 1000) - 10) / 3)⟩ ⟨5 + (b % 4000) - ((5 + (b % 4000) - 5) / 4), 10 + (a % 1000) + (-1) * (4 * (10 + (a % 1000) - 10) / 3)⟩ ⟨5 + (b % 4000), (10 + (a % 1000))⟩ 64 w (by omega) (crv_ok ⟨by omega, by omega, by omega⟩ (by omega) (by omega)))) ?_
  rintro ⟨v, m⟩ ⟨O, co, rfl, rfl⟩
  show Run _ _ _ _ _ _ _ ⟨(35, .tuple #[.slice O (64 + 1) co, .int .i64 0]) :: _, _ :: _⟩
  refine run_q (.none rfl) rfl rfl (q_move rfl rfl) ?_
  refine run_q (.none rfl) rfl rfl (q_extract rfl rfl rfl) ?_
  refine run_q (.none rfl) rfl rfl (q_extract rfl rfl rfl) ?_
  refine run_q (.none rfl) rfl rfl (q_assign rfl rfl) ?_
  refine run_q (.none rfl) rfl rfl (q_assign rfl rfl) ?_
  refine run_nil ?_
  refine run_sub (subMk (.cons (s := 6) rfl (.cons (s := 7) rfl (.cons (s := 8) rfl (.cons (s := 10) rfl (.cons (s := 11) rfl (.cons (s := 12) rfl (.cons (s := 13) rfl .nil))))))) .refl) ?_
  refine run_seq ?_
  refine run_seq ?_
  refine run_region ?_
  refine run_q (.none rfl) rfl rfl (q_call rfl call12 Evs.nil (fun w hk hm => known_just w)) ?_
  refine run_q (.none rfl) rfl rfl (q_not rfl rfl) ?_
  refine run_q (.none rfl) rfl rfl (q_move rfl rfl) ?_
  refine run_q (.on rfl rfl rfl rfl) rfl rfl (q_move rfl rfl) ?_
  refine run_q (.on rfl rfl rfl rfl) rfl rfl (q_neq rfl rfl rfl) ?_
  refine run_q (.none rfl) rfl rfl (q_pickF rfl rfl rfl rfl) ?_
  refine run_q (.none rfl) rfl rfl (q_move rfl rfl) ?_
  refine run_q (.on rfl rfl rfl rfl) rfl rfl (q_move rfl rfl) ?_
  refine run_q (.on rfl rfl rfl rfl) rfl rfl (q_neq rfl rfl rfl) ?_
  refine run_q (.none rfl) rfl rfl (q_pickF rfl rfl rfl rfl) ?_
  refine run_q (.none rfl) rfl rfl (q_move rfl rfl) ?_
  refine run_q (.on rfl rfl rfl rfl) rfl rfl (q_move rfl rfl) ?_
  refine run_q (.on rfl rfl rfl rfl) rfl rfl (q_len rfl Try.underlying71 rfl) ?_
  refine run_q (.on rfl rfl rfl rfl) rfl rfl (q_neq rfl rfl rfl) ?_
  refine run_q (.none rfl) rfl rfl (q_pickF rfl rfl rfl rfl) ?_
  refine run_nil ?_
  refine run_sub (subMk (.cons (s := 6) rfl (.cons (s := 7) rfl (.cons (s := 8) rfl (.cons (s := 10) rfl (.cons (s := 12) rfl (.cons (s := 52) rfl .nil)))))) .refl) ?_
  refine run_condF rfl rfl ?_
  refine run_skip ?_
  refine run_seq ?_
  refine run_seq ?_
  refine run_region ?_
  refine run_q (.none rfl) rfl rfl (q_assign rfl rfl) ?_
  refine run_nil ?_
  refine run_block ?_
  refine run_sub (subMk (.cons (s := 14) rfl (.cons (s := 6) rfl (.cons (s := 7) rfl (.cons (s := 8) rfl (.cons (s := 10) rfl (.cons (s := 12) rfl .nil)))))) (.cons Sel.here .refl (.cons Sel.here .refl (.cons Sel.here .refl .nil)))) ?_
  refine run_loopC1M0 (ι := Nat) (fun i => i ≤ 65) (fun i => .int .i64 (i : Int))  (fun i => 65 - i) 0 (by (try dsimp only); exact (by omega)) rfl  ?_
  rintro i hi
  (try dsimp only at hi)
  show Run _ _ _ _ _ _ _ ⟨(14, .int .i64 (i : Int)) :: _, _⟩
  refine run_seq ?_
  refine run_seq ?_
  refine run_region ?_
  refine run_q (.none rfl) rfl rfl (q_move rfl rfl) ?_
  refine run_q (.none rfl) rfl rfl (q_move rfl rfl) ?_
  refine run_q (.none rfl) rfl rfl (q_len rfl Try.underlying71 rfl) ?_
  refine run_q (.none rfl) rfl rfl (q_lss rfl rfl rfl) ?_
  refine run_nil ?_
  refine run_sub (subMk (.cons (s := 6) rfl (.cons (s := 7) rfl (.cons (s := 8) rfl (.cons (s := 10) rfl (.cons (s := 12) rfl (.cons (s := 14) rfl (.cons (s := 56) rfl .nil))))))) .refl) ?_
  refine run_cond rfl (fun g56 => ?_) (fun g56 => ?_)
  · have g56' := g56
    try simp only [decide_eq_true_eq, decide_eq_false_iff_not, beq_iff_eq, beq_eq_false_iff_ne, bne_iff_ne, bne_eq_false_iff_eq, Bool.not_eq_true', Bool.not_eq_false', ne_eq, Int.not_lt, Int.not_le, Decidable.not_not] at g56'
    have hi65 : i < 65 := by omega
    refine run_skip ?_
    refine run_seq ?_
    refine run_block ?_
    refine run_seq ?_
    have hx := smp_x (k := i) (d := ((5 + (b % 4000) - 5) / 4)) (w := (b % 4000)) (n := (10 + (a % 1000))) (f := 10 + (a % 1000) + (-1) * (4 * (10 + (a % 1000) - 10) / 3)) ⟨by omega, by omega⟩ (by omega)
    have hy := smp_y (d := ((5 + (b % 4000) - 5) / 4)) (w := (b % 4000)) (n := (10 + (a % 1000))) (f := 10 + (a % 1000) + (-1) * (4 * (10 + (a % 1000) - 10) / 3)) (s := (a % 1000)) (h := 4 * (10 + (a % 1000) - 10) / 3) (k := i) ⟨by omega, by omega⟩ (by omega) (by omega)
    have hm : 0 < i → (nth (smps [⟨5, (10 + (a % 1000))⟩, ⟨5 + ((5 + (b % 4000) - 5) / 4), 10 + (a % 1000) + (-1) * (4 * (10 + (a % 1000) - 10) / 3)⟩, ⟨5 + (b % 4000) - ((5 + (b % 4000) - 5) / 4), 10 + (a % 1000) + (-1) * (4 * (10 + (a % 1000) - 10) / 3)⟩, ⟨5 + (b % 4000), (10 + (a % 1000))⟩] 64 (64 + 1)) (i - 1)).x ≤ (nth (smps [⟨5, (10 + (a % 1000))⟩, ⟨5 + ((5 + (b % 4000) - 5) / 4), 10 + (a % 1000) + (-1) * (4 * (10 + (a % 1000) - 10) / 3)⟩, ⟨5 + (b % 4000) - ((5 + (b % 4000) - 5) / 4), 10 + (a % 1000) + (-1) * (4 * (10 + (a % 1000) - 10) / 3)⟩, ⟨5 + (b % 4000), (10 + (a % 1000))⟩] 64 (64 + 1)) i).x := fun hi0 => by have h := smp_mono (k := i - 1) (d := ((5 + (b % 4000) - 5) / 4)) (w := (b % 4000)) (n := (10 + (a % 1000))) (f := 10 + (a % 1000) + (-1) * (4 * (10 + (a % 1000) - 10) / 3)) ⟨by omega, by omega⟩ (by omega); rwa [show i - 1 + 1 = i from by omega] at h
    refine run_draw [(0, 0), (1, 0), (2, 0), (3, 0), (4, 0), (5, 0), (6, 0), (7, 0), (8, 0), (9, 0), (10, 0), (11, 0), (12, 0), (13, 0), (14, 0), (15, 0), (16, 0), (17, 0), (18, 0), (19, 0), (20, 0), (21, 0), (22, 0), (23, 0), (24, 0), (25, 0), (26, 0), (27, 0), (28, 0), (29, 0), (30, 0), (31, 0), (32, 0), (33, 0), (34, 0), (35, 0), (36, 0), (37, 0), (38, 0), (39, 0), (40, 0), (41, 0), (42, 0), (43, 0), (44, 0), (45, 0), (46, 0), (47, 0), (48, 0), (49, 0), (50, 0), (51, 0), (52, 0), (53, 0), (54, 0), (55, 0), (56, 0)] mixed (by kernel_rfl) .refl ?_
    refine d_q rfl rfl (.none rfl) rfl rfl (q_move rfl rfl) ?_
    refine d_q rfl rfl (.none rfl) rfl rfl (q_move rfl rfl) ?_
    refine d_q rfl rfl (.none rfl) rfl rfl (q_indexS (q := i) rfl Try.underlying71 sz69 rfl rfl (.own Sel.here) (by rw [List.length_map, smps_len]) rfl (by omega)) ?_
    refine d_q rfl rfl (.none rfl) rfl rfl (q_fieldAddr (d := 0) rfl Try.underlying69 rfl rfl sz3 rfl) ?_
    refine d_q rfl rfl (.none rfl) rfl rfl (q_loadF rfl one3 rfl (.own Sel.here) (getmap (by rw [smps_len]; omega)) rfl) ?_
    refine d_q rfl rfl (.none rfl) rfl rfl (q_lss rfl rfl rfl) ?_
    refine d_q rfl rfl (.none rfl) rfl rfl (q_move rfl rfl) ?_
    refine d_q rfl rfl (.on rfl rfl rfl (decide_eq_false (by omega))) rfl rfl (q_move rfl rfl) ?_
    refine d_q rfl rfl (.on rfl rfl rfl (decide_eq_false (by omega))) rfl rfl (q_move rfl rfl) ?_
    refine d_q rfl rfl (.on rfl rfl rfl (decide_eq_false (by omega))) rfl rfl (q_indexS (q := i) rfl Try.underlying71 sz69 rfl rfl (.own Sel.here) (by rw [List.length_map, smps_len]) rfl (by omega)) ?_
    refine d_q rfl rfl (.on rfl rfl rfl (decide_eq_false (by omega))) rfl rfl (q_fieldAddr (d := 0) rfl Try.underlying69 rfl rfl sz3 rfl) ?_
    refine d_q rfl rfl (.on rfl rfl rfl (decide_eq_false (by omega))) rfl rfl (q_loadF rfl one3 rfl (.own Sel.here) (getmap (by rw [smps_len]; omega)) rfl) ?_
    refine d_q rfl rfl (.on rfl rfl rfl (decide_eq_false (by omega))) rfl rfl (q_move rfl rfl) ?_
    refine d_q rfl rfl (.on rfl rfl rfl (decide_eq_false (by omega))) rfl rfl (q_add rfl rfl rfl (by omega)) ?_
    refine d_q rfl rfl (.on rfl rfl rfl (decide_eq_false (by omega))) rfl rfl (q_gtr rfl rfl rfl) ?_
    refine d_q rfl rfl (.none rfl) rfl rfl (q_pickF rfl rfl (decide_eq_false (by omega)) rfl) ?_
    refine d_q rfl rfl (.none rfl) rfl rfl (q_move rfl rfl) ?_
    refine d_q rfl rfl (.on rfl rfl rfl (decide_eq_false (by omega))) rfl rfl (q_move rfl rfl) ?_
    refine d_q rfl rfl (.on rfl rfl rfl (decide_eq_false (by omega))) rfl rfl (q_move rfl rfl) ?_
    refine d_q rfl rfl (.on rfl rfl rfl (decide_eq_false (by omega))) rfl rfl (q_indexS (q := i) rfl Try.underlying71 sz69 rfl rfl (.own Sel.here) (by rw [List.length_map, smps_len]) rfl (by omega)) ?_
    refine d_q rfl rfl (.on rfl rfl rfl (decide_eq_false (by omega))) rfl rfl (q_fieldAddr (d := 1) rfl Try.underlying69 rfl rfl sz3 rfl) ?_
    refine d_q rfl rfl (.on rfl rfl rfl (decide_eq_false (by omega))) rfl rfl (q_loadF rfl one3 rfl (.own Sel.here) (getmap (by rw [smps_len]; omega)) rfl) ?_
    refine d_q rfl rfl (.on rfl rfl rfl (decide_eq_false (by omega))) rfl rfl (q_fieldB (d := 8) rfl Try.underlying49 rfl rfl sz47 rfl) ?_
    refine d_q rfl rfl (.on rfl rfl rfl (decide_eq_false (by omega))) rfl rfl (q_fieldB (d := 9) rfl Try.underlying47 rfl rfl sz3 rfl) ?_
    refine d_q rfl rfl (.on rfl rfl rfl (decide_eq_false (by omega))) rfl rfl (q_loadB rfl one3 rfl (.there (.there Sel.here)) rfl) ?_
    refine d_q rfl rfl (.on rfl rfl rfl (decide_eq_false (by omega))) rfl rfl (q_sub rfl rfl rfl (by omega)) ?_
    refine d_q rfl rfl (.on rfl rfl rfl (decide_eq_false (by omega))) rfl rfl (q_lss rfl rfl rfl) ?_
    refine d_q rfl rfl (.none rfl) rfl rfl (q_pickF rfl rfl (decide_eq_false (by omega)) rfl) ?_
    refine d_q rfl rfl (.none rfl) rfl rfl (q_move rfl rfl) ?_
    refine d_q rfl rfl (.on rfl rfl rfl (decide_eq_false (by omega))) rfl rfl (q_move rfl rfl) ?_
    refine d_q rfl rfl (.on rfl rfl rfl (decide_eq_false (by omega))) rfl rfl (q_move rfl rfl) ?_
    refine d_q rfl rfl (.on rfl rfl rfl (decide_eq_false (by omega))) rfl rfl (q_indexS (q := i) rfl Try.underlying71 sz69 rfl rfl (.own Sel.here) (by rw [List.length_map, smps_len]) rfl (by omega)) ?_
    refine d_q rfl rfl (.on rfl rfl rfl (decide_eq_false (by omega))) rfl rfl (q_fieldAddr (d := 1) rfl Try.underlying69 rfl rfl sz3 rfl) ?_
    refine d_q rfl rfl (.on rfl rfl rfl (decide_eq_false (by omega))) rfl rfl (q_loadF rfl one3 rfl (.own Sel.here) (getmap (by rw [smps_len]; omega)) rfl) ?_
    refine d_q rfl rfl (.on rfl rfl rfl (decide_eq_false (by omega))) rfl rfl (q_fieldB (d := 8) rfl Try.underlying49 rfl rfl sz47 rfl) ?_
    refine d_q rfl rfl (.on rfl rfl rfl (decide_eq_false (by omega))) rfl rfl (q_fieldB (d := 11) rfl Try.underlying47 rfl rfl sz3 rfl) ?_
    refine d_q rfl rfl (.on rfl rfl rfl (decide_eq_false (by omega))) rfl rfl (q_loadB rfl one3 rfl (.there (.there Sel.here)) rfl) ?_
    refine d_q rfl rfl (.on rfl rfl rfl (decide_eq_false (by omega))) rfl rfl (q_gtr rfl rfl rfl) ?_
    refine d_q rfl rfl (.none rfl) rfl rfl (q_pickF rfl rfl (decide_eq_false (by omega)) rfl) ?_
    refine d_q rfl rfl (.none rfl) rfl rfl (q_move rfl rfl) ?_
    refine d_q rfl rfl (.on rfl rfl rfl (decide_eq_false (by omega))) rfl rfl (q_move rfl rfl) ?_
    refine d_q rfl rfl (.on rfl rfl rfl (decide_eq_false (by omega))) rfl rfl (q_gtr rfl rfl rfl) ?_
    refine d_q rfl rfl (.on rfl rfl rfl (decide_eq_false (by omega))) rfl rfl (q_move rfl rfl) ?_
    refine d_split 101 rfl (fun g101 => ?_) (fun g101 => ?_)
    · have g101' := g101
      try simp only [decide_eq_true_eq, decide_eq_false_iff_not, beq_iff_eq, beq_eq_false_iff_ne, bne_iff_ne, bne_eq_false_iff_eq, Bool.not_eq_true', Bool.not_eq_false', ne_eq, Int.not_lt, Int.not_le, Decidable.not_not] at g101'
      refine d_q rfl rfl (.on rfl rfl rfl g101) rfl rfl (q_move rfl rfl) ?_
      refine d_q rfl rfl (.on rfl rfl rfl g101) rfl rfl (q_move rfl rfl) ?_
      refine d_q rfl rfl (.on rfl rfl rfl g101) rfl rfl (q_indexS (q := i) rfl Try.underlying71 sz69 rfl rfl (.own Sel.here) (by rw [List.length_map, smps_len]) rfl (by omega)) ?_
      refine d_q rfl rfl (.on rfl rfl rfl g101) rfl rfl (q_fieldAddr (d := 0) rfl Try.underlying69 rfl rfl sz3 rfl) ?_
      refine d_q rfl rfl (.on rfl rfl rfl g101) rfl rfl (q_loadF rfl one3 rfl (.own Sel.here) (getmap (by rw [smps_len]; omega)) rfl) ?_
      refine d_q rfl rfl (.on rfl rfl rfl g101) rfl rfl (q_move rfl rfl) ?_
      refine d_q rfl rfl (.on rfl rfl rfl g101) rfl rfl (q_move rfl rfl) ?_
      refine d_q rfl rfl (.on rfl rfl rfl g101) rfl rfl (q_sub rfl rfl rfl (by omega)) ?_
      refine d_q rfl rfl (.on rfl rfl rfl g101) rfl rfl (q_indexS (q := (i - 1)) rfl Try.underlying71 sz69 rfl rfl (.own Sel.here) (by rw [List.length_map, smps_len]) (by omega) (by omega)) ?_
      refine d_q rfl rfl (.on rfl rfl rfl g101) rfl rfl (q_fieldAddr (d := 0) rfl Try.underlying69 rfl rfl sz3 rfl) ?_
      refine d_q rfl rfl (.on rfl rfl rfl g101) rfl rfl (q_loadF rfl one3 rfl (.own Sel.here) (getmap (by rw [smps_len]; omega)) rfl) ?_
      refine d_q rfl rfl (.on rfl rfl rfl g101) rfl rfl (q_lss rfl rfl rfl) ?_
      refine d_q rfl rfl (.on rfl rfl rfl (decide_eq_false (by omega))) rfl rfl (q_pickT rfl rfl g101 rfl) ?_
      refine d_q rfl rfl (.none rfl) rfl rfl (q_pickF rfl rfl (decide_eq_false (by omega)) rfl) ?_
      refine d_nil ?_
      refine run_sub (subMk (.cons (s := 6) rfl (.cons (s := 7) rfl (.cons (s := 8) rfl (.cons (s := 10) rfl (.cons (s := 12) rfl (.cons (s := 14) rfl (.cons (s := 115) rfl .nil))))))) .refl) ?_
      refine run_condF rfl (decide_eq_false (by have := hm (by omega); omega)) ?_
      refine run_skip ?_
      refine run_blk ?_
      refine run_region ?_
      refine run_q (.none rfl) rfl rfl (q_move rfl rfl) ?_
      refine run_q (.none rfl) rfl rfl (q_add rfl rfl rfl (by omega)) ?_
      refine run_q (.none rfl) rfl rfl (q_assign rfl rfl) ?_
      refine run_nil ?_
      refine run_sub (subMk (.cons (s := 6) rfl (.cons (s := 7) rfl (.cons (s := 8) rfl (.cons (s := 10) rfl (.cons (s := 12) rfl (.cons (s := 14) rfl .nil)))))) .refl) ?_
      exact run_again (i + 1) (by (try dsimp only); exact (by omega)) (by (try dsimp only); omega) (subMk (.cons' (s := 14) rfl (vint (by omega)) (.cons (s := 6) rfl (.cons (s := 7) rfl (.cons (s := 8) rfl (.cons (s := 10) rfl (.cons (s := 12) rfl .nil)))))) (.cons Sel.here .refl (.cons Sel.here .refl (.cons Sel.here .refl .nil))))
    · have g101' := g101
      try simp only [decide_eq_true_eq, decide_eq_false_iff_not, beq_iff_eq, beq_eq_false_iff_ne, bne_iff_ne, bne_eq_false_iff_eq, Bool.not_eq_true', Bool.not_eq_false', ne_eq, Int.not_lt, Int.not_le, Decidable.not_not] at g101'
      refine d_off rfl rfl (.no rfl rfl rfl g101) rfl rfl ?_
      refine d_off rfl rfl (.no rfl rfl rfl g101) rfl rfl ?_
      refine d_off rfl rfl (.no rfl rfl rfl g101) rfl rfl ?_
      refine d_off rfl rfl (.no rfl rfl rfl g101) rfl rfl ?_
      refine d_off rfl rfl (.no rfl rfl rfl g101) rfl rfl ?_
      refine d_off rfl rfl (.no rfl rfl rfl g101) rfl rfl ?_
      refine d_off rfl rfl (.no rfl rfl rfl g101) rfl rfl ?_
      refine d_off rfl rfl (.no rfl rfl rfl g101) rfl rfl ?_
      refine d_off rfl rfl (.no rfl rfl rfl g101) rfl rfl ?_
      refine d_off rfl rfl (.no rfl rfl rfl g101) rfl rfl ?_
      refine d_off rfl rfl (.no rfl rfl rfl g101) rfl rfl ?_
      refine d_off rfl rfl (.no rfl rfl rfl g101) rfl rfl ?_
      refine d_q rfl rfl (.on rfl rfl rfl (decide_eq_false (by omega))) rfl rfl (q_pickF rfl rfl g101 rfl) ?_
      refine d_q rfl rfl (.none rfl) rfl rfl (q_pickF rfl rfl (decide_eq_false (by omega)) rfl) ?_
      refine d_nil ?_
      refine run_sub (subMk (.cons (s := 6) rfl (.cons (s := 7) rfl (.cons (s := 8) rfl (.cons (s := 10) rfl (.cons (s := 12) rfl (.cons (s := 14) rfl (.cons (s := 115) rfl .nil))))))) .refl) ?_
      refine run_condF rfl rfl ?_
      refine run_skip ?_
      refine run_blk ?_
      refine run_region ?_
      refine run_q (.none rfl) rfl rfl (q_move rfl rfl) ?_
      refine run_q (.none rfl) rfl rfl (q_add rfl rfl rfl (by omega)) ?_
      refine run_q (.none rfl) rfl rfl (q_assign rfl rfl) ?_
      refine run_nil ?_
      refine run_sub (subMk (.cons (s := 6) rfl (.cons (s := 7) rfl (.cons (s := 8) rfl (.cons (s := 10) rfl (.cons (s := 12) rfl (.cons (s := 14) rfl .nil)))))) .refl) ?_
      exact run_again (i + 1) (by (try dsimp only); exact (by omega)) (by (try dsimp only); omega) (subMk (.cons' (s := 14) rfl (vint (by omega)) (.cons (s := 6) rfl (.cons (s := 7) rfl (.cons (s := 8) rfl (.cons (s := 10) rfl (.cons (s := 12) rfl .nil)))))) (.cons Sel.here .refl (.cons Sel.here .refl (.cons Sel.here .refl .nil))))
  · have g56' := g56
    try simp only [decide_eq_true_eq, decide_eq_false_iff_not, beq_iff_eq, beq_eq_false_iff_ne, bne_iff_ne, bne_eq_false_iff_eq, Bool.not_eq_true', Bool.not_eq_false', ne_eq, Int.not_lt, Int.not_le, Decidable.not_not] at g56'
    refine run_exit rfl ?_
    refine run_sub (subMk (.cons (s := 6) rfl (.cons (s := 10) rfl (.cons (s := 12) rfl .nil))) .refl) ?_
    refine run_seq ?_
    refine run_draw [(0, 0), (1, 0), (2, 0), (3, 0), (4, 0), (5, 0), (6, 0), (7, 0), (8, 0), (9, 0), (10, 0), (11, 0), (12, 0), (13, 0), (14, 0)] mixed (by kernel_rfl) .refl ?_
    refine d_q rfl rfl (.none rfl) rfl rfl (q_move rfl rfl) ?_
    refine d_q rfl rfl (.none rfl) rfl rfl (q_indexS (q := 0) rfl Try.underlying71 sz69 rfl rfl (.own Sel.here) (by rw [List.length_map, smps_len]) rfl (by omega)) ?_
    refine d_q rfl rfl (.none rfl) rfl rfl (q_loadE rfl agg69 rfl (.own Sel.here) (getmap (by rw [smps_len]; omega)) rfl) ?_
    refine d_q rfl rfl (.none rfl) rfl rfl (q_indexB (q := 0) (d := 0) rfl Try.underlying70 sz69 rfl rfl rfl (by decide) rfl) ?_
    refine d_q rfl rfl (.none rfl) rfl rfl (q_loadBN rfl agg69 rfl (.there Sel.here) (.cons rfl (.cons rfl CellsAt.nil)) rfl) ?_
    refine d_q rfl rfl (.none rfl) rfl rfl (q_eqlS rfl rfl rfl eqg69 (fun w => eqs69 _ _ _ _ w)) ?_
    refine d_q rfl rfl (.none rfl) rfl rfl (q_move rfl rfl) ?_
    refine d_q rfl rfl (.on rfl rfl rfl (by rw [smp_0 (d := ((5 + (b % 4000) - 5) / 4)) (w := (b % 4000)) (n := (10 + (a % 1000))) (f := 10 + (a % 1000) + (-1) * (4 * (10 + (a % 1000) - 10) / 3)) ]; simp)) rfl rfl (q_move rfl rfl) ?_
    refine d_q rfl rfl (.on rfl rfl rfl (by rw [smp_0 (d := ((5 + (b % 4000) - 5) / 4)) (w := (b % 4000)) (n := (10 + (a % 1000))) (f := 10 + (a % 1000) + (-1) * (4 * (10 + (a % 1000) - 10) / 3)) ]; simp)) rfl rfl (q_indexS (q := 64) rfl Try.underlying71 sz69 rfl rfl (.own Sel.here) (by rw [List.length_map, smps_len]) rfl (by omega)) ?_
    refine d_q rfl rfl (.on rfl rfl rfl (by rw [smp_0 (d := ((5 + (b % 4000) - 5) / 4)) (w := (b % 4000)) (n := (10 + (a % 1000))) (f := 10 + (a % 1000) + (-1) * (4 * (10 + (a % 1000) - 10) / 3)) ]; simp)) rfl rfl (q_loadE rfl agg69 rfl (.own Sel.here) (getmap (by rw [smps_len]; omega)) rfl) ?_
    refine d_q rfl rfl (.on rfl rfl rfl (by rw [smp_0 (d := ((5 + (b % 4000) - 5) / 4)) (w := (b % 4000)) (n := (10 + (a % 1000))) (f := 10 + (a % 1000) + (-1) * (4 * (10 + (a % 1000) - 10) / 3)) ]; simp)) rfl rfl (q_indexB (q := 3) (d := 6) rfl Try.underlying70 sz69 rfl rfl rfl (by decide) rfl) ?_
    refine d_q rfl rfl (.on rfl rfl rfl (by rw [smp_0 (d := ((5 + (b % 4000) - 5) / 4)) (w := (b % 4000)) (n := (10 + (a % 1000))) (f := 10 + (a % 1000) + (-1) * (4 * (10 + (a % 1000) - 10) / 3)) ]; simp)) rfl rfl (q_loadBN rfl agg69 rfl (.there Sel.here) (.cons rfl (.cons rfl CellsAt.nil)) rfl) ?_
    refine d_q rfl rfl (.on rfl rfl rfl (by rw [smp_0 (d := ((5 + (b % 4000) - 5) / 4)) (w := (b % 4000)) (n := (10 + (a % 1000))) (f := 10 + (a % 1000) + (-1) * (4 * (10 + (a % 1000) - 10) / 3)) ]; simp)) rfl rfl (q_eqlS rfl rfl rfl eqg69 (fun w => eqs69 _ _ _ _ w)) ?_
    refine d_q rfl rfl (.none rfl) rfl rfl (q_pickT rfl rfl (by rw [smp_0 (d := ((5 + (b % 4000) - 5) / 4)) (w := (b % 4000)) (n := (10 + (a % 1000))) (f := 10 + (a % 1000) + (-1) * (4 * (10 + (a % 1000) - 10) / 3)) ]; simp) rfl) ?_
    refine d_q rfl rfl (.none rfl) rfl rfl (q_assign rfl rfl) ?_
    refine d_nil ?_
    refine run_sub (subMk (.cons (s := 6) rfl .nil) .refl) ?_
    refine run_ret ?_
    exact end1 rfl rfl (by rw [smp_64 (d := ((5 + (b % 4000) - 5) / 4)) (w := (b % 4000)) (n := (10 + (a % 1000))) (f := 10 + (a % 1000) + (-1) * (4 * (10 + (a % 1000) - 10) / 3)) ]; simp)

theorem law11_just (a b : Int) (up : Bool) (W : World) (ha : 0 ≤ a) (hb : 0 ≤ b) : Calls Try.prog 11 #[.int .u16 a, .int .u16 b, .bool up] W (Hr.Just W (.bool true)) := by
  cases up
  · exact law11_1 a b W ha hb
  · exact law11_m a b W ha hb

end Go.Proofs.Ytomhegnaojejnaa
