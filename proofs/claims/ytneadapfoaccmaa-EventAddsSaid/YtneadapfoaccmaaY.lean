/- A head taken out, in the program. -/
import Derived.Test.YtneadapfoaccmaaR
import Derived.Test.YtneadapfoaccmaaM
import Derived.Test.YtneadapfoaccmaaRem
import Derived.Test.YtneadapfoaccmaaDel
set_option linter.unusedSimpArgs false
set_option linter.unusedVariables false
namespace Go.Proofs.Ytneadapfoaccmaa
open Go Go.RowKit Hr

theorem call26 : Hr.Callable Try.prog 26 := fun args w => by kernel_rfl
theorem call25 : Hr.Callable Try.prog 25 := fun args w => by kernel_rfl
theorem call33 : Hr.Callable Try.prog 33 := fun args w => by kernel_rfl
theorem call30 : Hr.Callable Try.prog 30 := fun args w => by kernel_rfl
theorem sz4 : Hr.Sz Try.prog 4 1 := Hr.Sz.of (by kernel_rfl)
theorem call74 : Hr.Callable Try.prog 74 := fun args w => by kernel_rfl
theorem call75 : Hr.Callable Try.prog 75 := fun args w => by kernel_rfl
theorem call73 : Hr.Callable Try.prog 73 := fun args w => by kernel_rfl
theorem call39 : Hr.Callable Try.prog 39 := fun args w => by kernel_rfl
theorem call40 : Hr.Callable Try.prog 40 := fun args w => by kernel_rfl
theorem call41 : Hr.Callable Try.prog 41 := fun args w => by kernel_rfl
theorem call42 : Hr.Callable Try.prog 42 := fun args w => by kernel_rfl
theorem call63 : Hr.Callable Try.prog 63 := fun args w => by kernel_rfl

set_option maxHeartbeats 1000000 in
set_option maxRecDepth 100000 in
theorem del1_ret (l : List Hd) (A : Option Addr) (ca i : Nat) (W : World) (hm : Mem (atAny [.own 53 5 A l.length ca ((l).map Hd.enc)]) W [.own 53 5 A l.length ca ((l).map Hd.enc)] W) (hl : l.length ≤ 1000000) (hi : i < l.length) : Calls Try.prog 63 #[.slice A l.length ca, .int .i64 (i : Int), .int .i64 ((i : Int) + 1)] W (Ret W (atAny [.own 53 5 A l.length ca ((l).map Hd.enc)]) (fun v m => v = .slice A (remL l i).length ca ∧ m = [.own 53 5 A (remL l i).length ca (((remL l i)).map Hd.enc)])) := by
  have hrl := remL_len hi
  refine enterA (X := _) (vs := [.slice A l.length ca, .int .i64 (i : Int), .int .i64 ((i : Int) + 1)]) Try.func63 Try.ntmps63 rfl rfl hm ?_
  refine run_seq ?_
  refine run_region ?_
  refine run_q (.none rfl) rfl rfl (q_assign rfl rfl) ?_
  refine run_nil ?_
  refine run_seq ?_
  refine run_ownLe Sel.here (fun hle => ?_)
  refine run_region ?_
  refine run_q (.none rfl) rfl rfl (q_move rfl rfl) ?_
  refine run_q (.none rfl) rfl rfl (q_move rfl rfl) ?_
  refine run_q (.none rfl) rfl rfl (q_move rfl rfl) ?_
  refine run_q (.none rfl) rfl rfl (q_move rfl rfl) ?_
  refine run_q (.none rfl) rfl rfl (q_len rfl Try.underlying26 rfl) ?_
  refine run_q (.none rfl) rfl rfl (q_sliceLHM rfl Try.underlying26 sz53 rfl rfl rfl rfl (by omega)) ?_
  refine run_nil ?_
  refine run_sub (subMk (.cons (s := 0) rfl (.cons (s := 1) rfl (.cons (s := 2) rfl (.cons (s := 6) rfl .nil)))) .refl) ?_
  refine run_seq ?_
  refine run_seq ?_
  refine run_region ?_
  refine run_q (.none rfl) rfl rfl (q_move rfl rfl) ?_
  refine run_q (.none rfl) rfl rfl (q_move rfl rfl) ?_
  refine run_q (.none rfl) rfl rfl (q_eql rfl rfl rfl) ?_
  refine run_nil ?_
  refine run_condF rfl (decide_eq_false (by omega)) ?_
  refine run_skip ?_
  refine run_seq ?_
  refine run_region ?_
  refine run_q (.none rfl) rfl rfl (q_move rfl rfl) ?_
  refine run_q (.none rfl) rfl rfl (q_len rfl Try.underlying26 rfl) ?_
  refine run_q (.none rfl) rfl rfl (q_assign rfl rfl) ?_
  refine run_nil ?_
  refine run_sub (subMk (.cons (s := 0) rfl (.cons (s := 1) rfl (.cons (s := 2) rfl (.cons (s := 6) rfl (.cons (s := 7) rfl .nil))))) .refl) ?_
  refine run_seq ?_
  refine run_draw [(0, 0), (1, 0), (2, 0), (3, 0), (4, 0), (5, 0), (6, 2), (7, 2)] mixed (by kernel_rfl) .refl ?_
  refine d_q rfl rfl (.none rfl) rfl rfl (q_move rfl rfl) ?_
  refine d_q rfl rfl (.none rfl) rfl rfl (q_move rfl rfl) ?_
  refine d_q rfl rfl (.none rfl) rfl rfl (q_sliceH rfl Try.underlying26 sz53 rfl rfl (by omega)) ?_
  refine d_q rfl rfl (.none rfl) rfl rfl (q_move rfl rfl) ?_
  refine d_q rfl rfl (.none rfl) rfl rfl (q_move rfl rfl) ?_
  refine d_q rfl rfl (.none rfl) rfl rfl (q_sliceL rfl Try.underlying26 sz53 rfl rfl (by omega)) ?_
  refine d_t rfl rfl (.none rfl) (h_appSelf (j := (i + 1)) (i' := (remL l i).length) rfl rfl rfl Try.underlying26 info53 rfl rfl rfl rfl (by omega) (by omega) (by omega) Sel.here (fun z hz => Hd_all hz) (by omega)) ?_
  rintro - -
  refine d_t rfl rfl (.none rfl) (.of_q rfl rfl (q_assign rfl rfl)) ?_
  rintro - -
  refine d_nil ?_
  refine run_sub (subMk (.cons (s := 0) rfl (.cons (s := 6) rfl (.cons (s := 7) rfl .nil))) .refl) ?_
  refine run_seq ?_
  refine run_region ?_
  refine run_q (.none rfl) rfl rfl (q_move rfl rfl) ?_
  refine run_q (.none rfl) rfl rfl (q_move rfl rfl) ?_
  refine run_q (.none rfl) rfl rfl (q_len rfl Try.underlying26 rfl) ?_
  refine run_q (.none rfl) rfl rfl (q_move rfl rfl) ?_
  refine run_q (.none rfl) rfl rfl (q_sliceLH rfl Try.underlying26 sz53 rfl rfl rfl (by omega)) ?_
  refine run_h (.none rfl) (h_clear (i := (remL l i).length) rfl rfl Try.underlying26 info53 rfl rfl rfl rfl (by omega) Sel.here) ?_
  rintro - -
  refine run_nil ?_
  refine run_sub (subMk (.cons (s := 0) rfl (.cons (s := 6) rfl .nil)) .refl) ?_
  refine run_seq ?_
  refine run_region ?_
  refine run_q (.none rfl) rfl rfl (q_move rfl rfl) ?_
  refine run_q (.none rfl) rfl rfl (q_assign rfl rfl) ?_
  refine run_nil ?_
  refine run_ret ?_
  refine run_sub (subMk .refl (.cons Sel.here (.ownTake (n' := (remL l i).length) (m' := (remL l i).length) (ls' := (remL l i).map Hd.enc) rfl rfl (by omega) (remL_row hi hrl).symm) .nil)) ?_
  exact end1 rfl rfl ⟨rfl, rfl⟩

set_option maxHeartbeats 2000000 in
set_option maxRecDepth 100000 in
theorem rem_more (x : Evt) (p : Lie) (i : Nat) (W : World) (hx : RdE W x p) (fx : x.few) (h : rmE x i = 0) (h1 : x.hs.length ≠ 1) : Calls Try.prog 27 #[evV x p, .int .i64 (i : Int)] W (Ret W nX (fun v m => ∃ q : Lie, v = .tuple #[evV (remX x i) q, .int .i64 0] ∧ m = [.own 53 5 q.HA (remX x i).hs.length q.hc ((remX x i).hs.map Hd.enc), .own 55 5 q.GA (remX x i).gs.length q.gc ((remX x i).gs.map Gr.enc), .own 57 2 q.LA (remX x i).ls.length q.lc ((remX x i).ls.map Syl.enc)])) := by
  obtain ⟨fx1, fx2, fx3, fx4⟩ := id fx
  obtain ⟨h2, h3, h4, h5⟩ := rmE_ok h
  refine enterA (X := nX) (vs := [evV x p, .int .i64 (i : Int)]) Try.func27 Try.ntmps27 rfl rfl Mem.nil ?_
  refine run_seq ?_
  refine run_region ?_
  refine run_h (.none rfl) (h_box rfl rfl rfl rfl rfl) ?_
  rintro b2 -
  refine run_h (.none rfl) (h_alloc rfl rfl rfl info30) ?_
  rintro b4 -
  refine run_q (.none rfl) rfl rfl (q_assign rfl rfl) ?_
  refine run_nil ?_
  refine run_seq ?_
  refine run_seq ?_
  refine run_region ?_
  refine run_q (.none rfl) rfl rfl (q_loadBN rfl agg30 rfl (.there Sel.here) (.cons rfl (.cons rfl (.cons rfl (.cons rfl (.cons rfl (.cons rfl (.cons rfl (.cons rfl (.cons rfl (.cons rfl (.cons rfl (.cons rfl (.cons rfl CellsAt.nil))))))))))))) rfl) ?_
  refine run_q (.none rfl) rfl rfl (q_call rfl call15 (.cons rfl Evs.nil) (fun w hk hm => evCheck_just x p w (hx.kept0 hk) fx)) ?_
  refine run_q (.none rfl) rfl rfl (q_assign rfl rfl) ?_
  refine run_nil ?_
  refine run_sub (subMk (.cons (s := 1) rfl (.cons (s := 2) rfl (.cons (s := 4) rfl (.cons (s := 5) rfl (.cons (s := 6) rfl .nil))))) .refl) ?_
  refine run_seq ?_
  refine run_region ?_
  refine run_q (.none rfl) rfl rfl (q_move rfl rfl) ?_
  refine run_q (.none rfl) rfl rfl (q_neq rfl rfl rfl) ?_
  refine run_nil ?_
  refine run_condF rfl (by rw [h2]; rfl) ?_
  refine run_skip ?_
  refine run_seq ?_
  refine run_seq ?_
  refine run_region ?_
  refine run_q (.none rfl) rfl rfl (q_fieldB (d := 2) rfl Try.underlying30 rfl rfl sz3 rfl) ?_
  refine run_q (.none rfl) rfl rfl (q_loadB rfl one3 rfl (.there Sel.here) rfl) ?_
  refine run_q (.none rfl) rfl rfl (q_neq rfl rfl rfl) ?_
  refine run_nil ?_
  refine run_sub (subMk (.cons (s := 1) rfl (.cons (s := 2) rfl (.cons (s := 4) rfl (.cons (s := 5) rfl (.cons (s := 15) rfl .nil))))) .refl) ?_
  refine run_condF rfl (by rw [h3]; rfl) ?_
  refine run_skip ?_
  refine run_seq ?_
  refine run_seq ?_
  refine run_region ?_
  refine run_q (.none rfl) rfl rfl (q_move rfl rfl) ?_
  refine run_q (.none rfl) rfl rfl (q_lss rfl rfl rfl) ?_
  refine run_q (.none rfl) rfl rfl (q_move rfl rfl) ?_
  refine run_q (.on rfl rfl rfl (decide_eq_false (by omega))) rfl rfl (q_move rfl rfl) ?_
  refine run_q (.on rfl rfl rfl (decide_eq_false (by omega))) rfl rfl (q_fieldB (d := 5) rfl Try.underlying30 rfl rfl sz26 rfl) ?_
  refine run_q (.on rfl rfl rfl (decide_eq_false (by omega))) rfl rfl (q_loadB rfl one26 rfl (.there Sel.here) rfl) ?_
  refine run_q (.on rfl rfl rfl (decide_eq_false (by omega))) rfl rfl (q_len rfl Try.underlying26 rfl) ?_
  refine run_q (.on rfl rfl rfl (decide_eq_false (by omega))) rfl rfl (q_geq rfl rfl rfl) ?_
  refine run_q (.none rfl) rfl rfl (q_pickF rfl rfl (decide_eq_false (by omega)) rfl) ?_
  refine run_nil ?_
  refine run_sub (subMk (.cons (s := 1) rfl (.cons (s := 2) rfl (.cons (s := 4) rfl (.cons (s := 5) rfl (.cons (s := 25) rfl .nil))))) .refl) ?_
  refine run_condF rfl (decide_eq_false (by omega)) ?_
  refine run_skip ?_
  refine run_seq ?_
  refine run_seq ?_
  refine run_region ?_
  refine run_q (.none rfl) rfl rfl (q_fieldB (d := 5) rfl Try.underlying30 rfl rfl sz26 rfl) ?_
  refine run_q (.none rfl) rfl rfl (q_loadB rfl one26 rfl (.there Sel.here) rfl) ?_
  refine run_q (.none rfl) rfl rfl (q_len rfl Try.underlying26 rfl) ?_
  refine run_q (.none rfl) rfl rfl (q_eql rfl rfl rfl) ?_
  refine run_nil ?_
  refine run_sub (subMk (.cons (s := 1) rfl (.cons (s := 2) rfl (.cons (s := 4) rfl (.cons (s := 5) rfl (.cons (s := 30) rfl .nil))))) .refl) ?_
  refine run_condF rfl (beq_false_of_ne (by omega)) ?_
  refine run_skip ?_
  refine run_seq ?_
  refine run_region ?_
  refine run_q (.none rfl) rfl rfl (q_loadBN rfl agg30 rfl (.there Sel.here) (.cons rfl (.cons rfl (.cons rfl (.cons rfl (.cons rfl (.cons rfl (.cons rfl (.cons rfl (.cons rfl (.cons rfl (.cons rfl (.cons rfl (.cons rfl CellsAt.nil))))))))))))) rfl) ?_
  refine run_h (.none rfl) (h_call rfl rfl rfl call29 (.cons rfl Evs.nil) (fun w hk hm => evClone_ret x p w (hx.kept0 hk) fx)) ?_
  rintro ⟨v, m⟩ ⟨q, rfl, rfl⟩
  show Run _ _ _ _ _ _ _ ⟨(35, evV x q) :: _, _ :: _ :: _ :: _⟩
  refine run_h (.none rfl) (h_storeB rfl rfl sz30 rfl rfl rfl rfl rfl (.there (.there (.there (.there Sel.here)))) rfl) ?_
  rintro - -
  refine run_nil ?_
  refine run_sub (subMk (.cons (s := 1) rfl (.cons (s := 2) rfl (.cons (s := 4) rfl (.cons (s := 5) rfl .nil)))) .refl) ?_
  refine run_seq ?_
  refine run_region ?_
  refine run_q (.none rfl) rfl rfl (q_fieldB (d := 5) rfl Try.underlying30 rfl rfl sz26 rfl) ?_
  refine run_q (.none rfl) rfl rfl (q_loadB rfl one26 rfl Sel.here rfl) ?_
  refine run_q (.none rfl) rfl rfl (q_move rfl rfl) ?_
  refine run_q (.none rfl) rfl rfl (q_move rfl rfl) ?_
  refine run_q (.none rfl) rfl rfl (q_add rfl rfl rfl (by omega)) ?_
  refine run_h (.none rfl) (h_callX [_] _ rfl rfl rfl call63 (.cons rfl (.cons rfl (.cons rfl Evs.nil))) (Sel.perm (.there Sel.here)) (Y := fun _ => atAny [_]) (fun _ _ h => h) (fun w hk hm => del1_ret x.hs q.HA q.hc i w ((hm.perm (Sel.perm (.there Sel.here))).give (rs := [_])) (by omega) (by omega))) ?_
  rintro ⟨v, m⟩ ⟨rfl, rfl⟩
  show Run _ _ _ _ _ _ _ ⟨(41, .slice q.HA (remL x.hs i).length q.hc) :: _, _ :: _⟩
  refine run_q (.none rfl) rfl rfl (q_fieldB (d := 5) rfl Try.underlying30 rfl rfl sz26 rfl) ?_
  refine run_h (.none rfl) (h_storeB rfl rfl sz26 rfl rfl rfl rfl rfl (.there Sel.here) rfl) ?_
  rintro - -
  refine run_nil ?_
  refine run_sub (subMk (.cons (s := 2) rfl (.cons (s := 4) rfl (.cons (s := 5) rfl .nil))) .refl) ?_
  refine run_seq ?_
  refine run_region ?_
  refine run_q (.none rfl) rfl rfl (q_loadBN rfl agg30 rfl Sel.here (.cons rfl (.cons rfl (.cons rfl (.cons rfl (.cons rfl (.cons rfl (.cons rfl (.cons rfl (.cons rfl (.cons rfl (.cons rfl (.cons rfl (.cons rfl CellsAt.nil))))))))))))) rfl) ?_
  refine run_h (.none rfl) (h_storeB rfl rfl sz30 rfl rfl rfl rfl rfl (.there (.there (.there (.there Sel.here)))) rfl) ?_
  rintro - -
  refine run_q (.none rfl) rfl rfl (q_assign rfl rfl) ?_
  refine run_nil ?_
  refine run_ret ?_
  exact endG rfl (.cellN rfl agg30 Sel.here (.cons rfl (.cons rfl (.cons rfl (.cons rfl (.cons rfl (.cons rfl (.cons rfl (.cons rfl (.cons rfl (.cons rfl (.cons rfl (.cons rfl (.cons rfl CellsAt.nil))))))))))))) rfl (.tmp rfl Outs.nil)) _ (.cons (.there (.there Sel.here)) .refl (.cons (.there (.there Sel.here)) .refl (.cons (.there (.there Sel.here)) .refl .nil))) ⟨q, rfl, rfl⟩

set_option maxHeartbeats 2000000 in
set_option maxRecDepth 100000 in
theorem refrem_one (x : Evt) (p : Lie) (i : Int) (W : World) (hx : RdE W x p) (fx : x.few) (h1 : x.hs.length = 1) : Calls Try.prog 28 #[evV x p, .int .i64 i] W (Hr.Just W (evV (stripE (to2 x)) (stripP (to2 x) p))) := by
  obtain ⟨fx1, fx2, fx3, fx4⟩ := id fx
  refine Just.of_ret ?_
  refine enterA (X := nX) (vs := [evV x p, .int .i64 i]) Try.func28 Try.ntmps28 rfl rfl Mem.nil ?_
  refine run_seq ?_
  refine run_region ?_
  refine run_h (.none rfl) (h_box rfl rfl rfl rfl rfl) ?_
  rintro b2 -
  refine run_h (.none rfl) (h_alloc rfl rfl rfl info30) ?_
  rintro b4 -
  refine run_nil ?_
  refine run_seq ?_
  refine run_seq ?_
  refine run_region ?_
  refine run_q (.none rfl) rfl rfl (q_fieldB (d := 5) rfl Try.underlying30 rfl rfl sz26 rfl) ?_
  refine run_q (.none rfl) rfl rfl (q_loadB rfl one26 rfl (.there Sel.here) rfl) ?_
  refine run_q (.none rfl) rfl rfl (q_len rfl Try.underlying26 rfl) ?_
  refine run_q (.none rfl) rfl rfl (q_eql rfl rfl rfl) ?_
  refine run_nil ?_
  refine run_sub (subMk (.cons (s := 1) rfl (.cons (s := 2) rfl (.cons (s := 4) rfl (.cons (s := 8) rfl .nil)))) .refl) ?_
  refine run_condT rfl (by rw [h1]; rfl) ?_
  refine run_seq ?_
  refine run_region ?_
  refine run_q (.none rfl) rfl rfl (q_fieldB (d := 2) rfl Try.underlying30 rfl rfl sz3 rfl) ?_
  refine run_h (.none rfl) (h_storeB rfl rfl sz3 rfl rfl rfl rfl rfl (.there Sel.here) rfl) ?_
  rintro - -
  refine run_nil ?_
  refine run_seq ?_
  refine run_region ?_
  refine run_q (.none rfl) rfl rfl (q_loadBN rfl agg30 rfl Sel.here (.cons rfl (.cons rfl (.cons rfl (.cons rfl (.cons rfl (.cons rfl (.cons rfl (.cons rfl (.cons rfl (.cons rfl (.cons rfl (.cons rfl (.cons rfl CellsAt.nil))))))))))))) rfl) ?_
  refine run_q (.none rfl) rfl rfl (q_call rfl call50 (.cons rfl Evs.nil) (fun w hk hm => refstrip_just (to2 x) p w ⟨hx.h.kept0 hk, hx.g.kept0 hk, hx.l.kept0 hk⟩ fx)) ?_
  refine run_h (.none rfl) (h_storeB rfl rfl sz30 rfl rfl rfl rfl rfl (.there Sel.here) rfl) ?_
  rintro - -
  refine run_nil ?_
  refine run_sub (subMk (.cons (s := 1) rfl (.cons (s := 2) rfl (.cons (s := 4) rfl .nil))) .refl) ?_
  refine run_ret ?_
  exact endG rfl (.cellN rfl agg30 Sel.here (.cons rfl (.cons rfl (.cons rfl (.cons rfl (.cons rfl (.cons rfl (.cons rfl (.cons rfl (.cons rfl (.cons rfl (.cons rfl (.cons rfl (.cons rfl CellsAt.nil))))))))))))) rfl Outs.nil) _ .nil rfl

set_option maxHeartbeats 2000000 in
set_option maxRecDepth 100000 in
theorem refrem_more (x : Evt) (p : Lie) (i : Nat) (W : World) (hx : RdE W x p) (fx : x.few) (hi : i < x.hs.length) (h1 : x.hs.length ≠ 1) (hcp : x.hs.length ≤ p.hc) : Calls Try.prog 28 #[evV x p, .int .i64 (i : Int)] W (Ret W nX (fun v m => ∃ O co, v = evV (remX x i) (Lie.mk O co p.GA p.gc p.LA p.lc) ∧ m = [.own 53 5 O (remL x.hs i).length co ((remL x.hs i).map Hd.enc)])) := by
  obtain ⟨fx1, fx2, fx3, fx4⟩ := id fx
  have hrl := remL_len hi
  refine enterA (X := nX) (vs := [evV x p, .int .i64 (i : Int)]) Try.func28 Try.ntmps28 rfl rfl Mem.nil ?_
  refine run_seq ?_
  refine run_region ?_
  refine run_h (.none rfl) (h_box rfl rfl rfl rfl rfl) ?_
  rintro b2 -
  refine run_h (.none rfl) (h_alloc rfl rfl rfl info30) ?_
  rintro b4 -
  refine run_nil ?_
  refine run_seq ?_
  refine run_seq ?_
  refine run_region ?_
  refine run_q (.none rfl) rfl rfl (q_fieldB (d := 5) rfl Try.underlying30 rfl rfl sz26 rfl) ?_
  refine run_q (.none rfl) rfl rfl (q_loadB rfl one26 rfl (.there Sel.here) rfl) ?_
  refine run_q (.none rfl) rfl rfl (q_len rfl Try.underlying26 rfl) ?_
  refine run_q (.none rfl) rfl rfl (q_eql rfl rfl rfl) ?_
  refine run_nil ?_
  refine run_sub (subMk (.cons (s := 1) rfl (.cons (s := 2) rfl (.cons (s := 4) rfl (.cons (s := 8) rfl .nil)))) .refl) ?_
  refine run_condF rfl (beq_false_of_ne (by omega)) ?_
  refine run_skip ?_
  refine run_seq ?_
  refine run_draw [(1, 0), (2, 0), (3, 0), (4, 0), (6, 0), (7, 0), (8, 0), (9, 0), (10, 0), (0, 1), (5, 1), (11, 2), (12, 2), (13, 2)] mixed (by kernel_rfl) .refl ?_
  refine d_q rfl rfl (.none rfl) rfl rfl (q_fieldB (d := 5) rfl Try.underlying30 rfl rfl sz26 rfl) ?_
  refine d_q rfl rfl (.none rfl) rfl rfl (q_loadB rfl one26 rfl (.there Sel.here) rfl) ?_
  refine d_q rfl rfl (.none rfl) rfl rfl (q_move rfl rfl) ?_
  refine d_q rfl rfl (.none rfl) rfl rfl (q_sliceH rfl Try.underlying26 sz53 rfl rfl (by omega)) ?_
  refine d_q rfl rfl (.none rfl) rfl rfl (q_fieldB (d := 5) rfl Try.underlying30 rfl rfl sz26 rfl) ?_
  refine d_q rfl rfl (.none rfl) rfl rfl (q_loadB rfl one26 rfl (.there Sel.here) rfl) ?_
  refine d_q rfl rfl (.none rfl) rfl rfl (q_move rfl rfl) ?_
  refine d_q rfl rfl (.none rfl) rfl rfl (q_add rfl rfl rfl (by omega)) ?_
  refine d_q rfl rfl (.none rfl) rfl rfl (q_sliceL rfl Try.underlying26 sz53 rfl rfl (by omega)) ?_
  refine d_h rfl rfl (.none rfl) (h_buildSlice rfl rfl rfl Try.underlying26 info53 Parts.nil rfl (by omega)) (fun _ _ => (.sub (by repeat (first | exact List.Sublist.refl _ | apply List.Sublist.cons)))) ?_
  rintro b12 -
  refine d_h rfl rfl (.none rfl) (h_append rfl rfl rfl Try.underlying26 info53 rfl rfl Sel.here rfl ((RdS.inp hx.h .no).take i) (by simp; omega) (fun z hz => Hd_len (List.mem_of_mem_take hz)) (fun z hz => Hd_all (List.mem_of_mem_take hz)) (by omega) (by omega)) (fun _ _ => (.sub (by repeat (first | exact List.Sublist.refl _ | apply List.Sublist.cons)))) ?_
  rintro ⟨A17, c17⟩ -
  refine d_t rfl rfl (.none rfl) (h_append rfl rfl rfl Try.underlying26 info53 rfl rfl Sel.here rfl ((RdS.inp hx.h .no).cut (l := i + 1) (c := p.hc) (by rw [List.length_map]; exact hcp)) (by simp; try omega) (fun z hz => Hd_len (List.mem_of_mem_drop hz)) (fun z hz => Hd_all (List.mem_of_mem_drop hz)) (by omega) (by omega)) ?_
  rintro ⟨A23, c23⟩ -
  refine d_t rfl rfl (.none rfl) (.of_q rfl rfl (q_fieldB (d := 5) rfl Try.underlying30 rfl rfl sz26 rfl)) ?_
  rintro - -
  refine d_t rfl rfl (.none rfl) (h_storeB rfl rfl sz26 rfl rfl rfl rfl rfl (.there (.there Sel.here)) rfl) ?_
  rintro - -
  refine d_nil ?_
  refine run_sub (subMk (.cons (s := 2) rfl (.cons (s := 4) rfl .nil)) .refl) ?_
  refine run_seq ?_
  refine run_sub (subMk .refl (.cons Sel.here (.blk (.cons (s := 0) rfl (.cons (s := 1) rfl (.cons (s := 2) rfl (.cons (s := 3) rfl (.cons (s := 4) rfl (.cons' (s := 5) (v' := .slice A23 (remL x.hs i).length c23) rfl (by rw [hrl]; congr 1; omega) (.cons (s := 6) rfl (.cons (s := 7) rfl (.cons (s := 8) rfl (.cons (s := 9) rfl (.cons (s := 10) rfl (.cons (s := 11) rfl (.cons (s := 12) rfl (.nil))))))))))))))) (.cons Sel.here (.own (m' := (remL x.hs i).length) (xs' := (remL x.hs i).map Hd.enc) rfl (by rw [hrl]; omega) rfl remL_mapRow) (.cons Sel.here .refl .nil)))) ?_
  refine run_region ?_
  refine run_q (.none rfl) rfl rfl (q_loadBN rfl agg30 rfl Sel.here (.cons rfl (.cons rfl (.cons rfl (.cons rfl (.cons rfl (.cons rfl (.cons rfl (.cons rfl (.cons rfl (.cons rfl (.cons rfl (.cons rfl (.cons rfl CellsAt.nil))))))))))))) rfl) ?_
  refine run_h (.none rfl) (h_storeB rfl rfl sz30 rfl rfl rfl rfl rfl (.there (.there Sel.here)) rfl) ?_
  rintro - -
  refine run_nil ?_
  refine run_ret ?_
  exact endG rfl (.cellN rfl agg30 Sel.here (.cons rfl (.cons rfl (.cons rfl (.cons rfl (.cons rfl (.cons rfl (.cons rfl (.cons rfl (.cons rfl (.cons rfl (.cons rfl (.cons rfl (.cons rfl CellsAt.nil))))))))))))) rfl Outs.nil) _ (.cons (.there (.there Sel.here)) .refl .nil) ⟨A23, c23, rfl, rfl⟩

end Go.Proofs.Ytneadapfoaccmaa
