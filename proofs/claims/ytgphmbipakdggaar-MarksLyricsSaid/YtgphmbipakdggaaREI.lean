/- An event cut short, in the chapter's own way. -/
import Derived.Test.YtgphmbipakdggaaREH
set_option linter.unusedSimpArgs false
set_option linter.unusedVariables false
namespace Go.Proofs.YtgphmbipakdggaaR.Ev
open Go Go.RowKit Hr

theorem call77 : Hr.Callable Try.prog 77 := fun args w => by kernel_rfl
theorem built123p0 (x0yA : Option Addr) (x0yn x0yc : Nat) : Try.prog.built 123 [(0, .slice x0yA x0yn x0yc)] = some #[.slice x0yA x0yn x0yc, .slice none 0 0] := by kernel_rfl
theorem built127p1 (x1yA : Option Addr) (x1yn x1yc : Nat) : Try.prog.built 127 [(1, .slice x1yA x1yn x1yc)] = some #[.slice none 0 0, .slice x1yA x1yn x1yc] := by kernel_rfl
theorem built118p13 (x13yA : Option Addr) (x13yn x13yc : Nat) : Try.prog.built 118 [(13, .slice x13yA x13yn x13yc)] = some #[.int .i64 0, .int .i64 0, .int .i64 0, .int .i64 0, .int .i64 0, .int .i64 0, .int .i64 0, .int .i64 0, .int .i64 0, .int .i64 0, .int .i64 0, .int .i64 0, .bool false, .int .i64 0, .int .i64 0, .int .i64 0, .int .i64 0, .int .i64 0, .int .i64 0, .string (ByteArray.mk #[]), .slice none 0 0, .slice x13yA x13yn x13yc] := by kernel_rfl
theorem call55 : Hr.Callable Try.prog 55 := fun args w => by kernel_rfl

set_option maxHeartbeats 2000000 in
set_option maxRecDepth 100000 in
theorem ShortM_ret (x : Evt) (p : Lie) (E V C : Option Addr) (ec vc cc : Nat) (W : World) (hC : Rd W C 2 [[.slice none 0 0, .slice V 1 vc]]) (hV : Rd W V 2 [[.slice E 1 ec, .slice none 0 0]]) (hE : Rd W E 13 [evC x p]) (hx : RdE W x p) (bh : x.hs.length * 40 ≤ 140737488355328) (bg : x.gs.length * 40 ≤ 140737488355328) (bl : x.ls.length * 24 ≤ 140737488355328) : Calls Try.prog 55 #[.agg #[.int .i64 0, .int .i64 0, .int .i64 0, .int .i64 0, .int .i64 0, .int .i64 0, .int .i64 0, .int .i64 0, .int .i64 0, .int .i64 0, .int .i64 0, .int .i64 0, .bool false, .int .i64 0, .int .i64 0, .int .i64 0, .int .i64 0, .int .i64 0, .int .i64 0, .string (ByteArray.mk #[]), .slice none 0 0, .slice C 1 cc]] W (Ret W nX (fun v m => ∃ (q : Lie) (O1 O2 O3 A1 A2 A3 : Option Addr) (c1 c2 c3 d1 d2 d3 : Nat) (S : ByteArray), v = .agg #[.int .i64 0, .int .i64 0, .int .i64 0, .int .i64 0, .int .i64 0, .int .i64 0, .int .i64 0, .int .i64 0, .int .i64 0, .int .i64 0, .int .i64 0, .int .i64 0, .bool false, .int .i64 0, .int .i64 0, .int .i64 0, .int .i64 0, .int .i64 0, .int .i64 0, .string S, .slice A3 0 d3, .slice O1 1 c1] ∧ m = [.own 127 2 O1 1 c1 [[.slice A1 0 d1, .slice O2 1 c2]], .own 123 2 O2 1 c2 [[.slice O3 1 c3, .slice A2 0 d2]], .own 78 13 O3 1 c3 [evC (shE x) q], .own 152 5 q.HA (shE x).hs.length q.hc ((shE x).hs.map Hd.enc), .own 155 5 q.GA (shE x).gs.length q.gc ((shE x).gs.map Gr.enc), .own 86 2 q.LA (shE x).ls.length q.lc ((shE x).ls.map Syl.enc)])) := by
  refine enterA (X := nX) (vs := [.agg #[.int .i64 0, .int .i64 0, .int .i64 0, .int .i64 0, .int .i64 0, .int .i64 0, .int .i64 0, .int .i64 0, .int .i64 0, .int .i64 0, .int .i64 0, .int .i64 0, .bool false, .int .i64 0, .int .i64 0, .int .i64 0, .int .i64 0, .int .i64 0, .int .i64 0, .string (ByteArray.mk #[]), .slice none 0 0, .slice C 1 cc]]) Try.func55 Try.ntmps55 rfl rfl Mem.nil ?_
  refine run_seq ?_
  refine run_region ?_
  refine run_h (.none rfl) (h_box rfl rfl rfl rfl rfl) ?_
  rintro b1 -
  refine run_h (.none rfl) (h_alloc rfl rfl rfl info118) ?_
  rintro b2 -
  refine run_nil ?_
  refine run_seq ?_
  refine run_region ?_
  refine run_q (.none rfl) rfl rfl (q_loadBN rfl agg118 rfl (.there Sel.here) (.cons rfl (.cons rfl (.cons rfl (.cons rfl (.cons rfl (.cons rfl (.cons rfl (.cons rfl (.cons rfl (.cons rfl (.cons rfl (.cons rfl (.cons rfl (.cons rfl (.cons rfl (.cons rfl (.cons rfl (.cons rfl (.cons rfl (.cons rfl (.cons rfl (.cons rfl CellsAt.nil)))))))))))))))))))))) rfl) ?_
  refine run_h (.none rfl) (h_call rfl rfl rfl call77 (.cons rfl Evs.nil) (fun w hk hm => shortM_ret x p E V C ec vc cc w (hC.kept0 hk) (hV.kept0 hk) (hE.kept0 hk) (hx.kept0 hk) bh bg bl)) ?_
  rintro ⟨v, m⟩ ⟨q, O1, O2, O3, A1, A2, A3, c1, c2, c3, d1, d2, d3, S, rfl, rfl⟩
  show Run _ _ _ _ _ _ _ ⟨(4, .agg #[.int .i64 0, .int .i64 0, .int .i64 0, .int .i64 0, .int .i64 0, .int .i64 0, .int .i64 0, .int .i64 0, .int .i64 0, .int .i64 0, .int .i64 0, .int .i64 0, .bool false, .int .i64 0, .int .i64 0, .int .i64 0, .int .i64 0, .int .i64 0, .int .i64 0, .string S, .slice A3 0 d3, .slice O1 1 c1]) :: _, _ :: _ :: _ :: _ :: _ :: _ :: _⟩
  refine run_h (.none rfl) (h_storeB rfl rfl sz118 rfl rfl rfl rfl rfl (.there (.there (.there (.there (.there (.there Sel.here)))))) rfl) ?_
  rintro - -
  refine run_nil ?_
  refine run_sub (subMk (.cons (s := 2) rfl .nil) .refl) ?_
  refine run_ret ?_
  exact endG rfl (.cellN rfl agg118 Sel.here (.cons rfl (.cons rfl (.cons rfl (.cons rfl (.cons rfl (.cons rfl (.cons rfl (.cons rfl (.cons rfl (.cons rfl (.cons rfl (.cons rfl (.cons rfl (.cons rfl (.cons rfl (.cons rfl (.cons rfl (.cons rfl (.cons rfl (.cons rfl (.cons rfl (.cons rfl CellsAt.nil)))))))))))))))))))))) rfl Outs.nil) _ (.cons (.there Sel.here) .refl (.cons (.there Sel.here) .refl (.cons (.there Sel.here) .refl (.cons (.there Sel.here) .refl (.cons (.there Sel.here) .refl (.cons (.there Sel.here) .refl .nil)))))) ⟨q, O1, O2, O3, A1, A2, A3, c1, c2, c3, d1, d2, d3, S, rfl, rfl⟩

set_option maxHeartbeats 4000000 in
set_option maxRecDepth 100000 in
theorem short29_ret (x : Evt) (p : Lie) (W : World) (hx : RdE W x p) (bh : x.hs.length * 40 ≤ 140737488355328) (bg : x.gs.length * 40 ≤ 140737488355328) (bl : x.ls.length * 24 ≤ 140737488355328) : Calls Try.prog 32 #[evV x p] W (Ret W nX (fun v m => ∃ q : Lie, v = evV (shE x) q ∧ m = [.own 152 5 q.HA (shE x).hs.length q.hc ((shE x).hs.map Hd.enc), .own 155 5 q.GA (shE x).gs.length q.gc ((shE x).gs.map Gr.enc), .own 86 2 q.LA (shE x).ls.length q.lc ((shE x).ls.map Syl.enc)])) := by
  refine enterA (X := nX) (vs := [evV x p]) Try.func32 Try.ntmps32 rfl rfl Mem.nil ?_
  refine run_seq ?_
  refine run_region ?_
  refine run_h (.none rfl) (h_box rfl rfl rfl rfl rfl) ?_
  rintro b1 -
  refine run_h (.none rfl) (h_alloc rfl rfl rfl info78) ?_
  rintro b2 -
  refine run_nil ?_
  refine run_seq ?_
  refine run_region ?_
  refine run_q (.none rfl) rfl rfl (q_loadBN rfl agg78 rfl (.there Sel.here) (.cons rfl (.cons rfl (.cons rfl (.cons rfl (.cons rfl (.cons rfl (.cons rfl (.cons rfl (.cons rfl (.cons rfl (.cons rfl (.cons rfl (.cons rfl CellsAt.nil))))))))))))) rfl) ?_
  refine run_h (.none rfl) (h_buildSlice rfl rfl rfl Try.underlying120 info78 (.cons rfl rfl rfl rfl Parts.nil) rfl (by omega)) ?_
  rintro b5 -
  refine run_q (.none rfl) rfl rfl (q_build rfl (.cons rfl PV.nil) (built123p0 _ _ _)) ?_
  refine run_h (.none rfl) (h_buildSlice rfl rfl rfl Try.underlying124 info123 (.cons rfl rfl rfl rfl Parts.nil) rfl (by omega)) ?_
  rintro b7 -
  refine run_q (.none rfl) rfl rfl (q_build rfl (.cons rfl PV.nil) (built127p1 _ _ _)) ?_
  refine run_h (.none rfl) (h_buildSlice rfl rfl rfl Try.underlying116 info127 (.cons rfl rfl rfl rfl Parts.nil) rfl (by omega)) ?_
  rintro b9 -
  refine run_q (.none rfl) rfl rfl (q_build rfl (.cons rfl PV.nil) (built118p13 _ _ _)) ?_
  refine run_h (.none rfl) (h_call rfl rfl rfl call55 (.cons rfl Evs.nil) (fun w hk hm => ShortM_ret x p (some ⟨b5, 0, none⟩) (some ⟨b7, 0, none⟩) (some ⟨b9, 0, none⟩) 1 1 1 w (own_rd (Sel.here.holds hm)) (own_rd ((Sel.there Sel.here).holds hm)) (own_rd ((Sel.there (Sel.there Sel.here)).holds hm)) (hx.kept0 hk) bh bg bl)) ?_
  rintro ⟨v, m⟩ ⟨q, O1, O2, O3, A1, A2, A3, c1, c2, c3, d1, d2, d3, S, rfl, rfl⟩
  show Run _ _ _ _ _ _ _ ⟨(11, .agg #[.int .i64 0, .int .i64 0, .int .i64 0, .int .i64 0, .int .i64 0, .int .i64 0, .int .i64 0, .int .i64 0, .int .i64 0, .int .i64 0, .int .i64 0, .int .i64 0, .bool false, .int .i64 0, .int .i64 0, .int .i64 0, .int .i64 0, .int .i64 0, .int .i64 0, .string S, .slice A3 0 d3, .slice O1 1 c1]) :: _, _ :: _ :: _ :: _ :: _ :: _ :: _⟩
  refine run_h (.none rfl) (h_alloc rfl rfl rfl info118) ?_
  rintro b3 -
  refine run_h (.none rfl) (h_storeB rfl rfl sz118 rfl rfl rfl rfl rfl Sel.here rfl) ?_
  rintro - -
  refine run_nil ?_
  refine run_sub (subMk (.cons (s := 2) rfl (.cons (s := 3) rfl .nil)) .refl) ?_
  refine run_seq ?_
  refine run_seq ?_
  refine run_region ?_
  refine run_q (.none rfl) rfl rfl (q_fieldB (d := 21) rfl Try.underlying118 rfl rfl sz116 rfl) ?_
  refine run_q (.none rfl) rfl rfl (q_loadB rfl one116 rfl Sel.here rfl) ?_
  refine run_q (.none rfl) rfl rfl (q_len rfl Try.underlying116 rfl) ?_
  refine run_q (.none rfl) rfl rfl (q_eql rfl rfl rfl) ?_
  refine run_q (.none rfl) rfl rfl (q_move rfl rfl) ?_
  refine run_q (.on rfl rfl rfl rfl) rfl rfl (q_fieldB (d := 21) rfl Try.underlying118 rfl rfl sz116 rfl) ?_
  refine run_q (.on rfl rfl rfl rfl) rfl rfl (q_loadB rfl one116 rfl Sel.here rfl) ?_
  refine run_q (.on rfl rfl rfl rfl) rfl rfl (q_indexS (q := 0) rfl Try.underlying116 sz127 rfl rfl (.own (.there Sel.here)) rfl rfl (by decide)) ?_
  refine run_q (.on rfl rfl rfl rfl) rfl rfl (q_fieldAddr (d := 1) rfl Try.underlying127 rfl rfl sz124 rfl) ?_
  refine run_q (.on rfl rfl rfl rfl) rfl rfl (q_loadF rfl one124 rfl (.own (.there Sel.here)) rfl rfl) ?_
  refine run_q (.on rfl rfl rfl rfl) rfl rfl (q_len rfl Try.underlying124 rfl) ?_
  refine run_q (.on rfl rfl rfl rfl) rfl rfl (q_eql rfl rfl rfl) ?_
  refine run_q (.none rfl) rfl rfl (q_pickF rfl rfl rfl rfl) ?_
  refine run_q (.none rfl) rfl rfl (q_move rfl rfl) ?_
  refine run_q (.on rfl rfl rfl rfl) rfl rfl (q_fieldB (d := 21) rfl Try.underlying118 rfl rfl sz116 rfl) ?_
  refine run_q (.on rfl rfl rfl rfl) rfl rfl (q_loadB rfl one116 rfl Sel.here rfl) ?_
  refine run_q (.on rfl rfl rfl rfl) rfl rfl (q_indexS (q := 0) rfl Try.underlying116 sz127 rfl rfl (.own (.there Sel.here)) rfl rfl (by decide)) ?_
  refine run_q (.on rfl rfl rfl rfl) rfl rfl (q_fieldAddr (d := 1) rfl Try.underlying127 rfl rfl sz124 rfl) ?_
  refine run_q (.on rfl rfl rfl rfl) rfl rfl (q_loadF rfl one124 rfl (.own (.there Sel.here)) rfl rfl) ?_
  refine run_q (.on rfl rfl rfl rfl) rfl rfl (q_indexS (q := 0) rfl Try.underlying124 sz123 rfl rfl (.own (.there (.there Sel.here))) rfl rfl (by decide)) ?_
  refine run_q (.on rfl rfl rfl rfl) rfl rfl (q_fieldAddr (d := 0) rfl Try.underlying123 rfl rfl sz120 rfl) ?_
  refine run_q (.on rfl rfl rfl rfl) rfl rfl (q_loadF rfl one120 rfl (.own (.there (.there Sel.here))) rfl rfl) ?_
  refine run_q (.on rfl rfl rfl rfl) rfl rfl (q_len rfl Try.underlying120 rfl) ?_
  refine run_q (.on rfl rfl rfl rfl) rfl rfl (q_eql rfl rfl rfl) ?_
  refine run_q (.none rfl) rfl rfl (q_pickF rfl rfl rfl rfl) ?_
  refine run_nil ?_
  refine run_sub (subMk (.cons (s := 2) rfl (.cons (s := 3) rfl (.cons (s := 36) rfl .nil))) .refl) ?_
  refine run_condF rfl rfl ?_
  refine run_skip ?_
  refine run_seq ?_
  refine run_region ?_
  refine run_q (.none rfl) rfl rfl (q_fieldB (d := 21) rfl Try.underlying118 rfl rfl sz116 rfl) ?_
  refine run_q (.none rfl) rfl rfl (q_loadB rfl one116 rfl Sel.here rfl) ?_
  refine run_q (.none rfl) rfl rfl (q_indexS (q := 0) rfl Try.underlying116 sz127 rfl rfl (.own (.there Sel.here)) rfl rfl (by decide)) ?_
  refine run_q (.none rfl) rfl rfl (q_fieldAddr (d := 1) rfl Try.underlying127 rfl rfl sz124 rfl) ?_
  refine run_q (.none rfl) rfl rfl (q_loadF rfl one124 rfl (.own (.there Sel.here)) rfl rfl) ?_
  refine run_q (.none rfl) rfl rfl (q_indexS (q := 0) rfl Try.underlying124 sz123 rfl rfl (.own (.there (.there Sel.here))) rfl rfl (by decide)) ?_
  refine run_q (.none rfl) rfl rfl (q_fieldAddr (d := 0) rfl Try.underlying123 rfl rfl sz120 rfl) ?_
  refine run_q (.none rfl) rfl rfl (q_loadF rfl one120 rfl (.own (.there (.there Sel.here))) rfl rfl) ?_
  refine run_q (.none rfl) rfl rfl (q_indexS (q := 0) rfl Try.underlying120 sz78 rfl rfl (.own (.there (.there (.there Sel.here)))) rfl rfl (by decide)) ?_
  refine run_q (.none rfl) rfl rfl (q_loadE rfl agg78 rfl (.own (.there (.there (.there Sel.here)))) rfl rfl) ?_
  refine run_h (.none rfl) (h_storeB rfl rfl sz78 rfl rfl rfl rfl rfl (.there (.there (.there (.there (.there (.there (.there (.there (.there (.there Sel.here)))))))))) rfl) ?_
  rintro - -
  refine run_nil ?_
  refine run_sub (subMk (.cons (s := 2) rfl .nil) .refl) ?_
  refine run_ret ?_
  exact endG rfl (.cellN rfl agg78 Sel.here (.cons rfl (.cons rfl (.cons rfl (.cons rfl (.cons rfl (.cons rfl (.cons rfl (.cons rfl (.cons rfl (.cons rfl (.cons rfl (.cons rfl (.cons rfl CellsAt.nil))))))))))))) rfl Outs.nil) _ (.cons (.there (.there (.there (.there (.there Sel.here))))) .refl (.cons (.there (.there (.there (.there (.there Sel.here))))) .refl (.cons (.there (.there (.there (.there (.there Sel.here))))) .refl .nil))) ⟨q, rfl, rfl⟩

end Go.Proofs.YtgphmbipakdggaaR.Ev
