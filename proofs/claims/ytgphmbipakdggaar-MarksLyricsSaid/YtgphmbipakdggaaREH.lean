/- A measure of one event cut short. -/
import Derived.Test.YtgphmbipakdggaaREG
import Derived.Test.YtgphmbipakdggaaRStr
set_option linter.unusedSimpArgs false
set_option linter.unusedVariables false
namespace Go.Proofs.YtgphmbipakdggaaR.Ev
open Go Go.RowKit Hr

theorem info118 : Hr.Info Try.prog 118 [.int .i64 0, .int .i64 0, .int .i64 0, .int .i64 0, .int .i64 0, .int .i64 0, .int .i64 0, .int .i64 0, .int .i64 0, .int .i64 0, .int .i64 0, .int .i64 0, .bool false, .int .i64 0, .int .i64 0, .int .i64 0, .int .i64 0, .int .i64 0, .int .i64 0, .string (ByteArray.mk #[]), .slice none 0 0, .slice none 0 0] 22 216 := Hr.Info.of (by kernel_rfl)
theorem sz116 : Hr.Sz Try.prog 116 1 := Hr.Sz.of (by kernel_rfl)
theorem one116 : Hr.One Try.prog 116 := ⟨fun w => by simp [isAgg, run_underlying Try.underlying116], Hr.Sz.of (by kernel_rfl)⟩
theorem info127 : Hr.Info Try.prog 127 [.slice none 0 0, .slice none 0 0] 2 48 := Hr.Info.of (by kernel_rfl)
theorem sz125 : Hr.Sz Try.prog 125 1 := Hr.Sz.of (by kernel_rfl)
theorem one125 : Hr.One Try.prog 125 := ⟨fun w => by simp [isAgg, run_underlying Try.underlying125], Hr.Sz.of (by kernel_rfl)⟩
theorem sz127 : Hr.Sz Try.prog 127 2 := Hr.Sz.of (by kernel_rfl)
theorem sz199 : Hr.Sz Try.prog 199 2 := Hr.Sz.of (by kernel_rfl)
theorem info199 : Hr.Info Try.prog 199 [.int .i64 0, .int .i64 0] 2 16 := Hr.Info.of (by kernel_rfl)
theorem sz124 : Hr.Sz Try.prog 124 1 := Hr.Sz.of (by kernel_rfl)
theorem one124 : Hr.One Try.prog 124 := ⟨fun w => by simp [isAgg, run_underlying Try.underlying124], Hr.Sz.of (by kernel_rfl)⟩
theorem call91 : Hr.Callable Try.prog 91 := fun args w => by kernel_rfl
theorem agg127 : Hr.Agg Try.prog 127 2 := ⟨fun w => by simp [isAgg, run_underlying Try.underlying127], Hr.Sz.of (by kernel_rfl)⟩
theorem info195 : Hr.Info Try.prog 195 [.int .i64 0, .int .i64 0, .bool false] 3 24 := Hr.Info.of (by kernel_rfl)
theorem sz115 : Hr.Sz Try.prog 115 1 := Hr.Sz.of (by kernel_rfl)
theorem one115 : Hr.One Try.prog 115 := ⟨fun w => by simp [isAgg, run_underlying Try.underlying115], Hr.Sz.of (by kernel_rfl)⟩
theorem sz195 : Hr.Sz Try.prog 195 3 := Hr.Sz.of (by kernel_rfl)
theorem agg118 : Hr.Agg Try.prog 118 22 := ⟨fun w => by simp [isAgg, run_underlying Try.underlying118], Hr.Sz.of (by kernel_rfl)⟩
theorem sz118 : Hr.Sz Try.prog 118 22 := Hr.Sz.of (by kernel_rfl)

set_option maxHeartbeats 4000000 in
set_option maxRecDepth 100000 in
theorem shortM_ret (x : Evt) (p : Lie) (E V C : Option Addr) (ec vc cc : Nat) (W : World) (hC : Rd W C 2 [[.slice none 0 0, .slice V 1 vc]]) (hV : Rd W V 2 [[.slice E 1 ec, .slice none 0 0]]) (hE : Rd W E 13 [evC x p]) (hx : RdE W x p) (bh : x.hs.length * 40 ≤ 140737488355328) (bg : x.gs.length * 40 ≤ 140737488355328) (bl : x.ls.length * 24 ≤ 140737488355328) : Calls Try.prog 77 #[.agg #[.int .i64 0, .int .i64 0, .int .i64 0, .int .i64 0, .int .i64 0, .int .i64 0, .int .i64 0, .int .i64 0, .int .i64 0, .int .i64 0, .int .i64 0, .int .i64 0, .bool false, .int .i64 0, .int .i64 0, .int .i64 0, .int .i64 0, .int .i64 0, .int .i64 0, .string (ByteArray.mk #[]), .slice none 0 0, .slice C 1 cc]] W (Ret W nX (fun v m => ∃ (q : Lie) (O1 O2 O3 A1 A2 A3 : Option Addr) (c1 c2 c3 d1 d2 d3 : Nat) (S : ByteArray), v = .agg #[.int .i64 0, .int .i64 0, .int .i64 0, .int .i64 0, .int .i64 0, .int .i64 0, .int .i64 0, .int .i64 0, .int .i64 0, .int .i64 0, .int .i64 0, .int .i64 0, .bool false, .int .i64 0, .int .i64 0, .int .i64 0, .int .i64 0, .int .i64 0, .int .i64 0, .string S, .slice A3 0 d3, .slice O1 1 c1] ∧ m = [.own 127 2 O1 1 c1 [[.slice A1 0 d1, .slice O2 1 c2]], .own 123 2 O2 1 c2 [[.slice O3 1 c3, .slice A2 0 d2]], .own 78 13 O3 1 c3 [evC (shE x) q], .own 152 5 q.HA (shE x).hs.length q.hc ((shE x).hs.map Hd.enc), .own 155 5 q.GA (shE x).gs.length q.gc ((shE x).gs.map Gr.enc), .own 86 2 q.LA (shE x).ls.length q.lc ((shE x).ls.map Syl.enc)])) := by
  refine enterA (X := nX) (vs := [.agg #[.int .i64 0, .int .i64 0, .int .i64 0, .int .i64 0, .int .i64 0, .int .i64 0, .int .i64 0, .int .i64 0, .int .i64 0, .int .i64 0, .int .i64 0, .int .i64 0, .bool false, .int .i64 0, .int .i64 0, .int .i64 0, .int .i64 0, .int .i64 0, .int .i64 0, .string (ByteArray.mk #[]), .slice none 0 0, .slice C 1 cc]]) Try.func77 Try.ntmps77 rfl rfl Mem.nil ?_
  refine run_seq ?_
  refine run_region ?_
  refine run_h (.none rfl) (h_box rfl rfl rfl rfl rfl) ?_
  rintro b1 -
  refine run_h (.none rfl) (h_alloc rfl rfl rfl info118) ?_
  rintro b2 -
  refine run_nil ?_
  refine run_seq ?_
  refine run_region ?_
  refine run_q (.none rfl) rfl rfl (q_fieldB (d := 21) rfl Try.underlying118 rfl rfl sz116 rfl) ?_
  refine run_q (.none rfl) rfl rfl (q_loadB rfl one116 rfl (.there Sel.here) rfl) ?_
  refine run_q (.none rfl) rfl rfl (q_assign rfl rfl) ?_
  refine run_nil ?_
  refine run_sub (subMk (.cons (s := 1) rfl (.cons (s := 2) rfl (.cons (s := 3) rfl .nil))) .refl) ?_
  refine run_seq ?_
  refine run_region ?_
  refine run_q (.none rfl) rfl rfl (q_fieldB (d := 21) rfl Try.underlying118 rfl rfl sz116 rfl) ?_
  refine run_h (.none rfl) (h_storeB rfl rfl sz116 rfl rfl rfl rfl rfl (.there Sel.here) rfl) ?_
  rintro - -
  refine run_nil ?_
  refine run_seq ?_
  refine run_seq ?_
  refine run_region ?_
  refine run_q (.none rfl) rfl rfl (q_assign rfl rfl) ?_
  refine run_nil ?_
  refine run_block ?_
  refine run_rounds 2 ?_
  refine run_round ?_
  refine run_seq ?_
  refine run_seq ?_
  refine run_region ?_
  refine run_q (.none rfl) rfl rfl (q_move rfl rfl) ?_
  refine run_q (.none rfl) rfl rfl (q_move rfl rfl) ?_
  refine run_q (.none rfl) rfl rfl (q_len rfl Try.underlying116 rfl) ?_
  refine run_q (.none rfl) rfl rfl (q_lss rfl rfl rfl) ?_
  refine run_q (.none rfl) rfl rfl (q_move rfl rfl) ?_
  refine run_q (.on rfl rfl rfl (by decide)) rfl rfl (q_move rfl rfl) ?_
  refine run_q (.on rfl rfl rfl (by decide)) rfl rfl (q_lss rfl rfl rfl) ?_
  refine run_q (.none rfl) rfl rfl (q_pickT rfl rfl (by decide) rfl) ?_
  refine run_nil ?_
  refine run_condT rfl (by decide) ?_
  refine run_skip ?_
  refine run_seq ?_
  refine run_block ?_
  refine run_seq ?_
  refine run_region ?_
  refine run_h (.none rfl) (h_alloc rfl rfl rfl info127) ?_
  rintro b5 -
  refine run_nil ?_
  refine run_seq ?_
  refine run_sub (subMk .refl (MemSub.nilOwn 199 2)) ?_
  refine run_draw [(0, 0), (1, 0), (2, 0), (3, 0), (4, 0), (5, 0), (6, 0), (7, 0), (8, 0), (9, 0), (10, 0), (11, 0), (12, 0), (13, 0), (14, 0), (15, 2), (16, 2), (17, 2)] mixed (by kernel_rfl) .refl ?_
  refine d_q rfl rfl (.none rfl) rfl rfl (q_fieldB (d := 0) rfl Try.underlying127 rfl rfl sz125 rfl) ?_
  refine d_q rfl rfl (.none rfl) rfl rfl (q_loadB rfl one125 rfl (.there Sel.here) rfl) ?_
  refine d_q rfl rfl (.none rfl) rfl rfl (q_move rfl rfl) ?_
  refine d_q rfl rfl (.none rfl) rfl rfl (q_move rfl rfl) ?_
  refine d_q rfl rfl (.none rfl) rfl rfl (q_indexS (q := 0) rfl Try.underlying116 sz127 rfl rfl (.inp hC .no) rfl rfl (by decide)) ?_
  refine d_q rfl rfl (.none rfl) rfl rfl (q_fieldAddr (d := 0) rfl Try.underlying127 rfl rfl sz125 rfl) ?_
  refine d_q rfl rfl (.none rfl) rfl rfl (q_loadF rfl one125 rfl (.inp hC .no) rfl rfl) ?_
  refine d_q rfl rfl (.none rfl) rfl rfl (q_move rfl rfl) ?_
  refine d_q rfl rfl (.none rfl) rfl rfl (q_move rfl rfl) ?_
  refine d_q rfl rfl (.none rfl) rfl rfl (q_indexS (q := 0) rfl Try.underlying116 sz127 rfl rfl (.inp hC .no) rfl rfl (by decide)) ?_
  refine d_q rfl rfl (.none rfl) rfl rfl (q_fieldAddr (d := 0) rfl Try.underlying127 rfl rfl sz125 rfl) ?_
  refine d_q rfl rfl (.none rfl) rfl rfl (q_loadF rfl one125 rfl (.inp hC .no) rfl rfl) ?_
  refine d_q rfl rfl (.none rfl) rfl rfl (q_len rfl Try.underlying125 rfl) ?_
  refine d_q rfl rfl (.none rfl) rfl rfl (q_min2 rfl rfl rfl) ?_
  refine d_q rfl rfl (.none rfl) rfl rfl (q_sliceH rfl Try.underlying125 sz199 rfl rfl (by omega)) ?_
  refine d_t rfl rfl (.none rfl) (h_append rfl rfl rfl Try.underlying125 info199 rfl rfl Sel.here rfl (fun _ _ _ => .inl rfl) rfl all0 all0 (by decide) (by decide)) ?_
  rintro ⟨A35, c35⟩ -
  refine d_t rfl rfl (.none rfl) (.of_q rfl rfl (q_fieldB (d := 0) rfl Try.underlying127 rfl rfl sz125 rfl)) ?_
  rintro - -
  refine d_t rfl rfl (.none rfl) (h_storeB rfl rfl sz125 rfl rfl rfl rfl rfl (.there Sel.here) rfl) ?_
  rintro - -
  refine d_nil ?_
  refine run_seq ?_
  refine run_seq ?_
  refine run_region ?_
  refine run_q (.none rfl) rfl rfl (q_assign rfl rfl) ?_
  refine run_nil ?_
  refine run_block ?_
  refine run_rounds 2 ?_
  refine run_round ?_
  refine run_seq ?_
  refine run_seq ?_
  refine run_region ?_
  refine run_q (.none rfl) rfl rfl (q_move rfl rfl) ?_
  refine run_q (.none rfl) rfl rfl (q_move rfl rfl) ?_
  refine run_q (.none rfl) rfl rfl (q_move rfl rfl) ?_
  refine run_q (.none rfl) rfl rfl (q_indexS (q := 0) rfl Try.underlying116 sz127 rfl rfl (.inp hC .no) rfl rfl (by decide)) ?_
  refine run_q (.none rfl) rfl rfl (q_fieldAddr (d := 1) rfl Try.underlying127 rfl rfl sz124 rfl) ?_
  refine run_q (.none rfl) rfl rfl (q_loadF rfl one124 rfl (.inp hC .no) rfl rfl) ?_
  refine run_q (.none rfl) rfl rfl (q_len rfl Try.underlying124 rfl) ?_
  refine run_q (.none rfl) rfl rfl (q_lss rfl rfl rfl) ?_
  refine run_q (.none rfl) rfl rfl (q_move rfl rfl) ?_
  refine run_q (.on rfl rfl rfl (by decide)) rfl rfl (q_move rfl rfl) ?_
  refine run_q (.on rfl rfl rfl (by decide)) rfl rfl (q_lss rfl rfl rfl) ?_
  refine run_q (.none rfl) rfl rfl (q_pickT rfl rfl (by decide) rfl) ?_
  refine run_nil ?_
  refine run_condT rfl (by decide) ?_
  refine run_skip ?_
  refine run_seq ?_
  refine run_block ?_
  refine run_sub (subMk .refl (MemSub.nilOwn 123 2)) ?_
  refine run_draw [(0, 0), (1, 0), (2, 0), (3, 0), (4, 0), (5, 0), (6, 0), (7, 0), (8, 0), (9, 0), (10, 1), (11, 1), (12, 2), (13, 2), (14, 2)] mixed (by kernel_rfl) .refl ?_
  refine d_q rfl rfl (.none rfl) rfl rfl (q_fieldB (d := 1) rfl Try.underlying127 rfl rfl sz124 rfl) ?_
  refine d_q rfl rfl (.none rfl) rfl rfl (q_loadB rfl one124 rfl (.there Sel.here) rfl) ?_
  refine d_q rfl rfl (.none rfl) rfl rfl (q_move rfl rfl) ?_
  refine d_q rfl rfl (.none rfl) rfl rfl (q_move rfl rfl) ?_
  refine d_q rfl rfl (.none rfl) rfl rfl (q_indexS (q := 0) rfl Try.underlying116 sz127 rfl rfl (.inp hC .no) rfl rfl (by decide)) ?_
  refine d_q rfl rfl (.none rfl) rfl rfl (q_fieldAddr (d := 1) rfl Try.underlying127 rfl rfl sz124 rfl) ?_
  refine d_q rfl rfl (.none rfl) rfl rfl (q_loadF rfl one124 rfl (.inp hC .no) rfl rfl) ?_
  refine d_q rfl rfl (.none rfl) rfl rfl (q_move rfl rfl) ?_
  refine d_q rfl rfl (.none rfl) rfl rfl (q_indexS (q := 0) rfl Try.underlying124 sz123 rfl rfl (.inp hV .no) rfl rfl (by decide)) ?_
  refine d_q rfl rfl (.none rfl) rfl rfl (q_loadE rfl agg123 rfl (.inp hV .no) rfl rfl) ?_
  refine d_h rfl rfl (.none rfl) (h_call rfl rfl rfl call91 (.cons rfl Evs.nil) (fun w hk hm => shortVoice_ret x p E ec w (hE.kept0 hk) (hx.kept0 hk) bh bg bl)) (fun _ _ => (.sub (List.sublist_append_right _ _))) ?_
  rintro ⟨v, m⟩ ⟨q, O3, A2, c3, d2, rfl, rfl⟩
  show RunD _ _ _ _ _ _ _ _ _ _ _ ⟨(61, .agg #[.slice O3 1 c3, .slice A2 0 d2]) :: _, _ :: _ :: _ :: _ :: _⟩
  refine d_h rfl rfl (.none rfl) (h_buildSlice rfl rfl rfl Try.underlying124 info123 (.cons rfl rfl rfl rfl Parts.nil) rfl (by omega)) (fun _ _ => (.sub (by repeat (first | exact List.Sublist.refl _ | apply List.Sublist.cons)))) ?_
  rintro b62 -
  refine d_t rfl rfl (.none rfl) (h_append rfl rfl rfl Try.underlying124 info123 rfl rfl (.there (.there (.there (.there (.there Sel.here))))) rfl (.own Sel.here) rfl (all1 rfl) (all1 rfl) (by omega) (by omega)) ?_
  rintro ⟨A63, c63⟩ -
  refine d_t rfl rfl (.none rfl) (.of_q rfl rfl (q_fieldB (d := 1) rfl Try.underlying127 rfl rfl sz124 rfl)) ?_
  rintro - -
  refine d_t rfl rfl (.none rfl) (h_storeB rfl rfl sz124 rfl rfl rfl rfl rfl (.there (.there (.there (.there (.there (.there Sel.here)))))) rfl) ?_
  rintro - -
  refine d_nil ?_
  refine run_blk ?_
  refine run_region ?_
  refine run_q (.none rfl) rfl rfl (q_move rfl rfl) ?_
  refine run_q (.none rfl) rfl rfl (q_add rfl rfl rfl (by omega)) ?_
  refine run_q (.none rfl) rfl rfl (q_assign rfl rfl) ?_
  refine run_nil ?_
  refine run_round ?_
  refine run_seq ?_
  refine run_seq ?_
  refine run_region ?_
  refine run_q (.none rfl) rfl rfl (q_move rfl rfl) ?_
  refine run_q (.none rfl) rfl rfl (q_move rfl rfl) ?_
  refine run_q (.none rfl) rfl rfl (q_move rfl rfl) ?_
  refine run_q (.none rfl) rfl rfl (q_indexS (q := 0) rfl Try.underlying116 sz127 rfl rfl (.inp hC .no) rfl rfl (by decide)) ?_
  refine run_q (.none rfl) rfl rfl (q_fieldAddr (d := 1) rfl Try.underlying127 rfl rfl sz124 rfl) ?_
  refine run_q (.none rfl) rfl rfl (q_loadF rfl one124 rfl (.inp hC .no) rfl rfl) ?_
  refine run_q (.none rfl) rfl rfl (q_len rfl Try.underlying124 rfl) ?_
  refine run_q (.none rfl) rfl rfl (q_lss rfl rfl rfl) ?_
  refine run_q (.none rfl) rfl rfl (q_move rfl rfl) ?_
  refine run_off (.no rfl rfl rfl (by decide)) rfl rfl ?_
  refine run_off (.no rfl rfl rfl (by decide)) rfl rfl ?_
  refine run_q (.none rfl) rfl rfl (q_pickF rfl rfl (by decide) rfl) ?_
  refine run_nil ?_
  refine run_condF rfl rfl ?_
  refine run_exit rfl ?_
  refine run_sub (subMk .refl (MemSub.nilOwn 127 2)) ?_
  refine run_region ?_
  refine run_q (.none rfl) rfl rfl (q_fieldB (d := 21) rfl Try.underlying118 rfl rfl sz116 rfl) ?_
  refine run_q (.none rfl) rfl rfl (q_loadB rfl one116 rfl (.there (.there (.there (.there (.there (.there (.there (.there (.there Sel.here))))))))) rfl) ?_
  refine run_q (.none rfl) rfl rfl (q_loadBN rfl agg127 rfl (.there Sel.here) (.cons rfl (.cons rfl CellsAt.nil)) rfl) ?_
  refine run_h (.none rfl) (h_buildSlice rfl rfl rfl Try.underlying116 info127 (.cons rfl rfl rfl rfl Parts.nil) rfl (by omega)) ?_
  rintro b68 -
  refine run_h (.none rfl) (h_append rfl rfl rfl Try.underlying116 info127 rfl rfl (.there Sel.here) rfl (.own Sel.here) rfl (all1 rfl) (all1 rfl) (by omega) (by omega)) ?_
  rintro ⟨A69, c69⟩ -
  refine run_q (.none rfl) rfl rfl (q_fieldB (d := 21) rfl Try.underlying118 rfl rfl sz116 rfl) ?_
  refine run_h (.none rfl) (h_storeB rfl rfl sz116 rfl rfl rfl rfl rfl (.there (.there (.there (.there (.there (.there (.there (.there (.there (.there Sel.here)))))))))) rfl) ?_
  rintro - -
  refine run_nil ?_
  refine run_blk ?_
  refine run_region ?_
  refine run_q (.none rfl) rfl rfl (q_move rfl rfl) ?_
  refine run_q (.none rfl) rfl rfl (q_add rfl rfl rfl (by omega)) ?_
  refine run_q (.none rfl) rfl rfl (q_assign rfl rfl) ?_
  refine run_nil ?_
  refine run_round ?_
  refine run_seq ?_
  refine run_seq ?_
  refine run_region ?_
  refine run_q (.none rfl) rfl rfl (q_move rfl rfl) ?_
  refine run_q (.none rfl) rfl rfl (q_move rfl rfl) ?_
  refine run_q (.none rfl) rfl rfl (q_len rfl Try.underlying116 rfl) ?_
  refine run_q (.none rfl) rfl rfl (q_lss rfl rfl rfl) ?_
  refine run_q (.none rfl) rfl rfl (q_move rfl rfl) ?_
  refine run_off (.no rfl rfl rfl (by decide)) rfl rfl ?_
  refine run_off (.no rfl rfl rfl (by decide)) rfl rfl ?_
  refine run_q (.none rfl) rfl rfl (q_pickF rfl rfl (by decide) rfl) ?_
  refine run_nil ?_
  refine run_condF rfl rfl ?_
  refine run_exit rfl ?_
  refine run_sub (subMk (.cons (s := 1) rfl (.cons (s := 2) rfl .nil)) .refl) ?_
  refine run_seq ?_
  refine run_region ?_
  refine run_h (.none rfl) (h_buildSlice rfl rfl rfl Try.underlying115 info195 Parts.nil rfl (by omega)) ?_
  rintro b71 -
  refine run_q (.none rfl) rfl rfl (q_fieldB (d := 20) rfl Try.underlying118 rfl rfl sz115 rfl) ?_
  refine run_q (.none rfl) rfl rfl (q_loadB rfl one115 rfl (.there Sel.here) rfl) ?_
  refine run_q (.none rfl) rfl rfl (q_fieldB (d := 20) rfl Try.underlying118 rfl rfl sz115 rfl) ?_
  refine run_q (.none rfl) rfl rfl (q_loadB rfl one115 rfl (.there Sel.here) rfl) ?_
  refine run_q (.none rfl) rfl rfl (q_len rfl Try.underlying115 rfl) ?_
  refine run_q (.none rfl) rfl rfl (q_min2 rfl rfl rfl) ?_
  refine run_q (.none rfl) rfl rfl (q_sliceH rfl Try.underlying115 sz195 rfl rfl (by omega)) ?_
  refine run_h (.none rfl) (h_append rfl rfl rfl Try.underlying115 info195 rfl rfl Sel.here rfl (fun _ _ _ => .inl rfl) rfl all0 all0 (by decide) (by decide)) ?_
  rintro ⟨A79, c79⟩ -
  refine run_q (.none rfl) rfl rfl (q_fieldB (d := 20) rfl Try.underlying118 rfl rfl sz115 rfl) ?_
  refine run_h (.none rfl) (h_storeB rfl rfl sz115 rfl rfl rfl rfl rfl (.there Sel.here) rfl) ?_
  rintro - -
  refine run_nil ?_
  refine run_sub (subMk (.cons (s := 1) rfl (.cons (s := 2) rfl .nil)) .refl) ?_
  refine run_seq ?_
  refine run_region ?_
  refine run_q (.none rfl) rfl rfl (q_fieldB (d := 19) rfl Try.underlying118 rfl rfl sz9 rfl) ?_
  refine run_q (.none rfl) rfl rfl (q_loadB rfl one9 rfl Sel.here rfl) ?_
  refine run_q (.none rfl) rfl rfl (q_fieldB (d := 19) rfl Try.underlying118 rfl rfl sz9 rfl) ?_
  refine run_q (.none rfl) rfl rfl (q_loadB rfl one9 rfl Sel.here rfl) ?_
  refine run_q (.none rfl) rfl rfl (q_lens rfl Try.underlying9 rfl) ?_
  refine run_q (.none rfl) rfl rfl (q_min2 rfl rfl rfl) ?_
  refine run_q (.none rfl) rfl rfl (q_sliceStrH rfl Try.underlying9 rfl rfl (by omega)) ?_
  refine run_q (.none rfl) rfl rfl (q_fieldB (d := 19) rfl Try.underlying118 rfl rfl sz9 rfl) ?_
  refine run_h (.none rfl) (h_storeB rfl rfl sz9 rfl rfl rfl rfl rfl Sel.here rfl) ?_
  rintro - -
  refine run_nil ?_
  refine run_sub (subMk (.cons (s := 1) rfl (.cons (s := 2) rfl .nil)) .refl) ?_
  refine run_seq ?_
  refine run_region ?_
  refine run_q (.none rfl) rfl rfl (q_loadBN rfl agg118 rfl Sel.here (.cons rfl (.cons rfl (.cons rfl (.cons rfl (.cons rfl (.cons rfl (.cons rfl (.cons rfl (.cons rfl (.cons rfl (.cons rfl (.cons rfl (.cons rfl (.cons rfl (.cons rfl (.cons rfl (.cons rfl (.cons rfl (.cons rfl (.cons rfl (.cons rfl (.cons rfl CellsAt.nil)))))))))))))))))))))) rfl) ?_
  refine run_h (.none rfl) (h_storeB rfl rfl sz118 rfl rfl rfl rfl rfl (.there (.there (.there (.there (.there (.there (.there (.there (.there (.there (.there (.there Sel.here)))))))))))) rfl) ?_
  rintro - -
  refine run_nil ?_
  refine run_ret ?_
  exact endG rfl (.cellN rfl agg118 Sel.here (.cons rfl (.cons rfl (.cons rfl (.cons rfl (.cons rfl (.cons rfl (.cons rfl (.cons rfl (.cons rfl (.cons rfl (.cons rfl (.cons rfl (.cons rfl (.cons rfl (.cons rfl (.cons rfl (.cons rfl (.cons rfl (.cons rfl (.cons rfl (.cons rfl (.cons rfl CellsAt.nil)))))))))))))))))))))) rfl Outs.nil) _ (.cons (.there (.there (.there Sel.here))) .refl (.cons (.there (.there (.there (.there (.there Sel.here))))) .refl (.cons (.there (.there (.there (.there (.there (.there Sel.here)))))) .refl (.cons (.there (.there (.there (.there (.there (.there Sel.here)))))) .refl (.cons (.there (.there (.there (.there (.there (.there Sel.here)))))) .refl (.cons (.there (.there (.there (.there (.there (.there Sel.here)))))) .refl .nil)))))) ⟨q, A69, A63, O3, A35, A2, A79, c69, c63, c3, c35, d2, c79, _, rfl, rfl⟩

end Go.Proofs.YtgphmbipakdggaaR.Ev
