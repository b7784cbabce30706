/- A voice of one event cut short. -/
import Derived.Test.YtgphmbipakdggaaREF
import Derived.Test.YtgphmbipakdggaaRUnr
set_option linter.unusedSimpArgs false
set_option linter.unusedVariables false
namespace Go.Proofs.YtgphmbipakdggaaR.Ev
open Go Go.RowKit Hr

theorem info123 : Hr.Info Try.prog 123 [.slice none 0 0, .slice none 0 0] 2 48 := Hr.Info.of (by kernel_rfl)
theorem sz120 : Hr.Sz Try.prog 120 1 := Hr.Sz.of (by kernel_rfl)
theorem one120 : Hr.One Try.prog 120 := ⟨fun w => by simp [isAgg, run_underlying Try.underlying120], Hr.Sz.of (by kernel_rfl)⟩
theorem call95 : Hr.Callable Try.prog 95 := fun args w => by kernel_rfl
theorem sz121 : Hr.Sz Try.prog 121 1 := Hr.Sz.of (by kernel_rfl)
theorem one121 : Hr.One Try.prog 121 := ⟨fun w => by simp [isAgg, run_underlying Try.underlying121], Hr.Sz.of (by kernel_rfl)⟩
theorem sz197 : Hr.Sz Try.prog 197 4 := Hr.Sz.of (by kernel_rfl)
theorem info197 : Hr.Info Try.prog 197 [.int .i64 0, .int .i64 0, .int .i64 0, .int .i64 0] 4 32 := Hr.Info.of (by kernel_rfl)
theorem agg123 : Hr.Agg Try.prog 123 2 := ⟨fun w => by simp [isAgg, run_underlying Try.underlying123], Hr.Sz.of (by kernel_rfl)⟩
theorem sz123 : Hr.Sz Try.prog 123 2 := Hr.Sz.of (by kernel_rfl)

set_option maxHeartbeats 4000000 in
set_option maxRecDepth 100000 in
theorem shortVoice_ret (x : Evt) (p : Lie) (E : Option Addr) (ec : Nat) (W : World) (hE : Rd W E 13 [evC x p]) (hx : RdE W x p) (bh : x.hs.length * 40 ≤ 140737488355328) (bg : x.gs.length * 40 ≤ 140737488355328) (bl : x.ls.length * 24 ≤ 140737488355328) : Calls Try.prog 91 #[.agg #[.slice E 1 ec, .slice none 0 0]] W (Ret W nX (fun v m => ∃ (q : Lie) (O A : Option Addr) (co c : Nat), v = .agg #[.slice O 1 co, .slice A 0 c] ∧ m = [.own 78 13 O 1 co [evC (shE x) q], .own 152 5 q.HA (shE x).hs.length q.hc ((shE x).hs.map Hd.enc), .own 155 5 q.GA (shE x).gs.length q.gc ((shE x).gs.map Gr.enc), .own 86 2 q.LA (shE x).ls.length q.lc ((shE x).ls.map Syl.enc)])) := by
  refine enterA (X := nX) (vs := [.agg #[.slice E 1 ec, .slice none 0 0]]) Try.func91 Try.ntmps91 rfl rfl Mem.nil ?_
  refine run_seq ?_
  refine run_region ?_
  refine run_h (.none rfl) (h_box rfl rfl rfl rfl rfl) ?_
  rintro b1 -
  refine run_h (.none rfl) (h_alloc rfl rfl rfl info123) ?_
  rintro b2 -
  refine run_nil ?_
  refine run_seq ?_
  refine run_region ?_
  refine run_h (.none rfl) (h_alloc rfl rfl rfl info123) ?_
  rintro b3 -
  refine run_nil ?_
  refine run_seq ?_
  refine run_seq ?_
  refine run_region ?_
  refine run_q (.none rfl) rfl rfl (q_assign rfl rfl) ?_
  refine run_nil ?_
  refine run_block ?_
  refine run_rounds 2 ?_
  refine run_round ?_
  refine run_seq ?_
  refine run_seq ?_
  refine run_region ?_
  refine run_q (.none rfl) rfl rfl (q_move rfl rfl) ?_
  refine run_q (.none rfl) rfl rfl (q_fieldB (d := 0) rfl Try.underlying123 rfl rfl sz120 rfl) ?_
  refine run_q (.none rfl) rfl rfl (q_loadB rfl one120 rfl (.there (.there Sel.here)) rfl) ?_
  refine run_q (.none rfl) rfl rfl (q_len rfl Try.underlying120 rfl) ?_
  refine run_q (.none rfl) rfl rfl (q_lss rfl rfl rfl) ?_
  refine run_q (.none rfl) rfl rfl (q_move rfl rfl) ?_
  refine run_q (.on rfl rfl rfl (by decide)) rfl rfl (q_move rfl rfl) ?_
  refine run_q (.on rfl rfl rfl (by decide)) rfl rfl (q_lss rfl rfl rfl) ?_
  refine run_q (.none rfl) rfl rfl (q_pickT rfl rfl (by decide) rfl) ?_
  refine run_nil ?_
  refine run_condT rfl (by decide) ?_
  refine run_skip ?_
  refine run_seq ?_
  refine run_block ?_
  refine run_sub (subMk .refl (MemSub.nilOwn 78 13)) ?_
  refine run_draw [(0, 0), (1, 0), (2, 0), (3, 0), (4, 0), (5, 0), (6, 0), (7, 1), (8, 1), (9, 2), (10, 2), (11, 2)] mixed (by kernel_rfl) .refl ?_
  refine d_q rfl rfl (.none rfl) rfl rfl (q_fieldB (d := 0) rfl Try.underlying123 rfl rfl sz120 rfl) ?_
  refine d_q rfl rfl (.none rfl) rfl rfl (q_loadB rfl one120 rfl (.there Sel.here) rfl) ?_
  refine d_q rfl rfl (.none rfl) rfl rfl (q_fieldB (d := 0) rfl Try.underlying123 rfl rfl sz120 rfl) ?_
  refine d_q rfl rfl (.none rfl) rfl rfl (q_loadB rfl one120 rfl (.there (.there (.there Sel.here))) rfl) ?_
  refine d_q rfl rfl (.none rfl) rfl rfl (q_move rfl rfl) ?_
  refine d_q rfl rfl (.none rfl) rfl rfl (q_indexS (q := 0) rfl Try.underlying120 sz78 rfl rfl (.inp hE .no) rfl rfl (by decide)) ?_
  refine d_q rfl rfl (.none rfl) rfl rfl (q_loadE rfl agg78 rfl (.inp hE .no) rfl rfl) ?_
  refine d_h rfl rfl (.none rfl) (h_call rfl rfl rfl call95 (.cons rfl Evs.nil) (fun w hk hm => shortEv_ret x p w (hx.kept0 hk) bh bg bl)) (fun _ _ => (.sub (List.sublist_append_right _ _))) ?_
  rintro ⟨v, m⟩ ⟨q, rfl, rfl⟩
  show RunD _ _ _ _ _ _ _ _ _ _ _ ⟨(23, evV (shE x) q) :: _, _ :: _ :: _ :: _⟩
  refine d_h rfl rfl (.none rfl) (h_buildSlice rfl rfl rfl Try.underlying120 info78 (.cons rfl rfl rfl rfl Parts.nil) rfl (by omega)) (fun _ _ => (.sub (by repeat (first | exact List.Sublist.refl _ | apply List.Sublist.cons)))) ?_
  rintro b24 -
  refine d_t rfl rfl (.none rfl) (h_append rfl rfl rfl Try.underlying120 info78 rfl rfl (.there (.there (.there (.there Sel.here)))) rfl (.own Sel.here) rfl (all1 rfl) (all1 rfl) (by omega) (by omega)) ?_
  rintro ⟨A25, c25⟩ -
  refine d_t rfl rfl (.none rfl) (.of_q rfl rfl (q_fieldB (d := 0) rfl Try.underlying123 rfl rfl sz120 rfl)) ?_
  rintro - -
  refine d_t rfl rfl (.none rfl) (h_storeB rfl rfl sz120 rfl rfl rfl rfl rfl (.there (.there (.there (.there (.there Sel.here))))) rfl) ?_
  rintro - -
  refine d_nil ?_
  refine run_blk ?_
  refine run_region ?_
  refine run_q (.none rfl) rfl rfl (q_move rfl rfl) ?_
  refine run_q (.none rfl) rfl rfl (q_add rfl rfl rfl (by omega)) ?_
  refine run_q (.none rfl) rfl rfl (q_assign rfl rfl) ?_
  refine run_nil ?_
  refine run_round ?_
  refine run_seq ?_
  refine run_seq ?_
  refine run_region ?_
  refine run_q (.none rfl) rfl rfl (q_move rfl rfl) ?_
  refine run_q (.none rfl) rfl rfl (q_fieldB (d := 0) rfl Try.underlying123 rfl rfl sz120 rfl) ?_
  refine run_q (.none rfl) rfl rfl (q_loadB rfl one120 rfl (.there (.there (.there (.there (.there (.there (.there Sel.here))))))) rfl) ?_
  refine run_q (.none rfl) rfl rfl (q_len rfl Try.underlying120 rfl) ?_
  refine run_q (.none rfl) rfl rfl (q_lss rfl rfl rfl) ?_
  refine run_q (.none rfl) rfl rfl (q_move rfl rfl) ?_
  refine run_off (.no rfl rfl rfl (by decide)) rfl rfl ?_
  refine run_off (.no rfl rfl rfl (by decide)) rfl rfl ?_
  refine run_q (.none rfl) rfl rfl (q_pickF rfl rfl (by decide) rfl) ?_
  refine run_nil ?_
  refine run_condF rfl rfl ?_
  refine run_exit rfl ?_
  refine run_sub (subMk (.cons (s := 1) rfl (.cons (s := 2) rfl (.cons (s := 3) rfl .nil))) .refl) ?_
  refine run_seq ?_
  refine run_sub (subMk .refl (MemSub.nilOwn 197 4)) ?_
  refine run_draw [(0, 0), (1, 0), (2, 0), (3, 0), (4, 0), (5, 0), (6, 0), (7, 0), (8, 0), (9, 2), (10, 2), (11, 2)] mixed (by kernel_rfl) .refl ?_
  refine d_q rfl rfl (.none rfl) rfl rfl (q_fieldB (d := 1) rfl Try.underlying123 rfl rfl sz121 rfl) ?_
  refine d_q rfl rfl (.none rfl) rfl rfl (q_loadB rfl one121 rfl (.there Sel.here) rfl) ?_
  refine d_q rfl rfl (.none rfl) rfl rfl (q_fieldB (d := 1) rfl Try.underlying123 rfl rfl sz121 rfl) ?_
  refine d_q rfl rfl (.none rfl) rfl rfl (q_loadB rfl one121 rfl (.there (.there (.there (.there (.there (.there (.there (.there Sel.here)))))))) rfl) ?_
  refine d_q rfl rfl (.none rfl) rfl rfl (q_fieldB (d := 1) rfl Try.underlying123 rfl rfl sz121 rfl) ?_
  refine d_q rfl rfl (.none rfl) rfl rfl (q_loadB rfl one121 rfl (.there (.there (.there (.there (.there (.there (.there (.there Sel.here)))))))) rfl) ?_
  refine d_q rfl rfl (.none rfl) rfl rfl (q_len rfl Try.underlying121 rfl) ?_
  refine d_q rfl rfl (.none rfl) rfl rfl (q_min2 rfl rfl rfl) ?_
  refine d_q rfl rfl (.none rfl) rfl rfl (q_sliceH rfl Try.underlying121 sz197 rfl rfl (by omega)) ?_
  refine d_t rfl rfl (.none rfl) (h_append rfl rfl rfl Try.underlying121 info197 rfl rfl Sel.here rfl (fun _ _ _ => .inl rfl) rfl all0 all0 (by decide) (by decide)) ?_
  rintro ⟨A36, c36⟩ -
  refine d_t rfl rfl (.none rfl) (.of_q rfl rfl (q_fieldB (d := 1) rfl Try.underlying123 rfl rfl sz121 rfl)) ?_
  rintro - -
  refine d_t rfl rfl (.none rfl) (h_storeB rfl rfl sz121 rfl rfl rfl rfl rfl (.there Sel.here) rfl) ?_
  rintro - -
  refine d_nil ?_
  refine run_sub (subMk (.cons (s := 2) rfl (.cons (s := 3) rfl .nil)) .refl) ?_
  refine run_seq ?_
  refine run_region ?_
  refine run_q (.none rfl) rfl rfl (q_loadBN rfl agg123 rfl Sel.here (.cons rfl (.cons rfl CellsAt.nil)) rfl) ?_
  refine run_h (.none rfl) (h_storeB rfl rfl sz123 rfl rfl rfl rfl rfl (.there (.there (.there (.there (.there (.there (.there Sel.here))))))) rfl) ?_
  rintro - -
  refine run_nil ?_
  refine run_ret ?_
  exact endG rfl (.cellN rfl agg123 Sel.here (.cons rfl (.cons rfl CellsAt.nil)) rfl Outs.nil) _ (.cons (.there (.there (.there Sel.here))) .refl (.cons (.there (.there (.there (.there Sel.here)))) .refl (.cons (.there (.there (.there (.there Sel.here)))) .refl (.cons (.there (.there (.there (.there Sel.here)))) .refl .nil)))) ⟨q, A25, A36, c25, c36, rfl, rfl⟩

end Go.Proofs.YtgphmbipakdggaaR.Ev
