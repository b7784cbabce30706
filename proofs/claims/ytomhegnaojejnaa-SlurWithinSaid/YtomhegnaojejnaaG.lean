/- Boxes, and skylines occupied. -/
import Derived.Test.YtomhegnaojejnaaD
import Derived.Test.YtomhegnaojejnaaOrd
set_option linter.unusedSimpArgs false
set_option linter.unusedVariables false
namespace Go.Proofs.Ytomhegnaojejnaa
open Go Go.RowKit Hr

theorem info47 : Hr.Info Try.prog 47 [.int .i64 0, .int .i64 0, .int .i64 0, .int .i64 0] 4 32 := Hr.Info.of (by kernel_rfl)
theorem built47p1p3 (x1y : Int) (x3y : Int) : Try.prog.built 47 [(1, .int .i64 x1y), (3, .int .i64 x3y)] = some #[.int .i64 0, .int .i64 x1y, .int .i64 0, .int .i64 x3y] := by kernel_rfl
theorem sz47 : Hr.Sz Try.prog 47 4 := Hr.Sz.of (by kernel_rfl)
theorem agg47 : Hr.Agg Try.prog 47 4 := ⟨fun w => by simp [isAgg, run_underlying Try.underlying47], Hr.Sz.of (by kernel_rfl)⟩
theorem call43 : Hr.Callable Try.prog 43 := fun args w => by kernel_rfl
theorem call42 : Hr.Callable Try.prog 42 := fun args w => by kernel_rfl

set_option maxRecDepth 100000 in
theorem RaiseE_just (o : List Int) (p : Nat) (A : Option Addr) (c : Nat) (t : Int) (n : Nat) (f l h : Int) (W : World) (hon : o.length = n) (hb : Rd W (some ⟨p, 0, none⟩) 2 [[.int .i64 t, .slice A n c]]) (hf : 0 ≤ f ∧ f ≤ l ∧ l < o.length) (hh : ¬ (-1048576 ≤ h ∧ h ≤ 1048576)) : Calls Try.prog 42 #[.pointer (some ((adr (some ⟨p, 0, none⟩)).add (0 * 2))), .int .i64 f, .int .i64 l, .int .i64 h] W (Hr.Just W (.int .i64 2)) := by
  subst hon
  refine Just.of_ret ?_
  refine enterA (X := nX) (vs := [.pointer (some ((adr (some ⟨p, 0, none⟩)).add (0 * 2))), .int .i64 f, .int .i64 l, .int .i64 h]) Try.func42 Try.ntmps42 rfl rfl Mem.nil ?_
  refine run_seq ?_
  refine run_region ?_
  refine run_q (.none rfl) rfl rfl (q_assign rfl rfl) ?_
  refine run_nil ?_
  refine run_seq ?_
  refine run_seq ?_
  refine run_region ?_
  refine run_q (.none rfl) rfl rfl (q_move rfl rfl) ?_
  refine run_q (.none rfl) rfl rfl (q_move rfl rfl) ?_
  refine run_q (.none rfl) rfl rfl (q_move rfl rfl) ?_
  refine run_q (.none rfl) rfl rfl (q_call rfl call54 (.cons rfl (.cons rfl (.cons rfl Evs.nil))) (fun w hk hm => columns_just o p A c t _ f l w rfl (hb.kept0 hk))) ?_
  refine run_q (.none rfl) rfl rfl (q_assign rfl rfl) ?_
  refine run_nil ?_
  refine run_sub (subMk (.cons (s := 0) rfl (.cons (s := 1) rfl (.cons (s := 2) rfl (.cons (s := 3) rfl (.cons (s := 8) rfl (.cons (s := 9) rfl .nil)))))) .refl) ?_
  refine run_seq ?_
  refine run_region ?_
  refine run_q (.none rfl) rfl rfl (q_move rfl rfl) ?_
  refine run_q (.none rfl) rfl rfl (q_neq rfl rfl rfl) ?_
  refine run_nil ?_
  refine run_condF rfl (by rw [colE, if_neg (by omega)]; rfl) ?_
  refine run_skip ?_
  refine run_seq ?_
  refine run_seq ?_
  refine run_region ?_
  refine run_q (.none rfl) rfl rfl (q_move rfl rfl) ?_
  refine run_q (.none rfl) rfl rfl (q_call rfl call48 (.cons rfl Evs.nil) (fun w hk hm => perm_just h w)) ?_
  refine run_q (.none rfl) rfl rfl (q_not rfl rfl) ?_
  refine run_nil ?_
  refine run_sub (subMk (.cons (s := 0) rfl (.cons (s := 1) rfl (.cons (s := 2) rfl (.cons (s := 3) rfl (.cons (s := 8) rfl (.cons (s := 19) rfl .nil)))))) .refl) ?_
  refine run_condT rfl (by rw [decide_eq_false hh]; rfl) ?_
  refine run_seq ?_
  refine run_region ?_
  refine run_q (.none rfl) rfl rfl (q_assign rfl rfl) ?_
  refine run_nil ?_
  refine run_ret ?_
  exact end1 rfl rfl rfl

set_option maxRecDepth 100000 in
theorem farther_just (x : Spn) (W : World) (ht : x.side = 1 ∨ x.side = -1) (h1 : -524288 ≤ x.frm ∧ x.frm ≤ 524288) (h2 : -524288 ≤ x.til ∧ x.til ≤ 524288) : Calls Try.prog 64 #[x.val] W (Hr.Just W (.int .i64 (x.side * outS x))) := by
  have h3 := sgn_bd (b := 524288) ht (x := x.frm) ⟨by omega, by omega⟩
  have h4 := sgn_bd (b := 524288) ht (x := x.til) ⟨by omega, by omega⟩
  have h5 := sgn_bd (b := 524288) ht (x := max (x.side * x.frm) (x.side * x.til)) ⟨by omega, by omega⟩
  refine Just.of_ret ?_
  refine enterA (X := nX) (vs := [x.val]) Try.func64 Try.ntmps64 rfl rfl Mem.nil ?_
  refine run_seq ?_
  refine run_region ?_
  refine run_h (.none rfl) (h_box rfl rfl rfl rfl rfl) ?_
  rintro b1 -
  refine run_q (.none rfl) rfl rfl (q_assign rfl rfl) ?_
  refine run_nil ?_
  refine run_seq ?_
  refine run_region ?_
  refine run_q (.none rfl) rfl rfl (q_fieldB (d := 3) rfl Try.underlying25 rfl rfl sz3 rfl) ?_
  refine run_q (.none rfl) rfl rfl (q_loadB rfl one3 rfl Sel.here rfl) ?_
  refine run_q (.none rfl) rfl rfl (q_fieldB (d := 3) rfl Try.underlying25 rfl rfl sz3 rfl) ?_
  refine run_q (.none rfl) rfl rfl (q_loadB rfl one3 rfl Sel.here rfl) ?_
  refine run_q (.none rfl) rfl rfl (q_fieldB (d := 8) rfl Try.underlying25 rfl rfl sz3 rfl) ?_
  refine run_q (.none rfl) rfl rfl (q_loadB rfl one3 rfl Sel.here rfl) ?_
  refine run_q (.none rfl) rfl rfl (q_mul rfl rfl rfl (by omega)) ?_
  refine run_q (.none rfl) rfl rfl (q_fieldB (d := 3) rfl Try.underlying25 rfl rfl sz3 rfl) ?_
  refine run_q (.none rfl) rfl rfl (q_loadB rfl one3 rfl Sel.here rfl) ?_
  refine run_q (.none rfl) rfl rfl (q_fieldB (d := 9) rfl Try.underlying25 rfl rfl sz3 rfl) ?_
  refine run_q (.none rfl) rfl rfl (q_loadB rfl one3 rfl Sel.here rfl) ?_
  refine run_q (.none rfl) rfl rfl (q_mul rfl rfl rfl (by omega)) ?_
  refine run_q (.none rfl) rfl rfl (q_max2 rfl rfl rfl) ?_
  refine run_q (.none rfl) rfl rfl (q_mul rfl rfl rfl (by omega)) ?_
  refine run_q (.none rfl) rfl rfl (q_assign rfl rfl) ?_
  refine run_nil ?_
  refine run_sub (subMk (.cons (s := 2) rfl .nil) .refl) ?_
  refine run_ret ?_
  exact end1 rfl rfl rfl

set_option maxRecDepth 100000 in
theorem box_1 (e h : Int) (W : World) (he : -1000000000 ≤ e ∧ e ≤ 1000000000) (hh : 0 ≤ h ∧ h ≤ 1000) : Calls Try.prog 46 #[.int .i64 e, .int .i64 1, .int .i64 h] W (Hr.Just W (.agg #[.int .i64 0, .int .i64 e, .int .i64 0, .int .i64 (e + h)])) := by
  refine Just.of_ret ?_
  refine enterA (X := nX) (vs := [.int .i64 e, .int .i64 1, .int .i64 h]) Try.func46 Try.ntmps46 rfl rfl Mem.nil ?_
  refine run_seq ?_
  refine run_region ?_
  refine run_h (.none rfl) (h_alloc rfl rfl rfl info47) ?_
  rintro b6 -
  refine run_nil ?_
  refine run_seq ?_
  refine run_seq ?_
  refine run_region ?_
  refine run_q (.none rfl) rfl rfl (q_move rfl rfl) ?_
  refine run_q (.none rfl) rfl rfl (q_eql rfl rfl rfl) ?_
  refine run_nil ?_
  refine run_condT rfl rfl ?_
  refine run_seq ?_
  refine run_region ?_
  refine run_q (.none rfl) rfl rfl (q_move rfl rfl) ?_
  refine run_q (.none rfl) rfl rfl (q_move rfl rfl) ?_
  refine run_q (.none rfl) rfl rfl (q_move rfl rfl) ?_
  refine run_q (.none rfl) rfl rfl (q_add rfl rfl rfl (by omega)) ?_
  refine run_q (.none rfl) rfl rfl (q_build rfl (.cons rfl (.cons rfl PV.nil)) (built47p1p3 _ _)) ?_
  refine run_h (.none rfl) (h_storeB rfl rfl sz47 rfl rfl rfl rfl rfl Sel.here rfl) ?_
  rintro - -
  refine run_nil ?_
  refine run_sub (subMk (.cons (s := 0) rfl (.cons (s := 2) rfl (.cons (s := 6) rfl .nil))) .refl) ?_
  refine run_ret ?_
  exact endG rfl (.cellN rfl agg47 Sel.here (.cons rfl (.cons rfl (.cons rfl (.cons rfl CellsAt.nil)))) rfl Outs.nil) _ .nil rfl

set_option maxRecDepth 100000 in
theorem box_m (e h : Int) (W : World) (he : -1000000000 ≤ e ∧ e ≤ 1000000000) (hh : 0 ≤ h ∧ h ≤ 1000) : Calls Try.prog 46 #[.int .i64 e, .int .i64 (-1), .int .i64 h] W (Hr.Just W (.agg #[.int .i64 0, .int .i64 (e - h), .int .i64 0, .int .i64 e])) := by
  refine Just.of_ret ?_
  refine enterA (X := nX) (vs := [.int .i64 e, .int .i64 (-1), .int .i64 h]) Try.func46 Try.ntmps46 rfl rfl Mem.nil ?_
  refine run_seq ?_
  refine run_region ?_
  refine run_h (.none rfl) (h_alloc rfl rfl rfl info47) ?_
  rintro b6 -
  refine run_nil ?_
  refine run_seq ?_
  refine run_seq ?_
  refine run_region ?_
  refine run_q (.none rfl) rfl rfl (q_move rfl rfl) ?_
  refine run_q (.none rfl) rfl rfl (q_eql rfl rfl rfl) ?_
  refine run_nil ?_
  refine run_condF rfl rfl ?_
  refine run_skip ?_
  refine run_seq ?_
  refine run_region ?_
  refine run_q (.none rfl) rfl rfl (q_move rfl rfl) ?_
  refine run_q (.none rfl) rfl rfl (q_move rfl rfl) ?_
  refine run_q (.none rfl) rfl rfl (q_sub rfl rfl rfl (by omega)) ?_
  refine run_q (.none rfl) rfl rfl (q_move rfl rfl) ?_
  refine run_q (.none rfl) rfl rfl (q_build rfl (.cons rfl (.cons rfl PV.nil)) (built47p1p3 _ _)) ?_
  refine run_h (.none rfl) (h_storeB rfl rfl sz47 rfl rfl rfl rfl rfl Sel.here rfl) ?_
  rintro - -
  refine run_nil ?_
  refine run_sub (subMk (.cons (s := 6) rfl .nil) .refl) ?_
  refine run_ret ?_
  exact endG rfl (.cellN rfl agg47 Sel.here (.cons rfl (.cons rfl (.cons rfl (.cons rfl CellsAt.nil)))) rfl Outs.nil) _ .nil rfl

set_option maxRecDepth 100000 in
theorem occ_1 (o : List Int) (p : Nat) (A : Option Addr) (c : Nat) (t : Int) (n : Nat) (f l bo to : Int) (W : World) (hon : o.length = n) (hm : Mem (atAny [.blk p 94 [(0, .int .i64 t), (1, .slice A n c)], .own 3 1 A n c ((o).map encI)]) W [.blk p 94 [(0, .int .i64 t), (1, .slice A n c)], .own 3 1 A n c ((o).map encI)] W) (hf : 0 ≤ f ∧ f ≤ l ∧ l < o.length) (hl6 : o.length ≤ 65536) (ht : t = 1) (hh : -1048576 ≤ to ∧ to ≤ 1048576) : Calls Try.prog 65 #[.pointer (some ⟨p, 0, none⟩), .int .i64 f, .int .i64 l, .agg #[.int .i64 0, .int .i64 bo, .int .i64 0, .int .i64 to]] W (Ret W (atAny [.blk p 94 [(0, .int .i64 t), (1, .slice A n c)], .own 3 1 A n c ((o).map encI)]) (fun v m => v = .int .i64 0 ∧ m = [.blk p 94 [(0, .int .i64 t), (1, .slice A n c)], .own 3 1 A n c (((raiseN o f.toNat (l.toNat + 1) (t * to))).map encI)])) := by
  subst hon
  refine enterA (X := _) (vs := [.pointer (some ⟨p, 0, none⟩), .int .i64 f, .int .i64 l, .agg #[.int .i64 0, .int .i64 bo, .int .i64 0, .int .i64 to]]) Try.func65 Try.ntmps65 rfl rfl hm ?_
  refine run_seq ?_
  refine run_region ?_
  refine run_h (.none rfl) (h_box rfl rfl rfl rfl rfl) ?_
  rintro b7 -
  refine run_q (.none rfl) rfl rfl (q_assign rfl rfl) ?_
  refine run_nil ?_
  refine run_seq ?_
  refine run_seq ?_
  refine run_region ?_
  refine run_q (.none rfl) rfl rfl (q_move rfl rfl) ?_
  refine run_q (.none rfl) rfl rfl (q_call rfl call43 (.cons rfl Evs.nil) (fun w hk hm => side_just o p A c t _ w rfl (rd_sky ((Sel.there Sel.here).holds hm)))) ?_
  refine run_q (.none rfl) rfl rfl (q_eql rfl rfl rfl) ?_
  refine run_nil ?_
  refine run_sub (subMk (.cons (s := 0) rfl (.cons (s := 1) rfl (.cons (s := 2) rfl (.cons (s := 7) rfl (.cons (s := 8) rfl (.cons (s := 11) rfl .nil)))))) .refl) ?_
  refine run_condT rfl (by rw [ht]; rfl) ?_
  refine run_seq ?_
  refine run_region ?_
  refine run_q (.none rfl) rfl rfl (q_move rfl rfl) ?_
  refine run_q (.none rfl) rfl rfl (q_move rfl rfl) ?_
  refine run_q (.none rfl) rfl rfl (q_move rfl rfl) ?_
  refine run_q (.none rfl) rfl rfl (q_fieldB (d := 3) rfl Try.underlying47 rfl rfl sz3 rfl) ?_
  refine run_q (.none rfl) rfl rfl (q_loadB rfl one3 rfl Sel.here rfl) ?_
  refine run_h (.none rfl) (h_callX [_, _] _ rfl rfl rfl call42 (.cons rfl (.cons rfl (.cons rfl (.cons rfl Evs.nil)))) ((Sel.perm (.there Sel.here)).trans (.cons _ (Sel.perm (.there Sel.here)))) (Y := fun _ => atAny [_, _]) (fun _ _ h => h) (fun w hk hm => Raise_ret o p A c t _ f l to w rfl ((hm.perm ((Sel.perm (.there Sel.here)).trans (.cons _ (Sel.perm (.there Sel.here))))).give (rs := [_, _])) hf hl6 (.inl ht) hh)) ?_
  rintro ⟨v, m⟩ ⟨rfl, rfl⟩
  show Run _ _ _ _ _ _ _ ⟨(17, .int .i64 0) :: _, _ :: _ :: _⟩
  refine run_q (.none rfl) rfl rfl (q_assign rfl rfl) ?_
  refine run_nil ?_
  refine run_sub (subMk (.cons (s := 0) rfl (.cons (s := 1) rfl (.cons (s := 2) rfl (.cons (s := 7) rfl (.cons (s := 8) rfl .nil))))) .refl) ?_
  refine run_ret ?_
  refine run_sub (subMk .refl (.cons Sel.here .refl (.cons Sel.here .refl .nil))) ?_
  exact end1 rfl rfl ⟨rfl, rfl⟩

set_option maxRecDepth 100000 in
theorem occE_1 (o : List Int) (p : Nat) (A : Option Addr) (c : Nat) (t : Int) (n : Nat) (f l bo to : Int) (W : World) (hon : o.length = n) (hb : Rd W (some ⟨p, 0, none⟩) 2 [[.int .i64 t, .slice A n c]]) (hf : 0 ≤ f ∧ f ≤ l ∧ l < o.length) (ht : t = 1) (hh : ¬ (-1048576 ≤ to ∧ to ≤ 1048576)) : Calls Try.prog 65 #[.pointer (some ((adr (some ⟨p, 0, none⟩)).add (0 * 2))), .int .i64 f, .int .i64 l, .agg #[.int .i64 0, .int .i64 bo, .int .i64 0, .int .i64 to]] W (Hr.Just W (.int .i64 2)) := by
  subst hon
  refine Just.of_ret ?_
  refine enterA (X := nX) (vs := [.pointer (some ((adr (some ⟨p, 0, none⟩)).add (0 * 2))), .int .i64 f, .int .i64 l, .agg #[.int .i64 0, .int .i64 bo, .int .i64 0, .int .i64 to]]) Try.func65 Try.ntmps65 rfl rfl Mem.nil ?_
  refine run_seq ?_
  refine run_region ?_
  refine run_h (.none rfl) (h_box rfl rfl rfl rfl rfl) ?_
  rintro b7 -
  refine run_q (.none rfl) rfl rfl (q_assign rfl rfl) ?_
  refine run_nil ?_
  refine run_seq ?_
  refine run_seq ?_
  refine run_region ?_
  refine run_q (.none rfl) rfl rfl (q_move rfl rfl) ?_
  refine run_q (.none rfl) rfl rfl (q_call rfl call43 (.cons rfl Evs.nil) (fun w hk hm => side_just o p A c t _ w rfl (hb.kept0 hk))) ?_
  refine run_q (.none rfl) rfl rfl (q_eql rfl rfl rfl) ?_
  refine run_nil ?_
  refine run_sub (subMk (.cons (s := 0) rfl (.cons (s := 1) rfl (.cons (s := 2) rfl (.cons (s := 7) rfl (.cons (s := 8) rfl (.cons (s := 11) rfl .nil)))))) .refl) ?_
  refine run_condT rfl (by rw [ht]; rfl) ?_
  refine run_seq ?_
  refine run_region ?_
  refine run_q (.none rfl) rfl rfl (q_move rfl rfl) ?_
  refine run_q (.none rfl) rfl rfl (q_move rfl rfl) ?_
  refine run_q (.none rfl) rfl rfl (q_move rfl rfl) ?_
  refine run_q (.none rfl) rfl rfl (q_fieldB (d := 3) rfl Try.underlying47 rfl rfl sz3 rfl) ?_
  refine run_q (.none rfl) rfl rfl (q_loadB rfl one3 rfl Sel.here rfl) ?_
  refine run_q (.none rfl) rfl rfl (q_call rfl call42 (.cons rfl (.cons rfl (.cons rfl (.cons rfl Evs.nil)))) (fun w hk hm => RaiseE_just o p A c t _ f l to w rfl (hb.kept0 hk) hf hh)) ?_
  refine run_q (.none rfl) rfl rfl (q_assign rfl rfl) ?_
  refine run_nil ?_
  refine run_sub (subMk (.cons (s := 0) rfl (.cons (s := 1) rfl (.cons (s := 2) rfl (.cons (s := 7) rfl (.cons (s := 8) rfl .nil))))) .refl) ?_
  refine run_ret ?_
  exact end1 rfl rfl rfl

set_option maxRecDepth 100000 in
theorem occ_m (o : List Int) (p : Nat) (A : Option Addr) (c : Nat) (t : Int) (n : Nat) (f l bo to : Int) (W : World) (hon : o.length = n) (hm : Mem (atAny [.blk p 94 [(0, .int .i64 t), (1, .slice A n c)], .own 3 1 A n c ((o).map encI)]) W [.blk p 94 [(0, .int .i64 t), (1, .slice A n c)], .own 3 1 A n c ((o).map encI)] W) (hf : 0 ≤ f ∧ f ≤ l ∧ l < o.length) (hl6 : o.length ≤ 65536) (ht : t = -1) (hh : -1048576 ≤ bo ∧ bo ≤ 1048576) : Calls Try.prog 65 #[.pointer (some ⟨p, 0, none⟩), .int .i64 f, .int .i64 l, .agg #[.int .i64 0, .int .i64 bo, .int .i64 0, .int .i64 to]] W (Ret W (atAny [.blk p 94 [(0, .int .i64 t), (1, .slice A n c)], .own 3 1 A n c ((o).map encI)]) (fun v m => v = .int .i64 0 ∧ m = [.blk p 94 [(0, .int .i64 t), (1, .slice A n c)], .own 3 1 A n c (((raiseN o f.toNat (l.toNat + 1) (t * bo))).map encI)])) := by
  subst hon
  refine enterA (X := _) (vs := [.pointer (some ⟨p, 0, none⟩), .int .i64 f, .int .i64 l, .agg #[.int .i64 0, .int .i64 bo, .int .i64 0, .int .i64 to]]) Try.func65 Try.ntmps65 rfl rfl hm ?_
  refine run_seq ?_
  refine run_region ?_
  refine run_h (.none rfl) (h_box rfl rfl rfl rfl rfl) ?_
  rintro b7 -
  refine run_q (.none rfl) rfl rfl (q_assign rfl rfl) ?_
  refine run_nil ?_
  refine run_seq ?_
  refine run_seq ?_
  refine run_region ?_
  refine run_q (.none rfl) rfl rfl (q_move rfl rfl) ?_
  refine run_q (.none rfl) rfl rfl (q_call rfl call43 (.cons rfl Evs.nil) (fun w hk hm => side_just o p A c t _ w rfl (rd_sky ((Sel.there Sel.here).holds hm)))) ?_
  refine run_q (.none rfl) rfl rfl (q_eql rfl rfl rfl) ?_
  refine run_nil ?_
  refine run_sub (subMk (.cons (s := 0) rfl (.cons (s := 1) rfl (.cons (s := 2) rfl (.cons (s := 7) rfl (.cons (s := 8) rfl (.cons (s := 11) rfl .nil)))))) .refl) ?_
  refine run_condF rfl (by rw [ht]; rfl) ?_
  refine run_skip ?_
  refine run_seq ?_
  refine run_region ?_
  refine run_q (.none rfl) rfl rfl (q_move rfl rfl) ?_
  refine run_q (.none rfl) rfl rfl (q_move rfl rfl) ?_
  refine run_q (.none rfl) rfl rfl (q_move rfl rfl) ?_
  refine run_q (.none rfl) rfl rfl (q_fieldB (d := 1) rfl Try.underlying47 rfl rfl sz3 rfl) ?_
  refine run_q (.none rfl) rfl rfl (q_loadB rfl one3 rfl Sel.here rfl) ?_
  refine run_h (.none rfl) (h_callX [_, _] _ rfl rfl rfl call42 (.cons rfl (.cons rfl (.cons rfl (.cons rfl Evs.nil)))) ((Sel.perm (.there Sel.here)).trans (.cons _ (Sel.perm (.there Sel.here)))) (Y := fun _ => atAny [_, _]) (fun _ _ h => h) (fun w hk hm => Raise_ret o p A c t _ f l bo w rfl ((hm.perm ((Sel.perm (.there Sel.here)).trans (.cons _ (Sel.perm (.there Sel.here))))).give (rs := [_, _])) hf hl6 (.inr ht) hh)) ?_
  rintro ⟨v, m⟩ ⟨rfl, rfl⟩
  show Run _ _ _ _ _ _ _ ⟨(23, .int .i64 0) :: _, _ :: _ :: _⟩
  refine run_q (.none rfl) rfl rfl (q_assign rfl rfl) ?_
  refine run_nil ?_
  refine run_sub (subMk (.cons (s := 8) rfl .nil) .refl) ?_
  refine run_ret ?_
  refine run_sub (subMk .refl (.cons Sel.here .refl (.cons Sel.here .refl .nil))) ?_
  exact end1 rfl rfl ⟨rfl, rfl⟩

set_option maxRecDepth 100000 in
theorem occE_m (o : List Int) (p : Nat) (A : Option Addr) (c : Nat) (t : Int) (n : Nat) (f l bo to : Int) (W : World) (hon : o.length = n) (hb : Rd W (some ⟨p, 0, none⟩) 2 [[.int .i64 t, .slice A n c]]) (hf : 0 ≤ f ∧ f ≤ l ∧ l < o.length) (ht : t = -1) (hh : ¬ (-1048576 ≤ bo ∧ bo ≤ 1048576)) : Calls Try.prog 65 #[.pointer (some ((adr (some ⟨p, 0, none⟩)).add (0 * 2))), .int .i64 f, .int .i64 l, .agg #[.int .i64 0, .int .i64 bo, .int .i64 0, .int .i64 to]] W (Hr.Just W (.int .i64 2)) := by
  subst hon
  refine Just.of_ret ?_
  refine enterA (X := nX) (vs := [.pointer (some ((adr (some ⟨p, 0, none⟩)).add (0 * 2))), .int .i64 f, .int .i64 l, .agg #[.int .i64 0, .int .i64 bo, .int .i64 0, .int .i64 to]]) Try.func65 Try.ntmps65 rfl rfl Mem.nil ?_
  refine run_seq ?_
  refine run_region ?_
  refine run_h (.none rfl) (h_box rfl rfl rfl rfl rfl) ?_
  rintro b7 -
  refine run_q (.none rfl) rfl rfl (q_assign rfl rfl) ?_
  refine run_nil ?_
  refine run_seq ?_
  refine run_seq ?_
  refine run_region ?_
  refine run_q (.none rfl) rfl rfl (q_move rfl rfl) ?_
  refine run_q (.none rfl) rfl rfl (q_call rfl call43 (.cons rfl Evs.nil) (fun w hk hm => side_just o p A c t _ w rfl (hb.kept0 hk))) ?_
  refine run_q (.none rfl) rfl rfl (q_eql rfl rfl rfl) ?_
  refine run_nil ?_
  refine run_sub (subMk (.cons (s := 0) rfl (.cons (s := 1) rfl (.cons (s := 2) rfl (.cons (s := 7) rfl (.cons (s := 8) rfl (.cons (s := 11) rfl .nil)))))) .refl) ?_
  refine run_condF rfl (by rw [ht]; rfl) ?_
  refine run_skip ?_
  refine run_seq ?_
  refine run_region ?_
  refine run_q (.none rfl) rfl rfl (q_move rfl rfl) ?_
  refine run_q (.none rfl) rfl rfl (q_move rfl rfl) ?_
  refine run_q (.none rfl) rfl rfl (q_move rfl rfl) ?_
  refine run_q (.none rfl) rfl rfl (q_fieldB (d := 1) rfl Try.underlying47 rfl rfl sz3 rfl) ?_
  refine run_q (.none rfl) rfl rfl (q_loadB rfl one3 rfl Sel.here rfl) ?_
  refine run_q (.none rfl) rfl rfl (q_call rfl call42 (.cons rfl (.cons rfl (.cons rfl (.cons rfl Evs.nil)))) (fun w hk hm => RaiseE_just o p A c t _ f l bo w rfl (hb.kept0 hk) hf hh)) ?_
  refine run_q (.none rfl) rfl rfl (q_assign rfl rfl) ?_
  refine run_nil ?_
  refine run_sub (subMk (.cons (s := 8) rfl .nil) .refl) ?_
  refine run_ret ?_
  exact end1 rfl rfl rfl

end Go.Proofs.Ytomhegnaojejnaa
