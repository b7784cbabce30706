/- A span placed. -/
import Derived.Test.YtomhegnaojejnaaG
import Derived.Test.YtomhegnaojejnaaE
set_option linter.unusedSimpArgs false
set_option linter.unusedVariables false
namespace Go.Proofs.Ytomhegnaojejnaa
open Go Go.RowKit Hr

theorem call17 : Hr.Callable Try.prog 17 := fun args w => by kernel_rfl
theorem call64 : Hr.Callable Try.prog 64 := fun args w => by kernel_rfl
theorem call63 : Hr.Callable Try.prog 63 := fun args w => by kernel_rfl
theorem call46 : Hr.Callable Try.prog 46 := fun args w => by kernel_rfl
theorem call65 : Hr.Callable Try.prog 65 := fun args w => by kernel_rfl

set_option maxHeartbeats 2000000 in
set_option maxRecDepth 100000 in
theorem place_ok (x : Spn) (o : List Int) (p : Nat) (A : Option Addr) (c : Nat) (t : Int) (n : Nat) (W : World) (hon : o.length = n) (hm : Mem (atAny [.blk p 94 [(0, .int .i64 t), (1, .slice A n c)], .own 3 1 A n c ((o).map encI)]) W [.blk p 94 [(0, .int .i64 t), (1, .slice A n c)], .own 3 1 A n c ((o).map encI)] W) (hx : spE x o.length = 0) (hsd : x.side = t) (hbd : Bd o) (hl6 : o.length ≤ 65536) (hc : o.length ≤ c) (hlim : ¬ 1048576 < atS x o + hS x) : Calls Try.prog 45 #[x.val, .pointer (some ⟨p, 0, none⟩)] W (Ret W (atAny [.blk p 94 [(0, .int .i64 t), (1, .slice A n c)], .own 3 1 A n c ((o).map encI)]) (fun v m => v = .tuple #[.int .i64 (t * atS x o), .int .i64 0] ∧ m = [.blk p 94 [(0, .int .i64 t), (1, .slice A n c)], .own 3 1 A n c (((spO x o)).map encI)])) := by
  subst hon
  subst hsd
  have h0 := spE_ok hx
  have ht := h0.2.1
  have hob := outS_bd hx
  have hab := atS_bd hx hbd
  have hhb := hgtS_bd (f := x.fst) (l := x.lst)
  have hto := sgn_bd (b := 524288) ht (x := outS x) (by omega)
  have e0 : hS x = hgtS x.fst x.lst := rfl
  refine enterA (X := _) (vs := [x.val, .pointer (some ⟨p, 0, none⟩)]) Try.func45 Try.ntmps45 rfl rfl hm ?_
  refine run_seq ?_
  refine run_region ?_
  refine run_h (.none rfl) (h_box rfl rfl rfl rfl rfl) ?_
  rintro b2 -
  refine run_q (.none rfl) rfl rfl (q_assign rfl rfl) ?_
  refine run_q (.none rfl) rfl rfl (q_assign rfl rfl) ?_
  refine run_nil ?_
  refine run_seq ?_
  refine run_region ?_
  refine run_q (.none rfl) rfl rfl (q_fieldB (d := 6) rfl Try.underlying25 rfl rfl sz3 rfl) ?_
  refine run_q (.none rfl) rfl rfl (q_loadB rfl one3 rfl Sel.here rfl) ?_
  refine run_q (.none rfl) rfl rfl (q_fieldB (d := 7) rfl Try.underlying25 rfl rfl sz3 rfl) ?_
  refine run_q (.none rfl) rfl rfl (q_loadB rfl one3 rfl Sel.here rfl) ?_
  refine run_q (.none rfl) rfl rfl (q_call rfl call17 (.cons rfl (.cons rfl Evs.nil)) (fun w hk hm => height_just x.fst x.lst w (by omega) (by omega))) ?_
  refine run_q (.none rfl) rfl rfl (q_assign rfl rfl) ?_
  refine run_nil ?_
  refine run_sub (subMk (.cons (s := 1) rfl (.cons (s := 2) rfl (.cons (s := 4) rfl (.cons (s := 5) rfl (.cons (s := 6) rfl .nil))))) .refl) ?_
  refine run_seq ?_
  refine run_seq ?_
  refine run_region ?_
  refine run_q (.none rfl) rfl rfl (q_fieldB (d := 0) rfl Try.underlying25 rfl rfl sz3 rfl) ?_
  refine run_q (.none rfl) rfl rfl (q_loadB rfl one3 rfl Sel.here rfl) ?_
  refine run_q (.none rfl) rfl rfl (q_eql rfl rfl rfl) ?_
  refine run_nil ?_
  refine run_cond rfl (fun g15 => ?_) (fun g15 => ?_)
  · have g15' := g15
    try simp only [decide_eq_true_eq, decide_eq_false_iff_not, beq_iff_eq, beq_eq_false_iff_ne, bne_iff_ne, bne_eq_false_iff_eq, Bool.not_eq_true', Bool.not_eq_false', ne_eq, Int.not_lt, Int.not_le, Decidable.not_not] at g15'
    have hc41 : x.cls = 41 := g15'
    refine run_seq ?_
    refine run_draw [(0, 0), (1, 0), (2, 0), (3, 0), (4, 0), (5, 0), (6, 0), (7, 0), (8, 1), (9, 0), (10, 0), (11, 0), (12, 0)] mixed (by kernel_rfl) ((Sel.rest (.there Sel.here)).trans (Sel.rest (.there Sel.here))) ?_
    refine d_q rfl rfl (.none rfl) rfl rfl (q_move rfl rfl) ?_
    refine d_q rfl rfl (.none rfl) rfl rfl (q_fieldB (d := 6) rfl Try.underlying25 rfl rfl sz3 rfl) ?_
    refine d_q rfl rfl (.none rfl) rfl rfl (q_loadB rfl one3 rfl Sel.here rfl) ?_
    refine d_q rfl rfl (.none rfl) rfl rfl (q_fieldB (d := 7) rfl Try.underlying25 rfl rfl sz3 rfl) ?_
    refine d_q rfl rfl (.none rfl) rfl rfl (q_loadB rfl one3 rfl Sel.here rfl) ?_
    refine d_q rfl rfl (.none rfl) rfl rfl (q_loadBN rfl agg25 rfl Sel.here (.cons rfl (.cons rfl (.cons rfl (.cons rfl (.cons rfl (.cons rfl (.cons rfl (.cons rfl (.cons rfl (.cons rfl (.cons rfl (.cons rfl CellsAt.nil)))))))))))) rfl) ?_
    refine d_q rfl rfl (.none rfl) rfl rfl (q_call rfl call64 (.cons rfl Evs.nil) (fun w hk hm => farther_just x w ht ⟨by omega, by omega⟩ ⟨by omega, by omega⟩)) ?_
    refine d_q rfl rfl (.none rfl) rfl rfl (q_move rfl rfl) ?_
    refine d_h rfl rfl (.none rfl) (h_callX [_, _] _ rfl rfl rfl call63 (.cons rfl (.cons rfl (.cons rfl (.cons rfl (.cons rfl (.cons rfl Evs.nil)))))) ((Sel.perm (.there Sel.here)).trans (.cons _ (Sel.perm (.there Sel.here)))) (Y := fun _ => atAny [_, _]) (fun _ _ h => h) (fun w hk hm => placeS_ret o p A c x.side _ x.fst x.lst (x.side * outS x) (hS x) w rfl ((hm.perm ((Sel.perm (.there Sel.here)).trans (.cons _ (Sel.perm (.there Sel.here))))).give (rs := [_, _])) ⟨by omega, by omega, by omega⟩ hc hl6 hbd ht ⟨by omega, by omega⟩ ⟨by omega, by omega⟩)) (fun _ _ => (.sub (List.sublist_append_right _ _))) ?_
    rintro ⟨v, m⟩ ⟨rfl, rfl⟩
    show RunD _ _ _ _ _ _ _ _ _ _ _ ⟨(24, .tuple #[.int .i64 (plV x.side o x.fst.toNat x.lst.toNat (x.side * outS x) (hS x)), .int .i64 (plE x.side o x.fst.toNat x.lst.toNat (x.side * outS x) (hS x))]) :: _, _ :: _ :: _⟩
    refine d_q rfl rfl (.none rfl) rfl rfl (q_extract rfl rfl rfl) ?_
    refine d_q rfl rfl (.none rfl) rfl rfl (q_extract rfl rfl rfl) ?_
    refine d_q rfl rfl (.none rfl) rfl rfl (q_assign rfl rfl) ?_
    refine d_q rfl rfl (.none rfl) rfl rfl (q_assign rfl rfl) ?_
    refine d_nil ?_
    refine run_sub (subMk (.cons (s := 1) rfl (.cons (s := 2) rfl (.cons (s := 4) rfl (.cons (s := 5) rfl (.cons (s := 6) rfl .nil))))) .refl) ?_
    refine run_ret ?_
    refine run_sub (subMk .refl (.cons Sel.here (.blk (.cons (s := 0) rfl (.cons (s := 1) rfl (.nil)))) (.cons Sel.here (.own (xs' := (spO x o).map encI) rfl rfl rfl (by rw [plO_at ht hc41])) .nil))) ?_
    exact end2 rfl rfl rfl ⟨by rw [plV_at ht hc41 hlim, plE_at ht hc41 hlim] <;> rfl, rfl⟩
  · have g15' := g15
    try simp only [decide_eq_true_eq, decide_eq_false_iff_not, beq_iff_eq, beq_eq_false_iff_ne, bne_iff_ne, bne_eq_false_iff_eq, Bool.not_eq_true', Bool.not_eq_false', ne_eq, Int.not_lt, Int.not_le, Decidable.not_not] at g15'
    have hat := at_tie (o := o) g15'
    refine run_skip ?_
    refine run_seq ?_
    by_cases hs1 : x.side = 1
    · have hs8 : -8 ≤ x.side * 8 ∧ x.side * 8 ≤ 8 := by omega
      refine run_draw [(0, 0), (1, 0), (2, 0), (3, 0), (4, 0), (5, 0), (6, 0)] mixed (by kernel_rfl) .refl ?_
      refine d_q rfl rfl (.none rfl) rfl rfl (q_loadBN rfl agg25 rfl Sel.here (.cons rfl (.cons rfl (.cons rfl (.cons rfl (.cons rfl (.cons rfl (.cons rfl (.cons rfl (.cons rfl (.cons rfl (.cons rfl (.cons rfl CellsAt.nil)))))))))))) rfl) ?_
      refine d_q rfl rfl (.none rfl) rfl rfl (q_call rfl call64 (.cons rfl Evs.nil) (fun w hk hm => farther_just x w ht ⟨by omega, by omega⟩ ⟨by omega, by omega⟩)) ?_
      refine d_q rfl rfl (.none rfl) rfl rfl (q_fieldB (d := 3) rfl Try.underlying25 rfl rfl sz3 rfl) ?_
      refine d_q rfl rfl (.none rfl) rfl rfl (q_loadB rfl one3 rfl Sel.here rfl) ?_
      refine d_q rfl rfl (.none rfl) rfl rfl (q_mul rfl rfl rfl (by omega)) ?_
      refine d_q rfl rfl (.none rfl) rfl rfl (q_add rfl rfl rfl (by omega)) ?_
      refine d_q rfl rfl (.none rfl) rfl rfl (q_assign rfl rfl) ?_
      refine d_nil ?_
      refine run_sub (subMk (.cons (s := 1) rfl (.cons (s := 2) rfl (.cons (s := 4) rfl (.cons (s := 5) rfl (.cons (s := 6) rfl (.cons (s := 7) rfl .nil)))))) .refl) ?_
      refine run_seq ?_
      refine run_draw [(0, 0), (1, 0), (2, 0), (3, 0), (4, 0), (5, 0), (6, 0), (7, 0), (8, 0), (9, 0), (10, 0), (11, 1), (12, 0), (13, 0)] mixed (by kernel_rfl) ((Sel.rest (.there Sel.here)).trans (Sel.rest (.there Sel.here))) ?_
      refine d_q rfl rfl (.none rfl) rfl rfl (q_move rfl rfl) ?_
      refine d_q rfl rfl (.none rfl) rfl rfl (q_move rfl rfl) ?_
      refine d_q rfl rfl (.none rfl) rfl rfl (q_fieldB (d := 6) rfl Try.underlying25 rfl rfl sz3 rfl) ?_
      refine d_q rfl rfl (.none rfl) rfl rfl (q_loadB rfl one3 rfl Sel.here rfl) ?_
      refine d_q rfl rfl (.none rfl) rfl rfl (q_fieldB (d := 7) rfl Try.underlying25 rfl rfl sz3 rfl) ?_
      refine d_q rfl rfl (.none rfl) rfl rfl (q_loadB rfl one3 rfl Sel.here rfl) ?_
      refine d_q rfl rfl (.none rfl) rfl rfl (q_move rfl rfl) ?_
      refine d_q rfl rfl (.none rfl) rfl rfl (q_fieldB (d := 3) rfl Try.underlying25 rfl rfl sz3 rfl) ?_
      refine d_q rfl rfl (.none rfl) rfl rfl (q_loadB rfl one3 rfl Sel.here rfl) ?_
      refine d_q rfl rfl (.none rfl) rfl rfl (q_move rfl rfl) ?_
      refine d_q rfl rfl (.none rfl) rfl rfl (q_call rfl call46 (.cons rfl (.cons rfl (.cons rfl Evs.nil))) (fun w hk hm => (by have h := box_1 (x.side * outS x + x.side * 8) (hS x) w ⟨by omega, by omega⟩ ⟨by omega, by omega⟩; rw [← hs1] at h; exact h))) ?_
      refine d_h rfl rfl (.none rfl) (h_callX [_, _] _ rfl rfl rfl call65 (.cons rfl (.cons rfl (.cons rfl (.cons rfl Evs.nil)))) ((Sel.perm (.there Sel.here)).trans (.cons _ (Sel.perm (.there Sel.here)))) (Y := fun _ => atAny [_, _]) (fun _ _ h => h) (fun w hk hm => occ_1 o p A c x.side _ x.fst x.lst (x.side * outS x + x.side * 8) ((x.side * outS x + x.side * 8) + hS x) w rfl ((hm.perm ((Sel.perm (.there Sel.here)).trans (.cons _ (Sel.perm (.there Sel.here))))).give (rs := [_, _])) ⟨by omega, by omega, by omega⟩ hl6 hs1 ⟨by rw [hs1]; omega, by rw [hs1]; omega⟩)) (fun _ _ => (.sub (List.sublist_append_right _ _))) ?_
      rintro ⟨v, m⟩ ⟨rfl, rfl⟩
      show RunD _ _ _ _ _ _ _ _ _ _ _ ⟨(44, .int .i64 0) :: _, _ :: _ :: _⟩
      refine d_q rfl rfl (.none rfl) rfl rfl (q_assign rfl rfl) ?_
      refine d_q rfl rfl (.none rfl) rfl rfl (q_assign rfl rfl) ?_
      refine d_nil ?_
      refine run_sub (subMk (.cons (s := 4) rfl (.cons (s := 5) rfl .nil)) .refl) ?_
      refine run_ret ?_
      refine run_sub (subMk .refl (.cons Sel.here (.blk (.cons (s := 0) rfl (.cons (s := 1) rfl (.nil)))) (.cons Sel.here (.own (xs' := (spO x o).map encI) rfl rfl rfl (by rw [spO_ok hlim, show x.side * ((x.side * outS x + x.side * 8) + hS x) = atS x o + hS x from by rw [hs1]; omega])) .nil))) ?_
      exact end2 rfl rfl rfl ⟨by rw [show x.side * outS x + x.side * 8 = x.side * atS x o from by rw [hs1]; omega] <;> rfl, rfl⟩
    · have hs8 : -8 ≤ x.side * 8 ∧ x.side * 8 ≤ 8 := by omega
      refine run_draw [(0, 0), (1, 0), (2, 0), (3, 0), (4, 0), (5, 0), (6, 0)] mixed (by kernel_rfl) .refl ?_
      refine d_q rfl rfl (.none rfl) rfl rfl (q_loadBN rfl agg25 rfl Sel.here (.cons rfl (.cons rfl (.cons rfl (.cons rfl (.cons rfl (.cons rfl (.cons rfl (.cons rfl (.cons rfl (.cons rfl (.cons rfl (.cons rfl CellsAt.nil)))))))))))) rfl) ?_
      refine d_q rfl rfl (.none rfl) rfl rfl (q_call rfl call64 (.cons rfl Evs.nil) (fun w hk hm => farther_just x w ht ⟨by omega, by omega⟩ ⟨by omega, by omega⟩)) ?_
      refine d_q rfl rfl (.none rfl) rfl rfl (q_fieldB (d := 3) rfl Try.underlying25 rfl rfl sz3 rfl) ?_
      refine d_q rfl rfl (.none rfl) rfl rfl (q_loadB rfl one3 rfl Sel.here rfl) ?_
      refine d_q rfl rfl (.none rfl) rfl rfl (q_mul rfl rfl rfl (by omega)) ?_
      refine d_q rfl rfl (.none rfl) rfl rfl (q_add rfl rfl rfl (by omega)) ?_
      refine d_q rfl rfl (.none rfl) rfl rfl (q_assign rfl rfl) ?_
      refine d_nil ?_
      refine run_sub (subMk (.cons (s := 1) rfl (.cons (s := 2) rfl (.cons (s := 4) rfl (.cons (s := 5) rfl (.cons (s := 6) rfl (.cons (s := 7) rfl .nil)))))) .refl) ?_
      refine run_seq ?_
      have hsm : x.side = -1 := by omega
      refine run_draw [(0, 0), (1, 0), (2, 0), (3, 0), (4, 0), (5, 0), (6, 0), (7, 0), (8, 0), (9, 0), (10, 0), (11, 1), (12, 0), (13, 0)] mixed (by kernel_rfl) ((Sel.rest (.there Sel.here)).trans (Sel.rest (.there Sel.here))) ?_
      refine d_q rfl rfl (.none rfl) rfl rfl (q_move rfl rfl) ?_
      refine d_q rfl rfl (.none rfl) rfl rfl (q_move rfl rfl) ?_
      refine d_q rfl rfl (.none rfl) rfl rfl (q_fieldB (d := 6) rfl Try.underlying25 rfl rfl sz3 rfl) ?_
      refine d_q rfl rfl (.none rfl) rfl rfl (q_loadB rfl one3 rfl Sel.here rfl) ?_
      refine d_q rfl rfl (.none rfl) rfl rfl (q_fieldB (d := 7) rfl Try.underlying25 rfl rfl sz3 rfl) ?_
      refine d_q rfl rfl (.none rfl) rfl rfl (q_loadB rfl one3 rfl Sel.here rfl) ?_
      refine d_q rfl rfl (.none rfl) rfl rfl (q_move rfl rfl) ?_
      refine d_q rfl rfl (.none rfl) rfl rfl (q_fieldB (d := 3) rfl Try.underlying25 rfl rfl sz3 rfl) ?_
      refine d_q rfl rfl (.none rfl) rfl rfl (q_loadB rfl one3 rfl Sel.here rfl) ?_
      refine d_q rfl rfl (.none rfl) rfl rfl (q_move rfl rfl) ?_
      refine d_q rfl rfl (.none rfl) rfl rfl (q_call rfl call46 (.cons rfl (.cons rfl (.cons rfl Evs.nil))) (fun w hk hm => (by have h := box_m (x.side * outS x + x.side * 8) (hS x) w ⟨by omega, by omega⟩ ⟨by omega, by omega⟩; rw [← hsm] at h; exact h))) ?_
      refine d_h rfl rfl (.none rfl) (h_callX [_, _] _ rfl rfl rfl call65 (.cons rfl (.cons rfl (.cons rfl (.cons rfl Evs.nil)))) ((Sel.perm (.there Sel.here)).trans (.cons _ (Sel.perm (.there Sel.here)))) (Y := fun _ => atAny [_, _]) (fun _ _ h => h) (fun w hk hm => occ_m o p A c x.side _ x.fst x.lst ((x.side * outS x + x.side * 8) - hS x) (x.side * outS x + x.side * 8) w rfl ((hm.perm ((Sel.perm (.there Sel.here)).trans (.cons _ (Sel.perm (.there Sel.here))))).give (rs := [_, _])) ⟨by omega, by omega, by omega⟩ hl6 hsm ⟨by rw [hsm]; omega, by rw [hsm]; omega⟩)) (fun _ _ => (.sub (List.sublist_append_right _ _))) ?_
      rintro ⟨v, m⟩ ⟨rfl, rfl⟩
      show RunD _ _ _ _ _ _ _ _ _ _ _ ⟨(44, .int .i64 0) :: _, _ :: _ :: _⟩
      refine d_q rfl rfl (.none rfl) rfl rfl (q_assign rfl rfl) ?_
      refine d_q rfl rfl (.none rfl) rfl rfl (q_assign rfl rfl) ?_
      refine d_nil ?_
      refine run_sub (subMk (.cons (s := 4) rfl (.cons (s := 5) rfl .nil)) .refl) ?_
      refine run_ret ?_
      refine run_sub (subMk .refl (.cons Sel.here (.blk (.cons (s := 0) rfl (.cons (s := 1) rfl (.nil)))) (.cons Sel.here (.own (xs' := (spO x o).map encI) rfl rfl rfl (by rw [spO_ok hlim, show x.side * ((x.side * outS x + x.side * 8) - hS x) = atS x o + hS x from by rw [hsm]; omega])) .nil))) ?_
      exact end2 rfl rfl rfl ⟨by rw [show x.side * outS x + x.side * 8 = x.side * atS x o from by rw [hsm]; omega] <;> rfl, rfl⟩

set_option maxHeartbeats 2000000 in
set_option maxRecDepth 100000 in
theorem place_bad (x : Spn) (o : List Int) (p : Nat) (A : Option Addr) (c : Nat) (t : Int) (n : Nat) (W : World) (hon : o.length = n) (hm : Mem (atAny [.blk p 94 [(0, .int .i64 t), (1, .slice A n c)], .own 3 1 A n c ((o).map encI)]) W [.blk p 94 [(0, .int .i64 t), (1, .slice A n c)], .own 3 1 A n c ((o).map encI)] W) (hx : spE x o.length = 0) (hsd : x.side = t) (hbd : Bd o) (hl6 : o.length ≤ 65536) (hc : o.length ≤ c) (hlim : 1048576 < atS x o + hS x) : Calls Try.prog 45 #[x.val, .pointer (some ⟨p, 0, none⟩)] W (Ret W (atAny [.blk p 94 [(0, .int .i64 t), (1, .slice A n c)], .own 3 1 A n c ((o).map encI)]) (fun v m => ∃ (a e : Int), v = .tuple #[.int .i64 a, .int .i64 e] ∧ e ≠ 0 ∧ m = [.blk p 94 [(0, .int .i64 t), (1, .slice A n c)], .own 3 1 A n c ((o).map encI)])) := by
  subst hon
  subst hsd
  have h0 := spE_ok hx
  have ht := h0.2.1
  have hob := outS_bd hx
  have hab := atS_bd hx hbd
  have hhb := hgtS_bd (f := x.fst) (l := x.lst)
  have hto := sgn_bd (b := 524288) ht (x := outS x) (by omega)
  have e0 : hS x = hgtS x.fst x.lst := rfl
  refine enterA (X := _) (vs := [x.val, .pointer (some ⟨p, 0, none⟩)]) Try.func45 Try.ntmps45 rfl rfl hm ?_
  refine run_seq ?_
  refine run_region ?_
  refine run_h (.none rfl) (h_box rfl rfl rfl rfl rfl) ?_
  rintro b2 -
  refine run_q (.none rfl) rfl rfl (q_assign rfl rfl) ?_
  refine run_q (.none rfl) rfl rfl (q_assign rfl rfl) ?_
  refine run_nil ?_
  refine run_seq ?_
  refine run_region ?_
  refine run_q (.none rfl) rfl rfl (q_fieldB (d := 6) rfl Try.underlying25 rfl rfl sz3 rfl) ?_
  refine run_q (.none rfl) rfl rfl (q_loadB rfl one3 rfl Sel.here rfl) ?_
  refine run_q (.none rfl) rfl rfl (q_fieldB (d := 7) rfl Try.underlying25 rfl rfl sz3 rfl) ?_
  refine run_q (.none rfl) rfl rfl (q_loadB rfl one3 rfl Sel.here rfl) ?_
  refine run_q (.none rfl) rfl rfl (q_call rfl call17 (.cons rfl (.cons rfl Evs.nil)) (fun w hk hm => height_just x.fst x.lst w (by omega) (by omega))) ?_
  refine run_q (.none rfl) rfl rfl (q_assign rfl rfl) ?_
  refine run_nil ?_
  refine run_sub (subMk (.cons (s := 1) rfl (.cons (s := 2) rfl (.cons (s := 4) rfl (.cons (s := 5) rfl (.cons (s := 6) rfl .nil))))) .refl) ?_
  refine run_seq ?_
  refine run_seq ?_
  refine run_region ?_
  refine run_q (.none rfl) rfl rfl (q_fieldB (d := 0) rfl Try.underlying25 rfl rfl sz3 rfl) ?_
  refine run_q (.none rfl) rfl rfl (q_loadB rfl one3 rfl Sel.here rfl) ?_
  refine run_q (.none rfl) rfl rfl (q_eql rfl rfl rfl) ?_
  refine run_nil ?_
  refine run_cond rfl (fun g15 => ?_) (fun g15 => ?_)
  · have g15' := g15
    try simp only [decide_eq_true_eq, decide_eq_false_iff_not, beq_iff_eq, beq_eq_false_iff_ne, bne_iff_ne, bne_eq_false_iff_eq, Bool.not_eq_true', Bool.not_eq_false', ne_eq, Int.not_lt, Int.not_le, Decidable.not_not] at g15'
    have hc41 : x.cls = 41 := g15'
    refine run_seq ?_
    refine run_draw [(0, 0), (1, 0), (2, 0), (3, 0), (4, 0), (5, 0), (6, 0), (7, 0), (8, 1), (9, 0), (10, 0), (11, 0), (12, 0)] mixed (by kernel_rfl) ((Sel.rest (.there Sel.here)).trans (Sel.rest (.there Sel.here))) ?_
    refine d_q rfl rfl (.none rfl) rfl rfl (q_move rfl rfl) ?_
    refine d_q rfl rfl (.none rfl) rfl rfl (q_fieldB (d := 6) rfl Try.underlying25 rfl rfl sz3 rfl) ?_
    refine d_q rfl rfl (.none rfl) rfl rfl (q_loadB rfl one3 rfl Sel.here rfl) ?_
    refine d_q rfl rfl (.none rfl) rfl rfl (q_fieldB (d := 7) rfl Try.underlying25 rfl rfl sz3 rfl) ?_
    refine d_q rfl rfl (.none rfl) rfl rfl (q_loadB rfl one3 rfl Sel.here rfl) ?_
    refine d_q rfl rfl (.none rfl) rfl rfl (q_loadBN rfl agg25 rfl Sel.here (.cons rfl (.cons rfl (.cons rfl (.cons rfl (.cons rfl (.cons rfl (.cons rfl (.cons rfl (.cons rfl (.cons rfl (.cons rfl (.cons rfl CellsAt.nil)))))))))))) rfl) ?_
    refine d_q rfl rfl (.none rfl) rfl rfl (q_call rfl call64 (.cons rfl Evs.nil) (fun w hk hm => farther_just x w ht ⟨by omega, by omega⟩ ⟨by omega, by omega⟩)) ?_
    refine d_q rfl rfl (.none rfl) rfl rfl (q_move rfl rfl) ?_
    refine d_h rfl rfl (.none rfl) (h_callX [_, _] _ rfl rfl rfl call63 (.cons rfl (.cons rfl (.cons rfl (.cons rfl (.cons rfl (.cons rfl Evs.nil)))))) ((Sel.perm (.there Sel.here)).trans (.cons _ (Sel.perm (.there Sel.here)))) (Y := fun _ => atAny [_, _]) (fun _ _ h => h) (fun w hk hm => placeS_ret o p A c x.side _ x.fst x.lst (x.side * outS x) (hS x) w rfl ((hm.perm ((Sel.perm (.there Sel.here)).trans (.cons _ (Sel.perm (.there Sel.here))))).give (rs := [_, _])) ⟨by omega, by omega, by omega⟩ hc hl6 hbd ht ⟨by omega, by omega⟩ ⟨by omega, by omega⟩)) (fun _ _ => (.sub (List.sublist_append_right _ _))) ?_
    rintro ⟨v, m⟩ ⟨rfl, rfl⟩
    show RunD _ _ _ _ _ _ _ _ _ _ _ ⟨(24, .tuple #[.int .i64 (plV x.side o x.fst.toNat x.lst.toNat (x.side * outS x) (hS x)), .int .i64 (plE x.side o x.fst.toNat x.lst.toNat (x.side * outS x) (hS x))]) :: _, _ :: _ :: _⟩
    refine d_q rfl rfl (.none rfl) rfl rfl (q_extract rfl rfl rfl) ?_
    refine d_q rfl rfl (.none rfl) rfl rfl (q_extract rfl rfl rfl) ?_
    refine d_q rfl rfl (.none rfl) rfl rfl (q_assign rfl rfl) ?_
    refine d_q rfl rfl (.none rfl) rfl rfl (q_assign rfl rfl) ?_
    refine d_nil ?_
    refine run_sub (subMk (.cons (s := 1) rfl (.cons (s := 2) rfl (.cons (s := 4) rfl (.cons (s := 5) rfl (.cons (s := 6) rfl .nil))))) .refl) ?_
    refine run_ret ?_
    refine run_sub (subMk .refl (.cons Sel.here (.blk (.cons (s := 0) rfl (.cons (s := 1) rfl (.nil)))) (.cons Sel.here (.own (xs' := o.map encI) rfl rfl rfl (by rw [(plE_bad ht hc41 hlim).2])) .nil))) ?_
    exact end2 rfl rfl rfl ⟨_, _, rfl, by rw [(plE_bad ht hc41 hlim).1]; decide, rfl⟩
  · have g15' := g15
    try simp only [decide_eq_true_eq, decide_eq_false_iff_not, beq_iff_eq, beq_eq_false_iff_ne, bne_iff_ne, bne_eq_false_iff_eq, Bool.not_eq_true', Bool.not_eq_false', ne_eq, Int.not_lt, Int.not_le, Decidable.not_not] at g15'
    have hat := at_tie (o := o) g15'
    refine run_skip ?_
    refine run_seq ?_
    by_cases hs1 : x.side = 1
    · have hs8 : -8 ≤ x.side * 8 ∧ x.side * 8 ≤ 8 := by omega
      refine run_draw [(0, 0), (1, 0), (2, 0), (3, 0), (4, 0), (5, 0), (6, 0)] mixed (by kernel_rfl) .refl ?_
      refine d_q rfl rfl (.none rfl) rfl rfl (q_loadBN rfl agg25 rfl Sel.here (.cons rfl (.cons rfl (.cons rfl (.cons rfl (.cons rfl (.cons rfl (.cons rfl (.cons rfl (.cons rfl (.cons rfl (.cons rfl (.cons rfl CellsAt.nil)))))))))))) rfl) ?_
      refine d_q rfl rfl (.none rfl) rfl rfl (q_call rfl call64 (.cons rfl Evs.nil) (fun w hk hm => farther_just x w ht ⟨by omega, by omega⟩ ⟨by omega, by omega⟩)) ?_
      refine d_q rfl rfl (.none rfl) rfl rfl (q_fieldB (d := 3) rfl Try.underlying25 rfl rfl sz3 rfl) ?_
      refine d_q rfl rfl (.none rfl) rfl rfl (q_loadB rfl one3 rfl Sel.here rfl) ?_
      refine d_q rfl rfl (.none rfl) rfl rfl (q_mul rfl rfl rfl (by omega)) ?_
      refine d_q rfl rfl (.none rfl) rfl rfl (q_add rfl rfl rfl (by omega)) ?_
      refine d_q rfl rfl (.none rfl) rfl rfl (q_assign rfl rfl) ?_
      refine d_nil ?_
      refine run_sub (subMk (.cons (s := 1) rfl (.cons (s := 2) rfl (.cons (s := 4) rfl (.cons (s := 5) rfl (.cons (s := 6) rfl (.cons (s := 7) rfl .nil)))))) .refl) ?_
      refine run_seq ?_
      refine run_draw [(0, 0), (1, 0), (2, 0), (3, 0), (4, 0), (5, 0), (6, 0), (7, 0), (8, 0), (9, 0), (10, 0), (11, 0), (12, 0), (13, 0)] mixed (by kernel_rfl) .refl ?_
      refine d_q rfl rfl (.none rfl) rfl rfl (q_move rfl rfl) ?_
      refine d_q rfl rfl (.none rfl) rfl rfl (q_move rfl rfl) ?_
      refine d_q rfl rfl (.none rfl) rfl rfl (q_fieldB (d := 6) rfl Try.underlying25 rfl rfl sz3 rfl) ?_
      refine d_q rfl rfl (.none rfl) rfl rfl (q_loadB rfl one3 rfl Sel.here rfl) ?_
      refine d_q rfl rfl (.none rfl) rfl rfl (q_fieldB (d := 7) rfl Try.underlying25 rfl rfl sz3 rfl) ?_
      refine d_q rfl rfl (.none rfl) rfl rfl (q_loadB rfl one3 rfl Sel.here rfl) ?_
      refine d_q rfl rfl (.none rfl) rfl rfl (q_move rfl rfl) ?_
      refine d_q rfl rfl (.none rfl) rfl rfl (q_fieldB (d := 3) rfl Try.underlying25 rfl rfl sz3 rfl) ?_
      refine d_q rfl rfl (.none rfl) rfl rfl (q_loadB rfl one3 rfl Sel.here rfl) ?_
      refine d_q rfl rfl (.none rfl) rfl rfl (q_move rfl rfl) ?_
      refine d_q rfl rfl (.none rfl) rfl rfl (q_call rfl call46 (.cons rfl (.cons rfl (.cons rfl Evs.nil))) (fun w hk hm => (by have h := box_1 (x.side * outS x + x.side * 8) (hS x) w ⟨by omega, by omega⟩ ⟨by omega, by omega⟩; rw [← hs1] at h; exact h))) ?_
      refine d_q rfl rfl (.none rfl) rfl rfl (q_call rfl call65 (.cons rfl (.cons rfl (.cons rfl (.cons rfl Evs.nil)))) (fun w hk hm => occE_1 o p A c x.side _ x.fst x.lst (x.side * outS x + x.side * 8) ((x.side * outS x + x.side * 8) + hS x) w rfl (rd_sky ((Sel.there Sel.here).holds hm)) ⟨by omega, by omega, by omega⟩ hs1 (by rw [hs1]; omega))) ?_
      refine d_q rfl rfl (.none rfl) rfl rfl (q_assign rfl rfl) ?_
      refine d_q rfl rfl (.none rfl) rfl rfl (q_assign rfl rfl) ?_
      refine d_nil ?_
      refine run_sub (subMk (.cons (s := 4) rfl (.cons (s := 5) rfl .nil)) .refl) ?_
      refine run_ret ?_
      refine run_sub (subMk .refl (.cons (.there Sel.here) (.blk (.cons (s := 0) rfl (.cons (s := 1) rfl (.nil)))) (.cons (.there Sel.here) .refl .nil))) ?_
      exact end2 rfl rfl rfl ⟨_, _, rfl, by decide, rfl⟩
    · have hs8 : -8 ≤ x.side * 8 ∧ x.side * 8 ≤ 8 := by omega
      refine run_draw [(0, 0), (1, 0), (2, 0), (3, 0), (4, 0), (5, 0), (6, 0)] mixed (by kernel_rfl) .refl ?_
      refine d_q rfl rfl (.none rfl) rfl rfl (q_loadBN rfl agg25 rfl Sel.here (.cons rfl (.cons rfl (.cons rfl (.cons rfl (.cons rfl (.cons rfl (.cons rfl (.cons rfl (.cons rfl (.cons rfl (.cons rfl (.cons rfl CellsAt.nil)))))))))))) rfl) ?_
      refine d_q rfl rfl (.none rfl) rfl rfl (q_call rfl call64 (.cons rfl Evs.nil) (fun w hk hm => farther_just x w ht ⟨by omega, by omega⟩ ⟨by omega, by omega⟩)) ?_
      refine d_q rfl rfl (.none rfl) rfl rfl (q_fieldB (d := 3) rfl Try.underlying25 rfl rfl sz3 rfl) ?_
      refine d_q rfl rfl (.none rfl) rfl rfl (q_loadB rfl one3 rfl Sel.here rfl) ?_
      refine d_q rfl rfl (.none rfl) rfl rfl (q_mul rfl rfl rfl (by omega)) ?_
      refine d_q rfl rfl (.none rfl) rfl rfl (q_add rfl rfl rfl (by omega)) ?_
      refine d_q rfl rfl (.none rfl) rfl rfl (q_assign rfl rfl) ?_
      refine d_nil ?_
      refine run_sub (subMk (.cons (s := 1) rfl (.cons (s := 2) rfl (.cons (s := 4) rfl (.cons (s := 5) rfl (.cons (s := 6) rfl (.cons (s := 7) rfl .nil)))))) .refl) ?_
      refine run_seq ?_
      have hsm : x.side = -1 := by omega
      refine run_draw [(0, 0), (1, 0), (2, 0), (3, 0), (4, 0), (5, 0), (6, 0), (7, 0), (8, 0), (9, 0), (10, 0), (11, 0), (12, 0), (13, 0)] mixed (by kernel_rfl) .refl ?_
      refine d_q rfl rfl (.none rfl) rfl rfl (q_move rfl rfl) ?_
      refine d_q rfl rfl (.none rfl) rfl rfl (q_move rfl rfl) ?_
      refine d_q rfl rfl (.none rfl) rfl rfl (q_fieldB (d := 6) rfl Try.underlying25 rfl rfl sz3 rfl) ?_
      refine d_q rfl rfl (.none rfl) rfl rfl (q_loadB rfl one3 rfl Sel.here rfl) ?_
      refine d_q rfl rfl (.none rfl) rfl rfl (q_fieldB (d := 7) rfl Try.underlying25 rfl rfl sz3 rfl) ?_
      refine d_q rfl rfl (.none rfl) rfl rfl (q_loadB rfl one3 rfl Sel.here rfl) ?_
      refine d_q rfl rfl (.none rfl) rfl rfl (q_move rfl rfl) ?_
      refine d_q rfl rfl (.none rfl) rfl rfl (q_fieldB (d := 3) rfl Try.underlying25 rfl rfl sz3 rfl) ?_
      refine d_q rfl rfl (.none rfl) rfl rfl (q_loadB rfl one3 rfl Sel.here rfl) ?_
      refine d_q rfl rfl (.none rfl) rfl rfl (q_move rfl rfl) ?_
      refine d_q rfl rfl (.none rfl) rfl rfl (q_call rfl call46 (.cons rfl (.cons rfl (.cons rfl Evs.nil))) (fun w hk hm => (by have h := box_m (x.side * outS x + x.side * 8) (hS x) w ⟨by omega, by omega⟩ ⟨by omega, by omega⟩; rw [← hsm] at h; exact h))) ?_
      refine d_q rfl rfl (.none rfl) rfl rfl (q_call rfl call65 (.cons rfl (.cons rfl (.cons rfl (.cons rfl Evs.nil)))) (fun w hk hm => occE_m o p A c x.side _ x.fst x.lst ((x.side * outS x + x.side * 8) - hS x) (x.side * outS x + x.side * 8) w rfl (rd_sky ((Sel.there Sel.here).holds hm)) ⟨by omega, by omega, by omega⟩ hsm (by rw [hsm]; omega))) ?_
      refine d_q rfl rfl (.none rfl) rfl rfl (q_assign rfl rfl) ?_
      refine d_q rfl rfl (.none rfl) rfl rfl (q_assign rfl rfl) ?_
      refine d_nil ?_
      refine run_sub (subMk (.cons (s := 4) rfl (.cons (s := 5) rfl .nil)) .refl) ?_
      refine run_ret ?_
      refine run_sub (subMk .refl (.cons (.there Sel.here) (.blk (.cons (s := 0) rfl (.cons (s := 1) rfl (.nil)))) (.cons (.there Sel.here) .refl .nil))) ?_
      exact end2 rfl rfl rfl ⟨_, _, rfl, by decide, rfl⟩

end Go.Proofs.Ytomhegnaojejnaa
