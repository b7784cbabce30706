/- Events copied. -/
import Derived.Test.YtgphmbipakdggaaREB
set_option linter.unusedSimpArgs false
set_option linter.unusedVariables false
namespace Go.Proofs.YtgphmbipakdggaaR.Ev
open Go Go.RowKit Hr

theorem sz74 : Hr.Sz Try.prog 74 1 := Hr.Sz.of (by kernel_rfl)
theorem one74 : Hr.One Try.prog 74 := ⟨fun w => by simp [isAgg, run_underlying Try.underlying74], Hr.Sz.of (by kernel_rfl)⟩
theorem sz75 : Hr.Sz Try.prog 75 1 := Hr.Sz.of (by kernel_rfl)
theorem one75 : Hr.One Try.prog 75 := ⟨fun w => by simp [isAgg, run_underlying Try.underlying75], Hr.Sz.of (by kernel_rfl)⟩
theorem sz76 : Hr.Sz Try.prog 76 1 := Hr.Sz.of (by kernel_rfl)
theorem one76 : Hr.One Try.prog 76 := ⟨fun w => by simp [isAgg, run_underlying Try.underlying76], Hr.Sz.of (by kernel_rfl)⟩
theorem info78 : Hr.Info Try.prog 78 [.int .i64 0, .int .i64 0, .int .i64 0, .int .i64 0, .int .i64 0, .slice none 0 0, .slice none 0 0, .int .i64 0, .int .i64 0, .int .i64 0, .slice none 0 0, .int .i64 0, .int .i64 0] 13 152 := Hr.Info.of (by kernel_rfl)
theorem agg78 : Hr.Agg Try.prog 78 13 := ⟨fun w => by simp [isAgg, run_underlying Try.underlying78], Hr.Sz.of (by kernel_rfl)⟩
theorem sz78 : Hr.Sz Try.prog 78 13 := Hr.Sz.of (by kernel_rfl)
theorem call102 : Hr.Callable Try.prog 102 := fun args w => by kernel_rfl
theorem call103 : Hr.Callable Try.prog 103 := fun args w => by kernel_rfl
theorem call104 : Hr.Callable Try.prog 104 := fun args w => by kernel_rfl

theorem rd_none {α : Type} {enc : α → List Value} {w : World} {A : Option Addr} {s : Nat} {l : List α} (h : Rd w A s (l.map enc)) (hA : A.isNone = true) : l = [] := by
  rcases h with h | ⟨ad, rfl, _⟩
  · exact List.map_eq_nil_iff.1 h
  · cases hA

theorem Hd_len {l : List Hd} {z : List Value} (h : z ∈ l.map Hd.enc) : z.length = 5 := by
  obtain ⟨p, _, rfl⟩ := List.mem_map.1 h; rfl
theorem Hd_all {l : List Hd} {z : List Value} (h : z ∈ l.map Hd.enc) : allCells z = true := by
  obtain ⟨p, _, rfl⟩ := List.mem_map.1 h; rfl

set_option maxRecDepth 100000 in
theorem cloneH (l : List Hd) (A : Option Addr) (ca : Nat) (W : World) (hr : Rd W A 5 (l.map Hd.enc)) (hl : l.length * 40 ≤ 140737488355328) : Calls Try.prog 102 #[.slice A l.length ca] W (Ret W nX (fun v m => ∃ O co, v = .slice O l.length co ∧ m = [.own 152 5 O l.length co ((l).map Hd.enc)])) := by
  refine enterA (X := nX) (vs := [.slice A l.length ca]) Try.func102 Try.ntmps102 rfl rfl Mem.nil ?_
  refine run_seq ?_
  refine run_region ?_
  refine run_q (.none rfl) rfl rfl (q_assign rfl rfl) ?_
  refine run_nil ?_
  refine run_seq ?_
  refine run_seq ?_
  refine run_region ?_
  refine run_q (.none rfl) rfl rfl (q_move rfl rfl) ?_
  refine run_q (.none rfl) rfl rfl (q_eqlNil rfl rfl rfl Try.underlying74) ?_
  refine run_nil ?_
  refine run_cond rfl (fun g4 => ?_) (fun g4 => ?_)
  · have g4' := g4
    try simp only [decide_eq_true_eq, decide_eq_false_iff_not, beq_iff_eq, beq_eq_false_iff_ne, bne_iff_ne, bne_eq_false_iff_eq, Bool.not_eq_true', Bool.not_eq_false', ne_eq, Int.not_lt, Int.not_le, Decidable.not_not] at g4'
    have hl0 := rd_none hr g4
    refine run_seq ?_
    refine run_region ?_
    refine run_q (.none rfl) rfl rfl (q_assign rfl rfl) ?_
    refine run_nil ?_
    refine run_ret ?_
    refine run_sub (subMk .refl (MemSub.nilOwn 152 5)) ?_
    refine run_sub (subMk .refl (.cons Sel.here .refl .nil)) ?_
    exact end1 rfl rfl ⟨none, 0, by rw [hl0]; rfl, by rw [hl0]; rfl⟩
  · have g4' := g4
    try simp only [decide_eq_true_eq, decide_eq_false_iff_not, beq_iff_eq, beq_eq_false_iff_ne, bne_iff_ne, bne_eq_false_iff_eq, Bool.not_eq_true', Bool.not_eq_false', ne_eq, Int.not_lt, Int.not_le, Decidable.not_not] at g4'
    refine run_skip ?_
    refine run_seq ?_
    refine run_region ?_
    refine run_h (.none rfl) (h_buildSlice rfl rfl rfl Try.underlying74 info152 Parts.nil rfl (by omega)) ?_
    rintro b5 -
    refine run_q (.none rfl) rfl rfl (q_move rfl rfl) ?_
    refine run_h (.none rfl) (h_append rfl rfl rfl Try.underlying74 info152 rfl rfl Sel.here rfl (.inp hr .no) (by simp) (fun z hz => Hd_len hz) (fun z hz => Hd_all hz) (by omega) (by omega)) ?_
    rintro ⟨A7, c7⟩ -
    refine run_q (.none rfl) rfl rfl (q_assign rfl rfl) ?_
    refine run_nil ?_
    refine run_sub (subMk (.cons (s := 2) rfl .nil) .refl) ?_
    refine run_ret ?_
    refine run_sub (subMk .refl (.cons Sel.here .refl .nil)) ?_
    exact end1 rfl rfl ⟨A7, c7, by simp, by simp⟩

theorem Gr_len {l : List Gr} {z : List Value} (h : z ∈ l.map Gr.enc) : z.length = 5 := by
  obtain ⟨p, _, rfl⟩ := List.mem_map.1 h; rfl
theorem Gr_all {l : List Gr} {z : List Value} (h : z ∈ l.map Gr.enc) : allCells z = true := by
  obtain ⟨p, _, rfl⟩ := List.mem_map.1 h; rfl

set_option maxRecDepth 100000 in
theorem cloneG (l : List Gr) (A : Option Addr) (ca : Nat) (W : World) (hr : Rd W A 5 (l.map Gr.enc)) (hl : l.length * 40 ≤ 140737488355328) : Calls Try.prog 103 #[.slice A l.length ca] W (Ret W nX (fun v m => ∃ O co, v = .slice O l.length co ∧ m = [.own 155 5 O l.length co ((l).map Gr.enc)])) := by
  refine enterA (X := nX) (vs := [.slice A l.length ca]) Try.func103 Try.ntmps103 rfl rfl Mem.nil ?_
  refine run_seq ?_
  refine run_region ?_
  refine run_q (.none rfl) rfl rfl (q_assign rfl rfl) ?_
  refine run_nil ?_
  refine run_seq ?_
  refine run_seq ?_
  refine run_region ?_
  refine run_q (.none rfl) rfl rfl (q_move rfl rfl) ?_
  refine run_q (.none rfl) rfl rfl (q_eqlNil rfl rfl rfl Try.underlying75) ?_
  refine run_nil ?_
  refine run_cond rfl (fun g4 => ?_) (fun g4 => ?_)
  · have g4' := g4
    try simp only [decide_eq_true_eq, decide_eq_false_iff_not, beq_iff_eq, beq_eq_false_iff_ne, bne_iff_ne, bne_eq_false_iff_eq, Bool.not_eq_true', Bool.not_eq_false', ne_eq, Int.not_lt, Int.not_le, Decidable.not_not] at g4'
    have hl0 := rd_none hr g4
    refine run_seq ?_
    refine run_region ?_
    refine run_q (.none rfl) rfl rfl (q_assign rfl rfl) ?_
    refine run_nil ?_
    refine run_ret ?_
    refine run_sub (subMk .refl (MemSub.nilOwn 155 5)) ?_
    refine run_sub (subMk .refl (.cons Sel.here .refl .nil)) ?_
    exact end1 rfl rfl ⟨none, 0, by rw [hl0]; rfl, by rw [hl0]; rfl⟩
  · have g4' := g4
    try simp only [decide_eq_true_eq, decide_eq_false_iff_not, beq_iff_eq, beq_eq_false_iff_ne, bne_iff_ne, bne_eq_false_iff_eq, Bool.not_eq_true', Bool.not_eq_false', ne_eq, Int.not_lt, Int.not_le, Decidable.not_not] at g4'
    refine run_skip ?_
    refine run_seq ?_
    refine run_region ?_
    refine run_h (.none rfl) (h_buildSlice rfl rfl rfl Try.underlying75 info155 Parts.nil rfl (by omega)) ?_
    rintro b5 -
    refine run_q (.none rfl) rfl rfl (q_move rfl rfl) ?_
    refine run_h (.none rfl) (h_append rfl rfl rfl Try.underlying75 info155 rfl rfl Sel.here rfl (.inp hr .no) (by simp) (fun z hz => Gr_len hz) (fun z hz => Gr_all hz) (by omega) (by omega)) ?_
    rintro ⟨A7, c7⟩ -
    refine run_q (.none rfl) rfl rfl (q_assign rfl rfl) ?_
    refine run_nil ?_
    refine run_sub (subMk (.cons (s := 2) rfl .nil) .refl) ?_
    refine run_ret ?_
    refine run_sub (subMk .refl (.cons Sel.here .refl .nil)) ?_
    exact end1 rfl rfl ⟨A7, c7, by simp, by simp⟩

theorem Syl_len {l : List Syl} {z : List Value} (h : z ∈ l.map Syl.enc) : z.length = 2 := by
  obtain ⟨p, _, rfl⟩ := List.mem_map.1 h; rfl
theorem Syl_all {l : List Syl} {z : List Value} (h : z ∈ l.map Syl.enc) : allCells z = true := by
  obtain ⟨p, _, rfl⟩ := List.mem_map.1 h; rfl

set_option maxRecDepth 100000 in
theorem cloneY (l : List Syl) (A : Option Addr) (ca : Nat) (W : World) (hr : Rd W A 2 (l.map Syl.enc)) (hl : l.length * 24 ≤ 140737488355328) : Calls Try.prog 104 #[.slice A l.length ca] W (Ret W nX (fun v m => ∃ O co, v = .slice O l.length co ∧ m = [.own 86 2 O l.length co ((l).map Syl.enc)])) := by
  refine enterA (X := nX) (vs := [.slice A l.length ca]) Try.func104 Try.ntmps104 rfl rfl Mem.nil ?_
  refine run_seq ?_
  refine run_region ?_
  refine run_q (.none rfl) rfl rfl (q_assign rfl rfl) ?_
  refine run_nil ?_
  refine run_seq ?_
  refine run_seq ?_
  refine run_region ?_
  refine run_q (.none rfl) rfl rfl (q_move rfl rfl) ?_
  refine run_q (.none rfl) rfl rfl (q_eqlNil rfl rfl rfl Try.underlying76) ?_
  refine run_nil ?_
  refine run_cond rfl (fun g4 => ?_) (fun g4 => ?_)
  · have g4' := g4
    try simp only [decide_eq_true_eq, decide_eq_false_iff_not, beq_iff_eq, beq_eq_false_iff_ne, bne_iff_ne, bne_eq_false_iff_eq, Bool.not_eq_true', Bool.not_eq_false', ne_eq, Int.not_lt, Int.not_le, Decidable.not_not] at g4'
    have hl0 := rd_none hr g4
    refine run_seq ?_
    refine run_region ?_
    refine run_q (.none rfl) rfl rfl (q_assign rfl rfl) ?_
    refine run_nil ?_
    refine run_ret ?_
    refine run_sub (subMk .refl (MemSub.nilOwn 86 2)) ?_
    refine run_sub (subMk .refl (.cons Sel.here .refl .nil)) ?_
    exact end1 rfl rfl ⟨none, 0, by rw [hl0]; rfl, by rw [hl0]; rfl⟩
  · have g4' := g4
    try simp only [decide_eq_true_eq, decide_eq_false_iff_not, beq_iff_eq, beq_eq_false_iff_ne, bne_iff_ne, bne_eq_false_iff_eq, Bool.not_eq_true', Bool.not_eq_false', ne_eq, Int.not_lt, Int.not_le, Decidable.not_not] at g4'
    refine run_skip ?_
    refine run_seq ?_
    refine run_region ?_
    refine run_h (.none rfl) (h_buildSlice rfl rfl rfl Try.underlying76 info86 Parts.nil rfl (by omega)) ?_
    rintro b5 -
    refine run_q (.none rfl) rfl rfl (q_move rfl rfl) ?_
    refine run_h (.none rfl) (h_append rfl rfl rfl Try.underlying76 info86 rfl rfl Sel.here rfl (.inp hr .no) (by simp) (fun z hz => Syl_len hz) (fun z hz => Syl_all hz) (by omega) (by omega)) ?_
    rintro ⟨A7, c7⟩ -
    refine run_q (.none rfl) rfl rfl (q_assign rfl rfl) ?_
    refine run_nil ?_
    refine run_sub (subMk (.cons (s := 2) rfl .nil) .refl) ?_
    refine run_ret ?_
    refine run_sub (subMk .refl (.cons Sel.here .refl .nil)) ?_
    exact end1 rfl rfl ⟨A7, c7, by simp, by simp⟩

set_option maxHeartbeats 2000000 in
set_option maxRecDepth 100000 in
theorem evClone_ret (x : Evt) (p : Lie) (W : World) (hx : RdE W x p) (bh : x.hs.length * 40 ≤ 140737488355328) (bg : x.gs.length * 40 ≤ 140737488355328) (bl : x.ls.length * 24 ≤ 140737488355328) : Calls Try.prog 99 #[evV x p] W (Ret W nX (fun v m => ∃ q : Lie, v = evV x q ∧ m = [.own 152 5 q.HA x.hs.length q.hc (x.hs.map Hd.enc), .own 155 5 q.GA x.gs.length q.gc (x.gs.map Gr.enc), .own 86 2 q.LA x.ls.length q.lc (x.ls.map Syl.enc)])) := by
  refine enterA (X := nX) (vs := [evV x p]) Try.func99 Try.ntmps99 rfl rfl Mem.nil ?_
  refine run_seq ?_
  refine run_region ?_
  refine run_h (.none rfl) (h_box rfl rfl rfl rfl rfl) ?_
  rintro b1 -
  refine run_h (.none rfl) (h_alloc rfl rfl rfl info78) ?_
  rintro b2 -
  refine run_nil ?_
  refine run_seq ?_
  refine run_draw [(0, 0), (1, 0), (3, 0), (4, 0), (6, 0), (7, 0), (2, 1), (9, 0), (5, 1), (8, 1), (10, 2), (11, 2), (12, 2), (13, 2), (14, 2)] mixed (by kernel_rfl) .refl ?_
  refine d_q rfl rfl (.none rfl) rfl rfl (q_fieldB (d := 5) rfl Try.underlying78 rfl rfl sz74 rfl) ?_
  refine d_q rfl rfl (.none rfl) rfl rfl (q_loadB rfl one74 rfl (.there Sel.here) rfl) ?_
  refine d_q rfl rfl (.none rfl) rfl rfl (q_fieldB (d := 6) rfl Try.underlying78 rfl rfl sz75 rfl) ?_
  refine d_q rfl rfl (.none rfl) rfl rfl (q_loadB rfl one75 rfl (.there Sel.here) rfl) ?_
  refine d_q rfl rfl (.none rfl) rfl rfl (q_fieldB (d := 10) rfl Try.underlying78 rfl rfl sz76 rfl) ?_
  refine d_q rfl rfl (.none rfl) rfl rfl (q_loadB rfl one76 rfl (.there Sel.here) rfl) ?_
  refine d_h rfl rfl (.none rfl) (h_call rfl rfl rfl call102 (.cons rfl Evs.nil) (fun w hk hm => cloneH x.hs p.HA p.hc w (hx.h.kept0 hk) bh)) (fun _ _ => (.sub (List.sublist_append_right _ _))) ?_
  rintro ⟨v, m⟩ ⟨O5, c5, rfl, rfl⟩
  show RunD _ _ _ _ _ _ _ _ _ _ _ ⟨(5, .slice O5 x.hs.length c5) :: _, _ :: _⟩
  refine d_q rfl rfl (.none rfl) rfl rfl (q_fieldB (d := 5) rfl Try.underlying78 rfl rfl sz74 rfl) ?_
  refine d_h rfl rfl (.none rfl) (h_call rfl rfl rfl call103 (.cons rfl Evs.nil) (fun w hk hm => cloneG x.gs p.GA p.gc w (hx.g.kept0 hk) bg)) (fun _ _ => (.sub (.trans (by repeat (first | exact List.Sublist.refl _ | apply List.Sublist.cons)) (List.sublist_append_right _ _)))) ?_
  rintro ⟨v, m⟩ ⟨O8, c8, rfl, rfl⟩
  show RunD _ _ _ _ _ _ _ _ _ _ _ ⟨(8, .slice O8 x.gs.length c8) :: _, _ :: _⟩
  refine d_h rfl rfl (.none rfl) (h_call rfl rfl rfl call104 (.cons rfl Evs.nil) (fun w hk hm => cloneY x.ls p.LA p.lc w (hx.l.kept0 hk) bl)) (fun _ _ => (.sub (.trans (by repeat (first | exact List.Sublist.refl _ | apply List.Sublist.cons)) (List.sublist_append_right _ _)))) ?_
  rintro ⟨v, m⟩ ⟨O11, c11, rfl, rfl⟩
  show RunD _ _ _ _ _ _ _ _ _ _ _ ⟨(11, .slice O11 x.ls.length c11) :: _, _ :: _⟩
  refine d_t rfl rfl (.none rfl) (h_storeB rfl rfl sz74 rfl rfl rfl rfl rfl (.there (.there (.there (.there Sel.here)))) rfl) ?_
  rintro - -
  refine d_t rfl rfl (.none rfl) (.of_q rfl rfl (q_fieldB (d := 6) rfl Try.underlying78 rfl rfl sz75 rfl)) ?_
  rintro - -
  refine d_t rfl rfl (.none rfl) (h_storeB rfl rfl sz75 rfl rfl rfl rfl rfl Sel.here rfl) ?_
  rintro - -
  refine d_t rfl rfl (.none rfl) (.of_q rfl rfl (q_fieldB (d := 10) rfl Try.underlying78 rfl rfl sz76 rfl)) ?_
  rintro - -
  refine d_t rfl rfl (.none rfl) (h_storeB rfl rfl sz76 rfl rfl rfl rfl rfl Sel.here rfl) ?_
  rintro - -
  refine d_nil ?_
  refine run_sub (subMk (.cons (s := 1) rfl (.cons (s := 2) rfl .nil)) .refl) ?_
  refine run_seq ?_
  refine run_region ?_
  refine run_q (.none rfl) rfl rfl (q_loadBN rfl agg78 rfl Sel.here (.cons rfl (.cons rfl (.cons rfl (.cons rfl (.cons rfl (.cons rfl (.cons rfl (.cons rfl (.cons rfl (.cons rfl (.cons rfl (.cons rfl (.cons rfl CellsAt.nil))))))))))))) rfl) ?_
  refine run_h (.none rfl) (h_storeB rfl rfl sz78 rfl rfl rfl rfl rfl (.there (.there (.there (.there Sel.here)))) rfl) ?_
  rintro - -
  refine run_nil ?_
  refine run_ret ?_
  exact endG rfl (.cellN rfl agg78 Sel.here (.cons rfl (.cons rfl (.cons rfl (.cons rfl (.cons rfl (.cons rfl (.cons rfl (.cons rfl (.cons rfl (.cons rfl (.cons rfl (.cons rfl (.cons rfl CellsAt.nil))))))))))))) rfl Outs.nil) _ (.cons (.there (.there (.there (.there Sel.here)))) .refl (.cons (.there (.there (.there Sel.here))) .refl (.cons (.there (.there Sel.here)) .refl .nil))) ⟨⟨O5, c5, O8, c8, O11, c11⟩, rfl, rfl⟩

end Go.Proofs.YtgphmbipakdggaaR.Ev
