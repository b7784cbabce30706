/- Heads deleted. -/
import Derived.Test.YtneadapfoaccmaaG
import Derived.Test.YtneadapfoaccmaaCanon
set_option linter.unusedSimpArgs false
set_option linter.unusedVariables false
namespace Go.Proofs.Ytneadapfoaccmaa
open Go Go.RowKit Hr

theorem call58 : Hr.Callable Try.prog 58 := fun args w => by kernel_rfl
theorem call70 : Hr.Callable Try.prog 70 := fun args w => by kernel_rfl

theorem rd_none {α : Type} {enc : α → List Value} {w : World} {A : Option Addr} {s : Nat} {l : List α} (h : Rd w A s (l.map enc)) (hA : A.isNone = true) : l = [] := by
  rcases h with h | ⟨ad, rfl, _⟩
  · exact List.map_eq_nil_iff.1 h
  · cases hA

theorem Hd_len {l : List Hd} {z : List Value} (h : z ∈ l.map Hd.enc) : z.length = 5 := by
  obtain ⟨p, _, rfl⟩ := List.mem_map.1 h; rfl
theorem Hd_all {l : List Hd} {z : List Value} (h : z ∈ l.map Hd.enc) : allCells z = true := by
  obtain ⟨p, _, rfl⟩ := List.mem_map.1 h; rfl

set_option maxRecDepth 100000 in
theorem cloneH (l : List Hd) (A : Option Addr) (ca : Nat) (W : World) (hr : Rd W A 5 (l.map Hd.enc)) (hl : l.length ≤ 1000000) : Calls Try.prog 64 #[.slice A l.length ca] W (Ret W nX (fun v m => ∃ O co, v = .slice O l.length co ∧ m = [.own 53 5 O l.length co ((l).map Hd.enc)])) := by
  refine enterA (X := nX) (vs := [.slice A l.length ca]) Try.func64 Try.ntmps64 rfl rfl Mem.nil ?_
  refine run_seq ?_
  refine run_region ?_
  refine run_q (.none rfl) rfl rfl (q_assign rfl rfl) ?_
  refine run_nil ?_
  refine run_seq ?_
  refine run_seq ?_
  refine run_region ?_
  refine run_q (.none rfl) rfl rfl (q_move rfl rfl) ?_
  refine run_q (.none rfl) rfl rfl (q_eqlNil rfl rfl rfl Try.underlying26) ?_
  refine run_nil ?_
  refine run_cond rfl (fun g4 => ?_) (fun g4 => ?_)
  · have g4' := g4
    try simp only [decide_eq_true_eq, decide_eq_false_iff_not, beq_iff_eq, beq_eq_false_iff_ne, bne_iff_ne, bne_eq_false_iff_eq, Bool.not_eq_true', Bool.not_eq_false', ne_eq, Int.not_lt, Int.not_le, Decidable.not_not] at g4'
    have hl0 := rd_none hr g4
    refine run_seq ?_
    refine run_region ?_
    refine run_q (.none rfl) rfl rfl (q_assign rfl rfl) ?_
    refine run_nil ?_
    refine run_ret ?_
    refine run_sub (subMk .refl (MemSub.nilOwn 53 5)) ?_
    refine run_sub (subMk .refl (.cons Sel.here .refl .nil)) ?_
    exact end1 rfl rfl ⟨none, 0, by rw [hl0]; rfl, by rw [hl0]; rfl⟩
  · have g4' := g4
    try simp only [decide_eq_true_eq, decide_eq_false_iff_not, beq_iff_eq, beq_eq_false_iff_ne, bne_iff_ne, bne_eq_false_iff_eq, Bool.not_eq_true', Bool.not_eq_false', ne_eq, Int.not_lt, Int.not_le, Decidable.not_not] at g4'
    refine run_skip ?_
    refine run_seq ?_
    refine run_region ?_
    refine run_h (.none rfl) (h_buildSlice rfl rfl rfl Try.underlying26 info53 Parts.nil rfl (by omega)) ?_
    rintro b5 -
    refine run_q (.none rfl) rfl rfl (q_move rfl rfl) ?_
    refine run_h (.none rfl) (h_append rfl rfl rfl Try.underlying26 info53 rfl rfl Sel.here rfl (.inp hr .no) (by simp) (fun z hz => Hd_len hz) (fun z hz => Hd_all hz) (by omega) (by omega)) ?_
    rintro ⟨A7, c7⟩ -
    refine run_q (.none rfl) rfl rfl (q_assign rfl rfl) ?_
    refine run_nil ?_
    refine run_sub (subMk (.cons (s := 2) rfl .nil) .refl) ?_
    refine run_ret ?_
    refine run_sub (subMk .refl (.cons Sel.here .refl .nil)) ?_
    exact end1 rfl rfl ⟨A7, c7, by simp, by simp⟩

theorem Gr_len {l : List Gr} {z : List Value} (h : z ∈ l.map Gr.enc) : z.length = 5 := by
  obtain ⟨p, _, rfl⟩ := List.mem_map.1 h; rfl
theorem Gr_all {l : List Gr} {z : List Value} (h : z ∈ l.map Gr.enc) : allCells z = true := by
  obtain ⟨p, _, rfl⟩ := List.mem_map.1 h; rfl

set_option maxRecDepth 100000 in
theorem cloneG (l : List Gr) (A : Option Addr) (ca : Nat) (W : World) (hr : Rd W A 5 (l.map Gr.enc)) (hl : l.length ≤ 1000000) : Calls Try.prog 65 #[.slice A l.length ca] W (Ret W nX (fun v m => ∃ O co, v = .slice O l.length co ∧ m = [.own 55 5 O l.length co ((l).map Gr.enc)])) := by
  refine enterA (X := nX) (vs := [.slice A l.length ca]) Try.func65 Try.ntmps65 rfl rfl Mem.nil ?_
  refine run_seq ?_
  refine run_region ?_
  refine run_q (.none rfl) rfl rfl (q_assign rfl rfl) ?_
  refine run_nil ?_
  refine run_seq ?_
  refine run_seq ?_
  refine run_region ?_
  refine run_q (.none rfl) rfl rfl (q_move rfl rfl) ?_
  refine run_q (.none rfl) rfl rfl (q_eqlNil rfl rfl rfl Try.underlying27) ?_
  refine run_nil ?_
  refine run_cond rfl (fun g4 => ?_) (fun g4 => ?_)
  · have g4' := g4
    try simp only [decide_eq_true_eq, decide_eq_false_iff_not, beq_iff_eq, beq_eq_false_iff_ne, bne_iff_ne, bne_eq_false_iff_eq, Bool.not_eq_true', Bool.not_eq_false', ne_eq, Int.not_lt, Int.not_le, Decidable.not_not] at g4'
    have hl0 := rd_none hr g4
    refine run_seq ?_
    refine run_region ?_
    refine run_q (.none rfl) rfl rfl (q_assign rfl rfl) ?_
    refine run_nil ?_
    refine run_ret ?_
    refine run_sub (subMk .refl (MemSub.nilOwn 55 5)) ?_
    refine run_sub (subMk .refl (.cons Sel.here .refl .nil)) ?_
    exact end1 rfl rfl ⟨none, 0, by rw [hl0]; rfl, by rw [hl0]; rfl⟩
  · have g4' := g4
    try simp only [decide_eq_true_eq, decide_eq_false_iff_not, beq_iff_eq, beq_eq_false_iff_ne, bne_iff_ne, bne_eq_false_iff_eq, Bool.not_eq_true', Bool.not_eq_false', ne_eq, Int.not_lt, Int.not_le, Decidable.not_not] at g4'
    refine run_skip ?_
    refine run_seq ?_
    refine run_region ?_
    refine run_h (.none rfl) (h_buildSlice rfl rfl rfl Try.underlying27 info55 Parts.nil rfl (by omega)) ?_
    rintro b5 -
    refine run_q (.none rfl) rfl rfl (q_move rfl rfl) ?_
    refine run_h (.none rfl) (h_append rfl rfl rfl Try.underlying27 info55 rfl rfl Sel.here rfl (.inp hr .no) (by simp) (fun z hz => Gr_len hz) (fun z hz => Gr_all hz) (by omega) (by omega)) ?_
    rintro ⟨A7, c7⟩ -
    refine run_q (.none rfl) rfl rfl (q_assign rfl rfl) ?_
    refine run_nil ?_
    refine run_sub (subMk (.cons (s := 2) rfl .nil) .refl) ?_
    refine run_ret ?_
    refine run_sub (subMk .refl (.cons Sel.here .refl .nil)) ?_
    exact end1 rfl rfl ⟨A7, c7, by simp, by simp⟩

theorem Syl_len {l : List Syl} {z : List Value} (h : z ∈ l.map Syl.enc) : z.length = 2 := by
  obtain ⟨p, _, rfl⟩ := List.mem_map.1 h; rfl
theorem Syl_all {l : List Syl} {z : List Value} (h : z ∈ l.map Syl.enc) : allCells z = true := by
  obtain ⟨p, _, rfl⟩ := List.mem_map.1 h; rfl

set_option maxRecDepth 100000 in
theorem cloneY (l : List Syl) (A : Option Addr) (ca : Nat) (W : World) (hr : Rd W A 2 (l.map Syl.enc)) (hl : l.length ≤ 1000000) : Calls Try.prog 66 #[.slice A l.length ca] W (Ret W nX (fun v m => ∃ O co, v = .slice O l.length co ∧ m = [.own 57 2 O l.length co ((l).map Syl.enc)])) := by
  refine enterA (X := nX) (vs := [.slice A l.length ca]) Try.func66 Try.ntmps66 rfl rfl Mem.nil ?_
  refine run_seq ?_
  refine run_region ?_
  refine run_q (.none rfl) rfl rfl (q_assign rfl rfl) ?_
  refine run_nil ?_
  refine run_seq ?_
  refine run_seq ?_
  refine run_region ?_
  refine run_q (.none rfl) rfl rfl (q_move rfl rfl) ?_
  refine run_q (.none rfl) rfl rfl (q_eqlNil rfl rfl rfl Try.underlying28) ?_
  refine run_nil ?_
  refine run_cond rfl (fun g4 => ?_) (fun g4 => ?_)
  · have g4' := g4
    try simp only [decide_eq_true_eq, decide_eq_false_iff_not, beq_iff_eq, beq_eq_false_iff_ne, bne_iff_ne, bne_eq_false_iff_eq, Bool.not_eq_true', Bool.not_eq_false', ne_eq, Int.not_lt, Int.not_le, Decidable.not_not] at g4'
    have hl0 := rd_none hr g4
    refine run_seq ?_
    refine run_region ?_
    refine run_q (.none rfl) rfl rfl (q_assign rfl rfl) ?_
    refine run_nil ?_
    refine run_ret ?_
    refine run_sub (subMk .refl (MemSub.nilOwn 57 2)) ?_
    refine run_sub (subMk .refl (.cons Sel.here .refl .nil)) ?_
    exact end1 rfl rfl ⟨none, 0, by rw [hl0]; rfl, by rw [hl0]; rfl⟩
  · have g4' := g4
    try simp only [decide_eq_true_eq, decide_eq_false_iff_not, beq_iff_eq, beq_eq_false_iff_ne, bne_iff_ne, bne_eq_false_iff_eq, Bool.not_eq_true', Bool.not_eq_false', ne_eq, Int.not_lt, Int.not_le, Decidable.not_not] at g4'
    refine run_skip ?_
    refine run_seq ?_
    refine run_region ?_
    refine run_h (.none rfl) (h_buildSlice rfl rfl rfl Try.underlying28 info57 Parts.nil rfl (by omega)) ?_
    rintro b5 -
    refine run_q (.none rfl) rfl rfl (q_move rfl rfl) ?_
    refine run_h (.none rfl) (h_append rfl rfl rfl Try.underlying28 info57 rfl rfl Sel.here rfl (.inp hr .no) (by simp) (fun z hz => Syl_len hz) (fun z hz => Syl_all hz) (by omega) (by omega)) ?_
    rintro ⟨A7, c7⟩ -
    refine run_q (.none rfl) rfl rfl (q_assign rfl rfl) ?_
    refine run_nil ?_
    refine run_sub (subMk (.cons (s := 2) rfl .nil) .refl) ?_
    refine run_ret ?_
    refine run_sub (subMk .refl (.cons Sel.here .refl .nil)) ?_
    exact end1 rfl rfl ⟨A7, c7, by simp, by simp⟩

set_option maxRecDepth 100000 in
theorem bad_just (h : Hd) (W : World)  : Calls Try.prog 58 #[h.val] W (Hr.Just W (.bool (badH h))) := by
  refine Just.of_ret ?_
  refine enterA (X := nX) (vs := [h.val]) Try.func58 Try.ntmps58 rfl rfl Mem.nil ?_
  refine run_seq ?_
  refine run_region ?_
  refine run_h (.none rfl) (h_box rfl rfl rfl rfl rfl) ?_
  rintro b1 -
  refine run_q (.none rfl) rfl rfl (q_assign rfl rfl) ?_
  refine run_nil ?_
  refine run_seq ?_
  refine run_region ?_
  refine run_q (.none rfl) rfl rfl (q_fieldB (d := 0) rfl Try.underlying53 rfl rfl sz51 rfl) ?_
  refine run_q (.none rfl) rfl rfl (q_loadBN rfl agg51 rfl Sel.here (.cons rfl (.cons rfl (.cons rfl CellsAt.nil))) rfl) ?_
  refine run_q (.none rfl) rfl rfl (q_call rfl call53 (.cons rfl Evs.nil) (fun w hk hm => number_just h.step h.alter h.oct w)) ?_
  refine run_q (.none rfl) rfl rfl (q_move rfl rfl) ?_
  refine run_q (.none rfl) rfl rfl (q_extract rfl rfl rfl) ?_
  refine run_q (.none rfl) rfl rfl (q_extract rfl rfl rfl) ?_
  refine run_q (.none rfl) rfl rfl (q_assign rfl rfl) ?_
  refine run_q (.none rfl) rfl rfl (q_assign rfl rfl) ?_
  refine run_nil ?_
  refine run_sub (subMk (.cons (s := 2) rfl (.cons (s := 4) rfl .nil)) .refl) ?_
  refine run_seq ?_
  refine run_region ?_
  refine run_q (.none rfl) rfl rfl (q_move rfl rfl) ?_
  refine run_q (.none rfl) rfl rfl (q_neq rfl rfl rfl) ?_
  refine run_q (.none rfl) rfl rfl (q_assign rfl rfl) ?_
  refine run_nil ?_
  refine run_sub (subMk (.cons (s := 2) rfl .nil) .refl) ?_
  refine run_ret ?_
  exact end1 rfl rfl (congrArg Value.bool (badH_e h).symm)

set_option maxRecDepth 100000 in
theorem cmpH_just (a b : Hd) (W : World)  : Calls Try.prog 60 #[a.val, b.val] W (Hr.Just W (.int .i64 (nm a - nm b))) := by
  have ha := nm_bd a
  have hb := nm_bd b
  simp only [nm, Hd.num] at ha hb
  refine Just.of_ret ?_
  refine enterA (X := nX) (vs := [a.val, b.val]) Try.func60 Try.ntmps60 rfl rfl Mem.nil ?_
  refine run_seq ?_
  refine run_region ?_
  refine run_h (.none rfl) (h_box rfl rfl rfl rfl rfl) ?_
  rintro b2 -
  refine run_h (.none rfl) (h_box rfl rfl rfl rfl rfl) ?_
  rintro b3 -
  refine run_q (.none rfl) rfl rfl (q_assign rfl rfl) ?_
  refine run_nil ?_
  refine run_seq ?_
  refine run_region ?_
  refine run_q (.none rfl) rfl rfl (q_fieldB (d := 0) rfl Try.underlying53 rfl rfl sz51 rfl) ?_
  refine run_q (.none rfl) rfl rfl (q_loadBN rfl agg51 rfl (.there Sel.here) (.cons rfl (.cons rfl (.cons rfl CellsAt.nil))) rfl) ?_
  refine run_q (.none rfl) rfl rfl (q_call rfl call53 (.cons rfl Evs.nil) (fun w hk hm => number_just a.step a.alter a.oct w)) ?_
  refine run_q (.none rfl) rfl rfl (q_move rfl rfl) ?_
  refine run_q (.none rfl) rfl rfl (q_extract rfl rfl rfl) ?_
  refine run_q (.none rfl) rfl rfl (q_extract rfl rfl rfl) ?_
  refine run_q (.none rfl) rfl rfl (q_assign rfl rfl) ?_
  refine run_q (.none rfl) rfl rfl (q_assign rfl rfl) ?_
  refine run_nil ?_
  refine run_sub (subMk (.cons (s := 3) rfl (.cons (s := 4) rfl (.cons (s := 5) rfl .nil))) .refl) ?_
  refine run_seq ?_
  refine run_region ?_
  refine run_q (.none rfl) rfl rfl (q_fieldB (d := 0) rfl Try.underlying53 rfl rfl sz51 rfl) ?_
  refine run_q (.none rfl) rfl rfl (q_loadBN rfl agg51 rfl Sel.here (.cons rfl (.cons rfl (.cons rfl CellsAt.nil))) rfl) ?_
  refine run_q (.none rfl) rfl rfl (q_call rfl call53 (.cons rfl Evs.nil) (fun w hk hm => number_just b.step b.alter b.oct w)) ?_
  refine run_q (.none rfl) rfl rfl (q_move rfl rfl) ?_
  refine run_q (.none rfl) rfl rfl (q_extract rfl rfl rfl) ?_
  refine run_q (.none rfl) rfl rfl (q_extract rfl rfl rfl) ?_
  refine run_q (.none rfl) rfl rfl (q_assign rfl rfl) ?_
  refine run_q (.none rfl) rfl rfl (q_assign rfl rfl) ?_
  refine run_nil ?_
  refine run_sub (subMk (.cons (s := 4) rfl (.cons (s := 5) rfl (.cons (s := 7) rfl .nil))) .refl) ?_
  refine run_seq ?_
  refine run_region ?_
  refine run_q (.none rfl) rfl rfl (q_move rfl rfl) ?_
  refine run_q (.none rfl) rfl rfl (q_move rfl rfl) ?_
  refine run_q (.none rfl) rfl rfl (q_sub rfl rfl rfl (by omega)) ?_
  refine run_q (.none rfl) rfl rfl (q_assign rfl rfl) ?_
  refine run_nil ?_
  refine run_sub (subMk (.cons (s := 4) rfl .nil) .refl) ?_
  refine run_ret ?_
  exact end1 rfl rfl rfl

set_option maxRecDepth 100000 in
theorem likeH_just (a b : Hd) (W : World)  : Calls Try.prog 62 #[a.val, b.val] W (Hr.Just W (.bool (likeH a b))) := by
  refine Just.of_ret ?_
  refine enterA (X := nX) (vs := [a.val, b.val]) Try.func62 Try.ntmps62 rfl rfl Mem.nil ?_
  refine run_seq ?_
  refine run_region ?_
  refine run_h (.none rfl) (h_box rfl rfl rfl rfl rfl) ?_
  rintro b2 -
  refine run_h (.none rfl) (h_box rfl rfl rfl rfl rfl) ?_
  rintro b3 -
  refine run_q (.none rfl) rfl rfl (q_assign rfl rfl) ?_
  refine run_nil ?_
  refine run_seq ?_
  refine run_region ?_
  refine run_q (.none rfl) rfl rfl (q_fieldB (d := 0) rfl Try.underlying53 rfl rfl sz51 rfl) ?_
  refine run_q (.none rfl) rfl rfl (q_loadBN rfl agg51 rfl (.there Sel.here) (.cons rfl (.cons rfl (.cons rfl CellsAt.nil))) rfl) ?_
  refine run_q (.none rfl) rfl rfl (q_call rfl call53 (.cons rfl Evs.nil) (fun w hk hm => number_just a.step a.alter a.oct w)) ?_
  refine run_q (.none rfl) rfl rfl (q_move rfl rfl) ?_
  refine run_q (.none rfl) rfl rfl (q_extract rfl rfl rfl) ?_
  refine run_q (.none rfl) rfl rfl (q_extract rfl rfl rfl) ?_
  refine run_q (.none rfl) rfl rfl (q_assign rfl rfl) ?_
  refine run_q (.none rfl) rfl rfl (q_assign rfl rfl) ?_
  refine run_nil ?_
  refine run_sub (subMk (.cons (s := 3) rfl (.cons (s := 4) rfl (.cons (s := 5) rfl .nil))) .refl) ?_
  refine run_seq ?_
  refine run_region ?_
  refine run_q (.none rfl) rfl rfl (q_fieldB (d := 0) rfl Try.underlying53 rfl rfl sz51 rfl) ?_
  refine run_q (.none rfl) rfl rfl (q_loadBN rfl agg51 rfl Sel.here (.cons rfl (.cons rfl (.cons rfl CellsAt.nil))) rfl) ?_
  refine run_q (.none rfl) rfl rfl (q_call rfl call53 (.cons rfl Evs.nil) (fun w hk hm => number_just b.step b.alter b.oct w)) ?_
  refine run_q (.none rfl) rfl rfl (q_move rfl rfl) ?_
  refine run_q (.none rfl) rfl rfl (q_extract rfl rfl rfl) ?_
  refine run_q (.none rfl) rfl rfl (q_extract rfl rfl rfl) ?_
  refine run_q (.none rfl) rfl rfl (q_assign rfl rfl) ?_
  refine run_q (.none rfl) rfl rfl (q_assign rfl rfl) ?_
  refine run_nil ?_
  refine run_sub (subMk (.cons (s := 4) rfl (.cons (s := 5) rfl (.cons (s := 7) rfl .nil))) .refl) ?_
  refine run_seq ?_
  refine run_region ?_
  refine run_q (.none rfl) rfl rfl (q_move rfl rfl) ?_
  refine run_q (.none rfl) rfl rfl (q_move rfl rfl) ?_
  refine run_q (.none rfl) rfl rfl (q_eql rfl rfl rfl) ?_
  refine run_q (.none rfl) rfl rfl (q_assign rfl rfl) ?_
  refine run_nil ?_
  refine run_sub (subMk (.cons (s := 4) rfl .nil) .refl) ?_
  refine run_ret ?_
  exact end1 rfl rfl rfl

theorem idxBad (l : List Hd) (A : Option Addr) (ca : Nat) (W : World) (hr : Rd W A 5 (l.map Hd.enc)) (hl : l.length ≤ 1000000) : Calls Try.prog 70 #[.slice A l.length ca, .func (.func 58) #[] #[]] W (Hr.Just W (.int .i64 (Flt.idxV badH l))) := by
  refine Just.of_ret ?_
  refine enterA (X := nX) (vs := [.slice A l.length ca, .func (.func 58) #[] #[]]) Try.func70 Try.ntmps70 rfl rfl Mem.nil ?_
  refine run_seq ?_
  refine run_region ?_
  refine run_q (.none rfl) rfl rfl (q_assign rfl rfl) ?_
  refine run_nil ?_
  refine run_seq ?_
  refine run_seq ?_
  refine run_region ?_
  refine run_q (.none rfl) rfl rfl (q_move rfl rfl) ?_
  refine run_q (.none rfl) rfl rfl (q_len rfl Try.underlying26 rfl) ?_
  refine run_q (.none rfl) rfl rfl (q_move rfl rfl) ?_
  refine run_nil ?_
  refine run_block ?_
  refine run_sub (subMk (.cons (s := 8) rfl (.cons (s := 0) rfl (.cons (s := 1) rfl (.cons (s := 4) rfl (.cons (s := 7) rfl .nil))))) .nil) ?_
  refine run_loopC1M0 (ι := Nat) (fun k => k ≤ l.length ∧ Flt.fidx badH l = k + Flt.fidx badH (l.drop k)) (fun k => .int .i64 (k : Int))  (fun k => l.length - k) 0 (by (try dsimp only); exact ⟨by omega, by simp⟩) rfl  ?_
  rintro k hq
  (try dsimp only at hq)
  obtain ⟨hk, hinv⟩ := hq
  show Run _ _ _ _ _ _ _ ⟨(8, .int .i64 (k : Int)) :: _, _⟩
  refine run_seq ?_
  refine run_region ?_
  refine run_q (.none rfl) rfl rfl (q_lss rfl rfl rfl) ?_
  refine run_nil ?_
  refine run_seq ?_
  refine run_cond rfl (fun g9 => ?_) (fun g9 => ?_)
  · have g9' := g9
    try simp only [decide_eq_true_eq, decide_eq_false_iff_not, beq_iff_eq, beq_eq_false_iff_ne, bne_iff_ne, bne_eq_false_iff_eq, Bool.not_eq_true', Bool.not_eq_false', ne_eq, Int.not_lt, Int.not_le, Decidable.not_not] at g9'
    refine run_skip ?_
    refine run_seq ?_
    refine run_block ?_
    refine run_seq ?_
    refine run_region ?_
    refine run_q (.none rfl) rfl rfl (q_move rfl rfl) ?_
    refine run_q (.none rfl) rfl rfl (q_assign rfl rfl) ?_
    refine run_nil ?_
    refine run_seq ?_
    refine run_region ?_
    refine run_q (.none rfl) rfl rfl (q_move rfl rfl) ?_
    refine run_q (.none rfl) rfl rfl (q_move rfl rfl) ?_
    refine run_q (.none rfl) rfl rfl (q_move rfl rfl) ?_
    refine run_q (.none rfl) rfl rfl (q_indexS (q := k) rfl Try.underlying26 sz53 rfl rfl (.inp hr .no) (by simp <;> omega) rfl (by omega)) ?_
    refine run_q (.none rfl) rfl rfl (q_loadE rfl agg53 rfl (.inp hr .no) (getmap (by omega)) rfl) ?_
    refine run_q (.none rfl) rfl rfl (q_callv rfl rfl call58 (.cons rfl Evs.nil) (fun w hk hm => bad_just (nth l k) w)) ?_
    refine run_nil ?_
    refine run_sub (subMk (.cons (s := 0) rfl (.cons (s := 1) rfl (.cons (s := 4) rfl (.cons (s := 5) rfl (.cons (s := 7) rfl (.cons (s := 8) rfl (.cons (s := 16) rfl .nil))))))) .refl) ?_
    refine run_cond rfl (fun g16 => ?_) (fun g16 => ?_)
    · have g16' := g16
      try simp only [decide_eq_true_eq, decide_eq_false_iff_not, beq_iff_eq, beq_eq_false_iff_ne, bne_iff_ne, bne_eq_false_iff_eq, Bool.not_eq_true', Bool.not_eq_false', ne_eq, Int.not_lt, Int.not_le, Decidable.not_not] at g16'
      refine run_seq ?_
      refine run_region ?_
      refine run_q (.none rfl) rfl rfl (q_move rfl rfl) ?_
      refine run_q (.none rfl) rfl rfl (q_assign rfl rfl) ?_
      refine run_nil ?_
      refine run_sub (subMk (.cons (s := 0) rfl (.cons (s := 1) rfl (.cons (s := 4) rfl (.cons (s := 7) rfl (.cons (s := 8) rfl .nil))))) .refl) ?_
      refine run_ret ?_
      exact end1 rfl rfl (by rw [Flt.fidx_hit (by omega) hinv (by simpa using g16)])
    · have g16' := g16
      try simp only [decide_eq_true_eq, decide_eq_false_iff_not, beq_iff_eq, beq_eq_false_iff_ne, bne_iff_ne, bne_eq_false_iff_eq, Bool.not_eq_true', Bool.not_eq_false', ne_eq, Int.not_lt, Int.not_le, Decidable.not_not] at g16'
      refine run_skip ?_
      refine run_blk ?_
      refine run_region ?_
      refine run_q (.none rfl) rfl rfl (q_add rfl rfl rfl (by omega)) ?_
      refine run_q (.none rfl) rfl rfl (q_move rfl rfl) ?_
      refine run_nil ?_
      refine run_sub (subMk (.cons (s := 0) rfl (.cons (s := 1) rfl (.cons (s := 4) rfl (.cons (s := 7) rfl (.cons (s := 8) rfl .nil))))) .refl) ?_
      exact run_again (k + 1) (by (try dsimp only); exact ⟨by omega, Flt.fidx_step (by omega) hinv (by simpa using g16)⟩) (by (try dsimp only); omega) (subMk (.cons' (s := 8) rfl rfl (.cons (s := 0) rfl (.cons (s := 1) rfl (.cons (s := 4) rfl (.cons (s := 7) rfl .nil))))) .nil)
  · have g9' := g9
    try simp only [decide_eq_true_eq, decide_eq_false_iff_not, beq_iff_eq, beq_eq_false_iff_ne, bne_iff_ne, bne_eq_false_iff_eq, Bool.not_eq_true', Bool.not_eq_false', ne_eq, Int.not_lt, Int.not_le, Decidable.not_not] at g9'
    refine run_exit rfl ?_
    refine run_sub (subMk (.cons (s := 4) rfl .nil) .refl) ?_
    refine run_seq ?_
    refine run_region ?_
    refine run_q (.none rfl) rfl rfl (q_assign rfl rfl) ?_
    refine run_nil ?_
    refine run_ret ?_
    exact end1 rfl rfl (by rw [Flt.fidx_none (by omega) hinv])

set_option maxRecDepth 100000 in
theorem delBad (l : List Hd) (A : Option Addr) (ca : Nat) (W : World) (hm : Mem (atAny [.own 53 5 A l.length ca ((l).map Hd.enc)]) W [.own 53 5 A l.length ca ((l).map Hd.enc)] W) (hl : l.length ≤ 1000000) : Calls Try.prog 57 #[.slice A l.length ca, .func (.func 58) #[] #[]] W (Ret W (atAny [.own 53 5 A l.length ca ((l).map Hd.enc)]) (fun v m => v = .slice A (Flt.rest badH l).length ca ∧ m = [.own 53 5 A (Flt.rest badH l).length ca (((Flt.rest badH l)).map Hd.enc)])) := by
  refine enterA (X := _) (vs := [.slice A l.length ca, .func (.func 58) #[] #[]]) Try.func57 Try.ntmps57 rfl rfl hm ?_
  refine run_seq ?_
  refine run_region ?_
  refine run_q (.none rfl) rfl rfl (q_assign rfl rfl) ?_
  refine run_nil ?_
  refine run_seq ?_
  refine run_region ?_
  refine run_q (.none rfl) rfl rfl (q_move rfl rfl) ?_
  refine run_q (.none rfl) rfl rfl (q_move rfl rfl) ?_
  refine run_q (.none rfl) rfl rfl (q_call rfl call70 (.cons rfl (.cons rfl Evs.nil)) (fun w hk hm => idxBad l A ca  w (own_rd (Sel.here.holds hm)) hl )) ?_
  refine run_q (.none rfl) rfl rfl (q_assign rfl rfl) ?_
  refine run_nil ?_
  refine run_sub (subMk (.cons (s := 0) rfl (.cons (s := 1) rfl (.cons (s := 4) rfl (.cons (s := 5) rfl .nil)))) .refl) ?_
  refine run_seq ?_
  refine run_seq ?_
  refine run_region ?_
  refine run_q (.none rfl) rfl rfl (q_move rfl rfl) ?_
  refine run_q (.none rfl) rfl rfl (q_eql rfl rfl rfl) ?_
  refine run_nil ?_
  refine run_cond rfl (fun g12 => ?_) (fun g12 => ?_)
  · have g12' := g12
    try simp only [decide_eq_true_eq, decide_eq_false_iff_not, beq_iff_eq, beq_eq_false_iff_ne, bne_iff_ne, bne_eq_false_iff_eq, Bool.not_eq_true', Bool.not_eq_false', ne_eq, Int.not_lt, Int.not_le, Decidable.not_not] at g12'
    refine run_seq ?_
    refine run_region ?_
    refine run_q (.none rfl) rfl rfl (q_move rfl rfl) ?_
    refine run_q (.none rfl) rfl rfl (q_assign rfl rfl) ?_
    refine run_nil ?_
    refine run_sub (subMk (.cons (s := 0) rfl (.cons (s := 1) rfl (.cons (s := 4) rfl (.cons (s := 5) rfl .nil)))) .refl) ?_
    refine run_ret ?_
    refine run_sub (subMk .refl (.cons Sel.here .refl .nil)) ?_
    exact end1 rfl rfl ⟨by rw [Flt.idxV_neg (by simpa using g12)], by rw [Flt.idxV_neg (by simpa using g12)]⟩
  · have g12' := g12
    try simp only [decide_eq_true_eq, decide_eq_false_iff_not, beq_iff_eq, beq_eq_false_iff_ne, bne_iff_ne, bne_eq_false_iff_eq, Bool.not_eq_true', Bool.not_eq_false', ne_eq, Int.not_lt, Int.not_le, Decidable.not_not] at g12'
    obtain ⟨i0, hi0, hv0, hr0, hp0⟩ := Flt.idxV_pos (by simpa using g12)
    refine run_skip ?_
    refine run_seq ?_
    refine run_seq ?_
    refine run_region ?_
    refine run_q (.none rfl) rfl rfl (q_move rfl rfl) ?_
    refine run_q (.none rfl) rfl rfl (q_add rfl rfl rfl (by omega)) ?_
    refine run_q (.none rfl) rfl rfl (q_assign rfl rfl) ?_
    refine run_nil ?_
    refine run_sub (subMk (.cons (s := 0) rfl (.cons (s := 1) rfl (.cons (s := 4) rfl (.cons (s := 5) rfl (.cons (s := 6) rfl .nil))))) .refl) ?_
    refine run_block ?_
    refine run_sub (subMk (.cons (s := 6) rfl (.cons (s := 5) rfl (.cons (s := 0) rfl (.cons (s := 1) rfl (.cons (s := 4) rfl .nil))))) (.cons Sel.here .refl .nil)) ?_
    refine run_loopC2M1 (ι := Nat × (List Hd)) (fun gg => gg.1 ≤ l.length ∧ (Flt.rest badH (l.take gg.1)).length + gg.2.length = gg.1 ∧ 0 < gg.2.length) (fun gg => .int .i64 (gg.1 : Int)) (fun gg => .int .i64 ((Flt.rest badH (l.take gg.1)).length : Int)) (fun gg => .own 53 5 A l.length ca ((Flt.mixL badH l gg.2 gg.1).map Hd.enc)) (fun gg => l.length - gg.1) (i0 + 1, [nth l i0]) (by (try dsimp only); exact ⟨by omega, by rw [hr0]; simp; omega, by simp⟩) (vint (by rw [hv0]; omega)) (vint (by rw [hr0, hv0]; simp; omega)) (.own rfl rfl rfl (by rw [Flt.mixL_zero hi0 hr0])) ?_
    rintro ⟨j, M⟩ hq
    (try dsimp only at hq)
    obtain ⟨hj, hM, hM0⟩ := hq
    show Run _ _ _ _ _ _ _ ⟨(6, .int .i64 (j : Int)) :: (5, .int .i64 ((Flt.rest badH (l.take j)).length : Int)) :: _, .own 53 5 A l.length ca ((Flt.mixL badH l M j).map Hd.enc) :: _⟩
    refine run_seq ?_
    refine run_seq ?_
    refine run_region ?_
    refine run_q (.none rfl) rfl rfl (q_move rfl rfl) ?_
    refine run_q (.none rfl) rfl rfl (q_move rfl rfl) ?_
    refine run_q (.none rfl) rfl rfl (q_len rfl Try.underlying26 rfl) ?_
    refine run_q (.none rfl) rfl rfl (q_lss rfl rfl rfl) ?_
    refine run_nil ?_
    refine run_sub (subMk (.cons (s := 0) rfl (.cons (s := 1) rfl (.cons (s := 4) rfl (.cons (s := 5) rfl (.cons (s := 6) rfl (.cons (s := 19) rfl .nil)))))) .refl) ?_
    refine run_cond rfl (fun g19 => ?_) (fun g19 => ?_)
    · have g19' := g19
      try simp only [decide_eq_true_eq, decide_eq_false_iff_not, beq_iff_eq, beq_eq_false_iff_ne, bne_iff_ne, bne_eq_false_iff_eq, Bool.not_eq_true', Bool.not_eq_false', ne_eq, Int.not_lt, Int.not_le, Decidable.not_not] at g19'
      refine run_skip ?_
      refine run_seq ?_
      refine run_block ?_
      refine run_seq ?_
      refine run_region ?_
      refine run_q (.none rfl) rfl rfl (q_move rfl rfl) ?_
      refine run_q (.none rfl) rfl rfl (q_move rfl rfl) ?_
      refine run_q (.none rfl) rfl rfl (q_indexS (q := j) rfl Try.underlying26 sz53 rfl rfl (.own Sel.here) (by rw [List.length_map, Flt.mixL_len (by omega) hM]) rfl (by omega)) ?_
      refine run_q (.none rfl) rfl rfl (q_loadE rfl agg53 rfl (.own Sel.here) (by rw [getmap (by rw [Flt.mixL_len (by omega) hM]; omega), Flt.mixL_nth (by omega) hM]) rfl) ?_
      refine run_h (.none rfl) (h_alloc rfl rfl rfl info53) ?_
      rintro b7 -
      refine run_h (.none rfl) (h_storeB rfl rfl sz53 rfl rfl rfl rfl rfl Sel.here rfl) ?_
      rintro - -
      refine run_nil ?_
      refine run_sub (subMk (.cons (s := 0) rfl (.cons (s := 1) rfl (.cons (s := 4) rfl (.cons (s := 5) rfl (.cons (s := 6) rfl (.cons (s := 7) rfl .nil)))))) .refl) ?_
      refine run_seq ?_
      refine run_region ?_
      refine run_q (.none rfl) rfl rfl (q_move rfl rfl) ?_
      refine run_q (.none rfl) rfl rfl (q_loadBN rfl agg53 rfl Sel.here (.cons rfl (.cons rfl (.cons rfl (.cons rfl (.cons rfl CellsAt.nil))))) rfl) ?_
      refine run_q (.none rfl) rfl rfl (q_callv rfl rfl call58 (.cons rfl Evs.nil) (fun w hk hm => bad_just (nth l j) w)) ?_
      refine run_q (.none rfl) rfl rfl (q_not rfl rfl) ?_
      refine run_nil ?_
      refine run_sub (subMk (.cons (s := 0) rfl (.cons (s := 1) rfl (.cons (s := 4) rfl (.cons (s := 5) rfl (.cons (s := 6) rfl (.cons (s := 7) rfl (.cons (s := 29) rfl .nil))))))) .refl) ?_
      refine run_cond rfl (fun g29 => ?_) (fun g29 => ?_)
      · have g29' := g29
        try simp only [decide_eq_true_eq, decide_eq_false_iff_not, beq_iff_eq, beq_eq_false_iff_ne, bne_iff_ne, bne_eq_false_iff_eq, Bool.not_eq_true', Bool.not_eq_false', ne_eq, Int.not_lt, Int.not_le, Decidable.not_not] at g29'
        have hpj : badH (nth l j) = false := by simpa using g29
        obtain ⟨x1, m1, rfl⟩ : ∃ x1 m1, M = x1 :: m1 := by cases M with | nil => simp at hM0 | cons x1 m1 => exact ⟨_, _, rfl⟩
        refine run_seq ?_
        refine run_region ?_
        refine run_q (.none rfl) rfl rfl (q_move rfl rfl) ?_
        refine run_q (.none rfl) rfl rfl (q_move rfl rfl) ?_
        refine run_q (.none rfl) rfl rfl (q_loadBN rfl agg53 rfl Sel.here (.cons rfl (.cons rfl (.cons rfl (.cons rfl (.cons rfl CellsAt.nil))))) rfl) ?_
        refine run_q (.none rfl) rfl rfl (q_indexS (q := (Flt.rest badH (l.take j)).length) rfl Try.underlying26 sz53 rfl rfl (.own (.there Sel.here)) (by rw [List.length_map, Flt.mixL_len (by omega) hM]) rfl (by simp at hM; omega)) ?_
        refine run_h (.none rfl) (h_storeE rfl rfl sz53 rfl rfl rfl rfl rfl (.there Sel.here) (by simp at hM; omega)) ?_
        rintro - -
        refine run_nil ?_
        refine run_sub (subMk (.cons (s := 0) rfl (.cons (s := 1) rfl (.cons (s := 4) rfl (.cons (s := 5) rfl (.cons (s := 6) rfl .nil))))) .refl) ?_
        refine run_region ?_
        refine run_q (.none rfl) rfl rfl (q_move rfl rfl) ?_
        refine run_q (.none rfl) rfl rfl (q_add rfl rfl rfl (by omega)) ?_
        refine run_q (.none rfl) rfl rfl (q_assign rfl rfl) ?_
        refine run_nil ?_
        refine run_blk ?_
        refine run_region ?_
        refine run_q (.none rfl) rfl rfl (q_move rfl rfl) ?_
        refine run_q (.none rfl) rfl rfl (q_add rfl rfl rfl (by omega)) ?_
        refine run_q (.none rfl) rfl rfl (q_assign rfl rfl) ?_
        refine run_nil ?_
        refine run_sub (subMk (.cons (s := 0) rfl (.cons (s := 1) rfl (.cons (s := 4) rfl (.cons (s := 5) rfl (.cons (s := 6) rfl .nil))))) .refl) ?_
        exact run_again (j + 1, m1 ++ [nth l j]) (by (try dsimp only); exact ⟨by omega, by rw [Flt.rest_succ_in (by omega) hpj]; simp at hM ⊢; omega, by simp⟩) (by (try dsimp only); omega) (subMk (.cons' (s := 6) rfl rfl (.cons' (s := 5) rfl (vint (by rw [Flt.rest_succ_in (by omega) hpj]; simp)) (.cons (s := 0) rfl (.cons (s := 1) rfl (.cons (s := 4) rfl .nil))))) (.cons Sel.here (.own rfl rfl rfl (by rw [← Flt.mixL_in (x := x1) (by omega) hpj, List.map_set]; rfl)) .nil))
      · have g29' := g29
        try simp only [decide_eq_true_eq, decide_eq_false_iff_not, beq_iff_eq, beq_eq_false_iff_ne, bne_iff_ne, bne_eq_false_iff_eq, Bool.not_eq_true', Bool.not_eq_false', ne_eq, Int.not_lt, Int.not_le, Decidable.not_not] at g29'
        have hpj : badH (nth l j) = true := by simpa using g29
        refine run_skip ?_
        refine run_blk ?_
        refine run_region ?_
        refine run_q (.none rfl) rfl rfl (q_move rfl rfl) ?_
        refine run_q (.none rfl) rfl rfl (q_add rfl rfl rfl (by omega)) ?_
        refine run_q (.none rfl) rfl rfl (q_assign rfl rfl) ?_
        refine run_nil ?_
        refine run_sub (subMk (.cons (s := 0) rfl (.cons (s := 1) rfl (.cons (s := 4) rfl (.cons (s := 5) rfl (.cons (s := 6) rfl .nil))))) .refl) ?_
        exact run_again (j + 1, M ++ [nth l j]) (by (try dsimp only); exact ⟨by omega, by rw [Flt.rest_succ_out (by omega) hpj]; simp; omega, by simp⟩) (by (try dsimp only); omega) (subMk (.cons' (s := 6) rfl rfl (.cons' (s := 5) rfl (vint (by rw [Flt.rest_succ_out (by omega) hpj])) (.cons (s := 0) rfl (.cons (s := 1) rfl (.cons (s := 4) rfl .nil))))) (.cons (.there Sel.here) (.own rfl rfl rfl (by rw [← Flt.mixL_out (by omega) hpj])) .nil))
    · have g19' := g19
      try simp only [decide_eq_true_eq, decide_eq_false_iff_not, beq_iff_eq, beq_eq_false_iff_ne, bne_iff_ne, bne_eq_false_iff_eq, Bool.not_eq_true', Bool.not_eq_false', ne_eq, Int.not_lt, Int.not_le, Decidable.not_not] at g19'
      refine run_exit rfl ?_
      refine run_sub (subMk (.cons (s := 0) rfl (.cons (s := 4) rfl (.cons (s := 5) rfl .nil))) .refl) ?_
      refine run_seq ?_
      refine run_region ?_
      refine run_q (.none rfl) rfl rfl (q_move rfl rfl) ?_
      refine run_q (.none rfl) rfl rfl (q_move rfl rfl) ?_
      refine run_q (.none rfl) rfl rfl (q_sliceL rfl Try.underlying26 sz53 rfl rfl (by omega)) ?_
      refine run_h (.none rfl) (h_clear (i := (Flt.rest badH (l.take j)).length) rfl rfl Try.underlying26 info53 rfl rfl rfl rfl (by omega) Sel.here) ?_
      rintro - -
      refine run_nil ?_
      refine run_sub (subMk (.cons (s := 0) rfl (.cons (s := 4) rfl (.cons (s := 5) rfl .nil))) .refl) ?_
      refine run_seq ?_
      refine run_ownLe Sel.here (fun hle => ?_)
      refine run_region ?_
      refine run_q (.none rfl) rfl rfl (q_move rfl rfl) ?_
      refine run_q (.none rfl) rfl rfl (q_move rfl rfl) ?_
      refine run_q (.none rfl) rfl rfl (q_sliceH rfl Try.underlying26 sz53 rfl rfl (by omega)) ?_
      refine run_q (.none rfl) rfl rfl (q_assign rfl rfl) ?_
      refine run_nil ?_
      refine run_sub (subMk (.cons (s := 4) rfl .nil) .refl) ?_
      refine run_ret ?_
      refine run_sub (subMk .refl (.cons Sel.here (.ownTake (n' := (Flt.rest badH l).length) (m' := (Flt.rest badH l).length) (ls' := (Flt.rest badH l).map Hd.enc) rfl rfl Flt.rest_len (Flt.mixL_row (by omega)).symm) .nil)) ?_
      exact end1 rfl rfl ⟨by rw [show l.take j = l from List.take_of_length_le (by omega)]; rfl, rfl⟩

end Go.Proofs.Ytneadapfoaccmaa
