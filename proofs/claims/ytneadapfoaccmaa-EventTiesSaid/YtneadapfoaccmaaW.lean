/- Ties, in the program. -/
import Derived.Test.YtneadapfoaccmaaV
import Derived.Test.YtneadapfoaccmaaTies
set_option linter.unusedSimpArgs false
set_option linter.unusedVariables false
namespace Go.Proofs.Ytneadapfoaccmaa
open Go Go.RowKit Hr

theorem sz4 : Hr.Sz Try.prog 4 1 := Hr.Sz.of (by kernel_rfl)
theorem call74 : Hr.Callable Try.prog 74 := fun args w => by kernel_rfl
theorem call75 : Hr.Callable Try.prog 75 := fun args w => by kernel_rfl
theorem call73 : Hr.Callable Try.prog 73 := fun args w => by kernel_rfl

set_option maxRecDepth 100000 in
theorem ties1_just (h : Hd) (W : World)  : Calls Try.prog 74 #[h.val] W (Hr.Just W (.bool (tiedP h))) := by
  refine Just.of_ret ?_
  refine enterA (X := nX) (vs := [h.val]) Try.func74 Try.ntmps74 rfl rfl Mem.nil ?_
  refine run_seq ?_
  refine run_region ?_
  refine run_h (.none rfl) (h_box rfl rfl rfl rfl rfl) ?_
  rintro b1 -
  refine run_q (.none rfl) rfl rfl (q_assign rfl rfl) ?_
  refine run_nil ?_
  refine run_seq ?_
  refine run_region ?_
  refine run_q (.none rfl) rfl rfl (q_fieldB (d := 3) rfl Try.underlying53 rfl rfl sz4 rfl) ?_
  refine run_q (.none rfl) rfl rfl (q_loadB rfl one4 rfl Sel.here rfl) ?_
  refine run_q (.none rfl) rfl rfl (q_assign rfl rfl) ?_
  refine run_nil ?_
  refine run_sub (subMk (.cons (s := 2) rfl .nil) .refl) ?_
  refine run_ret ?_
  exact end1 rfl rfl rfl

set_option maxRecDepth 100000 in
theorem joins1_just (k h : Hd) (b : Nat) (W : World) (hb : Rd W (some ⟨b, 0, none⟩) 5 [h.enc]) : Calls Try.prog 75 #[k.val, .pointer (some ((adr (some ⟨b, 0, none⟩)).add (0 * 5)))] W (Hr.Just W (.bool (pitEq h k))) := by
  refine Just.of_ret ?_
  refine enterA (X := nX) (vs := [k.val, .pointer (some ((adr (some ⟨b, 0, none⟩)).add (0 * 5)))]) Try.func75 Try.ntmps75 rfl rfl Mem.nil ?_
  refine run_seq ?_
  refine run_region ?_
  refine run_h (.none rfl) (h_box rfl rfl rfl rfl rfl) ?_
  rintro b2 -
  refine run_q (.none rfl) rfl rfl (q_assign rfl rfl) ?_
  refine run_nil ?_
  refine run_seq ?_
  refine run_region ?_
  refine run_q (.none rfl) rfl rfl (q_fieldB (d := 0) rfl Try.underlying53 rfl rfl sz51 rfl) ?_
  refine run_q (.none rfl) rfl rfl (q_loadBN rfl agg51 rfl Sel.here (.cons rfl (.cons rfl (.cons rfl CellsAt.nil))) rfl) ?_
  refine run_q (.none rfl) rfl rfl (q_fieldAddr (d := 0) rfl Try.underlying53 rfl rfl sz51 rfl) ?_
  refine run_q (.none rfl) rfl rfl (q_loadFN rfl agg51 rfl (.inp hb .no) (show ([h.enc] : List (List Value))[0]? = some h.enc from rfl) rfl rfl) ?_
  refine run_q (.none rfl) rfl rfl (q_eqlS rfl rfl rfl eqg51 (fun w => eqs51 _ _ _ _ _ _ w)) ?_
  refine run_q (.none rfl) rfl rfl (q_assign rfl rfl) ?_
  refine run_nil ?_
  refine run_sub (subMk (.cons (s := 3) rfl .nil) .refl) ?_
  refine run_ret ?_
  exact end1 rfl rfl rfl

theorem idxTied (l : List Hd) (A : Option Addr) (ca : Nat) (W : World) (hr : Rd W A 5 (l.map Hd.enc)) (hl : l.length ≤ 1000000) : Calls Try.prog 70 #[.slice A l.length ca, .func (.func 74) #[] #[]] W (Hr.Just W (.int .i64 (Flt.idxV tiedP l))) := by
  refine Just.of_ret ?_
  refine enterA (X := nX) (vs := [.slice A l.length ca, .func (.func 74) #[] #[]]) Try.func70 Try.ntmps70 rfl rfl Mem.nil ?_
  refine run_seq ?_
  refine run_region ?_
  refine run_q (.none rfl) rfl rfl (q_assign rfl rfl) ?_
  refine run_nil ?_
  refine run_seq ?_
  refine run_seq ?_
  refine run_region ?_
  refine run_q (.none rfl) rfl rfl (q_move rfl rfl) ?_
  refine run_q (.none rfl) rfl rfl (q_len rfl Try.underlying26 rfl) ?_
  refine run_q (.none rfl) rfl rfl (q_move rfl rfl) ?_
  refine run_nil ?_
  refine run_block ?_
  refine run_sub (subMk (.cons (s := 8) rfl (.cons (s := 0) rfl (.cons (s := 1) rfl (.cons (s := 4) rfl (.cons (s := 7) rfl .nil))))) .nil) ?_
  refine run_loopC1M0 (ι := Nat) (fun k => k ≤ l.length ∧ Flt.fidx tiedP l = k + Flt.fidx tiedP (l.drop k)) (fun k => .int .i64 (k : Int))  (fun k => l.length - k) 0 (by (try dsimp only); exact ⟨by omega, by simp⟩) rfl  ?_
  rintro k hq
  (try dsimp only at hq)
  obtain ⟨hk, hinv⟩ := hq
  show Run _ _ _ _ _ _ _ ⟨(8, .int .i64 (k : Int)) :: _, _⟩
  refine run_seq ?_
  refine run_region ?_
  refine run_q (.none rfl) rfl rfl (q_lss rfl rfl rfl) ?_
  refine run_nil ?_
  refine run_seq ?_
  refine run_cond rfl (fun g9 => ?_) (fun g9 => ?_)
  · have g9' := g9
    try simp only [decide_eq_true_eq, decide_eq_false_iff_not, beq_iff_eq, beq_eq_false_iff_ne, bne_iff_ne, bne_eq_false_iff_eq, Bool.not_eq_true', Bool.not_eq_false', ne_eq, Int.not_lt, Int.not_le, Decidable.not_not] at g9'
    refine run_skip ?_
    refine run_seq ?_
    refine run_block ?_
    refine run_seq ?_
    refine run_region ?_
    refine run_q (.none rfl) rfl rfl (q_move rfl rfl) ?_
    refine run_q (.none rfl) rfl rfl (q_assign rfl rfl) ?_
    refine run_nil ?_
    refine run_seq ?_
    refine run_region ?_
    refine run_q (.none rfl) rfl rfl (q_move rfl rfl) ?_
    refine run_q (.none rfl) rfl rfl (q_move rfl rfl) ?_
    refine run_q (.none rfl) rfl rfl (q_move rfl rfl) ?_
    refine run_q (.none rfl) rfl rfl (q_indexS (q := k) rfl Try.underlying26 sz53 rfl rfl (.inp hr .no) (by simp <;> omega) rfl (by omega)) ?_
    refine run_q (.none rfl) rfl rfl (q_loadE rfl agg53 rfl (.inp hr .no) (getmap (by omega)) rfl) ?_
    refine run_q (.none rfl) rfl rfl (q_callv rfl rfl call74 (.cons rfl Evs.nil) (fun w hk hm => ties1_just (nth l k) w)) ?_
    refine run_nil ?_
    refine run_sub (subMk (.cons (s := 0) rfl (.cons (s := 1) rfl (.cons (s := 4) rfl (.cons (s := 5) rfl (.cons (s := 7) rfl (.cons (s := 8) rfl (.cons (s := 16) rfl .nil))))))) .refl) ?_
    refine run_cond rfl (fun g16 => ?_) (fun g16 => ?_)
    · have g16' := g16
      try simp only [decide_eq_true_eq, decide_eq_false_iff_not, beq_iff_eq, beq_eq_false_iff_ne, bne_iff_ne, bne_eq_false_iff_eq, Bool.not_eq_true', Bool.not_eq_false', ne_eq, Int.not_lt, Int.not_le, Decidable.not_not] at g16'
      refine run_seq ?_
      refine run_region ?_
      refine run_q (.none rfl) rfl rfl (q_move rfl rfl) ?_
      refine run_q (.none rfl) rfl rfl (q_assign rfl rfl) ?_
      refine run_nil ?_
      refine run_sub (subMk (.cons (s := 0) rfl (.cons (s := 1) rfl (.cons (s := 4) rfl (.cons (s := 7) rfl (.cons (s := 8) rfl .nil))))) .refl) ?_
      refine run_ret ?_
      exact end1 rfl rfl (by rw [Flt.fidx_hit (by omega) hinv (by simpa using g16)])
    · have g16' := g16
      try simp only [decide_eq_true_eq, decide_eq_false_iff_not, beq_iff_eq, beq_eq_false_iff_ne, bne_iff_ne, bne_eq_false_iff_eq, Bool.not_eq_true', Bool.not_eq_false', ne_eq, Int.not_lt, Int.not_le, Decidable.not_not] at g16'
      refine run_skip ?_
      refine run_blk ?_
      refine run_region ?_
      refine run_q (.none rfl) rfl rfl (q_add rfl rfl rfl (by omega)) ?_
      refine run_q (.none rfl) rfl rfl (q_move rfl rfl) ?_
      refine run_nil ?_
      refine run_sub (subMk (.cons (s := 0) rfl (.cons (s := 1) rfl (.cons (s := 4) rfl (.cons (s := 7) rfl (.cons (s := 8) rfl .nil))))) .refl) ?_
      exact run_again (k + 1) (by (try dsimp only); exact ⟨by omega, Flt.fidx_step (by omega) hinv (by simpa using g16)⟩) (by (try dsimp only); omega) (subMk (.cons' (s := 8) rfl rfl (.cons (s := 0) rfl (.cons (s := 1) rfl (.cons (s := 4) rfl (.cons (s := 7) rfl .nil))))) .nil)
  · have g9' := g9
    try simp only [decide_eq_true_eq, decide_eq_false_iff_not, beq_iff_eq, beq_eq_false_iff_ne, bne_iff_ne, bne_eq_false_iff_eq, Bool.not_eq_true', Bool.not_eq_false', ne_eq, Int.not_lt, Int.not_le, Decidable.not_not] at g9'
    refine run_exit rfl ?_
    refine run_sub (subMk (.cons (s := 4) rfl .nil) .refl) ?_
    refine run_seq ?_
    refine run_region ?_
    refine run_q (.none rfl) rfl rfl (q_assign rfl rfl) ?_
    refine run_nil ?_
    refine run_ret ?_
    exact end1 rfl rfl (by rw [Flt.fidx_none (by omega) hinv])

theorem idxPit (l : List Hd) (A : Option Addr) (ca : Nat) (h : Hd) (b : Nat) (W : World) (hr : Rd W A 5 (l.map Hd.enc)) (hl : l.length ≤ 1000000) (hb : Rd W (some ⟨b, 0, none⟩) 5 [h.enc]) : Calls Try.prog 70 #[.slice A l.length ca, .func (.func 75) #[] #[.pointer (some ⟨b, 0, none⟩)]] W (Hr.Just W (.int .i64 (Flt.idxV (pitEq h) l))) := by
  refine Just.of_ret ?_
  refine enterA (X := nX) (vs := [.slice A l.length ca, .func (.func 75) #[] #[.pointer (some ⟨b, 0, none⟩)]]) Try.func70 Try.ntmps70 rfl rfl Mem.nil ?_
  refine run_seq ?_
  refine run_region ?_
  refine run_q (.none rfl) rfl rfl (q_assign rfl rfl) ?_
  refine run_nil ?_
  refine run_seq ?_
  refine run_seq ?_
  refine run_region ?_
  refine run_q (.none rfl) rfl rfl (q_move rfl rfl) ?_
  refine run_q (.none rfl) rfl rfl (q_len rfl Try.underlying26 rfl) ?_
  refine run_q (.none rfl) rfl rfl (q_move rfl rfl) ?_
  refine run_nil ?_
  refine run_block ?_
  refine run_sub (subMk (.cons (s := 8) rfl (.cons (s := 0) rfl (.cons (s := 1) rfl (.cons (s := 4) rfl (.cons (s := 7) rfl .nil))))) .nil) ?_
  refine run_loopC1M0 (ι := Nat) (fun k => k ≤ l.length ∧ Flt.fidx (pitEq h) l = k + Flt.fidx (pitEq h) (l.drop k)) (fun k => .int .i64 (k : Int))  (fun k => l.length - k) 0 (by (try dsimp only); exact ⟨by omega, by simp⟩) rfl  ?_
  rintro k hq
  (try dsimp only at hq)
  obtain ⟨hk, hinv⟩ := hq
  show Run _ _ _ _ _ _ _ ⟨(8, .int .i64 (k : Int)) :: _, _⟩
  refine run_seq ?_
  refine run_region ?_
  refine run_q (.none rfl) rfl rfl (q_lss rfl rfl rfl) ?_
  refine run_nil ?_
  refine run_seq ?_
  refine run_cond rfl (fun g9 => ?_) (fun g9 => ?_)
  · have g9' := g9
    try simp only [decide_eq_true_eq, decide_eq_false_iff_not, beq_iff_eq, beq_eq_false_iff_ne, bne_iff_ne, bne_eq_false_iff_eq, Bool.not_eq_true', Bool.not_eq_false', ne_eq, Int.not_lt, Int.not_le, Decidable.not_not] at g9'
    refine run_skip ?_
    refine run_seq ?_
    refine run_block ?_
    refine run_seq ?_
    refine run_region ?_
    refine run_q (.none rfl) rfl rfl (q_move rfl rfl) ?_
    refine run_q (.none rfl) rfl rfl (q_assign rfl rfl) ?_
    refine run_nil ?_
    refine run_seq ?_
    refine run_region ?_
    refine run_q (.none rfl) rfl rfl (q_move rfl rfl) ?_
    refine run_q (.none rfl) rfl rfl (q_move rfl rfl) ?_
    refine run_q (.none rfl) rfl rfl (q_move rfl rfl) ?_
    refine run_q (.none rfl) rfl rfl (q_indexS (q := k) rfl Try.underlying26 sz53 rfl rfl (.inp hr .no) (by simp <;> omega) rfl (by omega)) ?_
    refine run_q (.none rfl) rfl rfl (q_loadE rfl agg53 rfl (.inp hr .no) (getmap (by omega)) rfl) ?_
    refine run_q (.none rfl) rfl rfl (q_callv rfl rfl call75 (.cons rfl Evs.nil) (fun w hk hm => joins1_just (nth l k) h b w (hb.kept0 hk))) ?_
    refine run_nil ?_
    refine run_sub (subMk (.cons (s := 0) rfl (.cons (s := 1) rfl (.cons (s := 4) rfl (.cons (s := 5) rfl (.cons (s := 7) rfl (.cons (s := 8) rfl (.cons (s := 16) rfl .nil))))))) .refl) ?_
    refine run_cond rfl (fun g16 => ?_) (fun g16 => ?_)
    · have g16' := g16
      try simp only [decide_eq_true_eq, decide_eq_false_iff_not, beq_iff_eq, beq_eq_false_iff_ne, bne_iff_ne, bne_eq_false_iff_eq, Bool.not_eq_true', Bool.not_eq_false', ne_eq, Int.not_lt, Int.not_le, Decidable.not_not] at g16'
      refine run_seq ?_
      refine run_region ?_
      refine run_q (.none rfl) rfl rfl (q_move rfl rfl) ?_
      refine run_q (.none rfl) rfl rfl (q_assign rfl rfl) ?_
      refine run_nil ?_
      refine run_sub (subMk (.cons (s := 0) rfl (.cons (s := 1) rfl (.cons (s := 4) rfl (.cons (s := 7) rfl (.cons (s := 8) rfl .nil))))) .refl) ?_
      refine run_ret ?_
      exact end1 rfl rfl (by rw [Flt.fidx_hit (by omega) hinv (by simpa using g16)])
    · have g16' := g16
      try simp only [decide_eq_true_eq, decide_eq_false_iff_not, beq_iff_eq, beq_eq_false_iff_ne, bne_iff_ne, bne_eq_false_iff_eq, Bool.not_eq_true', Bool.not_eq_false', ne_eq, Int.not_lt, Int.not_le, Decidable.not_not] at g16'
      refine run_skip ?_
      refine run_blk ?_
      refine run_region ?_
      refine run_q (.none rfl) rfl rfl (q_add rfl rfl rfl (by omega)) ?_
      refine run_q (.none rfl) rfl rfl (q_move rfl rfl) ?_
      refine run_nil ?_
      refine run_sub (subMk (.cons (s := 0) rfl (.cons (s := 1) rfl (.cons (s := 4) rfl (.cons (s := 7) rfl (.cons (s := 8) rfl .nil))))) .refl) ?_
      exact run_again (k + 1) (by (try dsimp only); exact ⟨by omega, Flt.fidx_step (by omega) hinv (by simpa using g16)⟩) (by (try dsimp only); omega) (subMk (.cons' (s := 8) rfl rfl (.cons (s := 0) rfl (.cons (s := 1) rfl (.cons (s := 4) rfl (.cons (s := 7) rfl .nil))))) .nil)
  · have g9' := g9
    try simp only [decide_eq_true_eq, decide_eq_false_iff_not, beq_iff_eq, beq_eq_false_iff_ne, bne_iff_ne, bne_eq_false_iff_eq, Bool.not_eq_true', Bool.not_eq_false', ne_eq, Int.not_lt, Int.not_le, Decidable.not_not] at g9'
    refine run_exit rfl ?_
    refine run_sub (subMk (.cons (s := 4) rfl .nil) .refl) ?_
    refine run_seq ?_
    refine run_region ?_
    refine run_q (.none rfl) rfl rfl (q_assign rfl rfl) ?_
    refine run_nil ?_
    refine run_ret ?_
    exact end1 rfl rfl (by rw [Flt.fidx_none (by omega) hinv])

theorem conTied (l : List Hd) (A : Option Addr) (ca : Nat) (W : World) (hr : Rd W A 5 (l.map Hd.enc)) (hl : l.length ≤ 1000000) : Calls Try.prog 73 #[.slice A l.length ca, .func (.func 74) #[] #[]] W (Hr.Just W (.bool (l.any tiedP))) := by
  refine Just.of_ret ?_
  refine enterA (X := nX) (vs := [.slice A l.length ca, .func (.func 74) #[] #[]]) Try.func73 Try.ntmps73 rfl rfl Mem.nil ?_
  refine run_seq ?_
  refine run_region ?_
  refine run_q (.none rfl) rfl rfl (q_assign rfl rfl) ?_
  refine run_nil ?_
  refine run_seq ?_
  refine run_region ?_
  refine run_q (.none rfl) rfl rfl (q_move rfl rfl) ?_
  refine run_q (.none rfl) rfl rfl (q_move rfl rfl) ?_
  refine run_q (.none rfl) rfl rfl (q_call rfl call70 (.cons rfl (.cons rfl Evs.nil)) (fun w hk hm => idxTied l A ca w (hr.kept0 hk) hl)) ?_
  refine run_q (.none rfl) rfl rfl (q_geq rfl rfl rfl) ?_
  refine run_q (.none rfl) rfl rfl (q_assign rfl rfl) ?_
  refine run_nil ?_
  refine run_sub (subMk (.cons (s := 4) rfl .nil) .refl) ?_
  refine run_ret ?_
  exact end1 rfl rfl (congrArg Value.bool (idx_any l))

theorem conPit (l : List Hd) (A : Option Addr) (ca : Nat) (h : Hd) (b : Nat) (W : World) (hr : Rd W A 5 (l.map Hd.enc)) (hl : l.length ≤ 1000000) (hb : Rd W (some ⟨b, 0, none⟩) 5 [h.enc]) : Calls Try.prog 73 #[.slice A l.length ca, .func (.func 75) #[] #[.pointer (some ⟨b, 0, none⟩)]] W (Hr.Just W (.bool (l.any (pitEq h)))) := by
  refine Just.of_ret ?_
  refine enterA (X := nX) (vs := [.slice A l.length ca, .func (.func 75) #[] #[.pointer (some ⟨b, 0, none⟩)]]) Try.func73 Try.ntmps73 rfl rfl Mem.nil ?_
  refine run_seq ?_
  refine run_region ?_
  refine run_q (.none rfl) rfl rfl (q_assign rfl rfl) ?_
  refine run_nil ?_
  refine run_seq ?_
  refine run_region ?_
  refine run_q (.none rfl) rfl rfl (q_move rfl rfl) ?_
  refine run_q (.none rfl) rfl rfl (q_move rfl rfl) ?_
  refine run_q (.none rfl) rfl rfl (q_call rfl call70 (.cons rfl (.cons rfl Evs.nil)) (fun w hk hm => idxPit l A ca h b w (hr.kept0 hk) hl (hb.kept0 hk))) ?_
  refine run_q (.none rfl) rfl rfl (q_geq rfl rfl rfl) ?_
  refine run_q (.none rfl) rfl rfl (q_assign rfl rfl) ?_
  refine run_nil ?_
  refine run_sub (subMk (.cons (s := 4) rfl .nil) .refl) ?_
  refine run_ret ?_
  exact end1 rfl rfl (congrArg Value.bool (idx_any l))

set_option maxRecDepth 100000 in
theorem sounds_just (x : Evt) (p : Lie) (W : World) (hx : RdE W x p) (fx : x.few) : Calls Try.prog 40 #[evV x p] W (Hr.Just W (.bool (soundB x))) := by
  refine Just.of_ret ?_
  refine enterA (X := nX) (vs := [evV x p]) Try.func40 Try.ntmps40 rfl rfl Mem.nil ?_
  refine run_seq ?_
  refine run_region ?_
  refine run_h (.none rfl) (h_box rfl rfl rfl rfl rfl) ?_
  rintro b1 -
  refine run_q (.none rfl) rfl rfl (q_assign rfl rfl) ?_
  refine run_nil ?_
  refine run_seq ?_
  refine run_region ?_
  refine run_q (.none rfl) rfl rfl (q_fieldB (d := 2) rfl Try.underlying30 rfl rfl sz3 rfl) ?_
  refine run_q (.none rfl) rfl rfl (q_loadB rfl one3 rfl Sel.here rfl) ?_
  refine run_q (.none rfl) rfl rfl (q_eql rfl rfl rfl) ?_
  refine run_q (.none rfl) rfl rfl (q_move rfl rfl) ?_
  refine run_split 6 rfl (fun g6 => ?_) (fun g6 => ?_)
  · have g6' := g6
    try simp only [decide_eq_true_eq, decide_eq_false_iff_not, beq_iff_eq, beq_eq_false_iff_ne, bne_iff_ne, bne_eq_false_iff_eq, Bool.not_eq_true', Bool.not_eq_false', ne_eq, Int.not_lt, Int.not_le, Decidable.not_not] at g6'
    refine run_q (.on rfl rfl rfl g6) rfl rfl (q_fieldB (d := 5) rfl Try.underlying30 rfl rfl sz26 rfl) ?_
    refine run_q (.on rfl rfl rfl g6) rfl rfl (q_loadB rfl one26 rfl Sel.here rfl) ?_
    refine run_q (.on rfl rfl rfl g6) rfl rfl (q_len rfl Try.underlying26 rfl) ?_
    refine run_q (.on rfl rfl rfl g6) rfl rfl (q_gtr rfl rfl rfl) ?_
    refine run_q (.none rfl) rfl rfl (q_pickT rfl rfl g6 rfl) ?_
    refine run_q (.none rfl) rfl rfl (q_assign rfl rfl) ?_
    refine run_nil ?_
    refine run_sub (subMk (.cons (s := 2) rfl .nil) .refl) ?_
    refine run_ret ?_
    exact end1 rfl rfl (congrArg Value.bool (by rw [soundB, decide_eq_true g6', Bool.true_and, Bool.eq_iff_iff]; simp))
  · have g6' := g6
    try simp only [decide_eq_true_eq, decide_eq_false_iff_not, beq_iff_eq, beq_eq_false_iff_ne, bne_iff_ne, bne_eq_false_iff_eq, Bool.not_eq_true', Bool.not_eq_false', ne_eq, Int.not_lt, Int.not_le, Decidable.not_not] at g6'
    refine run_off (.no rfl rfl rfl g6) rfl rfl ?_
    refine run_off (.no rfl rfl rfl g6) rfl rfl ?_
    refine run_off (.no rfl rfl rfl g6) rfl rfl ?_
    refine run_off (.no rfl rfl rfl g6) rfl rfl ?_
    refine run_q (.none rfl) rfl rfl (q_pickF rfl rfl g6 rfl) ?_
    refine run_q (.none rfl) rfl rfl (q_assign rfl rfl) ?_
    refine run_nil ?_
    refine run_sub (subMk (.cons (s := 2) rfl .nil) .refl) ?_
    refine run_ret ?_
    exact end1 rfl rfl (congrArg Value.bool (by rw [soundB, decide_eq_false g6', Bool.false_and]))

set_option maxRecDepth 100000 in
theorem ties_just (x : Evt) (p : Lie) (W : World) (hx : RdE W x p) (fx : x.few) : Calls Try.prog 41 #[evV x p] W (Hr.Just W (.bool (tiesB x))) := by
  refine Just.of_ret ?_
  refine enterA (X := nX) (vs := [evV x p]) Try.func41 Try.ntmps41 rfl rfl Mem.nil ?_
  refine run_seq ?_
  refine run_region ?_
  refine run_h (.none rfl) (h_box rfl rfl rfl rfl rfl) ?_
  rintro b1 -
  refine run_q (.none rfl) rfl rfl (q_assign rfl rfl) ?_
  refine run_nil ?_
  refine run_seq ?_
  refine run_region ?_
  refine run_q (.none rfl) rfl rfl (q_fieldB (d := 2) rfl Try.underlying30 rfl rfl sz3 rfl) ?_
  refine run_q (.none rfl) rfl rfl (q_loadB rfl one3 rfl Sel.here rfl) ?_
  refine run_q (.none rfl) rfl rfl (q_eql rfl rfl rfl) ?_
  refine run_q (.none rfl) rfl rfl (q_move rfl rfl) ?_
  refine run_split 6 rfl (fun g6 => ?_) (fun g6 => ?_)
  · have g6' := g6
    try simp only [decide_eq_true_eq, decide_eq_false_iff_not, beq_iff_eq, beq_eq_false_iff_ne, bne_iff_ne, bne_eq_false_iff_eq, Bool.not_eq_true', Bool.not_eq_false', ne_eq, Int.not_lt, Int.not_le, Decidable.not_not] at g6'
    refine run_q (.on rfl rfl rfl g6) rfl rfl (q_fieldB (d := 5) rfl Try.underlying30 rfl rfl sz26 rfl) ?_
    refine run_q (.on rfl rfl rfl g6) rfl rfl (q_loadB rfl one26 rfl Sel.here rfl) ?_
    refine run_q (.on rfl rfl rfl g6) rfl rfl (q_call rfl call73 (.cons rfl (.cons rfl Evs.nil)) (fun w hk hm => conTied x.hs p.HA p.hc w (hx.h.kept0 hk) (by have := fx.1; omega))) ?_
    refine run_q (.none rfl) rfl rfl (q_pickT rfl rfl g6 rfl) ?_
    refine run_q (.none rfl) rfl rfl (q_assign rfl rfl) ?_
    refine run_nil ?_
    refine run_sub (subMk (.cons (s := 2) rfl .nil) .refl) ?_
    refine run_ret ?_
    exact end1 rfl rfl (congrArg Value.bool (by rw [tiesB, decide_eq_true g6', Bool.true_and]))
  · have g6' := g6
    try simp only [decide_eq_true_eq, decide_eq_false_iff_not, beq_iff_eq, beq_eq_false_iff_ne, bne_iff_ne, bne_eq_false_iff_eq, Bool.not_eq_true', Bool.not_eq_false', ne_eq, Int.not_lt, Int.not_le, Decidable.not_not] at g6'
    refine run_off (.no rfl rfl rfl g6) rfl rfl ?_
    refine run_off (.no rfl rfl rfl g6) rfl rfl ?_
    refine run_off (.no rfl rfl rfl g6) rfl rfl ?_
    refine run_q (.none rfl) rfl rfl (q_pickF rfl rfl g6 rfl) ?_
    refine run_q (.none rfl) rfl rfl (q_assign rfl rfl) ?_
    refine run_nil ?_
    refine run_sub (subMk (.cons (s := 2) rfl .nil) .refl) ?_
    refine run_ret ?_
    exact end1 rfl rfl (congrArg Value.bool (by rw [tiesB, decide_eq_false g6', Bool.false_and]))

set_option maxHeartbeats 2000000 in
set_option maxRecDepth 100000 in
theorem joins_just (x y : Evt) (p q : Lie) (W : World) (hx : RdE W x p) (hy : RdE W y q) (fx : x.few) (fy : y.few) : Calls Try.prog 42 #[evV x p, evV y q] W (Hr.Just W (.bool (joinsB x y))) := by
  obtain ⟨fx1, fx2, fx3, fx4⟩ := id fx
  obtain ⟨fy1, fy2, fy3, fy4⟩ := id fy
  refine Just.of_ret ?_
  refine enterA (X := nX) (vs := [evV x p, evV y q]) Try.func42 Try.ntmps42 rfl rfl Mem.nil ?_
  refine run_seq ?_
  refine run_region ?_
  refine run_h (.none rfl) (h_box rfl rfl rfl rfl rfl) ?_
  rintro b2 -
  refine run_h (.none rfl) (h_box rfl rfl rfl rfl rfl) ?_
  rintro b3 -
  refine run_q (.none rfl) rfl rfl (q_assign rfl rfl) ?_
  refine run_nil ?_
  refine run_seq ?_
  refine run_seq ?_
  refine run_region ?_
  refine run_q (.none rfl) rfl rfl (q_fieldB (d := 2) rfl Try.underlying30 rfl rfl sz3 rfl) ?_
  refine run_q (.none rfl) rfl rfl (q_loadB rfl one3 rfl (.there Sel.here) rfl) ?_
  refine run_q (.none rfl) rfl rfl (q_neq rfl rfl rfl) ?_
  refine run_nil ?_
  refine run_sub (subMk (.cons (s := 2) rfl (.cons (s := 3) rfl (.cons (s := 4) rfl (.cons (s := 9) rfl .nil)))) .refl) ?_
  refine run_cond rfl (fun g9 => ?_) (fun g9 => ?_)
  · have g9' := g9
    try simp only [decide_eq_true_eq, decide_eq_false_iff_not, beq_iff_eq, beq_eq_false_iff_ne, bne_iff_ne, bne_eq_false_iff_eq, Bool.not_eq_true', Bool.not_eq_false', ne_eq, Int.not_lt, Int.not_le, Decidable.not_not] at g9'
    refine run_seq ?_
    refine run_region ?_
    refine run_q (.none rfl) rfl rfl (q_assign rfl rfl) ?_
    refine run_nil ?_
    refine run_ret ?_
    exact end1 rfl rfl (congrArg Value.bool (by rw [joinsB, decide_eq_false g9']; rfl))
  · have g9' := g9
    try simp only [decide_eq_true_eq, decide_eq_false_iff_not, beq_iff_eq, beq_eq_false_iff_ne, bne_iff_ne, bne_eq_false_iff_eq, Bool.not_eq_true', Bool.not_eq_false', ne_eq, Int.not_lt, Int.not_le, Decidable.not_not] at g9'
    refine run_skip ?_
    refine run_seq ?_
    refine run_seq ?_
    refine run_region ?_
    refine run_q (.none rfl) rfl rfl (q_fieldB (d := 5) rfl Try.underlying30 rfl rfl sz26 rfl) ?_
    refine run_q (.none rfl) rfl rfl (q_loadB rfl one26 rfl (.there Sel.here) rfl) ?_
    refine run_q (.none rfl) rfl rfl (q_len rfl Try.underlying26 rfl) ?_
    refine run_q (.none rfl) rfl rfl (q_move rfl rfl) ?_
    refine run_nil ?_
    refine run_sub (subMk (.cons (s := 3) rfl (.cons (s := 4) rfl (.cons (s := 11) rfl (.cons (s := 12) rfl (.cons (s := 13) rfl .nil))))) .refl) ?_
    refine run_block ?_
    refine run_sub (subMk (.cons (s := 13) rfl (.cons (s := 3) rfl (.cons (s := 4) rfl (.cons (s := 11) rfl (.cons (s := 12) rfl .nil))))) (.cons Sel.here .refl (.cons Sel.here .refl .nil))) ?_
    refine run_loopC1M0 (ι := Nat) (fun k => k ≤ x.hs.length ∧ allT (joinH y) x.hs k = true) (fun k => .int .i64 (k : Int))  (fun k => x.hs.length - k) 0 (by (try dsimp only); exact ⟨by omega, rfl⟩) rfl  ?_
    rintro k hq
    (try dsimp only at hq)
    obtain ⟨hk, hA⟩ := hq
    show Run _ _ _ _ _ _ _ ⟨(13, .int .i64 (k : Int)) :: _, _⟩
    refine run_seq ?_
    refine run_region ?_
    refine run_q (.none rfl) rfl rfl (q_lss rfl rfl rfl) ?_
    refine run_nil ?_
    refine run_seq ?_
    refine run_cond rfl (fun g14 => ?_) (fun g14 => ?_)
    · have g14' := g14
      try simp only [decide_eq_true_eq, decide_eq_false_iff_not, beq_iff_eq, beq_eq_false_iff_ne, bne_iff_ne, bne_eq_false_iff_eq, Bool.not_eq_true', Bool.not_eq_false', ne_eq, Int.not_lt, Int.not_le, Decidable.not_not] at g14'
      have hkl : k < x.hs.length := by omega
      refine run_skip ?_
      refine run_seq ?_
      refine run_block ?_
      refine run_seq ?_
      refine run_region ?_
      refine run_q (.none rfl) rfl rfl (q_indexS (q := k) rfl Try.underlying26 sz53 rfl rfl (.inp hx.h .no) (by simp <;> omega) rfl (by omega)) ?_
      refine run_q (.none rfl) rfl rfl (q_loadE rfl agg53 rfl (.inp hx.h .no) (getmap (by omega)) rfl) ?_
      refine run_h (.none rfl) (h_alloc rfl rfl rfl info53) ?_
      rintro b6 -
      refine run_h (.none rfl) (h_storeB rfl rfl sz53 rfl rfl rfl rfl rfl Sel.here rfl) ?_
      rintro - -
      refine run_nil ?_
      refine run_sub (subMk (.cons (s := 3) rfl (.cons (s := 4) rfl (.cons (s := 6) rfl (.cons (s := 11) rfl (.cons (s := 12) rfl (.cons (s := 13) rfl .nil)))))) .refl) ?_
      refine run_seq ?_
      refine run_sub (subMk .refl (.cons Sel.here (.blk (.cons (s := 0) rfl (.cons (s := 1) rfl (.cons (s := 2) rfl (.cons (s := 3) rfl (.cons (s := 4) rfl (.nil))))))) (.cons Sel.here .refl (.cons Sel.here .refl .nil)))) ?_
      refine run_region ?_
      refine run_q (.none rfl) rfl rfl (q_fieldB (d := 3) rfl Try.underlying53 rfl rfl sz4 rfl) ?_
      refine run_q (.none rfl) rfl rfl (q_loadB rfl one4 rfl Sel.here rfl) ?_
      refine run_q (.none rfl) rfl rfl (q_move rfl rfl) ?_
      refine run_split 19 rfl (fun g19 => ?_) (fun g19 => ?_)
      · have g19' := g19
        try simp only [decide_eq_true_eq, decide_eq_false_iff_not, beq_iff_eq, beq_eq_false_iff_ne, bne_iff_ne, bne_eq_false_iff_eq, Bool.not_eq_true', Bool.not_eq_false', ne_eq, Int.not_lt, Int.not_le, Decidable.not_not] at g19'
        refine run_q (.on rfl rfl rfl g19) rfl rfl (q_fieldB (d := 2) rfl Try.underlying30 rfl rfl sz3 rfl) ?_
        refine run_q (.on rfl rfl rfl g19) rfl rfl (q_loadB rfl one3 rfl (.there Sel.here) rfl) ?_
        refine run_q (.on rfl rfl rfl g19) rfl rfl (q_eql rfl rfl rfl) ?_
        refine run_q (.on rfl rfl rfl g19) rfl rfl (q_move rfl rfl) ?_
        refine run_split 23 rfl (fun g23 => ?_) (fun g23 => ?_)
        · have g23' := g23
          try simp only [decide_eq_true_eq, decide_eq_false_iff_not, beq_iff_eq, beq_eq_false_iff_ne, bne_iff_ne, bne_eq_false_iff_eq, Bool.not_eq_true', Bool.not_eq_false', ne_eq, Int.not_lt, Int.not_le, Decidable.not_not] at g23'
          refine run_q (.on rfl rfl rfl g23) rfl rfl (q_fieldB (d := 5) rfl Try.underlying30 rfl rfl sz26 rfl) ?_
          refine run_q (.on rfl rfl rfl g23) rfl rfl (q_loadB rfl one26 rfl (.there Sel.here) rfl) ?_
          refine run_q (.on rfl rfl rfl g23) rfl rfl (q_makeFunc rfl (.cons rfl Evs.nil)) ?_
          refine run_q (.on rfl rfl rfl g23) rfl rfl (q_call rfl call73 (.cons rfl (.cons rfl Evs.nil)) (fun w hk hm => conPit y.hs q.HA q.hc (nth x.hs k) b6 w (hy.h.kept0 hk) (by omega) (rd_head (Sel.here.holds hm)))) ?_
          refine run_q (.on rfl rfl rfl g19) rfl rfl (q_pickT rfl rfl g23 rfl) ?_
          refine run_q (.on rfl rfl rfl g19) rfl rfl (q_not rfl rfl) ?_
          refine run_q (.none rfl) rfl rfl (q_pickT rfl rfl g19 rfl) ?_
          refine run_nil ?_
          refine run_sub (subMk (.cons (s := 3) rfl (.cons (s := 4) rfl (.cons (s := 11) rfl (.cons (s := 12) rfl (.cons (s := 13) rfl (.cons (s := 30) rfl .nil)))))) .refl) ?_
          refine run_cond rfl (fun g30 => ?_) (fun g30 => ?_)
          · have g30' := g30
            try simp only [decide_eq_true_eq, decide_eq_false_iff_not, beq_iff_eq, beq_eq_false_iff_ne, bne_iff_ne, bne_eq_false_iff_eq, Bool.not_eq_true', Bool.not_eq_false', ne_eq, Int.not_lt, Int.not_le, Decidable.not_not] at g30'
            refine run_seq ?_
            refine run_region ?_
            refine run_q (.none rfl) rfl rfl (q_assign rfl rfl) ?_
            refine run_nil ?_
            refine run_ret ?_
            exact end1 rfl rfl (congrArg Value.bool (by rw [joinsB, decide_eq_true g9', all_out hkl (by rw [joinH, show (nth x.hs k).tied = true from g19, decide_eq_true g23', not_t g30]; rfl)]; rfl))
          · have g30' := g30
            try simp only [decide_eq_true_eq, decide_eq_false_iff_not, beq_iff_eq, beq_eq_false_iff_ne, bne_iff_ne, bne_eq_false_iff_eq, Bool.not_eq_true', Bool.not_eq_false', ne_eq, Int.not_lt, Int.not_le, Decidable.not_not] at g30'
            refine run_skip ?_
            refine run_blk ?_
            refine run_region ?_
            refine run_q (.none rfl) rfl rfl (q_add rfl rfl rfl (by omega)) ?_
            refine run_q (.none rfl) rfl rfl (q_move rfl rfl) ?_
            refine run_nil ?_
            exact run_again (k + 1) (by (try dsimp only); exact ⟨by omega, by rw [allT_succ hkl, hA, show joinH y (nth x.hs k) = true from by rw [joinH, decide_eq_true g23', not_f g30]; simp]; rfl⟩) (by (try dsimp only); omega) (subMk (.cons' (s := 13) rfl (vint (by omega)) (.cons (s := 3) rfl (.cons (s := 4) rfl (.cons (s := 11) rfl (.cons (s := 12) rfl .nil))))) (.cons (.there Sel.here) .refl (.cons (.there Sel.here) .refl .nil)))
        · have g23' := g23
          try simp only [decide_eq_true_eq, decide_eq_false_iff_not, beq_iff_eq, beq_eq_false_iff_ne, bne_iff_ne, bne_eq_false_iff_eq, Bool.not_eq_true', Bool.not_eq_false', ne_eq, Int.not_lt, Int.not_le, Decidable.not_not] at g23'
          refine run_off (.no rfl rfl rfl g23) rfl rfl ?_
          refine run_off (.no rfl rfl rfl g23) rfl rfl ?_
          refine run_off (.no rfl rfl rfl g23) rfl rfl ?_
          refine run_off (.no rfl rfl rfl g23) rfl rfl ?_
          refine run_q (.on rfl rfl rfl g19) rfl rfl (q_pickF rfl rfl g23 rfl) ?_
          refine run_q (.on rfl rfl rfl g19) rfl rfl (q_not rfl rfl) ?_
          refine run_q (.none rfl) rfl rfl (q_pickT rfl rfl g19 rfl) ?_
          refine run_nil ?_
          refine run_sub (subMk (.cons (s := 3) rfl (.cons (s := 4) rfl (.cons (s := 11) rfl (.cons (s := 12) rfl (.cons (s := 13) rfl (.cons (s := 30) rfl .nil)))))) .refl) ?_
          refine run_condT rfl rfl ?_
          refine run_seq ?_
          refine run_region ?_
          refine run_q (.none rfl) rfl rfl (q_assign rfl rfl) ?_
          refine run_nil ?_
          refine run_ret ?_
          exact end1 rfl rfl (congrArg Value.bool (by rw [joinsB, decide_eq_true g9', all_out hkl (by rw [joinH, show (nth x.hs k).tied = true from g19, decide_eq_false g23']; rfl)]; rfl))
      · have g19' := g19
        try simp only [decide_eq_true_eq, decide_eq_false_iff_not, beq_iff_eq, beq_eq_false_iff_ne, bne_iff_ne, bne_eq_false_iff_eq, Bool.not_eq_true', Bool.not_eq_false', ne_eq, Int.not_lt, Int.not_le, Decidable.not_not] at g19'
        refine run_off (.no rfl rfl rfl g19) rfl rfl ?_
        refine run_off (.no rfl rfl rfl g19) rfl rfl ?_
        refine run_off (.no rfl rfl rfl g19) rfl rfl ?_
        refine run_off (.no rfl rfl rfl g19) rfl rfl ?_
        refine run_off (.off rfl rfl rfl) rfl rfl ?_
        refine run_off (.off rfl rfl rfl) rfl rfl ?_
        refine run_off (.off rfl rfl rfl) rfl rfl ?_
        refine run_off (.off rfl rfl rfl) rfl rfl ?_
        refine run_off (.no rfl rfl rfl g19) rfl rfl ?_
        refine run_off (.no rfl rfl rfl g19) rfl rfl ?_
        refine run_q (.none rfl) rfl rfl (q_pickF rfl rfl g19 rfl) ?_
        refine run_nil ?_
        refine run_sub (subMk (.cons (s := 3) rfl (.cons (s := 4) rfl (.cons (s := 11) rfl (.cons (s := 12) rfl (.cons (s := 13) rfl (.cons (s := 30) rfl .nil)))))) .refl) ?_
        refine run_condF rfl rfl ?_
        refine run_skip ?_
        refine run_blk ?_
        refine run_region ?_
        refine run_q (.none rfl) rfl rfl (q_add rfl rfl rfl (by omega)) ?_
        refine run_q (.none rfl) rfl rfl (q_move rfl rfl) ?_
        refine run_nil ?_
        exact run_again (k + 1) (by (try dsimp only); exact ⟨by omega, by rw [allT_succ hkl, hA, show joinH y (nth x.hs k) = true from by rw [joinH, show (nth x.hs k).tied = false from g19]; rfl]; rfl⟩) (by (try dsimp only); omega) (subMk (.cons' (s := 13) rfl (vint (by omega)) (.cons (s := 3) rfl (.cons (s := 4) rfl (.cons (s := 11) rfl (.cons (s := 12) rfl .nil))))) (.cons (.there Sel.here) .refl (.cons (.there Sel.here) .refl .nil)))
    · have g14' := g14
      try simp only [decide_eq_true_eq, decide_eq_false_iff_not, beq_iff_eq, beq_eq_false_iff_ne, bne_iff_ne, bne_eq_false_iff_eq, Bool.not_eq_true', Bool.not_eq_false', ne_eq, Int.not_lt, Int.not_le, Decidable.not_not] at g14'
      refine run_exit rfl ?_
      refine run_sub (subMk (.cons (s := 4) rfl .nil) .refl) ?_
      refine run_seq ?_
      refine run_region ?_
      refine run_q (.none rfl) rfl rfl (q_assign rfl rfl) ?_
      refine run_nil ?_
      refine run_ret ?_
      exact end1 rfl rfl (congrArg Value.bool (by rw [joinsB, ← allT_end (k := k) (by omega), hA]; simp))

set_option maxHeartbeats 2000000 in
set_option maxRecDepth 100000 in
theorem untie_ret (x : Evt) (p : Lie) (W : World) (hx : RdE W x p) (fx : x.few) : Calls Try.prog 39 #[evV x p] W (Ret W nX (fun v m => ∃ q : Lie, v = evV (untieE x) q ∧ m = [.own 53 5 q.HA (untieE x).hs.length q.hc ((untieE x).hs.map Hd.enc), .own 55 5 q.GA (untieE x).gs.length q.gc ((untieE x).gs.map Gr.enc), .own 57 2 q.LA (untieE x).ls.length q.lc ((untieE x).ls.map Syl.enc)])) := by
  obtain ⟨fx1, fx2, fx3, fx4⟩ := id fx
  refine enterA (X := nX) (vs := [evV x p]) Try.func39 Try.ntmps39 rfl rfl Mem.nil ?_
  refine run_seq ?_
  refine run_region ?_
  refine run_h (.none rfl) (h_box rfl rfl rfl rfl rfl) ?_
  rintro b1 -
  refine run_h (.none rfl) (h_alloc rfl rfl rfl info30) ?_
  rintro b2 -
  refine run_nil ?_
  refine run_seq ?_
  refine run_region ?_
  refine run_q (.none rfl) rfl rfl (q_loadBN rfl agg30 rfl (.there Sel.here) (.cons rfl (.cons rfl (.cons rfl (.cons rfl (.cons rfl (.cons rfl (.cons rfl (.cons rfl (.cons rfl (.cons rfl (.cons rfl (.cons rfl (.cons rfl CellsAt.nil))))))))))))) rfl) ?_
  refine run_h (.none rfl) (h_call rfl rfl rfl call29 (.cons rfl Evs.nil) (fun w hk hm => evClone_ret x p w (hx.kept0 hk) fx)) ?_
  rintro ⟨v, m⟩ ⟨q, rfl, rfl⟩
  show Run _ _ _ _ _ _ _ ⟨(5, evV x q) :: _, _ :: _ :: _ :: _⟩
  refine run_h (.none rfl) (h_storeB rfl rfl sz30 rfl rfl rfl rfl rfl (.there (.there (.there (.there Sel.here)))) rfl) ?_
  rintro - -
  refine run_nil ?_
  refine run_sub (subMk (.cons (s := 1) rfl (.cons (s := 2) rfl .nil)) .refl) ?_
  refine run_seq ?_
  refine run_seq ?_
  refine run_region ?_
  refine run_q (.none rfl) rfl rfl (q_fieldB (d := 5) rfl Try.underlying30 rfl rfl sz26 rfl) ?_
  refine run_q (.none rfl) rfl rfl (q_loadB rfl one26 rfl Sel.here rfl) ?_
  refine run_q (.none rfl) rfl rfl (q_len rfl Try.underlying26 rfl) ?_
  refine run_q (.none rfl) rfl rfl (q_move rfl rfl) ?_
  refine run_nil ?_
  refine run_block ?_
  refine run_sub (subMk (.cons (s := 9) rfl (.cons (s := 1) rfl (.cons (s := 2) rfl (.cons (s := 8) rfl .nil)))) (.cons (.there Sel.here) .refl (.cons Sel.here .refl (.cons Sel.here .refl (.cons Sel.here .refl (.cons Sel.here .refl .nil)))))) ?_
  refine run_loopC1M1 (ι := Nat) (fun k => k ≤ x.hs.length) (fun k => .int .i64 (k : Int)) (fun k => .own 53 5 q.HA x.hs.length q.hc ((mixU x.hs k).map Hd.enc)) (fun k => x.hs.length - k) 0 (by (try dsimp only); exact (by omega)) rfl (.own rfl rfl rfl (by rw [mixU_zero])) ?_
  rintro k hk
  (try dsimp only at hk)
  show Run _ _ _ _ _ _ _ ⟨(9, .int .i64 (k : Int)) :: _, .own 53 5 q.HA x.hs.length q.hc ((mixU x.hs k).map Hd.enc) :: _⟩
  refine run_seq ?_
  refine run_region ?_
  refine run_q (.none rfl) rfl rfl (q_lss rfl rfl rfl) ?_
  refine run_nil ?_
  refine run_seq ?_
  refine run_cond rfl (fun g10 => ?_) (fun g10 => ?_)
  · have g10' := g10
    try simp only [decide_eq_true_eq, decide_eq_false_iff_not, beq_iff_eq, beq_eq_false_iff_ne, bne_iff_ne, bne_eq_false_iff_eq, Bool.not_eq_true', Bool.not_eq_false', ne_eq, Int.not_lt, Int.not_le, Decidable.not_not] at g10'
    have hkl : k < x.hs.length := by omega
    refine run_skip ?_
    refine run_seq ?_
    refine run_block ?_
    refine run_seq ?_
    refine run_region ?_
    refine run_q (.none rfl) rfl rfl (q_move rfl rfl) ?_
    refine run_q (.none rfl) rfl rfl (q_assign rfl rfl) ?_
    refine run_nil ?_
    refine run_region ?_
    refine run_q (.none rfl) rfl rfl (q_fieldB (d := 5) rfl Try.underlying30 rfl rfl sz26 rfl) ?_
    refine run_q (.none rfl) rfl rfl (q_loadB rfl one26 rfl (.there Sel.here) rfl) ?_
    refine run_q (.none rfl) rfl rfl (q_move rfl rfl) ?_
    refine run_q (.none rfl) rfl rfl (q_indexS (q := k) rfl Try.underlying26 sz53 rfl rfl (.own Sel.here) (by rw [List.length_map, mixU_len hk]) rfl (by omega)) ?_
    refine run_q (.none rfl) rfl rfl (q_fieldAddr (d := 3) rfl Try.underlying53 rfl rfl sz4 rfl) ?_
    refine run_h (.none rfl) (h_storeF rfl rfl sz4 rfl rfl rfl rfl rfl Sel.here (by omega) (by decide) (by rw [getmap (by rw [mixU_len hk]; omega), mixU_nth hkl])) ?_
    rintro - -
    refine run_nil ?_
    refine run_sub (subMk (.cons (s := 1) rfl (.cons (s := 2) rfl (.cons (s := 8) rfl (.cons (s := 9) rfl .nil)))) .refl) ?_
    refine run_blk ?_
    refine run_region ?_
    refine run_q (.none rfl) rfl rfl (q_add rfl rfl rfl (by omega)) ?_
    refine run_q (.none rfl) rfl rfl (q_move rfl rfl) ?_
    refine run_nil ?_
    exact run_again (k + 1) (by (try dsimp only); exact (by omega)) (by (try dsimp only); omega) (subMk (.cons' (s := 9) rfl (vint (by omega)) (.cons (s := 1) rfl (.cons (s := 2) rfl (.cons (s := 8) rfl .nil)))) (.cons Sel.here (.own rfl rfl rfl (mixU_step hkl)) (.cons Sel.here .refl (.cons Sel.here .refl (.cons Sel.here .refl (.cons Sel.here .refl .nil))))))
  · have g10' := g10
    try simp only [decide_eq_true_eq, decide_eq_false_iff_not, beq_iff_eq, beq_eq_false_iff_ne, bne_iff_ne, bne_eq_false_iff_eq, Bool.not_eq_true', Bool.not_eq_false', ne_eq, Int.not_lt, Int.not_le, Decidable.not_not] at g10'
    refine run_exit rfl ?_
    refine run_sub (subMk (.cons (s := 1) rfl (.cons (s := 2) rfl .nil)) .refl) ?_
    refine run_seq ?_
    refine run_region ?_
    refine run_q (.none rfl) rfl rfl (q_loadBN rfl agg30 rfl (.there Sel.here) (.cons rfl (.cons rfl (.cons rfl (.cons rfl (.cons rfl (.cons rfl (.cons rfl (.cons rfl (.cons rfl (.cons rfl (.cons rfl (.cons rfl (.cons rfl CellsAt.nil))))))))))))) rfl) ?_
    refine run_h (.none rfl) (h_storeB rfl rfl sz30 rfl rfl rfl rfl rfl (.there (.there (.there (.there Sel.here)))) rfl) ?_
    rintro - -
    refine run_nil ?_
    refine run_ret ?_
    exact endG rfl (.cellN rfl agg30 Sel.here (.cons rfl (.cons rfl (.cons rfl (.cons rfl (.cons rfl (.cons rfl (.cons rfl (.cons rfl (.cons rfl (.cons rfl (.cons rfl (.cons rfl (.cons rfl CellsAt.nil))))))))))))) rfl Outs.nil) _ (.cons (.there Sel.here) (.own (m' := (untieE x).hs.length) (xs' := (untieE x).hs.map Hd.enc) rfl (by simp [untieE]) rfl (by rw [mixU_end (by omega)]; rfl)) (.cons (.there (.there Sel.here)) .refl (.cons (.there (.there Sel.here)) .refl .nil))) ⟨q, by unfold evV evC untieE; simp only [List.length_map]; rfl, rfl⟩

end Go.Proofs.Ytneadapfoaccmaa
