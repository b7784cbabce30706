/- Canonical and Equal, in the program. -/
import Derived.Test.YticofkkkafhpiaaI
set_option linter.unusedSimpArgs false
set_option linter.unusedVariables false
namespace Go.Proofs.Yticofkkkafhpiaa
open Go Go.RowKit Hr

theorem call48 : Hr.Callable Try.prog 48 := fun args w => by kernel_rfl
theorem call43 : Hr.Callable Try.prog 43 := fun args w => by kernel_rfl
theorem call44 : Hr.Callable Try.prog 44 := fun args w => by kernel_rfl
theorem eqg45 : Try.prog.eqGuardType Try.prog.depth 45 = false := by kernel_rfl
theorem stood45 : Try.prog.stoodInHeld 45 = false := by kernel_rfl
theorem eqs45 (a0 a1 a2 a3 b0 b1 b2 b3 : Int) (w : World) : (Op.equalIn 10000 45 (.agg #[.int .i64 a0, .int .i64 a1, .int .i64 a2, .int .i64 a3]) (.agg #[.int .i64 b0, .int .i64 b1, .int .i64 b2, .int .i64 b3])).run Try.prog w = .ok (a0 == b0 && (a1 == b1 && (a2 == b2 && (a3 == b3)))) w := by
  rw [run_equalIn_struct w 9999 45 _ _ (by simp only [Program.fieldsOf, Try.underlying45]) stood45]
  have hz : ∀ (x y : Int) (w : World), (Op.equalIn 9999 3 (.int .i64 x) (.int .i64 y)).run Try.prog w = .ok (x == y) w := fun x y w => run_equalIn_int w 9998 3 .i64 .i64 x y Try.underlying3
  cases h0 : (a0 == b0) <;> cases h1 : (a1 == b1) <;> cases h2 : (a2 == b2) <;> cases h3 : (a3 == b3) <;> simp [Program.fieldsOf, Try.underlying45, Op.eqFields, part, one3.1, hz, h0, h1, h2, h3]
theorem eqg46 : Try.prog.eqGuardType Try.prog.depth 46 = false := by kernel_rfl
theorem stood46 : Try.prog.stoodInHeld 46 = false := by kernel_rfl
theorem eqs46 (a0 a1 a2 a3 b0 b1 b2 b3 : Int) (w : World) : (Op.equalIn 10000 46 (.agg #[.int .i64 a0, .int .i64 a1, .int .i64 a2, .int .i64 a3]) (.agg #[.int .i64 b0, .int .i64 b1, .int .i64 b2, .int .i64 b3])).run Try.prog w = .ok (a0 == b0 && (a1 == b1 && (a2 == b2 && (a3 == b3)))) w := by
  rw [run_equalIn_struct w 9999 46 _ _ (by simp only [Program.fieldsOf, Try.underlying46]) stood46]
  have hz : ∀ (x y : Int) (w : World), (Op.equalIn 9999 3 (.int .i64 x) (.int .i64 y)).run Try.prog w = .ok (x == y) w := fun x y w => run_equalIn_int w 9998 3 .i64 .i64 x y Try.underlying3
  cases h0 : (a0 == b0) <;> cases h1 : (a1 == b1) <;> cases h2 : (a2 == b2) <;> cases h3 : (a3 == b3) <;> simp [Program.fieldsOf, Try.underlying46, Op.eqFields, part, one3.1, hz, h0, h1, h2, h3]
theorem call45 : Hr.Callable Try.prog 45 := fun args w => by kernel_rfl

theorem stable_ret (l : List Tup) (A : Option Addr) (ca : Nat) (W : World) (hm : Mem (atAny [.own 46 4 A l.length ca (l.map Tup.enc)]) W [.own 46 4 A l.length ca (l.map Tup.enc)] W) (hl : l.length ≤ 20) : Calls Try.prog 48 #[.slice A l.length ca, .int .i64 (l.length : Int), .func (.func 38) #[] #[]] W (Ret W (atAny [.own 46 4 A l.length ca (l.map Tup.enc)]) (fun v m => v = .tuple #[] ∧ m = [.own 46 4 A l.length ca ((sortR l l.length).map Tup.enc)])) := by
  by_cases h : l.length = 20
  · exact stable_20 l A ca W hm h
  · exact stable_lt l A ca W hm (by omega)

theorem sort_ret (l : List Tup) (A : Option Addr) (ca : Nat) (W : World) (hm : Mem (atAny [.own 46 4 A l.length ca (l.map Tup.enc)]) W [.own 46 4 A l.length ca (l.map Tup.enc)] W) (hl : l.length ≤ 20) : Calls Try.prog 44 #[.slice A l.length ca, .func (.func 38) #[] #[]] W (Ret W (atAny [.own 46 4 A l.length ca (l.map Tup.enc)]) (fun v m => v = .tuple #[] ∧ m = [.own 46 4 A l.length ca ((sortR l l.length).map Tup.enc)])) := by
  refine enterA (X := _) (vs := [.slice A l.length ca, .func (.func 38) #[] #[]]) Try.func44 Try.ntmps44 rfl rfl hm ?_
  refine run_region ?_
  refine run_q (.none rfl) rfl rfl (q_move rfl rfl) ?_
  refine run_q (.none rfl) rfl rfl (q_move rfl rfl) ?_
  refine run_q (.none rfl) rfl rfl (q_len rfl Try.underlying22 rfl) ?_
  refine run_q (.none rfl) rfl rfl (q_move rfl rfl) ?_
  refine run_h (.none rfl) (h_callX [_] _ rfl rfl rfl call48 (.cons rfl (.cons rfl (.cons rfl Evs.nil))) (Sel.perm Sel.here) (Y := fun _ => atAny [_]) (fun _ _ h => h) (fun w hk hm => stable_ret l A ca w ((hm.perm (Sel.perm Sel.here)).give (rs := [_])) hl)) ?_
  rintro ⟨v, m⟩ ⟨rfl, rfl⟩
  show Run _ _ _ _ _ _ _ ⟨(8, .tuple #[]) :: _, _ :: _⟩
  refine run_nil ?_
  refine run_sub (subMk .nil .refl) ?_
  refine run_sub (subMk .refl (.cons Sel.here .refl .nil)) ?_
  exact end0 rfl ⟨rfl, rfl⟩

theorem canonical_ret (l : List Tup) (A : Option Addr) (ca : Nat) (W : World) (hr : Rd W A 4 (l.map Tup.enc)) (hl : l.length ≤ 20) : Calls Try.prog 30 #[.slice A l.length ca] W (Ret W nX (fun v m => ∃ O co, v = .slice O l.length co ∧ m = [.own 46 4 O l.length co ((sortR l l.length).map Tup.enc)])) := by
  refine enterA (X := nX) (vs := [.slice A l.length ca]) Try.func30 Try.ntmps30 rfl rfl Mem.nil ?_
  refine run_seq ?_
  refine run_region ?_
  refine run_q (.none rfl) rfl rfl (q_assign rfl rfl) ?_
  refine run_nil ?_
  refine run_seq ?_
  refine run_region ?_
  refine run_q (.none rfl) rfl rfl (q_move rfl rfl) ?_
  refine run_h (.none rfl) (h_call rfl rfl rfl call43 (.cons rfl Evs.nil) (fun w hk hm => clone_ret l A ca w (hr.kept0 hk) (by omega))) ?_
  rintro ⟨v, m⟩ ⟨O, co, rfl, rfl⟩
  show Run _ _ _ _ _ _ _ ⟨(5, .slice O l.length co) :: _, _ :: _⟩
  refine run_q (.none rfl) rfl rfl (q_assign rfl rfl) ?_
  refine run_nil ?_
  refine run_sub (subMk (.cons (s := 2) rfl (.cons (s := 3) rfl .nil)) .refl) ?_
  refine run_seq ?_
  refine run_region ?_
  refine run_q (.none rfl) rfl rfl (q_move rfl rfl) ?_
  refine run_h (.none rfl) (h_callX [_] _ rfl rfl rfl call44 (.cons rfl (.cons rfl Evs.nil)) (Sel.perm Sel.here) (Y := fun _ => atAny [_]) (fun _ _ h => h) (fun w hk hm => sort_ret l O co w ((hm.perm (Sel.perm Sel.here)).give (rs := [_])) hl)) ?_
  rintro ⟨v, m⟩ ⟨rfl, rfl⟩
  show Run _ _ _ _ _ _ _ ⟨(7, .tuple #[]) :: _, _ :: _⟩
  refine run_nil ?_
  refine run_seq ?_
  refine run_region ?_
  refine run_q (.none rfl) rfl rfl (q_move rfl rfl) ?_
  refine run_q (.none rfl) rfl rfl (q_assign rfl rfl) ?_
  refine run_nil ?_
  refine run_sub (subMk (.cons (s := 2) rfl .nil) .refl) ?_
  refine run_ret ?_
  refine run_sub (subMk .refl (.cons Sel.here .refl .nil)) ?_
  exact end1 rfl rfl ⟨O, co, rfl, rfl⟩

theorem same_just (l l2 : List Tup) (A B : Option Addr) (ca cb : Nat) (W : World) (hr : Rd W A 4 (l.map Tup.enc)) (hr2 : Rd W B 4 (l2.map Tup.enc)) (hl : l.length ≤ 1000000) : Calls Try.prog 28 #[.slice A l.length ca, .slice B l2.length cb] W (Hr.Just W (.bool (eqL l l2))) := by
  refine Just.of_ret ?_
  refine enterA (X := nX) (vs := [.slice A l.length ca, .slice B l2.length cb]) Try.func28 Try.ntmps28 rfl rfl Mem.nil ?_
  refine run_seq ?_
  refine run_region ?_
  refine run_q (.none rfl) rfl rfl (q_assign rfl rfl) ?_
  refine run_nil ?_
  refine run_seq ?_
  refine run_seq ?_
  refine run_region ?_
  refine run_q (.none rfl) rfl rfl (q_move rfl rfl) ?_
  refine run_q (.none rfl) rfl rfl (q_len rfl Try.underlying22 rfl) ?_
  refine run_q (.none rfl) rfl rfl (q_move rfl rfl) ?_
  refine run_q (.none rfl) rfl rfl (q_len rfl Try.underlying27 rfl) ?_
  refine run_q (.none rfl) rfl rfl (q_neq rfl rfl rfl) ?_
  refine run_nil ?_
  refine run_sub (subMk (.cons (s := 0) rfl (.cons (s := 1) rfl (.cons (s := 4) rfl (.cons (s := 10) rfl .nil)))) .refl) ?_
  refine run_cond rfl (fun g10 => ?_) (fun g10 => ?_)
  · have g10' := g10
    try simp only [decide_eq_true_eq, decide_eq_false_iff_not, beq_iff_eq, beq_eq_false_iff_ne, bne_iff_ne, bne_eq_false_iff_eq, Bool.not_eq_true', Bool.not_eq_false', ne_eq, Int.not_lt, Int.not_le, Decidable.not_not] at g10'
    refine run_seq ?_
    refine run_region ?_
    refine run_q (.none rfl) rfl rfl (q_assign rfl rfl) ?_
    refine run_nil ?_
    refine run_ret ?_
    exact end1 rfl rfl (by rw [eqL_len (by have hx := g10; simp at hx; omega)])
  · have g10' := g10
    try simp only [decide_eq_true_eq, decide_eq_false_iff_not, beq_iff_eq, beq_eq_false_iff_ne, bne_iff_ne, bne_eq_false_iff_eq, Bool.not_eq_true', Bool.not_eq_false', ne_eq, Int.not_lt, Int.not_le, Decidable.not_not] at g10'
    have hll : l.length = l2.length := by have hx := g10; simp at hx; omega
    refine run_skip ?_
    refine run_seq ?_
    refine run_seq ?_
    refine run_region ?_
    refine run_q (.none rfl) rfl rfl (q_assign rfl rfl) ?_
    refine run_nil ?_
    refine run_block ?_
    refine run_sub (subMk (.cons (s := 5) rfl (.cons (s := 0) rfl (.cons (s := 1) rfl (.cons (s := 4) rfl .nil)))) .nil) ?_
    refine run_loopC1M0 (ι := Nat) (fun k => k ≤ l.length ∧ eqL l l2 = eqFrom l l2 (l.length - k) k) (fun k => .int .i64 (k : Int))  (fun k => l.length - k) 0 (by (try dsimp only); exact ⟨by omega, by rw [eqL, if_pos hll]; rfl⟩) rfl  ?_
    rintro k hq
    (try dsimp only at hq)
    obtain ⟨hk, hinv⟩ := hq
    show Run _ _ _ _ _ _ _ ⟨(5, .int .i64 (k : Int)) :: _, _⟩
    refine run_seq ?_
    refine run_seq ?_
    refine run_region ?_
    refine run_q (.none rfl) rfl rfl (q_move rfl rfl) ?_
    refine run_q (.none rfl) rfl rfl (q_move rfl rfl) ?_
    refine run_q (.none rfl) rfl rfl (q_len rfl Try.underlying22 rfl) ?_
    refine run_q (.none rfl) rfl rfl (q_lss rfl rfl rfl) ?_
    refine run_nil ?_
    refine run_sub (subMk (.cons (s := 0) rfl (.cons (s := 1) rfl (.cons (s := 4) rfl (.cons (s := 5) rfl (.cons (s := 14) rfl .nil))))) .refl) ?_
    refine run_cond rfl (fun g14 => ?_) (fun g14 => ?_)
    · have g14' := g14
      try simp only [decide_eq_true_eq, decide_eq_false_iff_not, beq_iff_eq, beq_eq_false_iff_ne, bne_iff_ne, bne_eq_false_iff_eq, Bool.not_eq_true', Bool.not_eq_false', ne_eq, Int.not_lt, Int.not_le, Decidable.not_not] at g14'
      refine run_skip ?_
      refine run_seq ?_
      refine run_block ?_
      refine run_seq ?_
      refine run_draw [(0, 0), (1, 0), (2, 0), (3, 0), (4, 0), (5, 0), (6, 0), (7, 0), (8, 0)] mixed (by kernel_rfl) .refl ?_
      refine d_q rfl rfl (.none rfl) rfl rfl (q_move rfl rfl) ?_
      refine d_q rfl rfl (.none rfl) rfl rfl (q_move rfl rfl) ?_
      refine d_q rfl rfl (.none rfl) rfl rfl (q_indexS (q := k) rfl Try.underlying22 sz46 rfl rfl (.inp hr .no) (by simp <;> omega) rfl (by omega)) ?_
      refine d_q rfl rfl (.none rfl) rfl rfl (q_loadE rfl agg46 rfl (.inp hr .no) (getmap (by omega)) rfl) ?_
      refine d_q rfl rfl (.none rfl) rfl rfl (q_move rfl rfl) ?_
      refine d_q rfl rfl (.none rfl) rfl rfl (q_move rfl rfl) ?_
      refine d_q rfl rfl (.none rfl) rfl rfl (q_indexS (q := k) rfl Try.underlying27 sz45 rfl rfl (.inp hr2 .no) (by simp <;> omega) rfl (by omega)) ?_
      refine d_q rfl rfl (.none rfl) rfl rfl (q_loadE rfl agg45 rfl (.inp hr2 .no) (getmap (by omega)) rfl) ?_
      refine d_q rfl rfl (.none rfl) rfl rfl (q_neqS rfl rfl rfl eqg45 (fun w => eqs45 _ _ _ _ _ _ _ _ w)) ?_
      refine d_nil ?_
      refine run_sub (subMk (.cons (s := 0) rfl (.cons (s := 1) rfl (.cons (s := 4) rfl (.cons (s := 5) rfl (.cons (s := 25) rfl .nil))))) .refl) ?_
      refine run_cond rfl (fun g25 => ?_) (fun g25 => ?_)
      · have g25' := g25
        try simp only [decide_eq_true_eq, decide_eq_false_iff_not, beq_iff_eq, beq_eq_false_iff_ne, bne_iff_ne, bne_eq_false_iff_eq, Bool.not_eq_true', Bool.not_eq_false', ne_eq, Int.not_lt, Int.not_le, Decidable.not_not] at g25'
        refine run_seq ?_
        refine run_region ?_
        refine run_q (.none rfl) rfl rfl (q_assign rfl rfl) ?_
        refine run_nil ?_
        refine run_ret ?_
        exact end1 rfl rfl (by rw [hinv, eqFrom_hit (by omega) (by have hx := g25; simp at hx; simp [eqT]; omega)])
      · have g25' := g25
        try simp only [decide_eq_true_eq, decide_eq_false_iff_not, beq_iff_eq, beq_eq_false_iff_ne, bne_iff_ne, bne_eq_false_iff_eq, Bool.not_eq_true', Bool.not_eq_false', ne_eq, Int.not_lt, Int.not_le, Decidable.not_not] at g25'
        refine run_skip ?_
        refine run_blk ?_
        refine run_region ?_
        refine run_q (.none rfl) rfl rfl (q_move rfl rfl) ?_
        refine run_q (.none rfl) rfl rfl (q_add rfl rfl rfl (by omega)) ?_
        refine run_q (.none rfl) rfl rfl (q_assign rfl rfl) ?_
        refine run_nil ?_
        refine run_sub (subMk (.cons (s := 0) rfl (.cons (s := 1) rfl (.cons (s := 4) rfl (.cons (s := 5) rfl .nil)))) .refl) ?_
        exact run_again (k + 1) (by (try dsimp only); exact ⟨by omega, by rw [hinv, eqFrom_step (by omega) (by simpa [eqT] using g25)]⟩) (by (try dsimp only); omega) (subMk (.cons' (s := 5) rfl rfl (.cons (s := 0) rfl (.cons (s := 1) rfl (.cons (s := 4) rfl .nil)))) .nil)
    · have g14' := g14
      try simp only [decide_eq_true_eq, decide_eq_false_iff_not, beq_iff_eq, beq_eq_false_iff_ne, bne_iff_ne, bne_eq_false_iff_eq, Bool.not_eq_true', Bool.not_eq_false', ne_eq, Int.not_lt, Int.not_le, Decidable.not_not] at g14'
      refine run_exit rfl ?_
      refine run_sub (subMk (.cons (s := 4) rfl .nil) .refl) ?_
      refine run_seq ?_
      refine run_region ?_
      refine run_q (.none rfl) rfl rfl (q_assign rfl rfl) ?_
      refine run_nil ?_
      refine run_ret ?_
      exact end1 rfl rfl (by rw [hinv, show l.length - k = 0 from by omega]; rfl)

theorem equal_just (l l2 : List Tup) (A B : Option Addr) (ca cb : Nat) (W : World) (hr : Rd W A 4 (l.map Tup.enc)) (hr2 : Rd W B 4 (l2.map Tup.enc)) (hl : l.length ≤ 1000000) : Calls Try.prog 45 #[.slice A l.length ca, .slice B l2.length cb] W (Hr.Just W (.bool (eqL l l2))) := by
  refine Just.of_ret ?_
  refine enterA (X := nX) (vs := [.slice A l.length ca, .slice B l2.length cb]) Try.func45 Try.ntmps45 rfl rfl Mem.nil ?_
  refine run_seq ?_
  refine run_region ?_
  refine run_q (.none rfl) rfl rfl (q_assign rfl rfl) ?_
  refine run_nil ?_
  refine run_seq ?_
  refine run_seq ?_
  refine run_region ?_
  refine run_q (.none rfl) rfl rfl (q_move rfl rfl) ?_
  refine run_q (.none rfl) rfl rfl (q_len rfl Try.underlying22 rfl) ?_
  refine run_q (.none rfl) rfl rfl (q_move rfl rfl) ?_
  refine run_q (.none rfl) rfl rfl (q_len rfl Try.underlying22 rfl) ?_
  refine run_q (.none rfl) rfl rfl (q_neq rfl rfl rfl) ?_
  refine run_nil ?_
  refine run_sub (subMk (.cons (s := 0) rfl (.cons (s := 1) rfl (.cons (s := 4) rfl (.cons (s := 10) rfl .nil)))) .refl) ?_
  refine run_cond rfl (fun g10 => ?_) (fun g10 => ?_)
  · have g10' := g10
    try simp only [decide_eq_true_eq, decide_eq_false_iff_not, beq_iff_eq, beq_eq_false_iff_ne, bne_iff_ne, bne_eq_false_iff_eq, Bool.not_eq_true', Bool.not_eq_false', ne_eq, Int.not_lt, Int.not_le, Decidable.not_not] at g10'
    refine run_seq ?_
    refine run_region ?_
    refine run_q (.none rfl) rfl rfl (q_assign rfl rfl) ?_
    refine run_nil ?_
    refine run_ret ?_
    exact end1 rfl rfl (by rw [eqL_len (by have hx := g10; simp at hx; omega)])
  · have g10' := g10
    try simp only [decide_eq_true_eq, decide_eq_false_iff_not, beq_iff_eq, beq_eq_false_iff_ne, bne_iff_ne, bne_eq_false_iff_eq, Bool.not_eq_true', Bool.not_eq_false', ne_eq, Int.not_lt, Int.not_le, Decidable.not_not] at g10'
    have hll : l.length = l2.length := by have hx := g10; simp at hx; omega
    refine run_skip ?_
    refine run_seq ?_
    refine run_seq ?_
    refine run_region ?_
    refine run_q (.none rfl) rfl rfl (q_move rfl rfl) ?_
    refine run_q (.none rfl) rfl rfl (q_len rfl Try.underlying22 rfl) ?_
    refine run_q (.none rfl) rfl rfl (q_move rfl rfl) ?_
    refine run_nil ?_
    refine run_block ?_
    refine run_sub (subMk (.cons (s := 13) rfl (.cons (s := 0) rfl (.cons (s := 1) rfl (.cons (s := 4) rfl (.cons (s := 12) rfl .nil))))) .nil) ?_
    refine run_loopC1M0 (ι := Nat) (fun k => k ≤ l.length ∧ eqL l l2 = eqFrom l l2 (l.length - k) k) (fun k => .int .i64 (k : Int))  (fun k => l.length - k) 0 (by (try dsimp only); exact ⟨by omega, by rw [eqL, if_pos hll]; rfl⟩) rfl  ?_
    rintro k hq
    (try dsimp only at hq)
    obtain ⟨hk, hinv⟩ := hq
    show Run _ _ _ _ _ _ _ ⟨(13, .int .i64 (k : Int)) :: _, _⟩
    refine run_seq ?_
    refine run_region ?_
    refine run_q (.none rfl) rfl rfl (q_lss rfl rfl rfl) ?_
    refine run_nil ?_
    refine run_seq ?_
    refine run_cond rfl (fun g14 => ?_) (fun g14 => ?_)
    · have g14' := g14
      try simp only [decide_eq_true_eq, decide_eq_false_iff_not, beq_iff_eq, beq_eq_false_iff_ne, bne_iff_ne, bne_eq_false_iff_eq, Bool.not_eq_true', Bool.not_eq_false', ne_eq, Int.not_lt, Int.not_le, Decidable.not_not] at g14'
      refine run_skip ?_
      refine run_seq ?_
      refine run_block ?_
      refine run_seq ?_
      refine run_region ?_
      refine run_q (.none rfl) rfl rfl (q_move rfl rfl) ?_
      refine run_q (.none rfl) rfl rfl (q_assign rfl rfl) ?_
      refine run_nil ?_
      refine run_seq ?_
      refine run_draw [(0, 0), (1, 0), (2, 0), (3, 0), (4, 0), (5, 0), (6, 0), (7, 0), (8, 0)] mixed (by kernel_rfl) .refl ?_
      refine d_q rfl rfl (.none rfl) rfl rfl (q_move rfl rfl) ?_
      refine d_q rfl rfl (.none rfl) rfl rfl (q_move rfl rfl) ?_
      refine d_q rfl rfl (.none rfl) rfl rfl (q_indexS (q := k) rfl Try.underlying22 sz46 rfl rfl (.inp hr .no) (by simp <;> omega) rfl (by omega)) ?_
      refine d_q rfl rfl (.none rfl) rfl rfl (q_loadE rfl agg46 rfl (.inp hr .no) (getmap (by omega)) rfl) ?_
      refine d_q rfl rfl (.none rfl) rfl rfl (q_move rfl rfl) ?_
      refine d_q rfl rfl (.none rfl) rfl rfl (q_move rfl rfl) ?_
      refine d_q rfl rfl (.none rfl) rfl rfl (q_indexS (q := k) rfl Try.underlying22 sz46 rfl rfl (.inp hr2 .no) (by simp <;> omega) rfl (by omega)) ?_
      refine d_q rfl rfl (.none rfl) rfl rfl (q_loadE rfl agg46 rfl (.inp hr2 .no) (getmap (by omega)) rfl) ?_
      refine d_q rfl rfl (.none rfl) rfl rfl (q_neqS rfl rfl rfl eqg46 (fun w => eqs46 _ _ _ _ _ _ _ _ w)) ?_
      refine d_nil ?_
      refine run_sub (subMk (.cons (s := 0) rfl (.cons (s := 1) rfl (.cons (s := 4) rfl (.cons (s := 12) rfl (.cons (s := 13) rfl (.cons (s := 24) rfl .nil)))))) .refl) ?_
      refine run_cond rfl (fun g24 => ?_) (fun g24 => ?_)
      · have g24' := g24
        try simp only [decide_eq_true_eq, decide_eq_false_iff_not, beq_iff_eq, beq_eq_false_iff_ne, bne_iff_ne, bne_eq_false_iff_eq, Bool.not_eq_true', Bool.not_eq_false', ne_eq, Int.not_lt, Int.not_le, Decidable.not_not] at g24'
        refine run_seq ?_
        refine run_region ?_
        refine run_q (.none rfl) rfl rfl (q_assign rfl rfl) ?_
        refine run_nil ?_
        refine run_ret ?_
        exact end1 rfl rfl (by rw [hinv, eqFrom_hit (by omega) (by have hx := g24; simp at hx; simp [eqT]; omega)])
      · have g24' := g24
        try simp only [decide_eq_true_eq, decide_eq_false_iff_not, beq_iff_eq, beq_eq_false_iff_ne, bne_iff_ne, bne_eq_false_iff_eq, Bool.not_eq_true', Bool.not_eq_false', ne_eq, Int.not_lt, Int.not_le, Decidable.not_not] at g24'
        refine run_skip ?_
        refine run_blk ?_
        refine run_region ?_
        refine run_q (.none rfl) rfl rfl (q_add rfl rfl rfl (by omega)) ?_
        refine run_q (.none rfl) rfl rfl (q_move rfl rfl) ?_
        refine run_nil ?_
        exact run_again (k + 1) (by (try dsimp only); exact ⟨by omega, by rw [hinv, eqFrom_step (by omega) (by simpa [eqT] using g24)]⟩) (by (try dsimp only); omega) (subMk (.cons' (s := 13) rfl rfl (.cons (s := 0) rfl (.cons (s := 1) rfl (.cons (s := 4) rfl (.cons (s := 12) rfl .nil))))) .nil)
    · have g14' := g14
      try simp only [decide_eq_true_eq, decide_eq_false_iff_not, beq_iff_eq, beq_eq_false_iff_ne, bne_iff_ne, bne_eq_false_iff_eq, Bool.not_eq_true', Bool.not_eq_false', ne_eq, Int.not_lt, Int.not_le, Decidable.not_not] at g14'
      refine run_exit rfl ?_
      refine run_sub (subMk (.cons (s := 4) rfl .nil) .refl) ?_
      refine run_seq ?_
      refine run_region ?_
      refine run_q (.none rfl) rfl rfl (q_assign rfl rfl) ?_
      refine run_nil ?_
      refine run_ret ?_
      exact end1 rfl rfl (by rw [hinv, show l.length - k = 0 from by omega]; rfl)

theorem lequal_just (l l2 : List Tup) (A B : Option Addr) (ca cb : Nat) (W : World) (hr : Rd W A 4 (l.map Tup.enc)) (hr2 : Rd W B 4 (l2.map Tup.enc)) (hl : l.length ≤ 1000000) : Calls Try.prog 32 #[.slice A l.length ca, .slice B l2.length cb] W (Hr.Just W (.bool (eqL l l2))) := by
  refine Just.of_ret ?_
  refine enterA (X := nX) (vs := [.slice A l.length ca, .slice B l2.length cb]) Try.func32 Try.ntmps32 rfl rfl Mem.nil ?_
  refine run_seq ?_
  refine run_region ?_
  refine run_q (.none rfl) rfl rfl (q_assign rfl rfl) ?_
  refine run_nil ?_
  refine run_seq ?_
  refine run_region ?_
  refine run_q (.none rfl) rfl rfl (q_move rfl rfl) ?_
  refine run_q (.none rfl) rfl rfl (q_move rfl rfl) ?_
  refine run_q (.none rfl) rfl rfl (q_call rfl call45 (.cons rfl (.cons rfl Evs.nil)) (fun w hk hm => equal_just l l2 A B ca cb w (hr.kept0 hk) (hr2.kept0 hk) hl)) ?_
  refine run_q (.none rfl) rfl rfl (q_assign rfl rfl) ?_
  refine run_nil ?_
  refine run_sub (subMk (.cons (s := 4) rfl .nil) .refl) ?_
  refine run_ret ?_
  exact end1 rfl rfl rfl

end Go.Proofs.Yticofkkkafhpiaa
