/- A listener made; the reference's count of passed notes. -/
import Derived.Test.YtbkmmjpklkallaaP
set_option linter.unusedSimpArgs false
set_option linter.unusedVariables false
namespace Go.Proofs.Ytbkmmjpklkallaa
open Go Go.RowKit Hr

theorem call44 : Hr.Callable Try.prog 44 := fun args w => by kernel_rfl
theorem built79p0p2 (x0yA : Option Addr) (x0yn x0yc : Nat) (x2y0 : Int) (x2y1 : Int) (x2y2 : Int) (x2y3 : Int) (x2y4 : Int) : Try.prog.built 79 [(0, .slice x0yA x0yn x0yc), (2, .agg #[.int .i64 x2y0, .int .i64 x2y1, .int .i64 x2y2, .int .i64 x2y3, .int .i64 x2y4])] = some #[.slice x0yA x0yn x0yc, .slice none 0 0, .int .i64 x2y0, .int .i64 x2y1, .int .i64 x2y2, .int .i64 x2y3, .int .i64 x2y4, .slice none 0 0] := by kernel_rfl

theorem new_err (c : Cost) (a : List Note) (A : Option Addr) (ca : Nat) (W : World) (hra : Rd W A 7 (a.map Note.enc)) (hla' : a.length ≤ 1000000000000) (he : (firstNZ [wrongL a, costB c]) ≠ 0) : Calls Try.prog 23 #[.slice A a.length ca, c.val] W (Hr.Just W (.tuple #[.pointer none, .int .i64 (firstNZ [wrongL a, costB c])])) := by
  refine Just.of_ret ?_
  refine enterA (X := nX) (vs := [.slice A a.length ca, c.val]) Try.func23 Try.ntmps23 rfl rfl Mem.nil ?_
  refine run_seq ?_
  refine run_region ?_
  refine run_h (.none rfl) (h_box rfl rfl rfl rfl rfl) ?_
  rintro b3 -
  refine run_q (.none rfl) rfl rfl (q_assign rfl rfl) ?_
  refine run_q (.none rfl) rfl rfl (q_assign rfl rfl) ?_
  refine run_nil ?_
  refine run_seq ?_
  refine run_seq ?_
  refine run_draw [(0, 0), (1, 0), (2, 0), (3, 0), (4, 2), (5, 2), (6, 2)] mixed (by kernel_rfl) .refl ?_
  refine d_q rfl rfl (.none rfl) rfl rfl (q_move rfl rfl) ?_
  refine d_q rfl rfl (.none rfl) rfl rfl (q_call rfl call36 (.cons rfl Evs.nil) (fun w hk hm => wrong_just a A a.length ca w (hra.kept0 hk) rfl hla')) ?_
  refine d_q rfl rfl (.none rfl) rfl rfl (q_loadBN rfl agg26 rfl Sel.here (.cons rfl (.cons rfl (.cons rfl (.cons rfl (.cons rfl CellsAt.nil))))) rfl) ?_
  refine d_q rfl rfl (.none rfl) rfl rfl (q_call rfl call37 (.cons rfl Evs.nil) (fun w hk hm => check_just c w)) ?_
  refine d_t rfl rfl (.none rfl) (h_buildSlice rfl rfl rfl Try.underlying89 info29 (.cons rfl rfl rfl rfl (.cons rfl rfl rfl rfl Parts.nil)) rfl (by omega)) ?_
  rintro b13 -
  refine d_t rfl rfl (.none rfl) (.of_q rfl rfl (q_call rfl call35 (.cons rfl Evs.nil) (fun w hk hm => first_just [wrongL a, costB c] (some ⟨b13, 0, none⟩) 2 2 w (own_rd (Sel.here.holds hm)) (by simp) (by simp)))) ?_
  rintro - -
  refine d_t rfl rfl (.none rfl) (.of_q rfl rfl (q_assign rfl rfl)) ?_
  rintro - -
  refine d_nil ?_
  refine run_sub (subMk (.cons (s := 0) rfl (.cons (s := 3) rfl (.cons (s := 4) rfl (.cons (s := 5) rfl (.cons (s := 6) rfl .nil))))) .refl) ?_
  refine run_seq ?_
  refine run_region ?_
  refine run_q (.none rfl) rfl rfl (q_move rfl rfl) ?_
  refine run_q (.none rfl) rfl rfl (q_neq rfl rfl rfl) ?_
  refine run_nil ?_
  refine run_condT rfl (by simpa using he) ?_
  refine run_seq ?_
  refine run_region ?_
  refine run_q (.none rfl) rfl rfl (q_move rfl rfl) ?_
  refine run_q (.none rfl) rfl rfl (q_assign rfl rfl) ?_
  refine run_q (.none rfl) rfl rfl (q_assign rfl rfl) ?_
  refine run_nil ?_
  refine run_sub (subMk (.cons (s := 0) rfl (.cons (s := 3) rfl (.cons (s := 4) rfl (.cons (s := 5) rfl .nil)))) .refl) ?_
  refine run_ret ?_
  exact end2 rfl rfl rfl rfl

set_option maxRecDepth 100000 in
theorem new_ok (c : Cost) (a : List Note) (A : Option Addr) (ca : Nat) (W : World) (hra : Rd W A 7 (a.map Note.enc)) (hla' : a.length ≤ 1000000000000) (hwa : wrongL a = 0) (hcc : costB c = 0) : Calls Try.prog 23 #[.slice A a.length ca, c.val] W (Ret W nX (fun v m => ∃ (p : Nat) (S : Option Addr) (cs : Nat) (R : Option Addr) (cr : Nat), v = .tuple #[.pointer (some ⟨p, 0, none⟩), .int .i64 0] ∧ a.length ≤ cs ∧ m = [.blk p 79 [(0, .slice S a.length cs), (1, .slice none 0 0), (2, .int .i64 c.wrong), (3, .int .i64 c.missing), (4, .int .i64 c.extra), (5, .int .i64 c.time), (6, .int .i64 c.late), (7, .slice R (a.length + 1) cr)], .own 47 7 S a.length cs (a.map Note.enc), .own 3 1 R (a.length + 1) cr ((colV c a []).map encI)])) := by
  obtain ⟨hna, hla⟩ := wrongL_ok hwa
  have hc := costB_ok hcc
  have hmm := hc.m
  refine enterA (X := nX) (vs := [.slice A a.length ca, c.val]) Try.func23 Try.ntmps23 rfl rfl Mem.nil ?_
  refine run_seq ?_
  refine run_region ?_
  refine run_h (.none rfl) (h_box rfl rfl rfl rfl rfl) ?_
  rintro b3 -
  refine run_q (.none rfl) rfl rfl (q_assign rfl rfl) ?_
  refine run_q (.none rfl) rfl rfl (q_assign rfl rfl) ?_
  refine run_nil ?_
  refine run_seq ?_
  refine run_seq ?_
  refine run_draw [(0, 0), (1, 0), (2, 0), (3, 0), (4, 2), (5, 2), (6, 2)] mixed (by kernel_rfl) .refl ?_
  refine d_q rfl rfl (.none rfl) rfl rfl (q_move rfl rfl) ?_
  refine d_q rfl rfl (.none rfl) rfl rfl (q_call rfl call36 (.cons rfl Evs.nil) (fun w hk hm => wrong_just a A a.length ca w (hra.kept0 hk) rfl hla')) ?_
  refine d_q rfl rfl (.none rfl) rfl rfl (q_loadBN rfl agg26 rfl Sel.here (.cons rfl (.cons rfl (.cons rfl (.cons rfl (.cons rfl CellsAt.nil))))) rfl) ?_
  refine d_q rfl rfl (.none rfl) rfl rfl (q_call rfl call37 (.cons rfl Evs.nil) (fun w hk hm => check_just c w)) ?_
  refine d_t rfl rfl (.none rfl) (h_buildSlice rfl rfl rfl Try.underlying89 info29 (.cons rfl rfl rfl rfl (.cons rfl rfl rfl rfl Parts.nil)) rfl (by omega)) ?_
  rintro b13 -
  refine d_t rfl rfl (.none rfl) (.of_q rfl rfl (q_call rfl call35 (.cons rfl Evs.nil) (fun w hk hm => first_just [wrongL a, costB c] (some ⟨b13, 0, none⟩) 2 2 w (own_rd (Sel.here.holds hm)) (by simp) (by simp)))) ?_
  rintro - -
  refine d_t rfl rfl (.none rfl) (.of_q rfl rfl (q_assign rfl rfl)) ?_
  rintro - -
  refine d_nil ?_
  refine run_sub (subMk (.cons (s := 0) rfl (.cons (s := 3) rfl (.cons (s := 4) rfl (.cons (s := 5) rfl (.cons (s := 6) rfl .nil))))) .refl) ?_
  refine run_seq ?_
  refine run_region ?_
  refine run_q (.none rfl) rfl rfl (q_move rfl rfl) ?_
  refine run_q (.none rfl) rfl rfl (q_neq rfl rfl rfl) ?_
  refine run_nil ?_
  refine run_condF rfl (by simp [firstNZ, hwa, hcc]) ?_
  refine run_skip ?_
  refine run_seq ?_
  refine run_draw [(0, 0), (2, 0), (1, 1), (3, 0), (4, 2), (5, 2)] mixed (by kernel_rfl) .refl ?_
  refine d_q rfl rfl (.none rfl) rfl rfl (q_move rfl rfl) ?_
  refine d_q rfl rfl (.none rfl) rfl rfl (q_loadBN rfl agg26 rfl (.there Sel.here) (.cons rfl (.cons rfl (.cons rfl (.cons rfl (.cons rfl CellsAt.nil))))) rfl) ?_
  refine d_h rfl rfl (.none rfl) (h_call rfl rfl rfl call44 (.cons rfl Evs.nil) (fun w hk hm => cloneN_ret a A ca w (hra.kept0 hk) (by omega))) (fun _ _ => (.sub (List.sublist_append_right _ _))) ?_
  rintro ⟨v, m⟩ ⟨O19, co19, rfl, rfl⟩
  show RunD _ _ _ _ _ _ _ _ _ _ _ ⟨(19, .slice O19 a.length co19) :: _, _ :: _⟩
  refine d_q rfl rfl (.none rfl) rfl rfl (q_build rfl (.cons rfl (.cons rfl PV.nil)) (built79p0p2 _ _ _ _ _ _ _ _)) ?_
  refine d_t rfl rfl (.none rfl) (h_box rfl rfl rfl rfl rfl) ?_
  rintro b22 -
  refine d_t rfl rfl (.none rfl) (.of_q rfl rfl (q_assign rfl rfl)) ?_
  rintro - -
  refine d_nil ?_
  refine run_sub (subMk (.cons (s := 0) rfl (.cons (s := 3) rfl (.cons (s := 4) rfl (.cons (s := 5) rfl (.cons (s := 7) rfl .nil))))) .refl) ?_
  refine run_seq ?_
  refine run_seq ?_
  refine run_ownLe (.there Sel.here) (fun hle => ?_)
  refine run_region ?_
  refine run_q (.none rfl) rfl rfl (q_move rfl rfl) ?_
  refine run_q (.none rfl) rfl rfl (q_len rfl Try.underlying22 rfl) ?_
  refine run_q (.none rfl) rfl rfl (q_add rfl rfl rfl (by omega)) ?_
  refine run_q (.none rfl) rfl rfl (q_move rfl rfl) ?_
  refine run_nil ?_
  refine run_sub (subMk (.cons (s := 3) rfl (.cons (s := 4) rfl (.cons (s := 5) rfl (.cons (s := 7) rfl (.cons (s := 25) rfl (.cons (s := 26) rfl .nil)))))) .refl) ?_
  refine run_block ?_
  refine run_sub (subMk .refl (MemSub.nilOwn 3 1)) ?_
  refine run_sub (subMk (.cons (s := 26) rfl (.cons (s := 3) rfl (.cons (s := 4) rfl (.cons (s := 5) rfl (.cons (s := 7) rfl (.cons (s := 25) rfl .nil)))))) (.cons (.there Sel.here) .refl (.cons Sel.here .refl (.cons Sel.here .refl (.cons Sel.here .refl (.cons Sel.here .refl .nil)))))) ?_
  refine run_loopC1M2 (ι := Nat × (Option Addr) × Nat) (fun gg => gg.1 ≤ a.length + 1) (fun gg => .int .i64 (gg.1 : Int)) (fun gg => .blk b22 79 [(0, .slice O19 a.length co19), (1, .slice none 0 0), (2, .int .i64 c.wrong), (3, .int .i64 c.missing), (4, .int .i64 c.extra), (5, .int .i64 c.time), (6, .int .i64 c.late), (7, .slice gg.2.1 gg.1 gg.2.2)]) (fun gg => .own 3 1 gg.2.1 gg.1 gg.2.2 ((rowM c gg.1).map encI)) (fun gg => a.length + 1 - gg.1) (0, none, 0) (by (try dsimp only); exact (by omega)) rfl (.blk (.cons (s := 0) rfl (.cons (s := 1) rfl (.cons (s := 2) rfl (.cons (s := 3) rfl (.cons (s := 4) rfl (.cons (s := 5) rfl (.cons (s := 6) rfl (.cons (s := 7) rfl (.nil)))))))))) (.own rfl rfl rfl rfl) ?_
  rintro ⟨k, R, cr⟩ hk
  (try dsimp only at hk)
  show Run _ _ _ _ _ _ _ ⟨(26, .int .i64 (k : Int)) :: _, .blk b22 79 [(0, .slice O19 a.length co19), (1, .slice none 0 0), (2, .int .i64 c.wrong), (3, .int .i64 c.missing), (4, .int .i64 c.extra), (5, .int .i64 c.time), (6, .int .i64 c.late), (7, .slice R k cr)] :: .own 3 1 R k cr ((rowM c k).map encI) :: _⟩
  refine run_seq ?_
  refine run_region ?_
  refine run_q (.none rfl) rfl rfl (q_lss rfl rfl rfl) ?_
  refine run_nil ?_
  refine run_seq ?_
  refine run_cond rfl (fun g27 => ?_) (fun g27 => ?_)
  · have g27' := g27
    try simp only [decide_eq_true_eq, decide_eq_false_iff_not, beq_iff_eq, beq_eq_false_iff_ne, bne_iff_ne, bne_eq_false_iff_eq, Bool.not_eq_true', Bool.not_eq_false', ne_eq, Int.not_lt, Int.not_le, Decidable.not_not] at g27'
    refine run_skip ?_
    refine run_seq ?_
    refine run_block ?_
    refine run_seq ?_
    refine run_region ?_
    refine run_q (.none rfl) rfl rfl (q_move rfl rfl) ?_
    refine run_q (.none rfl) rfl rfl (q_assign rfl rfl) ?_
    refine run_nil ?_
    refine run_pure [(0, 3), (1, 0), (2, 0), (3, 0), (4, 0), (5, 0), (6, 0), (7, 0), (8, 0), (9, 1), (10, 2), (11, 2), (12, 2), (13, 2)] mixed (by kernel_rfl) .refl ?_
    refine p_p rfl rfl (.none rfl) rfl rfl (q_move rfl rfl) ?_
    refine p_q rfl rfl (.none rfl) rfl rfl (q_move rfl rfl) ?_
    refine p_q rfl rfl (.none rfl) rfl rfl (q_nilCheck rfl rfl) ?_
    refine p_q rfl rfl (.none rfl) rfl rfl (q_fieldB (d := 7) rfl Try.underlying79 rfl rfl sz72 rfl) ?_
    refine p_q rfl rfl (.none rfl) rfl rfl (q_loadB rfl one72 rfl Sel.here rfl) ?_
    refine p_q rfl rfl (.none rfl) rfl rfl (q_move rfl rfl) ?_
    refine p_q rfl rfl (.none rfl) rfl rfl (q_fieldB (d := 1) rfl Try.underlying26 rfl rfl sz3 rfl) ?_
    refine p_q rfl rfl (.none rfl) rfl rfl (q_loadB rfl one3 rfl (.there (.there (.there (.there Sel.here)))) rfl) ?_
    refine p_q rfl rfl (.none rfl) rfl rfl (q_mul rfl rfl rfl (by have := mul_len (n := k) (y := c.missing) (by omega) hmm; omega)) ?_
    refine p_h rfl rfl (.none rfl) (h_buildSlice rfl rfl rfl Try.underlying72 info3 (.cons rfl rfl rfl rfl Parts.nil) rfl (by omega)) (fun _ _ => (.sub (by repeat (first | exact List.Sublist.refl _ | apply List.Sublist.cons)))) ?_
    rintro b38 -
    refine p_t rfl rfl (.none rfl) (h_append rfl rfl rfl Try.underlying72 info3 rfl rfl (.there (.there Sel.here)) rfl (.own Sel.here) rfl (all1 rfl) (all1 rfl) (by omega) (by omega)) ?_
    rintro ⟨A39, c39⟩ -
    refine p_t rfl rfl (.none rfl) (.of_q rfl rfl (q_nilCheck rfl rfl)) ?_
    rintro - -
    refine p_t rfl rfl (.none rfl) (.of_q rfl rfl (q_fieldB (d := 7) rfl Try.underlying79 rfl rfl sz72 rfl)) ?_
    rintro - -
    refine p_t rfl rfl (.none rfl) (h_storeB rfl rfl sz72 rfl rfl rfl rfl rfl (.there (.there Sel.here)) rfl) ?_
    rintro - -
    refine p_nil ?_
    refine run_sub (subMk (.cons (s := 3) rfl (.cons (s := 4) rfl (.cons (s := 5) rfl (.cons (s := 7) rfl (.cons (s := 25) rfl (.cons (s := 26) rfl .nil)))))) .refl) ?_
    refine run_blk ?_
    refine run_region ?_
    refine run_q (.none rfl) rfl rfl (q_add rfl rfl rfl (by omega)) ?_
    refine run_q (.none rfl) rfl rfl (q_move rfl rfl) ?_
    refine run_nil ?_
    exact run_again (k + 1, A39, c39) (by (try dsimp only); exact (by omega)) (by (try dsimp only); omega) (subMk (.cons' (s := 26) rfl rfl (.cons (s := 3) rfl (.cons (s := 4) rfl (.cons (s := 5) rfl (.cons (s := 7) rfl (.cons (s := 25) rfl .nil)))))) (.cons Sel.here (.blk (.cons (s := 0) rfl (.cons (s := 1) rfl (.cons (s := 2) rfl (.cons (s := 3) rfl (.cons (s := 4) rfl (.cons (s := 5) rfl (.cons (s := 6) rfl (.cons (s := 7) rfl (.nil)))))))))) (.cons Sel.here (.own rfl rfl rfl (by rw [rowM_succ, List.map_append]; rfl)) (.cons (.there Sel.here) .refl (.cons (.there Sel.here) .refl (.cons (.there Sel.here) .refl .nil))))))
  · have g27' := g27
    try simp only [decide_eq_true_eq, decide_eq_false_iff_not, beq_iff_eq, beq_eq_false_iff_ne, bne_iff_ne, bne_eq_false_iff_eq, Bool.not_eq_true', Bool.not_eq_false', ne_eq, Int.not_lt, Int.not_le, Decidable.not_not] at g27'
    refine run_exit rfl ?_
    refine run_sub (subMk (.cons (s := 4) rfl (.cons (s := 5) rfl (.cons (s := 7) rfl .nil))) .refl) ?_
    refine run_seq ?_
    refine run_region ?_
    refine run_q (.none rfl) rfl rfl (q_move rfl rfl) ?_
    refine run_q (.none rfl) rfl rfl (q_assign rfl rfl) ?_
    refine run_q (.none rfl) rfl rfl (q_assign rfl rfl) ?_
    refine run_nil ?_
    refine run_ret ?_
    refine run_sub (subMk .refl (.cons Sel.here (.blk (.cons (s := 0) rfl (.cons (s := 1) rfl (.cons (s := 2) rfl (.cons (s := 3) rfl (.cons (s := 4) rfl (.cons (s := 5) rfl (.cons (s := 6) rfl (.cons' (s := 7) (v' := .slice R (a.length + 1) cr) rfl (by congr 1; omega) (.nil)))))))))) (.cons (.there Sel.here) .refl (.cons Sel.here (.own (m' := a.length + 1) (xs' := (colV c a []).map encI) rfl (by omega) rfl (by rw [← rowM_col, show k = a.length + 1 from by omega])) .nil)))) ?_
    exact end2 rfl rfl rfl ⟨b22, O19, co19, R, cr, rfl, hle, rfl⟩

set_option maxRecDepth 100000 in
theorem passedM_just (c : Cost) (a b : List Note) (A B : Option Addr) (ca cb : Nat) (W : World) (hra : Rd W A 7 (a.map Note.enc)) (hrb : Rd W B 7 (b.map Note.enc)) (hc : CostOk c) (hna : ∀ p ∈ a, NoteOk p) (hnb : ∀ p ∈ b, NoteOk p) (hla : a.length ≤ 1024) (hlb : b.length ≤ 1024) (hcA : a.length ≤ ca) : Calls Try.prog 29 #[.slice A a.length ca, .slice B b.length cb, c.val] W (Hr.Just W (.int .i64 (passV c a b : Int))) := by
  have hF0 : ∀ j, 0 ≤ colF c a b j := fun j => (colF_bd hc j).1
  refine Just.of_ret ?_
  refine enterA (X := nX) (vs := [.slice A a.length ca, .slice B b.length cb, c.val]) Try.func29 Try.ntmps29 rfl rfl Mem.nil ?_
  refine run_seq ?_
  refine run_region ?_
  refine run_h (.none rfl) (h_box rfl rfl rfl rfl rfl) ?_
  rintro b5 -
  refine run_q (.none rfl) rfl rfl (q_assign rfl rfl) ?_
  refine run_nil ?_
  refine run_seq ?_
  refine run_region ?_
  refine run_q (.none rfl) rfl rfl (q_assign rfl rfl) ?_
  refine run_q (.none rfl) rfl rfl (q_assign rfl rfl) ?_
  refine run_nil ?_
  refine run_seq ?_
  refine run_seq ?_
  refine run_region ?_
  refine run_q (.none rfl) rfl rfl (q_assign rfl rfl) ?_
  refine run_nil ?_
  refine run_block ?_
  refine run_sub (subMk (.cons (s := 9) rfl (.cons (s := 7) rfl (.cons (s := 8) rfl (.cons (s := 0) rfl (.cons (s := 1) rfl (.cons (s := 5) rfl (.cons (s := 6) rfl .nil))))))) (.cons Sel.here .refl .nil)) ?_
  refine run_loopC3M0 (ι := Nat) (fun k => k ≤ a.length + 1) (fun k => .int .i64 (k : Int)) (fun k => .int .i64 (bk (colF c a b) k : Int)) (fun k => .int .i64 (lk (colF c a b) k))  (fun k => a.length + 1 - k) 0 (by (try dsimp only); exact (by omega)) rfl rfl rfl  ?_
  rintro k hk
  (try dsimp only at hk)
  show Run _ _ _ _ _ _ _ ⟨(9, .int .i64 (k : Int)) :: (7, .int .i64 (bk (colF c a b) k : Int)) :: (8, .int .i64 (lk (colF c a b) k)) :: _, _⟩
  refine run_seq ?_
  refine run_seq ?_
  refine run_region ?_
  refine run_q (.none rfl) rfl rfl (q_move rfl rfl) ?_
  refine run_q (.none rfl) rfl rfl (q_move rfl rfl) ?_
  refine run_q (.none rfl) rfl rfl (q_len rfl Try.underlying22 rfl) ?_
  refine run_q (.none rfl) rfl rfl (q_leq rfl rfl rfl) ?_
  refine run_nil ?_
  refine run_sub (subMk (.cons (s := 0) rfl (.cons (s := 1) rfl (.cons (s := 5) rfl (.cons (s := 6) rfl (.cons (s := 7) rfl (.cons (s := 8) rfl (.cons (s := 9) rfl (.cons (s := 14) rfl .nil)))))))) .refl) ?_
  refine run_cond rfl (fun g14 => ?_) (fun g14 => ?_)
  · have g14' := g14
    try simp only [decide_eq_true_eq, decide_eq_false_iff_not, beq_iff_eq, beq_eq_false_iff_ne, bne_iff_ne, bne_eq_false_iff_eq, Bool.not_eq_true', Bool.not_eq_false', ne_eq, Int.not_lt, Int.not_le, Decidable.not_not] at g14'
    have hst := rd_take hra (rfl : a.take k = a.take k)
    have hnt : ∀ p ∈ a.take k, NoteOk p := fun p hp => hna p (List.mem_of_mem_take hp)
    have hkl : (a.take k).length = k := by rw [List.length_take]; omega
    refine run_skip ?_
    refine run_seq ?_
    refine run_block ?_
    refine run_seq ?_
    refine run_draw [(0, 0), (1, 0), (2, 0), (3, 0), (4, 0), (5, 2), (6, 2), (7, 2), (8, 2), (9, 2), (10, 2)] mixed (by kernel_rfl) .refl ?_
    refine d_q rfl rfl (.none rfl) rfl rfl (q_move rfl rfl) ?_
    refine d_q rfl rfl (.none rfl) rfl rfl (q_move rfl rfl) ?_
    refine d_q rfl rfl (.none rfl) rfl rfl (q_sliceH rfl Try.underlying22 sz47 rfl rfl (by omega)) ?_
    refine d_q rfl rfl (.none rfl) rfl rfl (q_move rfl rfl) ?_
    refine d_q rfl rfl (.none rfl) rfl rfl (q_loadBN rfl agg26 rfl Sel.here (.cons rfl (.cons rfl (.cons rfl (.cons rfl (.cons rfl CellsAt.nil))))) rfl) ?_
    refine d_t rfl rfl (.none rfl) (h_call rfl rfl rfl call39 (.cons rfl (.cons rfl (.cons rfl Evs.nil))) (fun w hk hm => table_take (by omega) (table_ret c (a.take k) b A B ca cb w (hst.kept0 hk) (hrb.kept0 hk) hc hnt hnb (by omega) hlb))) ?_
    rintro ⟨v, m⟩ ⟨g, gs, rfl, hgs, rfl⟩
    show RunD _ _ _ _ _ _ _ _ _ _ _ ⟨(22, .slice (some ⟨g, 0, none⟩) ((a.take k).length + 1) ((a.take k).length + 1)) :: _, _ :: _ :: _⟩
    refine d_t rfl rfl (.none rfl) (.of_q rfl rfl (q_indexS (q := 0) rfl Try.underlying73 sz72 rfl rfl (.own Sel.here) (outerL_len (by omega)) rfl (by omega))) ?_
    rintro - -
    refine d_t rfl rfl (.none rfl) (.of_q rfl rfl (q_loadC rfl one72 rfl (.own Sel.here) (outerL_all hgs (Nat.zero_le _)))) ?_
    rintro - -
    refine d_t rfl rfl (.none rfl) (.of_q rfl rfl (q_indexS (q := 0) rfl Try.underlying72 sz3 rfl rfl (.sepOwn (.there Sel.here) (rowsR_all hgs (Nat.zero_le _))) (by simp [rowV]) rfl (by omega))) ?_
    rintro - -
    refine d_t rfl rfl (.none rfl) (.of_q rfl rfl (q_loadC rfl one3 rfl (.sepOwn (.there Sel.here) (rowsR_all hgs (Nat.zero_le _))) (rowV_get (by omega)))) ?_
    rintro - -
    refine d_t rfl rfl (.none rfl) (.of_q rfl rfl (q_assign rfl rfl)) ?_
    rintro - -
    refine d_nil ?_
    refine run_sub (subMk (.cons (s := 0) rfl (.cons (s := 1) rfl (.cons (s := 5) rfl (.cons (s := 6) rfl (.cons (s := 7) rfl (.cons (s := 8) rfl (.cons (s := 9) rfl (.cons (s := 10) rfl .nil)))))))) .refl) ?_
    refine run_seq ?_
    refine run_sub (subMk (.cons (s := 0) rfl (.cons (s := 1) rfl (.cons (s := 5) rfl (.cons (s := 6) rfl (.cons (s := 7) rfl (.cons (s := 8) rfl (.cons (s := 9) rfl (.cons' (s := 10) (v' := .int .i64 (colF c a b k)) rfl (vint (by simp [colF])) .nil)))))))) .refl) ?_
    refine run_region ?_
    refine run_q (.none rfl) rfl rfl (q_move rfl rfl) ?_
    refine run_q (.none rfl) rfl rfl (q_lss rfl rfl rfl) ?_
    refine run_q (.none rfl) rfl rfl (q_move rfl rfl) ?_
    refine run_split 29 rfl (fun g29 => ?_) (fun g29 => ?_)
    · have g29' := g29
      try simp only [decide_eq_true_eq, decide_eq_false_iff_not, beq_iff_eq, beq_eq_false_iff_ne, bne_iff_ne, bne_eq_false_iff_eq, Bool.not_eq_true', Bool.not_eq_false', ne_eq, Int.not_lt, Int.not_le, Decidable.not_not] at g29'
      refine run_off (.no rfl rfl rfl g29) rfl rfl ?_
      refine run_off (.no rfl rfl rfl g29) rfl rfl ?_
      refine run_off (.no rfl rfl rfl g29) rfl rfl ?_
      refine run_q (.none rfl) rfl rfl (q_pickT rfl rfl g29 rfl) ?_
      refine run_nil ?_
      refine run_sub (subMk (.cons (s := 0) rfl (.cons (s := 1) rfl (.cons (s := 5) rfl (.cons (s := 6) rfl (.cons (s := 7) rfl (.cons (s := 8) rfl (.cons (s := 9) rfl (.cons (s := 10) rfl (.cons (s := 33) rfl .nil))))))))) .refl) ?_
      refine run_condT rfl rfl ?_
      refine run_region ?_
      refine run_q (.none rfl) rfl rfl (q_move rfl rfl) ?_
      refine run_q (.none rfl) rfl rfl (q_move rfl rfl) ?_
      refine run_q (.none rfl) rfl rfl (q_assign rfl rfl) ?_
      refine run_q (.none rfl) rfl rfl (q_assign rfl rfl) ?_
      refine run_nil ?_
      refine run_sub (subMk (.cons (s := 0) rfl (.cons (s := 1) rfl (.cons (s := 5) rfl (.cons (s := 6) rfl (.cons (s := 7) rfl (.cons (s := 8) rfl (.cons (s := 9) rfl .nil))))))) .refl) ?_
      refine run_blk ?_
      refine run_region ?_
      refine run_q (.none rfl) rfl rfl (q_move rfl rfl) ?_
      refine run_q (.none rfl) rfl rfl (q_add rfl rfl rfl (by omega)) ?_
      refine run_q (.none rfl) rfl rfl (q_assign rfl rfl) ?_
      refine run_nil ?_
      exact run_again (k + 1) (by (try dsimp only); exact (by omega)) (by (try dsimp only); omega) (subMk (.cons' (s := 9) rfl rfl (.cons' (s := 7) rfl (vint (by rw [(bk_yes (by omega) hF0).1])) (.cons' (s := 8) rfl (vint (by rw [(bk_yes (by omega) hF0).2])) (.cons (s := 0) rfl (.cons (s := 1) rfl (.cons (s := 5) rfl (.cons (s := 6) rfl .nil))))))) (.cons (.there (.there Sel.here)) .refl .nil))
    · have g29' := g29
      try simp only [decide_eq_true_eq, decide_eq_false_iff_not, beq_iff_eq, beq_eq_false_iff_ne, bne_iff_ne, bne_eq_false_iff_eq, Bool.not_eq_true', Bool.not_eq_false', ne_eq, Int.not_lt, Int.not_le, Decidable.not_not] at g29'
      refine run_q (.on rfl rfl rfl g29) rfl rfl (q_move rfl rfl) ?_
      refine run_q (.on rfl rfl rfl g29) rfl rfl (q_move rfl rfl) ?_
      refine run_q (.on rfl rfl rfl g29) rfl rfl (q_lss rfl rfl rfl) ?_
      refine run_q (.none rfl) rfl rfl (q_pickF rfl rfl g29 rfl) ?_
      refine run_nil ?_
      refine run_sub (subMk (.cons (s := 0) rfl (.cons (s := 1) rfl (.cons (s := 5) rfl (.cons (s := 6) rfl (.cons (s := 7) rfl (.cons (s := 8) rfl (.cons (s := 9) rfl (.cons (s := 10) rfl (.cons (s := 33) rfl .nil))))))))) .refl) ?_
      refine run_cond rfl (fun g33 => ?_) (fun g33 => ?_)
      · have g33' := g33
        try simp only [decide_eq_true_eq, decide_eq_false_iff_not, beq_iff_eq, beq_eq_false_iff_ne, bne_iff_ne, bne_eq_false_iff_eq, Bool.not_eq_true', Bool.not_eq_false', ne_eq, Int.not_lt, Int.not_le, Decidable.not_not] at g33'
        refine run_region ?_
        refine run_q (.none rfl) rfl rfl (q_move rfl rfl) ?_
        refine run_q (.none rfl) rfl rfl (q_move rfl rfl) ?_
        refine run_q (.none rfl) rfl rfl (q_assign rfl rfl) ?_
        refine run_q (.none rfl) rfl rfl (q_assign rfl rfl) ?_
        refine run_nil ?_
        refine run_sub (subMk (.cons (s := 0) rfl (.cons (s := 1) rfl (.cons (s := 5) rfl (.cons (s := 6) rfl (.cons (s := 7) rfl (.cons (s := 8) rfl (.cons (s := 9) rfl .nil))))))) .refl) ?_
        refine run_blk ?_
        refine run_region ?_
        refine run_q (.none rfl) rfl rfl (q_move rfl rfl) ?_
        refine run_q (.none rfl) rfl rfl (q_add rfl rfl rfl (by omega)) ?_
        refine run_q (.none rfl) rfl rfl (q_assign rfl rfl) ?_
        refine run_nil ?_
        exact run_again (k + 1) (by (try dsimp only); exact (by omega)) (by (try dsimp only); omega) (subMk (.cons' (s := 9) rfl rfl (.cons' (s := 7) rfl (vint (by rw [(bk_yes (by omega) hF0).1])) (.cons' (s := 8) rfl (vint (by rw [(bk_yes (by omega) hF0).2])) (.cons (s := 0) rfl (.cons (s := 1) rfl (.cons (s := 5) rfl (.cons (s := 6) rfl .nil))))))) (.cons (.there (.there Sel.here)) .refl .nil))
      · have g33' := g33
        try simp only [decide_eq_true_eq, decide_eq_false_iff_not, beq_iff_eq, beq_eq_false_iff_ne, bne_iff_ne, bne_eq_false_iff_eq, Bool.not_eq_true', Bool.not_eq_false', ne_eq, Int.not_lt, Int.not_le, Decidable.not_not] at g33'
        refine run_skip ?_
        refine run_blk ?_
        refine run_region ?_
        refine run_q (.none rfl) rfl rfl (q_move rfl rfl) ?_
        refine run_q (.none rfl) rfl rfl (q_add rfl rfl rfl (by omega)) ?_
        refine run_q (.none rfl) rfl rfl (q_assign rfl rfl) ?_
        refine run_nil ?_
        refine run_sub (subMk (.cons (s := 0) rfl (.cons (s := 1) rfl (.cons (s := 5) rfl (.cons (s := 6) rfl (.cons (s := 7) rfl (.cons (s := 8) rfl (.cons (s := 9) rfl .nil))))))) .refl) ?_
        exact run_again (k + 1) (by (try dsimp only); exact (by omega)) (by (try dsimp only); omega) (subMk (.cons' (s := 9) rfl rfl (.cons' (s := 7) rfl (vint (by rw [(bk_no (by omega) (by omega)).1])) (.cons' (s := 8) rfl (vint (by rw [(bk_no (by omega) (by omega)).2])) (.cons (s := 0) rfl (.cons (s := 1) rfl (.cons (s := 5) rfl (.cons (s := 6) rfl .nil))))))) (.cons (.there (.there Sel.here)) .refl .nil))
  · have g14' := g14
    try simp only [decide_eq_true_eq, decide_eq_false_iff_not, beq_iff_eq, beq_eq_false_iff_ne, bne_iff_ne, bne_eq_false_iff_eq, Bool.not_eq_true', Bool.not_eq_false', ne_eq, Int.not_lt, Int.not_le, Decidable.not_not] at g14'
    refine run_exit rfl ?_
    refine run_sub (subMk (.cons (s := 6) rfl (.cons (s := 7) rfl .nil)) .refl) ?_
    refine run_seq ?_
    refine run_region ?_
    refine run_q (.none rfl) rfl rfl (q_move rfl rfl) ?_
    refine run_q (.none rfl) rfl rfl (q_assign rfl rfl) ?_
    refine run_nil ?_
    refine run_ret ?_
    exact end1 rfl rfl (by rw [show k = a.length + 1 from by omega]; rfl)

end Go.Proofs.Ytbkmmjpklkallaa
