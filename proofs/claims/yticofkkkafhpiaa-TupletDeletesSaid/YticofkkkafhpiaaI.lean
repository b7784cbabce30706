/- The stable sort of at most 20, in the program. -/
import Derived.Test.YticofkkkafhpiaaH
set_option linter.unusedSimpArgs false
set_option linter.unusedVariables false
namespace Go.Proofs.Yticofkkkafhpiaa
open Go Go.RowKit Hr

theorem call49 : Hr.Callable Try.prog 49 := fun args w => by kernel_rfl

theorem insertion_none (l : List Tup) (A : Option Addr) (ca : Nat) (W : World) (hm : Mem (atAny [.own 46 4 A l.length ca (l.map Tup.enc)]) W [.own 46 4 A l.length ca (l.map Tup.enc)] W) (hl : l.length ≤ 1000000) : Calls Try.prog 49 #[.slice A l.length ca, .int .i64 (l.length : Int), .int .i64 (l.length : Int), .func (.func 38) #[] #[]] W (Ret W (atAny [.own 46 4 A l.length ca (l.map Tup.enc)]) (fun v m => v = .tuple #[] ∧ m = [.own 46 4 A l.length ca (l.map Tup.enc)])) := by
  refine enterA (X := _) (vs := [.slice A l.length ca, .int .i64 (l.length : Int), .int .i64 (l.length : Int), .func (.func 38) #[] #[]]) Try.func49 Try.ntmps49 rfl rfl hm ?_
  refine run_seq ?_
  refine run_region ?_
  refine run_q (.none rfl) rfl rfl (q_move rfl rfl) ?_
  refine run_q (.none rfl) rfl rfl (q_add rfl rfl rfl (by omega)) ?_
  refine run_q (.none rfl) rfl rfl (q_assign rfl rfl) ?_
  refine run_nil ?_
  refine run_block ?_
  refine run_sub (subMk (.cons (s := 0) rfl (.cons (s := 1) rfl (.cons (s := 2) rfl (.cons (s := 3) rfl (.cons (s := 8) rfl .nil))))) (.cons Sel.here .refl .nil)) ?_
  refine run_loopC0M0 (ι := Unit) (fun _ => True ∧ True)   (fun _ => 0) () (by (try dsimp only); exact ⟨trivial, trivial⟩)   ?_
  rintro - -
  show Run _ _ _ _ _ _ _ ⟨_, _⟩
  refine run_seq ?_
  refine run_seq ?_
  refine run_region ?_
  refine run_q (.none rfl) rfl rfl (q_move rfl rfl) ?_
  refine run_q (.none rfl) rfl rfl (q_move rfl rfl) ?_
  refine run_q (.none rfl) rfl rfl (q_lss rfl rfl rfl) ?_
  refine run_nil ?_
  refine run_condF rfl (decide_eq_false (by omega)) ?_
  refine run_exit rfl ?_
  refine run_sub (subMk .nil .refl) ?_
  refine run_sub (subMk .refl (.cons Sel.here .refl .nil)) ?_
  exact end0 rfl ⟨rfl, rfl⟩

theorem insertion_none_s (l : List Tup) (A : Option Addr) (ca : Nat) (W : World) (hm : Mem (atAny [.own 46 4 A l.length ca ((sortR l l.length).map Tup.enc)]) W [.own 46 4 A l.length ca ((sortR l l.length).map Tup.enc)] W) (hl : l.length ≤ 1000000) :
    Calls Try.prog 49 #[.slice A l.length ca, .int .i64 (l.length : Int), .int .i64 (l.length : Int), .func (.func 38) #[] #[]] W (Ret W (atAny [.own 46 4 A l.length ca ((sortR l l.length).map Tup.enc)]) (fun v m => v = .tuple #[] ∧ m = [.own 46 4 A l.length ca ((sortR l l.length).map Tup.enc)])) := by
  have h := insertion_none (sortR l l.length) A ca W (by rw [sortR_len]; exact hm) (by rw [sortR_len]; exact hl)
  rw [sortR_len] at h
  exact h

theorem stable_lt (l : List Tup) (A : Option Addr) (ca : Nat) (W : World) (hm : Mem (atAny [.own 46 4 A l.length ca (l.map Tup.enc)]) W [.own 46 4 A l.length ca (l.map Tup.enc)] W) (hl : l.length < 20) : Calls Try.prog 48 #[.slice A l.length ca, .int .i64 (l.length : Int), .func (.func 38) #[] #[]] W (Ret W (atAny [.own 46 4 A l.length ca (l.map Tup.enc)]) (fun v m => v = .tuple #[] ∧ m = [.own 46 4 A l.length ca ((sortR l l.length).map Tup.enc)])) := by
  refine enterA (X := _) (vs := [.slice A l.length ca, .int .i64 (l.length : Int), .func (.func 38) #[] #[]]) Try.func48 Try.ntmps48 rfl rfl hm ?_
  refine run_seq ?_
  refine run_region ?_
  refine run_q (.none rfl) rfl rfl (q_assign rfl rfl) ?_
  refine run_nil ?_
  refine run_seq ?_
  refine run_region ?_
  refine run_q (.none rfl) rfl rfl (q_move rfl rfl) ?_
  refine run_q (.none rfl) rfl rfl (q_assign rfl rfl) ?_
  refine run_q (.none rfl) rfl rfl (q_assign rfl rfl) ?_
  refine run_nil ?_
  refine run_seq ?_
  refine run_block ?_
  refine run_sub (subMk (.cons (s := 0) rfl (.cons (s := 1) rfl (.cons (s := 2) rfl (.cons (s := 6) rfl (.cons (s := 7) rfl (.cons (s := 8) rfl .nil)))))) (.cons Sel.here .refl .nil)) ?_
  refine run_loopC0M0 (ι := Unit) (fun _ => True ∧ True)   (fun _ => 0) () (by (try dsimp only); exact ⟨trivial, trivial⟩)   ?_
  rintro - -
  show Run _ _ _ _ _ _ _ ⟨_, _⟩
  refine run_seq ?_
  refine run_seq ?_
  refine run_region ?_
  refine run_q (.none rfl) rfl rfl (q_move rfl rfl) ?_
  refine run_q (.none rfl) rfl rfl (q_move rfl rfl) ?_
  refine run_q (.none rfl) rfl rfl (q_leq rfl rfl rfl) ?_
  refine run_nil ?_
  refine run_condF rfl (decide_eq_false (by omega)) ?_
  refine run_exit rfl ?_
  refine run_sub (subMk (.cons (s := 0) rfl (.cons (s := 1) rfl (.cons (s := 2) rfl (.cons (s := 6) rfl (.cons (s := 7) rfl (.cons (s := 8) rfl .nil)))))) .refl) ?_
  refine run_seq ?_
  refine run_region ?_
  refine run_q (.none rfl) rfl rfl (q_move rfl rfl) ?_
  refine run_q (.none rfl) rfl rfl (q_move rfl rfl) ?_
  refine run_q (.none rfl) rfl rfl (q_move rfl rfl) ?_
  refine run_q (.none rfl) rfl rfl (q_move rfl rfl) ?_
  refine run_h (.none rfl) (h_callX [_] _ rfl rfl rfl call49 (.cons rfl (.cons rfl (.cons rfl (.cons rfl Evs.nil)))) (Sel.perm Sel.here) (Y := fun _ => atAny [_]) (fun _ _ h => h) (fun w hk hm => insertion_ret l A ca w ((hm.perm (Sel.perm Sel.here)).give (rs := [_])) (by omega))) ?_
  rintro ⟨v, m⟩ ⟨rfl, rfl⟩
  show Run _ _ _ _ _ _ _ ⟨(27, .tuple #[]) :: _, _ :: _⟩
  refine run_nil ?_
  refine run_sub (subMk (.cons (s := 0) rfl (.cons (s := 1) rfl (.cons (s := 2) rfl (.cons (s := 6) rfl (.cons (s := 7) rfl (.cons (s := 8) rfl .nil)))))) .refl) ?_
  refine run_block ?_
  refine run_sub (subMk (.cons (s := 0) rfl (.cons (s := 1) rfl (.cons (s := 2) rfl (.cons (s := 6) rfl (.cons (s := 7) rfl (.cons (s := 8) rfl .nil)))))) (.cons Sel.here .refl .nil)) ?_
  refine run_loopC0M0 (ι := Unit) (fun _ => True ∧ True)   (fun _ => 0) () (by (try dsimp only); exact ⟨trivial, trivial⟩)   ?_
  rintro - -
  show Run _ _ _ _ _ _ _ ⟨_, _⟩
  refine run_seq ?_
  refine run_seq ?_
  refine run_region ?_
  refine run_q (.none rfl) rfl rfl (q_move rfl rfl) ?_
  refine run_q (.none rfl) rfl rfl (q_move rfl rfl) ?_
  refine run_q (.none rfl) rfl rfl (q_lss rfl rfl rfl) ?_
  refine run_nil ?_
  refine run_condF rfl (decide_eq_false (by omega)) ?_
  refine run_exit rfl ?_
  refine run_sub (subMk .nil .refl) ?_
  refine run_sub (subMk .refl (.cons Sel.here .refl .nil)) ?_
  exact end0 rfl ⟨rfl, rfl⟩

theorem stable_20 (l : List Tup) (A : Option Addr) (ca : Nat) (W : World) (hm : Mem (atAny [.own 46 4 A l.length ca (l.map Tup.enc)]) W [.own 46 4 A l.length ca (l.map Tup.enc)] W) (hl : l.length = 20) : Calls Try.prog 48 #[.slice A l.length ca, .int .i64 (l.length : Int), .func (.func 38) #[] #[]] W (Ret W (atAny [.own 46 4 A l.length ca (l.map Tup.enc)]) (fun v m => v = .tuple #[] ∧ m = [.own 46 4 A l.length ca ((sortR l l.length).map Tup.enc)])) := by
  refine enterA (X := _) (vs := [.slice A l.length ca, .int .i64 (l.length : Int), .func (.func 38) #[] #[]]) Try.func48 Try.ntmps48 rfl rfl hm ?_
  refine run_seq ?_
  refine run_region ?_
  refine run_q (.none rfl) rfl rfl (q_assign rfl rfl) ?_
  refine run_nil ?_
  refine run_seq ?_
  refine run_region ?_
  refine run_q (.none rfl) rfl rfl (q_move rfl rfl) ?_
  refine run_q (.none rfl) rfl rfl (q_assign rfl rfl) ?_
  refine run_q (.none rfl) rfl rfl (q_assign rfl rfl) ?_
  refine run_nil ?_
  refine run_seq ?_
  refine run_block ?_
  refine run_sub (subMk (.cons (s := 7) rfl (.cons (s := 8) rfl (.cons (s := 0) rfl (.cons (s := 1) rfl (.cons (s := 2) rfl (.cons (s := 6) rfl .nil)))))) (.cons Sel.here .refl .nil)) ?_
  refine run_loopC2M1 (ι := Nat) (fun i => i ≤ 1) (fun i => .int .i64 ((i : Int) * 20)) (fun i => .int .i64 ((i : Int) * 20 + 20)) (fun i => .own 46 4 A l.length ca ((if i = 0 then l else sortR l l.length).map Tup.enc)) (fun i => 2 - i) 0 (by (try dsimp only); exact (by omega)) (vint (by (try dsimp only); omega)) (vint (by (try dsimp only); omega)) .refl ?_
  rintro i hi
  (try dsimp only at hi)
  show Run _ _ _ _ _ _ _ ⟨(7, .int .i64 ((i : Int) * 20)) :: (8, .int .i64 ((i : Int) * 20 + 20)) :: _, .own 46 4 A l.length ca ((if i = 0 then l else sortR l l.length).map Tup.enc) :: _⟩
  refine run_seq ?_
  refine run_seq ?_
  refine run_region ?_
  refine run_q (.none rfl) rfl rfl (q_move rfl rfl) ?_
  refine run_q (.none rfl) rfl rfl (q_move rfl rfl) ?_
  refine run_q (.none rfl) rfl rfl (q_leq rfl rfl rfl) ?_
  refine run_nil ?_
  refine run_cond rfl (fun g13 => ?_) (fun g13 => ?_)
  · have g13' := g13
    try simp only [decide_eq_true_eq, decide_eq_false_iff_not, beq_iff_eq, beq_eq_false_iff_ne, bne_iff_ne, bne_eq_false_iff_eq, Bool.not_eq_true', Bool.not_eq_false', ne_eq, Int.not_lt, Int.not_le, Decidable.not_not] at g13'
    obtain rfl : i = 0 := by omega
    refine run_skip ?_
    refine run_block ?_
    refine run_seq ?_
    refine run_sub (subMk (.cons' (s := 7) (v' := .int .i64 0) rfl (vint (by omega)) (.cons' (s := 8) (v' := .int .i64 (l.length : Int)) rfl (vint (by omega)) (.cons (s := 0) rfl (.cons (s := 1) rfl (.cons (s := 2) rfl (.cons (s := 6) rfl (.cons (s := 11) rfl (.cons (s := 12) rfl (.cons (s := 13) rfl .nil))))))))) .refl) ?_
    refine run_region ?_
    refine run_q (.none rfl) rfl rfl (q_move rfl rfl) ?_
    refine run_q (.none rfl) rfl rfl (q_move rfl rfl) ?_
    refine run_q (.none rfl) rfl rfl (q_move rfl rfl) ?_
    refine run_q (.none rfl) rfl rfl (q_move rfl rfl) ?_
    refine run_h (.none rfl) (h_callX [_] _ rfl rfl rfl call49 (.cons rfl (.cons rfl (.cons rfl (.cons rfl Evs.nil)))) (Sel.perm Sel.here) (Y := fun _ => atAny [_]) (fun _ _ h => h) (fun w hk hm => insertion_ret l A ca w ((hm.perm (Sel.perm Sel.here)).give (rs := [_])) (by omega))) ?_
    rintro ⟨v, m⟩ ⟨rfl, rfl⟩
    show Run _ _ _ _ _ _ _ ⟨(18, .tuple #[]) :: _, _ :: _⟩
    refine run_nil ?_
    refine run_sub (subMk (.cons (s := 0) rfl (.cons (s := 1) rfl (.cons (s := 2) rfl (.cons (s := 6) rfl (.cons (s := 7) rfl (.cons (s := 8) rfl .nil)))))) .refl) ?_
    refine run_seq ?_
    refine run_region ?_
    refine run_q (.none rfl) rfl rfl (q_move rfl rfl) ?_
    refine run_q (.none rfl) rfl rfl (q_assign rfl rfl) ?_
    refine run_nil ?_
    refine run_region ?_
    refine run_q (.none rfl) rfl rfl (q_move rfl rfl) ?_
    refine run_q (.none rfl) rfl rfl (q_move rfl rfl) ?_
    refine run_q (.none rfl) rfl rfl (q_add rfl rfl rfl (by omega)) ?_
    refine run_q (.none rfl) rfl rfl (q_assign rfl rfl) ?_
    refine run_nil ?_
    refine run_sub (subMk (.cons (s := 0) rfl (.cons (s := 1) rfl (.cons (s := 2) rfl (.cons (s := 6) rfl (.cons (s := 7) rfl (.cons (s := 8) rfl .nil)))))) .refl) ?_
    refine run_blk ?_
    exact run_again 1 (by (try dsimp only); exact (by omega)) (by (try dsimp only); omega) (subMk (.cons' (s := 7) rfl (vint (by omega)) (.cons' (s := 8) rfl (vint (by omega)) (.cons (s := 0) rfl (.cons (s := 1) rfl (.cons (s := 2) rfl (.cons (s := 6) rfl .nil)))))) (.cons Sel.here .refl .nil))
  · have g13' := g13
    try simp only [decide_eq_true_eq, decide_eq_false_iff_not, beq_iff_eq, beq_eq_false_iff_ne, bne_iff_ne, bne_eq_false_iff_eq, Bool.not_eq_true', Bool.not_eq_false', ne_eq, Int.not_lt, Int.not_le, Decidable.not_not] at g13'
    obtain rfl : i = 1 := by omega
    refine run_exit rfl ?_
    refine run_sub (subMk (.cons (s := 0) rfl (.cons (s := 1) rfl (.cons (s := 2) rfl (.cons (s := 6) rfl (.cons (s := 7) rfl (.cons (s := 8) rfl .nil)))))) .refl) ?_
    refine run_seq ?_
    refine run_sub (subMk (.cons (s := 0) rfl (.cons (s := 1) rfl (.cons (s := 2) rfl (.cons (s := 6) rfl (.cons' (s := 7) (v' := .int .i64 (l.length : Int)) rfl (vint (by omega)) (.cons (s := 8) rfl .nil)))))) .refl) ?_
    refine run_region ?_
    refine run_q (.none rfl) rfl rfl (q_move rfl rfl) ?_
    refine run_q (.none rfl) rfl rfl (q_move rfl rfl) ?_
    refine run_q (.none rfl) rfl rfl (q_move rfl rfl) ?_
    refine run_q (.none rfl) rfl rfl (q_move rfl rfl) ?_
    refine run_h (.none rfl) (h_callX [_] _ rfl rfl rfl call49 (.cons rfl (.cons rfl (.cons rfl (.cons rfl Evs.nil)))) (Sel.perm Sel.here) (Y := fun _ => atAny [_]) (fun _ _ h => h) (fun w hk hm => insertion_none_s l A ca w ((hm.perm (Sel.perm Sel.here)).give (rs := [_])) (by omega))) ?_
    rintro ⟨v, m⟩ ⟨rfl, rfl⟩
    show Run _ _ _ _ _ _ _ ⟨(27, .tuple #[]) :: _, _ :: _⟩
    refine run_nil ?_
    refine run_sub (subMk (.cons (s := 0) rfl (.cons (s := 1) rfl (.cons (s := 2) rfl (.cons (s := 6) rfl (.cons (s := 7) rfl (.cons (s := 8) rfl .nil)))))) .refl) ?_
    refine run_block ?_
    refine run_sub (subMk (.cons (s := 0) rfl (.cons (s := 1) rfl (.cons (s := 2) rfl (.cons (s := 6) rfl (.cons (s := 7) rfl (.cons (s := 8) rfl .nil)))))) (.cons Sel.here .refl .nil)) ?_
    refine run_loopC0M0 (ι := Unit) (fun _ => True ∧ True)   (fun _ => 0) () (by (try dsimp only); exact ⟨trivial, trivial⟩)   ?_
    rintro - -
    show Run _ _ _ _ _ _ _ ⟨_, _⟩
    refine run_seq ?_
    refine run_seq ?_
    refine run_region ?_
    refine run_q (.none rfl) rfl rfl (q_move rfl rfl) ?_
    refine run_q (.none rfl) rfl rfl (q_move rfl rfl) ?_
    refine run_q (.none rfl) rfl rfl (q_lss rfl rfl rfl) ?_
    refine run_nil ?_
    refine run_condF rfl (decide_eq_false (by omega)) ?_
    refine run_exit rfl ?_
    refine run_sub (subMk .nil .refl) ?_
    refine run_sub (subMk .refl (.cons Sel.here .refl .nil)) ?_
    exact end0 rfl ⟨rfl, rfl⟩

end Go.Proofs.Yticofkkkafhpiaa
