/- The law on errors. -/
import Derived.Test.YtomhegnaojejnaaK
set_option linter.unusedSimpArgs false
set_option linter.unusedVariables false
namespace Go.Proofs.Ytomhegnaojejnaa
open Go Go.RowKit Hr

theorem sz5 : Hr.Sz Try.prog 5 1 := Hr.Sz.of (by kernel_rfl)
theorem one5 : Hr.One Try.prog 5 := ⟨fun w => by simp [isAgg, run_underlying Try.underlying5], Hr.Sz.of (by kernel_rfl)⟩

set_option maxRecDepth 100000 in
theorem Place_nil1 (X : Option Addr) (nx cx : Nat) (V : Value) (W : World)  : Calls Try.prog 20 #[.slice X nx cx, .pointer none, V] W (Hr.Just W (.tuple #[.slice none 0 0, .int .i64 1])) := by
  refine Just.of_ret ?_
  refine enterA (X := nX) (vs := [.slice X nx cx, .pointer none, V]) Try.func20 Try.ntmps20 rfl rfl Mem.nil ?_
  refine run_seq ?_
  refine run_region ?_
  refine run_q (.none rfl) rfl rfl (q_assign rfl rfl) ?_
  refine run_q (.none rfl) rfl rfl (q_assign rfl rfl) ?_
  refine run_nil ?_
  refine run_seq ?_
  refine run_block ?_
  refine run_seq ?_
  refine run_region ?_
  refine run_q (.none rfl) rfl rfl (q_move rfl rfl) ?_
  refine run_q (.none rfl) rfl rfl (q_eqlPtr rfl rfl rfl Try.underlying37) ?_
  refine run_q (.none rfl) rfl rfl (q_move rfl rfl) ?_
  refine run_off (.no rfl rfl rfl rfl) rfl rfl ?_
  refine run_off (.no rfl rfl rfl rfl) rfl rfl ?_
  refine run_q (.none rfl) rfl rfl (q_pickT rfl rfl rfl rfl) ?_
  refine run_q (.none rfl) rfl rfl (q_assign rfl rfl) ?_
  refine run_nil ?_
  refine run_sub (subMk (.cons (s := 0) rfl (.cons (s := 1) rfl (.cons (s := 2) rfl (.cons (s := 6) rfl (.cons (s := 7) rfl (.cons (s := 17) rfl .nil)))))) .refl) ?_
  refine run_condT rfl rfl ?_
  refine run_seq ?_
  refine run_region ?_
  refine run_q (.none rfl) rfl rfl (q_assign rfl rfl) ?_
  refine run_q (.none rfl) rfl rfl (q_assign rfl rfl) ?_
  refine run_nil ?_
  refine run_ret ?_
  exact end2 rfl rfl rfl rfl

set_option maxRecDepth 100000 in
theorem Place_nil2 (X : Option Addr) (nx cx : Nat) (u : Addr) (W : World)  : Calls Try.prog 20 #[.slice X nx cx, .pointer (some u), .pointer none] W (Hr.Just W (.tuple #[.slice none 0 0, .int .i64 1])) := by
  refine Just.of_ret ?_
  refine enterA (X := nX) (vs := [.slice X nx cx, .pointer (some u), .pointer none]) Try.func20 Try.ntmps20 rfl rfl Mem.nil ?_
  refine run_seq ?_
  refine run_region ?_
  refine run_q (.none rfl) rfl rfl (q_assign rfl rfl) ?_
  refine run_q (.none rfl) rfl rfl (q_assign rfl rfl) ?_
  refine run_nil ?_
  refine run_seq ?_
  refine run_block ?_
  refine run_seq ?_
  refine run_region ?_
  refine run_q (.none rfl) rfl rfl (q_move rfl rfl) ?_
  refine run_q (.none rfl) rfl rfl (q_eqlPtr rfl rfl rfl Try.underlying37) ?_
  refine run_q (.none rfl) rfl rfl (q_move rfl rfl) ?_
  refine run_q (.on rfl rfl rfl rfl) rfl rfl (q_move rfl rfl) ?_
  refine run_q (.on rfl rfl rfl rfl) rfl rfl (q_eqlPtr rfl rfl rfl Try.underlying37) ?_
  refine run_q (.none rfl) rfl rfl (q_pickF rfl rfl rfl rfl) ?_
  refine run_q (.none rfl) rfl rfl (q_assign rfl rfl) ?_
  refine run_nil ?_
  refine run_sub (subMk (.cons (s := 0) rfl (.cons (s := 1) rfl (.cons (s := 2) rfl (.cons (s := 6) rfl (.cons (s := 7) rfl (.cons (s := 17) rfl .nil)))))) .refl) ?_
  refine run_condT rfl rfl ?_
  refine run_seq ?_
  refine run_region ?_
  refine run_q (.none rfl) rfl rfl (q_assign rfl rfl) ?_
  refine run_q (.none rfl) rfl rfl (q_assign rfl rfl) ?_
  refine run_nil ?_
  refine run_ret ?_
  exact end2 rfl rfl rfl rfl

set_option maxRecDepth 100000 in
theorem Place_side (X : Option Addr) (nx cx : Nat) (p : Nat) (A : Option Addr) (n c : Nat) (u : Addr) (W : World) (o : List Int) (hon : o.length = n) (hb : Rd W (some ⟨p, 0, none⟩) 2 [[.int .i64 (-1), .slice A n c]]) : Calls Try.prog 20 #[.slice X nx cx, .pointer (some ((adr (some ⟨p, 0, none⟩)).add (0 * 2))), .pointer (some u)] W (Hr.Just W (.tuple #[.slice none 0 0, .int .i64 11])) := by
  refine Just.of_ret ?_
  refine enterA (X := nX) (vs := [.slice X nx cx, .pointer (some ((adr (some ⟨p, 0, none⟩)).add (0 * 2))), .pointer (some u)]) Try.func20 Try.ntmps20 rfl rfl Mem.nil ?_
  refine run_seq ?_
  refine run_region ?_
  refine run_q (.none rfl) rfl rfl (q_assign rfl rfl) ?_
  refine run_q (.none rfl) rfl rfl (q_assign rfl rfl) ?_
  refine run_nil ?_
  refine run_seq ?_
  refine run_block ?_
  refine run_seq ?_
  refine run_region ?_
  refine run_q (.none rfl) rfl rfl (q_move rfl rfl) ?_
  refine run_q (.none rfl) rfl rfl (q_eqlPtr rfl rfl rfl Try.underlying37) ?_
  refine run_q (.none rfl) rfl rfl (q_move rfl rfl) ?_
  refine run_q (.on rfl rfl rfl rfl) rfl rfl (q_move rfl rfl) ?_
  refine run_q (.on rfl rfl rfl rfl) rfl rfl (q_eqlPtr rfl rfl rfl Try.underlying37) ?_
  refine run_q (.none rfl) rfl rfl (q_pickF rfl rfl rfl rfl) ?_
  refine run_q (.none rfl) rfl rfl (q_assign rfl rfl) ?_
  refine run_nil ?_
  refine run_sub (subMk (.cons (s := 0) rfl (.cons (s := 1) rfl (.cons (s := 2) rfl (.cons (s := 6) rfl (.cons (s := 7) rfl (.cons (s := 17) rfl .nil)))))) .refl) ?_
  refine run_condF rfl rfl ?_
  refine run_seq ?_
  refine run_region ?_
  refine run_q (.none rfl) rfl rfl (q_move rfl rfl) ?_
  refine run_q (.none rfl) rfl rfl (q_call rfl call43 (.cons rfl Evs.nil) (fun w hk hm => side_just o p A c (-1) n w hon (hb.kept0 hk))) ?_
  refine run_q (.none rfl) rfl rfl (q_neq rfl rfl rfl) ?_
  refine run_q (.none rfl) rfl rfl (q_move rfl rfl) ?_
  refine run_off (.no rfl rfl rfl rfl) rfl rfl ?_
  refine run_off (.no rfl rfl rfl rfl) rfl rfl ?_
  refine run_off (.no rfl rfl rfl rfl) rfl rfl ?_
  refine run_q (.none rfl) rfl rfl (q_pickT rfl rfl rfl rfl) ?_
  refine run_q (.none rfl) rfl rfl (q_assign rfl rfl) ?_
  refine run_nil ?_
  refine run_sub (subMk (.cons (s := 0) rfl (.cons (s := 1) rfl (.cons (s := 2) rfl (.cons (s := 6) rfl (.cons (s := 7) rfl (.cons (s := 24) rfl .nil)))))) .refl) ?_
  refine run_condT rfl rfl ?_
  refine run_seq ?_
  refine run_region ?_
  refine run_q (.none rfl) rfl rfl (q_assign rfl rfl) ?_
  refine run_q (.none rfl) rfl rfl (q_assign rfl rfl) ?_
  refine run_nil ?_
  refine run_ret ?_
  exact end2 rfl rfl rfl rfl

set_option maxRecDepth 100000 in
theorem Place_cols (X : Option Addr) (nx cx p q : Nat) (A B : Option Addr) (n n2 c d : Nat) (W : World) (o o2 : List Int) (h1 : o.length = n) (h2 : o2.length = n2) (hb : Rd W (some ⟨p, 0, none⟩) 2 [[.int .i64 1, .slice A n c]]) (hb2 : Rd W (some ⟨q, 0, none⟩) 2 [[.int .i64 (-1), .slice B n2 d]]) (hne : n ≠ n2) : Calls Try.prog 20 #[.slice X nx cx, .pointer (some ((adr (some ⟨p, 0, none⟩)).add (0 * 2))), .pointer (some ((adr (some ⟨q, 0, none⟩)).add (0 * 2)))] W (Hr.Just W (.tuple #[.slice none 0 0, .int .i64 2])) := by
  refine Just.of_ret ?_
  refine enterA (X := nX) (vs := [.slice X nx cx, .pointer (some ((adr (some ⟨p, 0, none⟩)).add (0 * 2))), .pointer (some ((adr (some ⟨q, 0, none⟩)).add (0 * 2)))]) Try.func20 Try.ntmps20 rfl rfl Mem.nil ?_
  refine run_seq ?_
  refine run_region ?_
  refine run_q (.none rfl) rfl rfl (q_assign rfl rfl) ?_
  refine run_q (.none rfl) rfl rfl (q_assign rfl rfl) ?_
  refine run_nil ?_
  refine run_seq ?_
  refine run_block ?_
  refine run_seq ?_
  refine run_region ?_
  refine run_q (.none rfl) rfl rfl (q_move rfl rfl) ?_
  refine run_q (.none rfl) rfl rfl (q_eqlPtr rfl rfl rfl Try.underlying37) ?_
  refine run_q (.none rfl) rfl rfl (q_move rfl rfl) ?_
  refine run_q (.on rfl rfl rfl rfl) rfl rfl (q_move rfl rfl) ?_
  refine run_q (.on rfl rfl rfl rfl) rfl rfl (q_eqlPtr rfl rfl rfl Try.underlying37) ?_
  refine run_q (.none rfl) rfl rfl (q_pickF rfl rfl rfl rfl) ?_
  refine run_q (.none rfl) rfl rfl (q_assign rfl rfl) ?_
  refine run_nil ?_
  refine run_sub (subMk (.cons (s := 0) rfl (.cons (s := 1) rfl (.cons (s := 2) rfl (.cons (s := 6) rfl (.cons (s := 7) rfl (.cons (s := 17) rfl .nil)))))) .refl) ?_
  refine run_condF rfl rfl ?_
  refine run_seq ?_
  refine run_region ?_
  refine run_q (.none rfl) rfl rfl (q_move rfl rfl) ?_
  refine run_q (.none rfl) rfl rfl (q_call rfl call43 (.cons rfl Evs.nil) (fun w hk hm => side_just o p A c 1 n w h1 (hb.kept0 hk))) ?_
  refine run_q (.none rfl) rfl rfl (q_neq rfl rfl rfl) ?_
  refine run_q (.none rfl) rfl rfl (q_move rfl rfl) ?_
  refine run_q (.on rfl rfl rfl rfl) rfl rfl (q_move rfl rfl) ?_
  refine run_q (.on rfl rfl rfl rfl) rfl rfl (q_call rfl call43 (.cons rfl Evs.nil) (fun w hk hm => side_just o2 q B d (-1) n2 w h2 (hb2.kept0 hk))) ?_
  refine run_q (.on rfl rfl rfl rfl) rfl rfl (q_neq rfl rfl rfl) ?_
  refine run_q (.none rfl) rfl rfl (q_pickF rfl rfl rfl rfl) ?_
  refine run_q (.none rfl) rfl rfl (q_assign rfl rfl) ?_
  refine run_nil ?_
  refine run_sub (subMk (.cons (s := 0) rfl (.cons (s := 1) rfl (.cons (s := 2) rfl (.cons (s := 6) rfl (.cons (s := 7) rfl (.cons (s := 24) rfl .nil)))))) .refl) ?_
  refine run_condF rfl rfl ?_
  refine run_seq ?_
  refine run_region ?_
  refine run_q (.none rfl) rfl rfl (q_move rfl rfl) ?_
  refine run_q (.none rfl) rfl rfl (q_call rfl call44 (.cons rfl Evs.nil) (fun w hk hm => cols_just o p A c 1 n w h1 (hb.kept0 hk))) ?_
  refine run_q (.none rfl) rfl rfl (q_move rfl rfl) ?_
  refine run_q (.none rfl) rfl rfl (q_call rfl call44 (.cons rfl Evs.nil) (fun w hk hm => cols_just o2 q B d (-1) n2 w h2 (hb2.kept0 hk))) ?_
  refine run_q (.none rfl) rfl rfl (q_neq rfl rfl rfl) ?_
  refine run_q (.none rfl) rfl rfl (q_assign rfl rfl) ?_
  refine run_nil ?_
  refine run_sub (subMk (.cons (s := 0) rfl (.cons (s := 1) rfl (.cons (s := 2) rfl (.cons (s := 6) rfl (.cons (s := 7) rfl (.cons (s := 33) rfl .nil)))))) .refl) ?_
  refine run_condT rfl (bne_iff_ne.2 (by omega)) ?_
  refine run_seq ?_
  refine run_region ?_
  refine run_q (.none rfl) rfl rfl (q_assign rfl rfl) ?_
  refine run_q (.none rfl) rfl rfl (q_assign rfl rfl) ?_
  refine run_nil ?_
  refine run_ret ?_
  exact end2 rfl rfl rfl rfl

set_option maxHeartbeats 2000000 in
set_option maxRecDepth 100000 in
theorem law6_just (l : List Spn) (X : Option Addr) (cx : Nat) (c0 c1 : Int) (W : World) (hx : Rd W X 12 (l.map Spn.enc)) (h0 : 0 ≤ c0 ∧ c0 ≤ 255) (h1 : 0 ≤ c1 ∧ c1 ≤ 255) : Calls Try.prog 6 #[.slice X l.length cx, .agg #[.int .u8 c0, .int .u8 c1]] W (Hr.Just W (.bool true)) := by
  obtain ⟨nA, hnA, hnA2⟩ : ∃ n : Nat, (n : Int) = 1 + c0 % 30 ∧ 1 ≤ n ∧ n ≤ 30 := ⟨(1 + c0 % 30).toNat, by omega, by omega⟩
  obtain ⟨nB, hnB, hnB2⟩ : ∃ n : Nat, (n : Int) = 1 + c1 % 30 ∧ 1 ≤ n ∧ n ≤ 30 := ⟨(1 + c1 % 30).toNat, by omega, by omega⟩
  refine Just.of_ret ?_
  refine enterA (X := nX) (vs := [.slice X l.length cx, .agg #[.int .u8 c0, .int .u8 c1]]) Try.func6 Try.ntmps6 rfl rfl Mem.nil ?_
  refine run_seq ?_
  refine run_region ?_
  refine run_h (.none rfl) (h_box rfl rfl rfl rfl rfl) ?_
  rintro b3 -
  refine run_q (.none rfl) rfl rfl (q_assign rfl rfl) ?_
  refine run_nil ?_
  refine run_seq ?_
  refine run_seq ?_
  refine run_region ?_
  refine run_q (.none rfl) rfl rfl (q_call rfl call12 Evs.nil (fun w hk hm => known_just w)) ?_
  refine run_q (.none rfl) rfl rfl (q_not rfl rfl) ?_
  refine run_q (.none rfl) rfl rfl (q_move rfl rfl) ?_
  refine run_q (.on rfl rfl rfl rfl) rfl rfl (q_move rfl rfl) ?_
  refine run_q (.on rfl rfl rfl rfl) rfl rfl (q_len rfl Try.underlying30 rfl) ?_
  refine run_q (.on rfl rfl rfl rfl) rfl rfl (q_gtr rfl rfl rfl) ?_
  refine run_q (.none rfl) rfl rfl (q_pickF rfl rfl rfl rfl) ?_
  refine run_nil ?_
  refine run_sub (subMk (.cons (s := 0) rfl (.cons (s := 3) rfl (.cons (s := 4) rfl (.cons (s := 25) rfl .nil)))) .refl) ?_
  refine run_cond rfl (fun g25 => ?_) (fun g25 => ?_)
  · have g25' := g25
    try simp only [decide_eq_true_eq, decide_eq_false_iff_not, beq_iff_eq, beq_eq_false_iff_ne, bne_iff_ne, bne_eq_false_iff_eq, Bool.not_eq_true', Bool.not_eq_false', ne_eq, Int.not_lt, Int.not_le, Decidable.not_not] at g25'
    refine run_seq ?_
    refine run_region ?_
    refine run_q (.none rfl) rfl rfl (q_call rfl call12 Evs.nil (fun w hk hm => known_just w)) ?_
    refine run_q (.none rfl) rfl rfl (q_assign rfl rfl) ?_
    refine run_nil ?_
    refine run_ret ?_
    exact end1 rfl rfl rfl
  · have g25' := g25
    try simp only [decide_eq_true_eq, decide_eq_false_iff_not, beq_iff_eq, beq_eq_false_iff_ne, bne_iff_ne, bne_eq_false_iff_eq, Bool.not_eq_true', Bool.not_eq_false', ne_eq, Int.not_lt, Int.not_le, Decidable.not_not] at g25'
    refine run_skip ?_
    refine run_seq ?_
    refine run_draw [(0, 0), (1, 0), (2, 0), (3, 0), (4, 0), (5, 0), (6, 0), (7, 0), (8, 0), (9, 0), (10, 0), (11, 0)] mixed (by kernel_rfl) .refl ?_
    refine d_q rfl rfl (.none rfl) rfl rfl (q_indexB (q := 0) (d := 0) rfl Try.underlying51 sz5 rfl rfl rfl (by decide) rfl) ?_
    refine d_q rfl rfl (.none rfl) rfl rfl (q_loadB rfl one5 rfl Sel.here rfl) ?_
    refine d_q rfl rfl (.none rfl) rfl rfl (q_convert' rfl rfl Try.underlying5 Try.underlying3 (by rw [IntKind.wrap_i64]; omega)) ?_
    refine d_q rfl rfl (.none rfl) rfl rfl (q_rem rfl rfl rfl (by omega)) ?_
    refine d_q rfl rfl (.none rfl) rfl rfl (q_add rfl rfl rfl (by omega)) ?_
    refine d_q rfl rfl (.none rfl) rfl rfl (q_indexB (q := 1) (d := 1) rfl Try.underlying51 sz5 rfl rfl rfl (by decide) rfl) ?_
    refine d_q rfl rfl (.none rfl) rfl rfl (q_loadB rfl one5 rfl Sel.here rfl) ?_
    refine d_q rfl rfl (.none rfl) rfl rfl (q_convert' rfl rfl Try.underlying5 Try.underlying3 (by rw [IntKind.wrap_i64]; omega)) ?_
    refine d_q rfl rfl (.none rfl) rfl rfl (q_rem rfl rfl rfl (by omega)) ?_
    refine d_q rfl rfl (.none rfl) rfl rfl (q_add rfl rfl rfl (by omega)) ?_
    refine d_q rfl rfl (.none rfl) rfl rfl (q_assign rfl rfl) ?_
    refine d_q rfl rfl (.none rfl) rfl rfl (q_assign rfl rfl) ?_
    refine d_nil ?_
    refine run_sub (subMk (.cons (s := 0) rfl (.cons (s := 4) rfl (.cons (s := 5) rfl (.cons (s := 6) rfl .nil)))) .refl) ?_
    refine run_seq ?_
    refine run_sub (subMk (.cons (s := 0) rfl (.cons (s := 4) rfl (.cons' (s := 5) (v' := .int .i64 (nA : Int)) rfl (vint (by omega)) (.cons' (s := 6) (v' := .int .i64 (nB : Int)) rfl (vint (by omega)) .nil)))) .refl) ?_
    refine run_region ?_
    refine run_q (.none rfl) rfl rfl (q_move rfl rfl) ?_
    refine run_h (.none rfl) (h_call rfl rfl rfl call21 (.cons rfl (.cons rfl (.cons rfl Evs.nil))) (fun w hk hm => new_ret 1 0 nA w (.inl rfl) ⟨by omega, by omega⟩ (by decide))) ?_
    rintro ⟨v, m⟩ ⟨pa, A, ca, rfl, hca, rfl⟩
    show Run _ _ _ _ _ _ _ ⟨(39, .tuple #[.pointer (some ⟨pa, 0, none⟩), .int .i64 0]) :: _, _ :: _ :: _⟩
    refine run_q (.none rfl) rfl rfl (q_move rfl rfl) ?_
    refine run_q (.none rfl) rfl rfl (q_extract rfl rfl rfl) ?_
    refine run_q (.none rfl) rfl rfl (q_extract rfl rfl rfl) ?_
    refine run_q (.none rfl) rfl rfl (q_assign rfl rfl) ?_
    refine run_q (.none rfl) rfl rfl (q_assign rfl rfl) ?_
    refine run_nil ?_
    refine run_sub (subMk (.cons (s := 0) rfl (.cons (s := 4) rfl (.cons (s := 5) rfl (.cons (s := 6) rfl (.cons (s := 7) rfl (.cons (s := 8) rfl .nil)))))) .refl) ?_
    refine run_seq ?_
    refine run_region ?_
    refine run_q (.none rfl) rfl rfl (q_move rfl rfl) ?_
    refine run_h (.none rfl) (h_call rfl rfl rfl call21 (.cons rfl (.cons rfl (.cons rfl Evs.nil))) (fun w hk hm => new_ret (-1) 0 nB w (.inr rfl) ⟨by omega, by omega⟩ (by decide))) ?_
    rintro ⟨v, m⟩ ⟨pb, B, cb, rfl, hcb, rfl⟩
    show Run _ _ _ _ _ _ _ ⟨(44, .tuple #[.pointer (some ⟨pb, 0, none⟩), .int .i64 0]) :: _, _ :: _ :: _⟩
    refine run_q (.none rfl) rfl rfl (q_move rfl rfl) ?_
    refine run_q (.none rfl) rfl rfl (q_extract rfl rfl rfl) ?_
    refine run_q (.none rfl) rfl rfl (q_extract rfl rfl rfl) ?_
    refine run_q (.none rfl) rfl rfl (q_assign rfl rfl) ?_
    refine run_q (.none rfl) rfl rfl (q_assign rfl rfl) ?_
    refine run_nil ?_
    refine run_sub (subMk (.cons (s := 0) rfl (.cons (s := 4) rfl (.cons (s := 5) rfl (.cons (s := 6) rfl (.cons (s := 7) rfl (.cons (s := 8) rfl (.cons (s := 9) rfl (.cons (s := 10) rfl .nil)))))))) .refl) ?_
    refine run_seq ?_
    refine run_region ?_
    refine run_q (.none rfl) rfl rfl (q_move rfl rfl) ?_
    refine run_q (.none rfl) rfl rfl (q_move rfl rfl) ?_
    refine run_q (.none rfl) rfl rfl (q_call rfl call20 (.cons rfl (.cons rfl (.cons rfl Evs.nil))) (fun w hk hm => Place_nil1 X _ cx _ w)) ?_
    refine run_q (.none rfl) rfl rfl (q_move rfl rfl) ?_
    refine run_q (.none rfl) rfl rfl (q_extract rfl rfl rfl) ?_
    refine run_q (.none rfl) rfl rfl (q_extract rfl rfl rfl) ?_
    refine run_q (.none rfl) rfl rfl (q_assign rfl rfl) ?_
    refine run_q (.none rfl) rfl rfl (q_assign rfl rfl) ?_
    refine run_nil ?_
    refine run_sub (subMk (.cons (s := 0) rfl (.cons (s := 4) rfl (.cons (s := 5) rfl (.cons (s := 6) rfl (.cons (s := 7) rfl (.cons (s := 8) rfl (.cons (s := 9) rfl (.cons (s := 10) rfl (.cons (s := 12) rfl .nil))))))))) .refl) ?_
    refine run_seq ?_
    refine run_region ?_
    refine run_q (.none rfl) rfl rfl (q_move rfl rfl) ?_
    refine run_q (.none rfl) rfl rfl (q_move rfl rfl) ?_
    refine run_q (.none rfl) rfl rfl (q_call rfl call20 (.cons rfl (.cons rfl (.cons rfl Evs.nil))) (fun w hk hm => Place_nil2 X _ cx ⟨pa, 0, none⟩ w)) ?_
    refine run_q (.none rfl) rfl rfl (q_move rfl rfl) ?_
    refine run_q (.none rfl) rfl rfl (q_extract rfl rfl rfl) ?_
    refine run_q (.none rfl) rfl rfl (q_extract rfl rfl rfl) ?_
    refine run_q (.none rfl) rfl rfl (q_assign rfl rfl) ?_
    refine run_q (.none rfl) rfl rfl (q_assign rfl rfl) ?_
    refine run_nil ?_
    refine run_sub (subMk (.cons (s := 0) rfl (.cons (s := 4) rfl (.cons (s := 5) rfl (.cons (s := 6) rfl (.cons (s := 7) rfl (.cons (s := 8) rfl (.cons (s := 9) rfl (.cons (s := 10) rfl (.cons (s := 12) rfl (.cons (s := 14) rfl .nil)))))))))) .refl) ?_
    refine run_seq ?_
    refine run_region ?_
    refine run_q (.none rfl) rfl rfl (q_move rfl rfl) ?_
    refine run_q (.none rfl) rfl rfl (q_move rfl rfl) ?_
    refine run_q (.none rfl) rfl rfl (q_move rfl rfl) ?_
    refine run_q (.none rfl) rfl rfl (q_call rfl call20 (.cons rfl (.cons rfl (.cons rfl Evs.nil))) (fun w hk hm => Place_side X _ cx pb B nB cb ⟨pa, 0, none⟩ w (List.replicate nB ((-1) * 0)) (rep_len _ _) (rd_sky (Sel.here.holds hm)))) ?_
    refine run_q (.none rfl) rfl rfl (q_move rfl rfl) ?_
    refine run_q (.none rfl) rfl rfl (q_extract rfl rfl rfl) ?_
    refine run_q (.none rfl) rfl rfl (q_extract rfl rfl rfl) ?_
    refine run_q (.none rfl) rfl rfl (q_assign rfl rfl) ?_
    refine run_q (.none rfl) rfl rfl (q_assign rfl rfl) ?_
    refine run_nil ?_
    refine run_sub (subMk (.cons (s := 0) rfl (.cons (s := 4) rfl (.cons (s := 5) rfl (.cons (s := 6) rfl (.cons (s := 7) rfl (.cons (s := 8) rfl (.cons (s := 9) rfl (.cons (s := 10) rfl (.cons (s := 12) rfl (.cons (s := 14) rfl (.cons (s := 16) rfl .nil))))))))))) .refl) ?_
    refine run_seq ?_
    by_cases heq : nA = nB
    · subst heq
      refine run_region ?_
      refine run_q (.none rfl) rfl rfl (q_move rfl rfl) ?_
      refine run_q (.none rfl) rfl rfl (q_move rfl rfl) ?_
      refine run_q (.none rfl) rfl rfl (q_move rfl rfl) ?_
      refine run_h (.none rfl) (h_callX [_, _, _, _] _ rfl rfl rfl call20 (.cons rfl (.cons rfl (.cons rfl Evs.nil))) ((Sel.perm (.there (.there Sel.here))).trans (.cons _ ((Sel.perm (.there (.there Sel.here))).trans (.cons _ ((Sel.perm Sel.here).trans (.cons _ (Sel.perm Sel.here))))))) (Y := fun _ => atAny [_, _, _, _]) (fun _ _ h => h) (fun w hk hm => Place_ret l X cx (List.replicate nA (1 * 0)) (List.replicate nA ((-1) * 0)) pa pb A B ca cb nA w (rep_len _ _) (rep_len _ _) ((hm.perm ((Sel.perm (.there (.there Sel.here))).trans (.cons _ ((Sel.perm (.there (.there Sel.here))).trans (.cons _ ((Sel.perm Sel.here).trans (.cons _ (Sel.perm Sel.here)))))))).give (rs := [_, _, _, _])) (keep_inp hx hk (hm.perm ((Sel.perm (.there (.there Sel.here))).trans (.cons _ ((Sel.perm (.there (.there Sel.here))).trans (.cons _ ((Sel.perm Sel.here).trans (.cons _ (Sel.perm Sel.here))))))))) (by omega) (by omega) (rep_bd (by decide)) (rep_bd (by decide)))) ?_
      rintro ⟨v, m⟩ ⟨O, co, rfl, rfl⟩
      show Run _ _ _ _ _ _ _ ⟨(70, .tuple #[.slice O (slpM l (List.replicate nA (1 * 0)) (List.replicate nA ((-1) * 0))).length co, .int .i64 (slpE l (List.replicate nA (1 * 0)) (List.replicate nA ((-1) * 0)))]) :: _, _ :: _ :: _ :: _ :: _ :: _⟩
      refine run_q (.none rfl) rfl rfl (q_move rfl rfl) ?_
      refine run_q (.none rfl) rfl rfl (q_extract rfl rfl rfl) ?_
      refine run_q (.none rfl) rfl rfl (q_extract rfl rfl rfl) ?_
      refine run_q (.none rfl) rfl rfl (q_assign rfl rfl) ?_
      refine run_q (.none rfl) rfl rfl (q_assign rfl rfl) ?_
      refine run_nil ?_
      refine run_sub (subMk (.cons (s := 4) rfl (.cons (s := 5) rfl (.cons (s := 6) rfl (.cons (s := 8) rfl (.cons (s := 10) rfl (.cons (s := 12) rfl (.cons (s := 14) rfl (.cons (s := 16) rfl (.cons (s := 18) rfl .nil))))))))) .refl) ?_
      refine run_seq ?_
      refine run_region ?_
      refine run_q (.none rfl) rfl rfl (q_move rfl rfl) ?_
      refine run_q (.none rfl) rfl rfl (q_eql rfl rfl rfl) ?_
      refine run_q (.none rfl) rfl rfl (q_move rfl rfl) ?_
      refine run_q (.on rfl rfl rfl rfl) rfl rfl (q_move rfl rfl) ?_
      refine run_q (.on rfl rfl rfl rfl) rfl rfl (q_eql rfl rfl rfl) ?_
      refine run_q (.none rfl) rfl rfl (q_pickT rfl rfl rfl rfl) ?_
      refine run_q (.none rfl) rfl rfl (q_move rfl rfl) ?_
      refine run_q (.on rfl rfl rfl rfl) rfl rfl (q_move rfl rfl) ?_
      refine run_q (.on rfl rfl rfl rfl) rfl rfl (q_eql rfl rfl rfl) ?_
      refine run_q (.none rfl) rfl rfl (q_pickT rfl rfl rfl rfl) ?_
      refine run_q (.none rfl) rfl rfl (q_move rfl rfl) ?_
      refine run_q (.on rfl rfl rfl rfl) rfl rfl (q_move rfl rfl) ?_
      refine run_q (.on rfl rfl rfl rfl) rfl rfl (q_eql rfl rfl rfl) ?_
      refine run_q (.none rfl) rfl rfl (q_pickT rfl rfl rfl rfl) ?_
      refine run_q (.none rfl) rfl rfl (q_move rfl rfl) ?_
      refine run_q (.on rfl rfl rfl rfl) rfl rfl (q_move rfl rfl) ?_
      refine run_q (.on rfl rfl rfl rfl) rfl rfl (q_eql rfl rfl rfl) ?_
      refine run_q (.none rfl) rfl rfl (q_pickT rfl rfl rfl rfl) ?_
      refine run_q (.none rfl) rfl rfl (q_move rfl rfl) ?_
      refine run_q (.on rfl rfl rfl rfl) rfl rfl (q_move rfl rfl) ?_
      refine run_q (.on rfl rfl rfl rfl) rfl rfl (q_move rfl rfl) ?_
      refine run_q (.on rfl rfl rfl rfl) rfl rfl (q_eql rfl rfl rfl) ?_
      refine run_q (.on rfl rfl rfl rfl) rfl rfl (q_move rfl rfl) ?_
      refine run_off (.no rfl rfl rfl (by simp)) rfl rfl ?_
      refine run_off (.no rfl rfl rfl (by simp)) rfl rfl ?_
      refine run_q (.on rfl rfl rfl rfl) rfl rfl (q_pickT rfl rfl (by simp) rfl) ?_
      refine run_q (.none rfl) rfl rfl (q_pickT rfl rfl rfl rfl) ?_
      refine run_q (.none rfl) rfl rfl (q_assign rfl rfl) ?_
      refine run_nil ?_
      refine run_sub (subMk (.cons (s := 4) rfl .nil) .refl) ?_
      refine run_ret ?_
      exact end1 rfl rfl rfl
    · refine run_region ?_
      refine run_q (.none rfl) rfl rfl (q_move rfl rfl) ?_
      refine run_q (.none rfl) rfl rfl (q_move rfl rfl) ?_
      refine run_q (.none rfl) rfl rfl (q_move rfl rfl) ?_
      refine run_q (.none rfl) rfl rfl (q_call rfl call20 (.cons rfl (.cons rfl (.cons rfl Evs.nil))) (fun w hk hm => Place_cols X _ cx pa pb A B nA nB ca cb w (List.replicate nA (1 * 0)) (List.replicate nB ((-1) * 0)) (rep_len _ _) (rep_len _ _) (rd_sky ((Sel.there (Sel.there Sel.here)).holds hm)) (rd_sky (Sel.here.holds hm)) heq)) ?_
      refine run_q (.none rfl) rfl rfl (q_move rfl rfl) ?_
      refine run_q (.none rfl) rfl rfl (q_extract rfl rfl rfl) ?_
      refine run_q (.none rfl) rfl rfl (q_extract rfl rfl rfl) ?_
      refine run_q (.none rfl) rfl rfl (q_assign rfl rfl) ?_
      refine run_q (.none rfl) rfl rfl (q_assign rfl rfl) ?_
      refine run_nil ?_
      refine run_sub (subMk (.cons (s := 4) rfl (.cons (s := 5) rfl (.cons (s := 6) rfl (.cons (s := 8) rfl (.cons (s := 10) rfl (.cons (s := 12) rfl (.cons (s := 14) rfl (.cons (s := 16) rfl (.cons (s := 18) rfl .nil))))))))) .refl) ?_
      refine run_seq ?_
      refine run_region ?_
      refine run_q (.none rfl) rfl rfl (q_move rfl rfl) ?_
      refine run_q (.none rfl) rfl rfl (q_eql rfl rfl rfl) ?_
      refine run_q (.none rfl) rfl rfl (q_move rfl rfl) ?_
      refine run_q (.on rfl rfl rfl rfl) rfl rfl (q_move rfl rfl) ?_
      refine run_q (.on rfl rfl rfl rfl) rfl rfl (q_eql rfl rfl rfl) ?_
      refine run_q (.none rfl) rfl rfl (q_pickT rfl rfl rfl rfl) ?_
      refine run_q (.none rfl) rfl rfl (q_move rfl rfl) ?_
      refine run_q (.on rfl rfl rfl rfl) rfl rfl (q_move rfl rfl) ?_
      refine run_q (.on rfl rfl rfl rfl) rfl rfl (q_eql rfl rfl rfl) ?_
      refine run_q (.none rfl) rfl rfl (q_pickT rfl rfl rfl rfl) ?_
      refine run_q (.none rfl) rfl rfl (q_move rfl rfl) ?_
      refine run_q (.on rfl rfl rfl rfl) rfl rfl (q_move rfl rfl) ?_
      refine run_q (.on rfl rfl rfl rfl) rfl rfl (q_eql rfl rfl rfl) ?_
      refine run_q (.none rfl) rfl rfl (q_pickT rfl rfl rfl rfl) ?_
      refine run_q (.none rfl) rfl rfl (q_move rfl rfl) ?_
      refine run_q (.on rfl rfl rfl rfl) rfl rfl (q_move rfl rfl) ?_
      refine run_q (.on rfl rfl rfl rfl) rfl rfl (q_eql rfl rfl rfl) ?_
      refine run_q (.none rfl) rfl rfl (q_pickT rfl rfl rfl rfl) ?_
      refine run_q (.none rfl) rfl rfl (q_move rfl rfl) ?_
      refine run_q (.on rfl rfl rfl rfl) rfl rfl (q_move rfl rfl) ?_
      refine run_q (.on rfl rfl rfl rfl) rfl rfl (q_move rfl rfl) ?_
      refine run_q (.on rfl rfl rfl rfl) rfl rfl (q_eql rfl rfl rfl) ?_
      refine run_q (.on rfl rfl rfl rfl) rfl rfl (q_move rfl rfl) ?_
      refine run_q (.on rfl rfl rfl (by simp; omega)) rfl rfl (q_move rfl rfl) ?_
      refine run_q (.on rfl rfl rfl (by simp; omega)) rfl rfl (q_eql rfl rfl rfl) ?_
      refine run_q (.on rfl rfl rfl rfl) rfl rfl (q_pickF rfl rfl (by simp; omega) rfl) ?_
      refine run_q (.none rfl) rfl rfl (q_pickT rfl rfl rfl rfl) ?_
      refine run_q (.none rfl) rfl rfl (q_assign rfl rfl) ?_
      refine run_nil ?_
      refine run_sub (subMk (.cons (s := 4) rfl .nil) .refl) ?_
      refine run_ret ?_
      exact end1 rfl rfl rfl

end Go.Proofs.Ytomhegnaojejnaa
