/- The law on missing skylines. -/
import Derived.Test.YtgphmbipakdggaaRQ
set_option linter.unusedSimpArgs false
set_option linter.unusedVariables false
namespace Go.Proofs.YtgphmbipakdggaaR
open Go Go.RowKit Hr



set_option maxRecDepth 100000 in
theorem Place_nil1 (X : Option Addr) (nx cx : Nat) (V : Value) (W : World)  : Calls Try.prog 19 #[.slice X nx cx, .pointer none, V] W (Hr.Just W (.tuple #[.slice none 0 0, .int .i64 1])) := by
  refine Just.of_ret ?_
  refine enterA (X := nX) (vs := [.slice X nx cx, .pointer none, V]) Try.func19 Try.ntmps19 rfl rfl Mem.nil ?_
  refine run_seq ?_
  refine run_region ?_
  refine run_q (.none rfl) rfl rfl (q_assign rfl rfl) ?_
  refine run_q (.none rfl) rfl rfl (q_assign rfl rfl) ?_
  refine run_nil ?_
  refine run_seq ?_
  refine run_block ?_
  refine run_seq ?_
  refine run_region ?_
  refine run_q (.none rfl) rfl rfl (q_move rfl rfl) ?_
  refine run_q (.none rfl) rfl rfl (q_eqlPtr rfl rfl rfl Try.underlying41) ?_
  refine run_q (.none rfl) rfl rfl (q_move rfl rfl) ?_
  refine run_off (.no rfl rfl rfl rfl) rfl rfl ?_
  refine run_off (.no rfl rfl rfl rfl) rfl rfl ?_
  refine run_q (.none rfl) rfl rfl (q_pickT rfl rfl rfl rfl) ?_
  refine run_q (.none rfl) rfl rfl (q_assign rfl rfl) ?_
  refine run_nil ?_
  refine run_sub (subMk (.cons (s := 0) rfl (.cons (s := 1) rfl (.cons (s := 2) rfl (.cons (s := 6) rfl (.cons (s := 7) rfl (.cons (s := 17) rfl .nil)))))) .refl) ?_
  refine run_condT rfl rfl ?_
  refine run_seq ?_
  refine run_region ?_
  refine run_q (.none rfl) rfl rfl (q_assign rfl rfl) ?_
  refine run_q (.none rfl) rfl rfl (q_assign rfl rfl) ?_
  refine run_nil ?_
  refine run_ret ?_
  exact end2 rfl rfl rfl rfl

set_option maxRecDepth 100000 in
theorem Place_nil2 (X : Option Addr) (nx cx : Nat) (u : Addr) (W : World)  : Calls Try.prog 19 #[.slice X nx cx, .pointer (some u), .pointer none] W (Hr.Just W (.tuple #[.slice none 0 0, .int .i64 1])) := by
  refine Just.of_ret ?_
  refine enterA (X := nX) (vs := [.slice X nx cx, .pointer (some u), .pointer none]) Try.func19 Try.ntmps19 rfl rfl Mem.nil ?_
  refine run_seq ?_
  refine run_region ?_
  refine run_q (.none rfl) rfl rfl (q_assign rfl rfl) ?_
  refine run_q (.none rfl) rfl rfl (q_assign rfl rfl) ?_
  refine run_nil ?_
  refine run_seq ?_
  refine run_block ?_
  refine run_seq ?_
  refine run_region ?_
  refine run_q (.none rfl) rfl rfl (q_move rfl rfl) ?_
  refine run_q (.none rfl) rfl rfl (q_eqlPtr rfl rfl rfl Try.underlying41) ?_
  refine run_q (.none rfl) rfl rfl (q_move rfl rfl) ?_
  refine run_q (.on rfl rfl rfl rfl) rfl rfl (q_move rfl rfl) ?_
  refine run_q (.on rfl rfl rfl rfl) rfl rfl (q_eqlPtr rfl rfl rfl Try.underlying41) ?_
  refine run_q (.none rfl) rfl rfl (q_pickF rfl rfl rfl rfl) ?_
  refine run_q (.none rfl) rfl rfl (q_assign rfl rfl) ?_
  refine run_nil ?_
  refine run_sub (subMk (.cons (s := 0) rfl (.cons (s := 1) rfl (.cons (s := 2) rfl (.cons (s := 6) rfl (.cons (s := 7) rfl (.cons (s := 17) rfl .nil)))))) .refl) ?_
  refine run_condT rfl rfl ?_
  refine run_seq ?_
  refine run_region ?_
  refine run_q (.none rfl) rfl rfl (q_assign rfl rfl) ?_
  refine run_q (.none rfl) rfl rfl (q_assign rfl rfl) ?_
  refine run_nil ?_
  refine run_ret ?_
  exact end2 rfl rfl rfl rfl

set_option maxRecDepth 100000 in
theorem Place_side (X : Option Addr) (nx cx : Nat) (p : Nat) (A : Option Addr) (n c : Nat) (u : Addr) (W : World) (o : List Int) (hon : o.length = n) (hb : Rd W (some ⟨p, 0, none⟩) 2 [[.int .i64 (-1), .slice A n c]]) : Calls Try.prog 19 #[.slice X nx cx, .pointer (some ((adr (some ⟨p, 0, none⟩)).add (0 * 2))), .pointer (some u)] W (Hr.Just W (.tuple #[.slice none 0 0, .int .i64 11])) := by
  refine Just.of_ret ?_
  refine enterA (X := nX) (vs := [.slice X nx cx, .pointer (some ((adr (some ⟨p, 0, none⟩)).add (0 * 2))), .pointer (some u)]) Try.func19 Try.ntmps19 rfl rfl Mem.nil ?_
  refine run_seq ?_
  refine run_region ?_
  refine run_q (.none rfl) rfl rfl (q_assign rfl rfl) ?_
  refine run_q (.none rfl) rfl rfl (q_assign rfl rfl) ?_
  refine run_nil ?_
  refine run_seq ?_
  refine run_block ?_
  refine run_seq ?_
  refine run_region ?_
  refine run_q (.none rfl) rfl rfl (q_move rfl rfl) ?_
  refine run_q (.none rfl) rfl rfl (q_eqlPtr rfl rfl rfl Try.underlying41) ?_
  refine run_q (.none rfl) rfl rfl (q_move rfl rfl) ?_
  refine run_q (.on rfl rfl rfl rfl) rfl rfl (q_move rfl rfl) ?_
  refine run_q (.on rfl rfl rfl rfl) rfl rfl (q_eqlPtr rfl rfl rfl Try.underlying41) ?_
  refine run_q (.none rfl) rfl rfl (q_pickF rfl rfl rfl rfl) ?_
  refine run_q (.none rfl) rfl rfl (q_assign rfl rfl) ?_
  refine run_nil ?_
  refine run_sub (subMk (.cons (s := 0) rfl (.cons (s := 1) rfl (.cons (s := 2) rfl (.cons (s := 6) rfl (.cons (s := 7) rfl (.cons (s := 17) rfl .nil)))))) .refl) ?_
  refine run_condF rfl rfl ?_
  refine run_seq ?_
  refine run_region ?_
  refine run_q (.none rfl) rfl rfl (q_move rfl rfl) ?_
  refine run_q (.none rfl) rfl rfl (q_call rfl call38 (.cons rfl Evs.nil) (fun w hk hm => side_just o p A c (-1) n w hon (hb.kept0 hk))) ?_
  refine run_q (.none rfl) rfl rfl (q_neq rfl rfl rfl) ?_
  refine run_q (.none rfl) rfl rfl (q_move rfl rfl) ?_
  refine run_off (.no rfl rfl rfl rfl) rfl rfl ?_
  refine run_off (.no rfl rfl rfl rfl) rfl rfl ?_
  refine run_off (.no rfl rfl rfl rfl) rfl rfl ?_
  refine run_q (.none rfl) rfl rfl (q_pickT rfl rfl rfl rfl) ?_
  refine run_q (.none rfl) rfl rfl (q_assign rfl rfl) ?_
  refine run_nil ?_
  refine run_sub (subMk (.cons (s := 0) rfl (.cons (s := 1) rfl (.cons (s := 2) rfl (.cons (s := 6) rfl (.cons (s := 7) rfl (.cons (s := 24) rfl .nil)))))) .refl) ?_
  refine run_condT rfl rfl ?_
  refine run_seq ?_
  refine run_region ?_
  refine run_q (.none rfl) rfl rfl (q_assign rfl rfl) ?_
  refine run_q (.none rfl) rfl rfl (q_assign rfl rfl) ?_
  refine run_nil ?_
  refine run_ret ?_
  exact end2 rfl rfl rfl rfl

set_option maxRecDepth 100000 in
theorem Place_cols (X : Option Addr) (nx cx p q : Nat) (A B : Option Addr) (n n2 c d : Nat) (W : World) (o o2 : List Int) (h1 : o.length = n) (h2 : o2.length = n2) (hb : Rd W (some ⟨p, 0, none⟩) 2 [[.int .i64 1, .slice A n c]]) (hb2 : Rd W (some ⟨q, 0, none⟩) 2 [[.int .i64 (-1), .slice B n2 d]]) (hne : n ≠ n2) : Calls Try.prog 19 #[.slice X nx cx, .pointer (some ((adr (some ⟨p, 0, none⟩)).add (0 * 2))), .pointer (some ((adr (some ⟨q, 0, none⟩)).add (0 * 2)))] W (Hr.Just W (.tuple #[.slice none 0 0, .int .i64 2])) := by
  refine Just.of_ret ?_
  refine enterA (X := nX) (vs := [.slice X nx cx, .pointer (some ((adr (some ⟨p, 0, none⟩)).add (0 * 2))), .pointer (some ((adr (some ⟨q, 0, none⟩)).add (0 * 2)))]) Try.func19 Try.ntmps19 rfl rfl Mem.nil ?_
  refine run_seq ?_
  refine run_region ?_
  refine run_q (.none rfl) rfl rfl (q_assign rfl rfl) ?_
  refine run_q (.none rfl) rfl rfl (q_assign rfl rfl) ?_
  refine run_nil ?_
  refine run_seq ?_
  refine run_block ?_
  refine run_seq ?_
  refine run_region ?_
  refine run_q (.none rfl) rfl rfl (q_move rfl rfl) ?_
  refine run_q (.none rfl) rfl rfl (q_eqlPtr rfl rfl rfl Try.underlying41) ?_
  refine run_q (.none rfl) rfl rfl (q_move rfl rfl) ?_
  refine run_q (.on rfl rfl rfl rfl) rfl rfl (q_move rfl rfl) ?_
  refine run_q (.on rfl rfl rfl rfl) rfl rfl (q_eqlPtr rfl rfl rfl Try.underlying41) ?_
  refine run_q (.none rfl) rfl rfl (q_pickF rfl rfl rfl rfl) ?_
  refine run_q (.none rfl) rfl rfl (q_assign rfl rfl) ?_
  refine run_nil ?_
  refine run_sub (subMk (.cons (s := 0) rfl (.cons (s := 1) rfl (.cons (s := 2) rfl (.cons (s := 6) rfl (.cons (s := 7) rfl (.cons (s := 17) rfl .nil)))))) .refl) ?_
  refine run_condF rfl rfl ?_
  refine run_seq ?_
  refine run_region ?_
  refine run_q (.none rfl) rfl rfl (q_move rfl rfl) ?_
  refine run_q (.none rfl) rfl rfl (q_call rfl call38 (.cons rfl Evs.nil) (fun w hk hm => side_just o p A c 1 n w h1 (hb.kept0 hk))) ?_
  refine run_q (.none rfl) rfl rfl (q_neq rfl rfl rfl) ?_
  refine run_q (.none rfl) rfl rfl (q_move rfl rfl) ?_
  refine run_q (.on rfl rfl rfl rfl) rfl rfl (q_move rfl rfl) ?_
  refine run_q (.on rfl rfl rfl rfl) rfl rfl (q_call rfl call38 (.cons rfl Evs.nil) (fun w hk hm => side_just o2 q B d (-1) n2 w h2 (hb2.kept0 hk))) ?_
  refine run_q (.on rfl rfl rfl rfl) rfl rfl (q_neq rfl rfl rfl) ?_
  refine run_q (.none rfl) rfl rfl (q_pickF rfl rfl rfl rfl) ?_
  refine run_q (.none rfl) rfl rfl (q_assign rfl rfl) ?_
  refine run_nil ?_
  refine run_sub (subMk (.cons (s := 0) rfl (.cons (s := 1) rfl (.cons (s := 2) rfl (.cons (s := 6) rfl (.cons (s := 7) rfl (.cons (s := 24) rfl .nil)))))) .refl) ?_
  refine run_condF rfl rfl ?_
  refine run_seq ?_
  refine run_region ?_
  refine run_q (.none rfl) rfl rfl (q_move rfl rfl) ?_
  refine run_q (.none rfl) rfl rfl (q_call rfl call39 (.cons rfl Evs.nil) (fun w hk hm => cols_just o p A c 1 n w h1 (hb.kept0 hk))) ?_
  refine run_q (.none rfl) rfl rfl (q_move rfl rfl) ?_
  refine run_q (.none rfl) rfl rfl (q_call rfl call39 (.cons rfl Evs.nil) (fun w hk hm => cols_just o2 q B d (-1) n2 w h2 (hb2.kept0 hk))) ?_
  refine run_q (.none rfl) rfl rfl (q_neq rfl rfl rfl) ?_
  refine run_q (.none rfl) rfl rfl (q_assign rfl rfl) ?_
  refine run_nil ?_
  refine run_sub (subMk (.cons (s := 0) rfl (.cons (s := 1) rfl (.cons (s := 2) rfl (.cons (s := 6) rfl (.cons (s := 7) rfl (.cons (s := 33) rfl .nil)))))) .refl) ?_
  refine run_condT rfl (bne_iff_ne.2 (by omega)) ?_
  refine run_seq ?_
  refine run_region ?_
  refine run_q (.none rfl) rfl rfl (q_assign rfl rfl) ?_
  refine run_q (.none rfl) rfl rfl (q_assign rfl rfl) ?_
  refine run_nil ?_
  refine run_ret ?_
  exact end2 rfl rfl rfl rfl

set_option maxRecDepth 100000 in
theorem PlaceRow_nil (X : Option Addr) (nx cx : Nat) (W : World)  : Calls Try.prog 27 #[.slice X nx cx, .pointer none] W (Hr.Just W (.tuple #[.slice none 0 0, .int .i64 1])) := by
  refine Just.of_ret ?_
  refine enterA (X := nX) (vs := [.slice X nx cx, .pointer none]) Try.func27 Try.ntmps27 rfl rfl Mem.nil ?_
  refine run_seq ?_
  refine run_region ?_
  refine run_q (.none rfl) rfl rfl (q_assign rfl rfl) ?_
  refine run_q (.none rfl) rfl rfl (q_assign rfl rfl) ?_
  refine run_nil ?_
  refine run_seq ?_
  refine run_block ?_
  refine run_seq ?_
  refine run_region ?_
  refine run_q (.none rfl) rfl rfl (q_move rfl rfl) ?_
  refine run_q (.none rfl) rfl rfl (q_eqlPtr rfl rfl rfl Try.underlying41) ?_
  refine run_q (.none rfl) rfl rfl (q_assign rfl rfl) ?_
  refine run_nil ?_
  refine run_condT rfl rfl ?_
  refine run_seq ?_
  refine run_region ?_
  refine run_q (.none rfl) rfl rfl (q_assign rfl rfl) ?_
  refine run_q (.none rfl) rfl rfl (q_assign rfl rfl) ?_
  refine run_nil ?_
  refine run_sub (subMk (.cons (s := 0) rfl (.cons (s := 1) rfl (.cons (s := 4) rfl (.cons (s := 5) rfl .nil)))) .refl) ?_
  refine run_ret ?_
  exact end2 rfl rfl rfl rfl

theorem row_nil (b : List Int) : rowE [] b = 0 ∧ rowM [] b = [] := by
  have h : rowE [] b = 0 := by rw [rowE_2 (show reqsR b.length [] = 0 from rfl)]; rfl
  exact ⟨h, by rw [(row_ok h).2]; rfl⟩

set_option maxHeartbeats 2000000 in
set_option maxRecDepth 100000 in
theorem law9_just (l : List Req) (X : Option Addr) (cx : Nat) (c : Int) (W : World) (hr : Rd W X 13 (l.map Req.enc)) (hcx : l.length ≤ cx) (hc : 0 ≤ c ∧ c ≤ 255) : Calls Try.prog 9 #[.slice X l.length cx, .int .u8 c] W (Hr.Just W (.bool true)) := by
  obtain ⟨n, hn, hn2⟩ : ∃ n : Nat, (n : Int) = 1 + c % 12 ∧ 1 ≤ n ∧ n ≤ 12 := ⟨(1 + c % 12).toNat, by omega, by omega⟩
  obtain ⟨q1, q2⟩ := row_nil (List.replicate (n + 1) ((-1) * 0))
  refine Just.of_ret ?_
  refine enterA (X := nX) (vs := [.slice X l.length cx, .int .u8 c]) Try.func9 Try.ntmps9 rfl rfl Mem.nil ?_
  refine run_seq ?_
  refine run_region ?_
  refine run_q (.none rfl) rfl rfl (q_assign rfl rfl) ?_
  refine run_nil ?_
  refine run_seq ?_
  refine run_region ?_
  refine run_q (.none rfl) rfl rfl (q_move rfl rfl) ?_
  refine run_q (.none rfl) rfl rfl (q_move rfl rfl) ?_
  refine run_q (.none rfl) rfl rfl (q_len rfl Try.underlying37 rfl) ?_
  refine run_q (.none rfl) rfl rfl (q_min2 rfl rfl rfl) ?_
  refine run_q (.none rfl) rfl rfl (q_sliceH rfl Try.underlying37 sz25 rfl rfl (by omega)) ?_
  refine run_q (.none rfl) rfl rfl (q_assign rfl rfl) ?_
  refine run_nil ?_
  refine run_sub (subMk (.cons (s := 0) rfl (.cons (s := 1) rfl (.cons (s := 4) rfl .nil))) .refl) ?_
  refine run_seq ?_
  refine run_region ?_
  refine run_q (.none rfl) rfl rfl (q_move rfl rfl) ?_
  refine run_q (.none rfl) rfl rfl (q_rem rfl rfl rfl (by omega)) ?_
  refine run_q (.none rfl) rfl rfl (q_convert' rfl rfl Try.underlying5 Try.underlying3 (by rw [IntKind.wrap_i64]; omega)) ?_
  refine run_q (.none rfl) rfl rfl (q_add rfl rfl rfl (by omega)) ?_
  refine run_q (.none rfl) rfl rfl (q_assign rfl rfl) ?_
  refine run_nil ?_
  refine run_sub (subMk (.cons (s := 0) rfl (.cons (s := 4) rfl (.cons (s := 5) rfl .nil))) .refl) ?_
  refine run_seq ?_
  refine run_sub (subMk (.cons (s := 0) rfl (.cons (s := 4) rfl (.cons' (s := 5) (v' := .int .i64 (n : Int)) rfl (vint (by omega)) .nil))) .refl) ?_
  refine run_region ?_
  refine run_q (.none rfl) rfl rfl (q_move rfl rfl) ?_
  refine run_h (.none rfl) (h_call rfl rfl rfl call26 (.cons rfl (.cons rfl (.cons rfl Evs.nil))) (fun w hk hm => new_ret 1 0 n w (.inl rfl) ⟨by omega, by omega⟩ (by decide))) ?_
  rintro ⟨v, m⟩ ⟨pa, A, ca, rfl, hca, rfl⟩
  show Run _ _ _ _ _ _ _ ⟨(33, .tuple #[.pointer (some ⟨pa, 0, none⟩), .int .i64 0]) :: _, _ :: _ :: _⟩
  refine run_q (.none rfl) rfl rfl (q_move rfl rfl) ?_
  refine run_q (.none rfl) rfl rfl (q_extract rfl rfl rfl) ?_
  refine run_q (.none rfl) rfl rfl (q_extract rfl rfl rfl) ?_
  refine run_q (.none rfl) rfl rfl (q_assign rfl rfl) ?_
  refine run_q (.none rfl) rfl rfl (q_assign rfl rfl) ?_
  refine run_nil ?_
  refine run_sub (subMk (.cons (s := 0) rfl (.cons (s := 4) rfl (.cons (s := 5) rfl (.cons (s := 6) rfl (.cons (s := 7) rfl .nil))))) .refl) ?_
  refine run_seq ?_
  refine run_region ?_
  refine run_q (.none rfl) rfl rfl (q_move rfl rfl) ?_
  refine run_q (.none rfl) rfl rfl (q_add rfl rfl rfl (by omega)) ?_
  refine run_h (.none rfl) (h_call rfl rfl rfl call26 (.cons rfl (.cons rfl (.cons rfl Evs.nil))) (fun w hk hm => new_ret (-1) 0 (n + 1) w (.inr rfl) ⟨by omega, by omega⟩ (by decide))) ?_
  rintro ⟨v, m⟩ ⟨pb, B, cb, rfl, hcb, rfl⟩
  show Run _ _ _ _ _ _ _ ⟨(39, .tuple #[.pointer (some ⟨pb, 0, none⟩), .int .i64 0]) :: _, _ :: _ :: _⟩
  refine run_q (.none rfl) rfl rfl (q_move rfl rfl) ?_
  refine run_q (.none rfl) rfl rfl (q_extract rfl rfl rfl) ?_
  refine run_q (.none rfl) rfl rfl (q_extract rfl rfl rfl) ?_
  refine run_q (.none rfl) rfl rfl (q_assign rfl rfl) ?_
  refine run_q (.none rfl) rfl rfl (q_assign rfl rfl) ?_
  refine run_nil ?_
  refine run_sub (subMk (.cons (s := 0) rfl (.cons (s := 4) rfl (.cons (s := 6) rfl (.cons (s := 7) rfl (.cons (s := 8) rfl (.cons (s := 9) rfl .nil)))))) .refl) ?_
  refine run_seq ?_
  refine run_seq ?_
  refine run_region ?_
  refine run_q (.none rfl) rfl rfl (q_call rfl call13 Evs.nil (fun w hk hm => known_just w)) ?_
  refine run_q (.none rfl) rfl rfl (q_not rfl rfl) ?_
  refine run_q (.none rfl) rfl rfl (q_move rfl rfl) ?_
  refine run_q (.on rfl rfl rfl rfl) rfl rfl (q_move rfl rfl) ?_
  refine run_q (.on rfl rfl rfl rfl) rfl rfl (q_neq rfl rfl rfl) ?_
  refine run_q (.none rfl) rfl rfl (q_pickF rfl rfl rfl rfl) ?_
  refine run_q (.none rfl) rfl rfl (q_move rfl rfl) ?_
  refine run_q (.on rfl rfl rfl rfl) rfl rfl (q_move rfl rfl) ?_
  refine run_q (.on rfl rfl rfl rfl) rfl rfl (q_neq rfl rfl rfl) ?_
  refine run_q (.none rfl) rfl rfl (q_pickF rfl rfl rfl rfl) ?_
  refine run_nil ?_
  refine run_sub (subMk (.cons (s := 0) rfl (.cons (s := 4) rfl (.cons (s := 6) rfl (.cons (s := 8) rfl (.cons (s := 51) rfl .nil))))) .refl) ?_
  refine run_condF rfl rfl ?_
  refine run_skip ?_
  refine run_seq ?_
  refine run_region ?_
  refine run_q (.none rfl) rfl rfl (q_move rfl rfl) ?_
  refine run_q (.none rfl) rfl rfl (q_move rfl rfl) ?_
  refine run_q (.none rfl) rfl rfl (q_call rfl call19 (.cons rfl (.cons rfl (.cons rfl Evs.nil))) (fun w hk hm => Place_nil1 X _ cx _ w)) ?_
  refine run_q (.none rfl) rfl rfl (q_move rfl rfl) ?_
  refine run_q (.none rfl) rfl rfl (q_extract rfl rfl rfl) ?_
  refine run_q (.none rfl) rfl rfl (q_extract rfl rfl rfl) ?_
  refine run_q (.none rfl) rfl rfl (q_assign rfl rfl) ?_
  refine run_q (.none rfl) rfl rfl (q_assign rfl rfl) ?_
  refine run_nil ?_
  refine run_sub (subMk (.cons (s := 0) rfl (.cons (s := 4) rfl (.cons (s := 6) rfl (.cons (s := 8) rfl (.cons (s := 11) rfl .nil))))) .refl) ?_
  refine run_seq ?_
  refine run_region ?_
  refine run_q (.none rfl) rfl rfl (q_move rfl rfl) ?_
  refine run_q (.none rfl) rfl rfl (q_move rfl rfl) ?_
  refine run_q (.none rfl) rfl rfl (q_call rfl call19 (.cons rfl (.cons rfl (.cons rfl Evs.nil))) (fun w hk hm => Place_nil2 X _ cx ⟨pa, 0, none⟩ w)) ?_
  refine run_q (.none rfl) rfl rfl (q_move rfl rfl) ?_
  refine run_q (.none rfl) rfl rfl (q_extract rfl rfl rfl) ?_
  refine run_q (.none rfl) rfl rfl (q_extract rfl rfl rfl) ?_
  refine run_q (.none rfl) rfl rfl (q_assign rfl rfl) ?_
  refine run_q (.none rfl) rfl rfl (q_assign rfl rfl) ?_
  refine run_nil ?_
  refine run_sub (subMk (.cons (s := 0) rfl (.cons (s := 4) rfl (.cons (s := 6) rfl (.cons (s := 8) rfl (.cons (s := 11) rfl (.cons (s := 13) rfl .nil)))))) .refl) ?_
  refine run_seq ?_
  refine run_region ?_
  refine run_q (.none rfl) rfl rfl (q_move rfl rfl) ?_
  refine run_q (.none rfl) rfl rfl (q_move rfl rfl) ?_
  refine run_q (.none rfl) rfl rfl (q_move rfl rfl) ?_
  refine run_q (.none rfl) rfl rfl (q_call rfl call19 (.cons rfl (.cons rfl (.cons rfl Evs.nil))) (fun w hk hm => Place_side X _ cx pb B (n + 1) cb ⟨pa, 0, none⟩ w (List.replicate (n + 1) ((-1) * 0)) (rep_len _ _) (rd_sky (Sel.here.holds hm)))) ?_
  refine run_q (.none rfl) rfl rfl (q_move rfl rfl) ?_
  refine run_q (.none rfl) rfl rfl (q_extract rfl rfl rfl) ?_
  refine run_q (.none rfl) rfl rfl (q_extract rfl rfl rfl) ?_
  refine run_q (.none rfl) rfl rfl (q_assign rfl rfl) ?_
  refine run_q (.none rfl) rfl rfl (q_assign rfl rfl) ?_
  refine run_nil ?_
  refine run_sub (subMk (.cons (s := 0) rfl (.cons (s := 4) rfl (.cons (s := 6) rfl (.cons (s := 8) rfl (.cons (s := 11) rfl (.cons (s := 13) rfl (.cons (s := 15) rfl .nil))))))) .refl) ?_
  refine run_seq ?_
  refine run_region ?_
  refine run_q (.none rfl) rfl rfl (q_move rfl rfl) ?_
  refine run_q (.none rfl) rfl rfl (q_move rfl rfl) ?_
  refine run_q (.none rfl) rfl rfl (q_move rfl rfl) ?_
  refine run_q (.none rfl) rfl rfl (q_call rfl call19 (.cons rfl (.cons rfl (.cons rfl Evs.nil))) (fun w hk hm => Place_cols X _ cx pa pb A B n (n + 1) ca cb w (List.replicate n (1 * 0)) (List.replicate (n + 1) ((-1) * 0)) (rep_len _ _) (rep_len _ _) (rd_sky ((Sel.there (Sel.there Sel.here)).holds hm)) (rd_sky (Sel.here.holds hm)) (by omega))) ?_
  refine run_q (.none rfl) rfl rfl (q_move rfl rfl) ?_
  refine run_q (.none rfl) rfl rfl (q_extract rfl rfl rfl) ?_
  refine run_q (.none rfl) rfl rfl (q_extract rfl rfl rfl) ?_
  refine run_q (.none rfl) rfl rfl (q_assign rfl rfl) ?_
  refine run_q (.none rfl) rfl rfl (q_assign rfl rfl) ?_
  refine run_nil ?_
  refine run_sub (subMk (.cons (s := 0) rfl (.cons (s := 4) rfl (.cons (s := 8) rfl (.cons (s := 11) rfl (.cons (s := 13) rfl (.cons (s := 15) rfl (.cons (s := 17) rfl .nil))))))) .refl) ?_
  refine run_seq ?_
  refine run_region ?_
  refine run_q (.none rfl) rfl rfl (q_move rfl rfl) ?_
  refine run_q (.none rfl) rfl rfl (q_call rfl call27 (.cons rfl (.cons rfl Evs.nil)) (fun w hk hm => PlaceRow_nil X _ cx w)) ?_
  refine run_q (.none rfl) rfl rfl (q_move rfl rfl) ?_
  refine run_q (.none rfl) rfl rfl (q_extract rfl rfl rfl) ?_
  refine run_q (.none rfl) rfl rfl (q_extract rfl rfl rfl) ?_
  refine run_q (.none rfl) rfl rfl (q_assign rfl rfl) ?_
  refine run_q (.none rfl) rfl rfl (q_assign rfl rfl) ?_
  refine run_nil ?_
  refine run_sub (subMk (.cons (s := 4) rfl (.cons (s := 8) rfl (.cons (s := 11) rfl (.cons (s := 13) rfl (.cons (s := 15) rfl (.cons (s := 17) rfl (.cons (s := 19) rfl .nil))))))) .refl) ?_
  refine run_seq ?_
  refine run_region ?_
  refine run_q (.none rfl) rfl rfl (q_move rfl rfl) ?_
  refine run_h (.none rfl) (h_callX [_, _] _ rfl rfl rfl call27 (.cons rfl (.cons rfl Evs.nil)) ((Sel.perm Sel.here).trans (.cons _ (Sel.perm Sel.here))) (Y := fun _ => atAny [_, _]) (fun _ _ h => h) (fun w hk hm => PlaceRow_ret [] none 0 (List.replicate (n + 1) ((-1) * 0)) pb B cb (n + 1) w (rep_len _ _) ((hm.perm ((Sel.perm Sel.here).trans (.cons _ (Sel.perm Sel.here)))).give (rs := [_, _])) (fun _ _ => .inl rfl) (by decide) (by omega) hcb (rep_bd (by decide)))) ?_
  rintro ⟨v, m⟩ ⟨B2, cb2, O, co, rfl, hcB2, rfl⟩
  show Run _ _ _ _ _ _ _ ⟨(85, .tuple #[.slice O (rowM [] (List.replicate (n + 1) ((-1) * 0))).length co, .int .i64 (rowE [] (List.replicate (n + 1) ((-1) * 0)))]) :: _, _ :: _ :: _ :: _⟩
  refine run_q (.none rfl) rfl rfl (q_move rfl rfl) ?_
  refine run_q (.none rfl) rfl rfl (q_extract rfl rfl rfl) ?_
  refine run_q (.none rfl) rfl rfl (q_extract rfl rfl rfl) ?_
  refine run_q (.none rfl) rfl rfl (q_assign rfl rfl) ?_
  refine run_q (.none rfl) rfl rfl (q_assign rfl rfl) ?_
  refine run_nil ?_
  refine run_sub (subMk (.cons (s := 4) rfl (.cons (s := 11) rfl (.cons (s := 13) rfl (.cons (s := 15) rfl (.cons (s := 17) rfl (.cons (s := 19) rfl (.cons (s := 20) rfl (.cons (s := 21) rfl .nil)))))))) .refl) ?_
  refine run_seq ?_
  refine run_sub (subMk (.cons (s := 4) rfl (.cons (s := 11) rfl (.cons (s := 13) rfl (.cons (s := 15) rfl (.cons (s := 17) rfl (.cons (s := 19) rfl (.cons' (s := 20) (v' := .slice O 0 co) rfl (by rw [q2]; rfl) (.cons' (s := 21) (v' := .int .i64 0) rfl (vint q1) .nil)))))))) .refl) ?_
  refine run_region ?_
  refine run_q (.none rfl) rfl rfl (q_move rfl rfl) ?_
  refine run_q (.none rfl) rfl rfl (q_eql rfl rfl rfl) ?_
  refine run_q (.none rfl) rfl rfl (q_move rfl rfl) ?_
  refine run_q (.on rfl rfl rfl rfl) rfl rfl (q_move rfl rfl) ?_
  refine run_q (.on rfl rfl rfl rfl) rfl rfl (q_eql rfl rfl rfl) ?_
  refine run_q (.none rfl) rfl rfl (q_pickT rfl rfl rfl rfl) ?_
  refine run_q (.none rfl) rfl rfl (q_move rfl rfl) ?_
  refine run_q (.on rfl rfl rfl rfl) rfl rfl (q_move rfl rfl) ?_
  refine run_q (.on rfl rfl rfl rfl) rfl rfl (q_eql rfl rfl rfl) ?_
  refine run_q (.none rfl) rfl rfl (q_pickT rfl rfl rfl rfl) ?_
  refine run_q (.none rfl) rfl rfl (q_move rfl rfl) ?_
  refine run_q (.on rfl rfl rfl rfl) rfl rfl (q_move rfl rfl) ?_
  refine run_q (.on rfl rfl rfl rfl) rfl rfl (q_eql rfl rfl rfl) ?_
  refine run_q (.none rfl) rfl rfl (q_pickT rfl rfl rfl rfl) ?_
  refine run_q (.none rfl) rfl rfl (q_move rfl rfl) ?_
  refine run_q (.on rfl rfl rfl rfl) rfl rfl (q_move rfl rfl) ?_
  refine run_q (.on rfl rfl rfl rfl) rfl rfl (q_eql rfl rfl rfl) ?_
  refine run_q (.none rfl) rfl rfl (q_pickT rfl rfl rfl rfl) ?_
  refine run_q (.none rfl) rfl rfl (q_move rfl rfl) ?_
  refine run_q (.on rfl rfl rfl rfl) rfl rfl (q_move rfl rfl) ?_
  refine run_q (.on rfl rfl rfl rfl) rfl rfl (q_len rfl Try.underlying44 rfl) ?_
  refine run_q (.on rfl rfl rfl rfl) rfl rfl (q_eql rfl rfl rfl) ?_
  refine run_q (.none rfl) rfl rfl (q_pickT rfl rfl rfl rfl) ?_
  refine run_q (.none rfl) rfl rfl (q_move rfl rfl) ?_
  refine run_q (.on rfl rfl rfl rfl) rfl rfl (q_move rfl rfl) ?_
  refine run_q (.on rfl rfl rfl rfl) rfl rfl (q_eql rfl rfl rfl) ?_
  refine run_q (.none rfl) rfl rfl (q_pickT rfl rfl rfl rfl) ?_
  refine run_q (.none rfl) rfl rfl (q_assign rfl rfl) ?_
  refine run_nil ?_
  refine run_sub (subMk (.cons (s := 4) rfl .nil) .refl) ?_
  refine run_ret ?_
  exact end1 rfl rfl rfl

end Go.Proofs.YtgphmbipakdggaaR
