/- Requests in order. -/
import Derived.Test.YtgphmbipakdggaaRQB
import Derived.Test.YtgphmbipakdggaaRSeq
set_option linter.unusedSimpArgs false
set_option linter.unusedVariables false
namespace Go.Proofs.YtgphmbipakdggaaR
open Go Go.RowKit Hr

theorem call88 : Hr.Callable Try.prog 88 := fun args w => by kernel_rfl
theorem call72 : Hr.Callable Try.prog 72 := fun args w => by kernel_rfl
theorem call73 : Hr.Callable Try.prog 73 := fun args w => by kernel_rfl
theorem call52 : Hr.Callable Try.prog 52 := fun args w => by kernel_rfl
theorem call51 : Hr.Callable Try.prog 51 := fun args w => by kernel_rfl

theorem values_ret (A : Option Addr) (n ca : Nat) (W : World)  : Calls Try.prog 52 #[.slice A n ca] W (Ret W nX (fun v m => ∃ b, v = .func (.func 74) #[] #[.pointer (some ⟨b, 0, none⟩)] ∧ m = [.blk b 37 [(0, .slice A n ca)]])) := by
  refine enterA (X := nX) (vs := [.slice A n ca]) Try.func52 Try.ntmps52 rfl rfl Mem.nil ?_
  refine run_seq ?_
  refine run_region ?_
  refine run_h (.none rfl) (h_box rfl rfl rfl rfl rfl) ?_
  rintro b1 -
  refine run_q (.none rfl) rfl rfl (q_assign rfl rfl) ?_
  refine run_nil ?_
  refine run_seq ?_
  refine run_region ?_
  refine run_q (.none rfl) rfl rfl (q_makeFunc rfl (.cons rfl Evs.nil)) ?_
  refine run_q (.none rfl) rfl rfl (q_assign rfl rfl) ?_
  refine run_nil ?_
  refine run_sub (subMk (.cons (s := 2) rfl .nil) .refl) ?_
  refine run_ret ?_
  refine run_sub (subMk .refl (.cons Sel.here (.blk (.cons (s := 0) rfl .nil)) .nil)) ?_
  exact end1 rfl rfl ⟨b1, rfl, rfl⟩

set_option maxRecDepth 100000 in
theorem collect_ret (l : List Req) (A : Option Addr) (ca : Nat) (Bs : Nat) (W : World) (hbox : W.cell? ⟨Bs, 0, none⟩ = some (.slice A l.length ca)) (hBs : Bs < W.heap.size) (hrd : ∀ w, Kept nX W w → Rd w A 13 (l.map Req.enc)) (hl : l.length ≤ 1000000) : Calls Try.prog 72 #[.func (.func 74) #[] #[.pointer (some ⟨Bs, 0, none⟩)]] W (Ret W nX (fun v m => ∃ O co, v = .slice O l.length co ∧ m = [.own 25 13 O l.length co ((l).map Req.enc)])) := by
  refine enterA (X := nX) (vs := [.func (.func 74) #[] #[.pointer (some ⟨Bs, 0, none⟩)]]) Try.func72 Try.ntmps72 rfl rfl Mem.nil ?_
  refine run_seq ?_
  refine run_region ?_
  refine run_q (.none rfl) rfl rfl (q_assign rfl rfl) ?_
  refine run_nil ?_
  refine run_seq ?_
  refine run_region ?_
  refine run_q (.none rfl) rfl rfl (q_move rfl rfl) ?_
  refine run_h (.none rfl) (h_call rfl rfl rfl call88 (.cons rfl (.cons rfl Evs.nil)) (fun w hk hm => app_ret l A ca Bs w (cell_kept0 hk hBs hbox) (Nat.lt_of_lt_of_le hBs hk.size) (fun w' h => hrd w' (hk.step0 h)) hl)) ?_
  rintro ⟨v, m⟩ ⟨O, co, rfl, rfl⟩
  show Run _ _ _ _ _ _ _ ⟨(4, .slice O l.length co) :: _, _ :: _⟩
  refine run_q (.none rfl) rfl rfl (q_assign rfl rfl) ?_
  refine run_nil ?_
  refine run_sub (subMk (.cons (s := 2) rfl .nil) .refl) ?_
  refine run_ret ?_
  refine run_sub (subMk .refl (.cons Sel.here .refl .nil)) ?_
  exact end1 rfl rfl ⟨O, co, rfl, rfl⟩

set_option maxRecDepth 100000 in
theorem sorted_ret (l : List Req) (A : Option Addr) (ca : Nat) (Bs : Nat) (W : World) (hbox : W.cell? ⟨Bs, 0, none⟩ = some (.slice A l.length ca)) (hBs : Bs < W.heap.size) (hrd : ∀ w, Kept nX W w → Rd w A 13 (l.map Req.enc)) (hl : l.length ≤ 20) : Calls Try.prog 51 #[.func (.func 74) #[] #[.pointer (some ⟨Bs, 0, none⟩)], .func (.func 53) #[] #[]] W (Ret W nX (fun v m => ∃ O co, v = .slice O l.length co ∧ m = [.own 25 13 O l.length co ((ordM l).map Req.enc)])) := by
  refine enterA (X := nX) (vs := [.func (.func 74) #[] #[.pointer (some ⟨Bs, 0, none⟩)], .func (.func 53) #[] #[]]) Try.func51 Try.ntmps51 rfl rfl Mem.nil ?_
  refine run_seq ?_
  refine run_region ?_
  refine run_q (.none rfl) rfl rfl (q_assign rfl rfl) ?_
  refine run_nil ?_
  refine run_seq ?_
  refine run_region ?_
  refine run_q (.none rfl) rfl rfl (q_move rfl rfl) ?_
  refine run_h (.none rfl) (h_call rfl rfl rfl call72 (.cons rfl Evs.nil) (fun w hk hm => collect_ret l A ca Bs w (cell_kept0 hk hBs hbox) (Nat.lt_of_lt_of_le hBs hk.size) (fun w' h => hrd w' (hk.step0 h)) (by omega))) ?_
  rintro ⟨v, m⟩ ⟨O, co, rfl, rfl⟩
  show Run _ _ _ _ _ _ _ ⟨(7, .slice O l.length co) :: _, _ :: _⟩
  refine run_q (.none rfl) rfl rfl (q_assign rfl rfl) ?_
  refine run_nil ?_
  refine run_sub (subMk (.cons (s := 1) rfl (.cons (s := 4) rfl (.cons (s := 5) rfl .nil))) .refl) ?_
  refine run_seq ?_
  refine run_region ?_
  refine run_q (.none rfl) rfl rfl (q_move rfl rfl) ?_
  refine run_q (.none rfl) rfl rfl (q_move rfl rfl) ?_
  refine run_h (.none rfl) (h_callX [_] _ rfl rfl rfl call73 (.cons rfl (.cons rfl Evs.nil)) (Sel.perm Sel.here) (Y := fun _ => atAny [_]) (fun _ _ h => h) (fun w hk hm => sM_sort l O co w ((hm.perm (Sel.perm Sel.here)).give (rs := [_])) hl)) ?_
  rintro ⟨v, m⟩ ⟨rfl, rfl⟩
  show Run _ _ _ _ _ _ _ ⟨(10, .tuple #[]) :: _, _ :: _⟩
  refine run_nil ?_
  refine run_sub (subMk (.cons (s := 4) rfl (.cons (s := 5) rfl .nil)) .refl) ?_
  refine run_seq ?_
  refine run_region ?_
  refine run_q (.none rfl) rfl rfl (q_move rfl rfl) ?_
  refine run_q (.none rfl) rfl rfl (q_assign rfl rfl) ?_
  refine run_nil ?_
  refine run_ret ?_
  refine run_sub (subMk .refl (.cons Sel.here .refl .nil)) ?_
  exact end1 rfl rfl ⟨O, co, rfl, rfl⟩

set_option maxRecDepth 100000 in
theorem order_ret (l : List Req) (A : Option Addr) (ca : Nat) (W : World) (hr : Rd W A 13 (l.map Req.enc)) (hl : l.length ≤ 20) : Calls Try.prog 30 #[.slice A l.length ca] W (Ret W nX (fun v m => ∃ O co, v = .slice O l.length co ∧ m = [.own 25 13 O l.length co ((ordM l).map Req.enc)])) := by
  refine enterA (X := nX) (vs := [.slice A l.length ca]) Try.func30 Try.ntmps30 rfl rfl Mem.nil ?_
  refine run_seq ?_
  refine run_region ?_
  refine run_q (.none rfl) rfl rfl (q_assign rfl rfl) ?_
  refine run_nil ?_
  refine run_seq ?_
  refine run_region ?_
  refine run_q (.none rfl) rfl rfl (q_move rfl rfl) ?_
  refine run_h (.none rfl) (h_call rfl rfl rfl call52 (.cons rfl Evs.nil) (fun w hk hm => values_ret A l.length ca w)) ?_
  rintro ⟨v, m⟩ ⟨bV, rfl, rfl⟩
  show Run _ _ _ _ _ _ _ ⟨(4, .func (.func 74) #[] #[.pointer (some ⟨bV, 0, none⟩)]) :: _, _ :: _⟩
  refine run_h (.none rfl) (h_call rfl rfl rfl call51 (.cons rfl (.cons rfl Evs.nil)) (fun w hk hm => sorted_ret l A ca bV w (blk_cell (Sel.here.holds hm) rfl) (lt_of_heap (blk_heap (Sel.here.holds hm)).choose_spec) (fun w' h => hr.kept0 (hk.step0 h)) hl)) ?_
  rintro ⟨v, m⟩ ⟨O, co, rfl, rfl⟩
  show Run _ _ _ _ _ _ _ ⟨(5, .slice O l.length co) :: _, _ :: _⟩
  refine run_q (.none rfl) rfl rfl (q_assign rfl rfl) ?_
  refine run_nil ?_
  refine run_sub (subMk (.cons (s := 2) rfl .nil) .refl) ?_
  refine run_ret ?_
  refine run_sub (subMk .refl (.cons Sel.here .refl .nil)) ?_
  exact end1 rfl rfl ⟨O, co, rfl, rfl⟩

end Go.Proofs.YtgphmbipakdggaaR
