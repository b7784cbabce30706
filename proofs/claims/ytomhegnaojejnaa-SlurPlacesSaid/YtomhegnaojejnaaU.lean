/- Boxes that touch. -/
import Derived.Test.YtomhegnaojejnaaT
import Derived.Test.YtomhegnaojejnaaClear
set_option linter.unusedSimpArgs false
set_option linter.unusedVariables false
namespace Go.Proofs.Ytomhegnaojejnaa
open Go Go.RowKit Hr



set_option maxRecDepth 100000 in
theorem touch_1 (o : List Int) (p : Nat) (A : Option Addr) (c : Nat) (n : Nat) (f l bl bb br bt : Int) (W : World) (hon : o.length = n) (hb : Rd W (some ⟨p, 0, none⟩) 2 [[.int .i64 1, .slice A n c]]) (hr : Rd W A 1 (o.map encI)) (hf : 0 ≤ f ∧ f ≤ l ∧ l < o.length) (hc : o.length ≤ c) (hl6 : o.length ≤ 65536) (hbd : Bd o) (hbt : bb < bt) : Calls Try.prog 26 #[.pointer (some ((adr (some ⟨p, 0, none⟩)).add (0 * 2))), .int .i64 f, .int .i64 l, .agg #[.int .i64 bl, .int .i64 bb, .int .i64 br, .int .i64 bt]] W (Hr.Just W (.bool (decide (bb < 1 * (maxR o f.toNat l.toNat))))) := by
  subst hon
  refine Just.of_ret ?_
  refine enterA (X := nX) (vs := [.pointer (some ((adr (some ⟨p, 0, none⟩)).add (0 * 2))), .int .i64 f, .int .i64 l, .agg #[.int .i64 bl, .int .i64 bb, .int .i64 br, .int .i64 bt]]) Try.func26 Try.ntmps26 rfl rfl Mem.nil ?_
  refine run_seq ?_
  refine run_region ?_
  refine run_h (.none rfl) (h_box rfl rfl rfl rfl rfl) ?_
  rintro b7 -
  refine run_q (.none rfl) rfl rfl (q_assign rfl rfl) ?_
  refine run_nil ?_
  refine run_seq ?_
  refine run_region ?_
  refine run_q (.none rfl) rfl rfl (q_move rfl rfl) ?_
  refine run_q (.none rfl) rfl rfl (q_move rfl rfl) ?_
  refine run_q (.none rfl) rfl rfl (q_move rfl rfl) ?_
  refine run_q (.none rfl) rfl rfl (q_call rfl call27 (.cons rfl (.cons rfl (.cons rfl Evs.nil))) (fun w hk hm => most_just o p A c 1 _ f l w rfl (hb.kept0 hk) (hr.kept0 hk) hf hc hl6 hbd (.inl rfl))) ?_
  refine run_q (.none rfl) rfl rfl (q_move rfl rfl) ?_
  refine run_q (.none rfl) rfl rfl (q_extract rfl rfl rfl) ?_
  refine run_q (.none rfl) rfl rfl (q_extract rfl rfl rfl) ?_
  refine run_q (.none rfl) rfl rfl (q_assign rfl rfl) ?_
  refine run_q (.none rfl) rfl rfl (q_assign rfl rfl) ?_
  refine run_nil ?_
  refine run_sub (subMk (.cons (s := 0) rfl (.cons (s := 7) rfl (.cons (s := 8) rfl (.cons (s := 9) rfl (.cons (s := 10) rfl .nil))))) .refl) ?_
  refine run_seq ?_
  refine run_seq ?_
  refine run_region ?_
  refine run_q (.none rfl) rfl rfl (q_move rfl rfl) ?_
  refine run_q (.none rfl) rfl rfl (q_neq rfl rfl rfl) ?_
  refine run_q (.none rfl) rfl rfl (q_move rfl rfl) ?_
  refine run_q (.on rfl rfl rfl rfl) rfl rfl (q_fieldB (d := 1) rfl Try.underlying47 rfl rfl sz3 rfl) ?_
  refine run_q (.on rfl rfl rfl rfl) rfl rfl (q_loadB rfl one3 rfl Sel.here rfl) ?_
  refine run_q (.on rfl rfl rfl rfl) rfl rfl (q_fieldB (d := 3) rfl Try.underlying47 rfl rfl sz3 rfl) ?_
  refine run_q (.on rfl rfl rfl rfl) rfl rfl (q_loadB rfl one3 rfl Sel.here rfl) ?_
  refine run_q (.on rfl rfl rfl rfl) rfl rfl (q_geq rfl rfl rfl) ?_
  refine run_q (.none rfl) rfl rfl (q_pickF rfl rfl rfl rfl) ?_
  refine run_nil ?_
  refine run_sub (subMk (.cons (s := 0) rfl (.cons (s := 7) rfl (.cons (s := 8) rfl (.cons (s := 9) rfl (.cons (s := 26) rfl .nil))))) .refl) ?_
  refine run_condF rfl (decide_eq_false (by omega)) ?_
  refine run_skip ?_
  refine run_seq ?_
  refine run_seq ?_
  refine run_region ?_
  refine run_q (.none rfl) rfl rfl (q_move rfl rfl) ?_
  refine run_q (.none rfl) rfl rfl (q_nilCheck rfl rfl) ?_
  refine run_q (.none rfl) rfl rfl (q_fieldAddr (d := 0) rfl Try.underlying94 rfl rfl sz3 rfl) ?_
  refine run_q (.none rfl) rfl rfl (q_loadF rfl one3 rfl (.inp hb .no) (show ([[.int .i64 1, .slice A o.length c]] : List (List Value))[0]? = some [.int .i64 1, .slice A o.length c] from rfl) rfl) ?_
  refine run_q (.none rfl) rfl rfl (q_eql rfl rfl rfl) ?_
  refine run_nil ?_
  refine run_sub (subMk (.cons (s := 7) rfl (.cons (s := 8) rfl (.cons (s := 9) rfl (.cons (s := 31) rfl .nil)))) .refl) ?_
  refine run_condT rfl rfl ?_
  refine run_seq ?_
  refine run_region ?_
  refine run_q (.none rfl) rfl rfl (q_fieldB (d := 1) rfl Try.underlying47 rfl rfl sz3 rfl) ?_
  refine run_q (.none rfl) rfl rfl (q_loadB rfl one3 rfl Sel.here rfl) ?_
  refine run_q (.none rfl) rfl rfl (q_move rfl rfl) ?_
  refine run_q (.none rfl) rfl rfl (q_lss rfl rfl rfl) ?_
  refine run_q (.none rfl) rfl rfl (q_assign rfl rfl) ?_
  refine run_nil ?_
  refine run_sub (subMk (.cons (s := 7) rfl (.cons (s := 8) rfl (.cons (s := 9) rfl .nil))) .refl) ?_
  refine run_ret ?_
  exact end1 rfl rfl rfl

set_option maxRecDepth 100000 in
theorem touch_m (o : List Int) (p : Nat) (A : Option Addr) (c : Nat) (n : Nat) (f l bl bb br bt : Int) (W : World) (hon : o.length = n) (hb : Rd W (some ⟨p, 0, none⟩) 2 [[.int .i64 (-1), .slice A n c]]) (hr : Rd W A 1 (o.map encI)) (hf : 0 ≤ f ∧ f ≤ l ∧ l < o.length) (hc : o.length ≤ c) (hl6 : o.length ≤ 65536) (hbd : Bd o) (hbt : bb < bt) : Calls Try.prog 26 #[.pointer (some ((adr (some ⟨p, 0, none⟩)).add (0 * 2))), .int .i64 f, .int .i64 l, .agg #[.int .i64 bl, .int .i64 bb, .int .i64 br, .int .i64 bt]] W (Hr.Just W (.bool (decide (bt > (-1) * (maxR o f.toNat l.toNat))))) := by
  subst hon
  refine Just.of_ret ?_
  refine enterA (X := nX) (vs := [.pointer (some ((adr (some ⟨p, 0, none⟩)).add (0 * 2))), .int .i64 f, .int .i64 l, .agg #[.int .i64 bl, .int .i64 bb, .int .i64 br, .int .i64 bt]]) Try.func26 Try.ntmps26 rfl rfl Mem.nil ?_
  refine run_seq ?_
  refine run_region ?_
  refine run_h (.none rfl) (h_box rfl rfl rfl rfl rfl) ?_
  rintro b7 -
  refine run_q (.none rfl) rfl rfl (q_assign rfl rfl) ?_
  refine run_nil ?_
  refine run_seq ?_
  refine run_region ?_
  refine run_q (.none rfl) rfl rfl (q_move rfl rfl) ?_
  refine run_q (.none rfl) rfl rfl (q_move rfl rfl) ?_
  refine run_q (.none rfl) rfl rfl (q_move rfl rfl) ?_
  refine run_q (.none rfl) rfl rfl (q_call rfl call27 (.cons rfl (.cons rfl (.cons rfl Evs.nil))) (fun w hk hm => most_just o p A c (-1) _ f l w rfl (hb.kept0 hk) (hr.kept0 hk) hf hc hl6 hbd (.inr rfl))) ?_
  refine run_q (.none rfl) rfl rfl (q_move rfl rfl) ?_
  refine run_q (.none rfl) rfl rfl (q_extract rfl rfl rfl) ?_
  refine run_q (.none rfl) rfl rfl (q_extract rfl rfl rfl) ?_
  refine run_q (.none rfl) rfl rfl (q_assign rfl rfl) ?_
  refine run_q (.none rfl) rfl rfl (q_assign rfl rfl) ?_
  refine run_nil ?_
  refine run_sub (subMk (.cons (s := 0) rfl (.cons (s := 7) rfl (.cons (s := 8) rfl (.cons (s := 9) rfl (.cons (s := 10) rfl .nil))))) .refl) ?_
  refine run_seq ?_
  refine run_seq ?_
  refine run_region ?_
  refine run_q (.none rfl) rfl rfl (q_move rfl rfl) ?_
  refine run_q (.none rfl) rfl rfl (q_neq rfl rfl rfl) ?_
  refine run_q (.none rfl) rfl rfl (q_move rfl rfl) ?_
  refine run_q (.on rfl rfl rfl rfl) rfl rfl (q_fieldB (d := 1) rfl Try.underlying47 rfl rfl sz3 rfl) ?_
  refine run_q (.on rfl rfl rfl rfl) rfl rfl (q_loadB rfl one3 rfl Sel.here rfl) ?_
  refine run_q (.on rfl rfl rfl rfl) rfl rfl (q_fieldB (d := 3) rfl Try.underlying47 rfl rfl sz3 rfl) ?_
  refine run_q (.on rfl rfl rfl rfl) rfl rfl (q_loadB rfl one3 rfl Sel.here rfl) ?_
  refine run_q (.on rfl rfl rfl rfl) rfl rfl (q_geq rfl rfl rfl) ?_
  refine run_q (.none rfl) rfl rfl (q_pickF rfl rfl rfl rfl) ?_
  refine run_nil ?_
  refine run_sub (subMk (.cons (s := 0) rfl (.cons (s := 7) rfl (.cons (s := 8) rfl (.cons (s := 9) rfl (.cons (s := 26) rfl .nil))))) .refl) ?_
  refine run_condF rfl (decide_eq_false (by omega)) ?_
  refine run_skip ?_
  refine run_seq ?_
  refine run_seq ?_
  refine run_region ?_
  refine run_q (.none rfl) rfl rfl (q_move rfl rfl) ?_
  refine run_q (.none rfl) rfl rfl (q_nilCheck rfl rfl) ?_
  refine run_q (.none rfl) rfl rfl (q_fieldAddr (d := 0) rfl Try.underlying94 rfl rfl sz3 rfl) ?_
  refine run_q (.none rfl) rfl rfl (q_loadF rfl one3 rfl (.inp hb .no) (show ([[.int .i64 (-1), .slice A o.length c]] : List (List Value))[0]? = some [.int .i64 (-1), .slice A o.length c] from rfl) rfl) ?_
  refine run_q (.none rfl) rfl rfl (q_eql rfl rfl rfl) ?_
  refine run_nil ?_
  refine run_sub (subMk (.cons (s := 7) rfl (.cons (s := 8) rfl (.cons (s := 9) rfl (.cons (s := 31) rfl .nil)))) .refl) ?_
  refine run_condF rfl rfl ?_
  refine run_skip ?_
  refine run_seq ?_
  refine run_region ?_
  refine run_q (.none rfl) rfl rfl (q_fieldB (d := 3) rfl Try.underlying47 rfl rfl sz3 rfl) ?_
  refine run_q (.none rfl) rfl rfl (q_loadB rfl one3 rfl Sel.here rfl) ?_
  refine run_q (.none rfl) rfl rfl (q_move rfl rfl) ?_
  refine run_q (.none rfl) rfl rfl (q_gtr rfl rfl rfl) ?_
  refine run_q (.none rfl) rfl rfl (q_assign rfl rfl) ?_
  refine run_nil ?_
  refine run_sub (subMk (.cons (s := 8) rfl .nil) .refl) ?_
  refine run_ret ?_
  exact end1 rfl rfl rfl

end Go.Proofs.Ytomhegnaojejnaa
