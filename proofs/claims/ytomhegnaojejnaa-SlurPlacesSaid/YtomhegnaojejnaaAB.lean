/- The law on places, joined. -/
import Derived.Test.YtomhegnaojejnaaAA
set_option linter.unusedSimpArgs false
set_option linter.unusedVariables false
namespace Go.Proofs.Ytomhegnaojejnaa
open Go Go.RowKit Hr



set_option maxHeartbeats 2000000 in
set_option maxRecDepth 100000 in
theorem law7_long (la lb : List Int) (LA LB : Option Addr) (ca0 cb0 : Nat) (xs : List Spn) (X : Option Addr) (cx : Nat) (W : World) (hla : Rd W LA 1 (la.map encH)) (hlb : Rd W LB 1 (lb.map encH)) (hbA : ∀ x ∈ la, -32768 ≤ x ∧ x ≤ 32767) (hbB : ∀ x ∈ lb, -32768 ≤ x ∧ x ≤ 32767) (hca0 : la.length ≤ 9223372036854775807) (hcb0 : lb.length ≤ 9223372036854775807) (hx : Rd W X 12 (xs.map Spn.enc)) (h12 : 12 < xs.length) : Calls Try.prog 7 #[.agg #[.slice LA la.length ca0, .slice LB lb.length cb0], .slice X xs.length cx] W (Hr.Just W (.bool true)) := by
  refine Just.of_ret ?_
  refine enterA (X := nX) (vs := [.agg #[.slice LA la.length ca0, .slice LB lb.length cb0], .slice X xs.length cx]) Try.func7 Try.ntmps7 rfl rfl Mem.nil ?_
  refine run_seq ?_
  refine run_region ?_
  refine run_h (.none rfl) (h_box rfl rfl rfl rfl rfl) ?_
  rintro b2 -
  refine run_q (.none rfl) rfl rfl (q_assign rfl rfl) ?_
  refine run_nil ?_
  refine run_seq ?_
  refine run_seq ?_
  refine run_region ?_
  refine run_q (.none rfl) rfl rfl (q_call rfl call12 Evs.nil (fun w hk hm => known_just w)) ?_
  refine run_q (.none rfl) rfl rfl (q_not rfl rfl) ?_
  refine run_q (.none rfl) rfl rfl (q_move rfl rfl) ?_
  refine run_q (.on rfl rfl rfl rfl) rfl rfl (q_move rfl rfl) ?_
  refine run_q (.on rfl rfl rfl rfl) rfl rfl (q_len rfl Try.underlying30 rfl) ?_
  refine run_q (.on rfl rfl rfl rfl) rfl rfl (q_gtr rfl rfl rfl) ?_
  refine run_q (.none rfl) rfl rfl (q_pickF rfl rfl rfl rfl) ?_
  refine run_nil ?_
  refine run_sub (subMk (.cons (s := 1) rfl (.cons (s := 2) rfl (.cons (s := 4) rfl (.cons (s := 25) rfl .nil)))) .refl) ?_
  refine run_condT rfl (decide_eq_true (by omega)) ?_
  refine run_seq ?_
  refine run_region ?_
  refine run_q (.none rfl) rfl rfl (q_call rfl call12 Evs.nil (fun w hk hm => known_just w)) ?_
  refine run_q (.none rfl) rfl rfl (q_assign rfl rfl) ?_
  refine run_nil ?_
  refine run_ret ?_
  exact end1 rfl rfl rfl

theorem law7_just (la lb : List Int) (LA LB : Option Addr) (ca0 cb0 : Nat) (xs : List Spn) (X : Option Addr) (cx : Nat) (W : World) (hla : Rd W LA 1 (la.map encH)) (hlb : Rd W LB 1 (lb.map encH)) (hbA : ∀ x ∈ la, -32768 ≤ x ∧ x ≤ 32767) (hbB : ∀ x ∈ lb, -32768 ≤ x ∧ x ≤ 32767) (hca0 : la.length ≤ 9223372036854775807) (hcb0 : lb.length ≤ 9223372036854775807) (hx : Rd W X 12 (xs.map Spn.enc)) : Calls Try.prog 7 #[.agg #[.slice LA la.length ca0, .slice LB lb.length cb0], .slice X xs.length cx] W (Just W (.bool true)) := by
  by_cases h12 : xs.length ≤ 12
  · by_cases h1 : spsE ((gN la) : Int) xs = 0
    · by_cases hEs : slEs (ordS xs) (gs la (gN la)) (negL (gs lb (gN la))) xs.length = 0
      · exact law7_ok la lb LA LB ca0 cb0 xs X cx W hla hlb hbA hbB hca0 hcb0 hx h12 h1 hEs
      · exact law7_err2 la lb LA LB ca0 cb0 xs X cx W hla hlb hbA hbB hca0 hcb0 hx h12 h1 hEs
    · exact law7_err1 la lb LA LB ca0 cb0 xs X cx W hla hlb hbA hbB hca0 hcb0 hx h12 h1
  · exact law7_long la lb LA LB ca0 cb0 xs X cx W hla hlb hbA hbB hca0 hcb0 hx (by omega)

end Go.Proofs.Ytomhegnaojejnaa
