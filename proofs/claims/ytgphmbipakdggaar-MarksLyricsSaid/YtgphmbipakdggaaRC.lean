/- Skylines made and read. -/
import Derived.Test.YtgphmbipakdggaaRB
import Derived.Test.YtgphmbipakdggaaRCopy
set_option linter.unusedSimpArgs false
set_option linter.unusedVariables false
namespace Go.Proofs.YtgphmbipakdggaaR
open Go Go.RowKit Hr

theorem call87 : Hr.Callable Try.prog 87 := fun args w => by kernel_rfl
theorem call70 : Hr.Callable Try.prog 70 := fun args w => by kernel_rfl
theorem info3 : Hr.Info Try.prog 3 [.int .i64 0] 1 8 := Hr.Info.of (by kernel_rfl)
theorem mixed : Try.prog.follows .mixedOrders = true := by kernel_rfl
theorem call48 : Hr.Callable Try.prog 48 := fun args w => by kernel_rfl
theorem call49 : Hr.Callable Try.prog 49 := fun args w => by kernel_rfl
theorem built105p0p1 (x0y : Int) (x1yA : Option Addr) (x1yn x1yc : Nat) : Try.prog.built 105 [(0, .int .i64 x0y), (1, .slice x1yA x1yn x1yc)] = some #[.int .i64 x0y, .slice x1yA x1yn x1yc] := by kernel_rfl
theorem sz38 : Hr.Sz Try.prog 38 1 := Hr.Sz.of (by kernel_rfl)
theorem one38 : Hr.One Try.prog 38 := ⟨fun w => by simp [isAgg, run_underlying Try.underlying38], Hr.Sz.of (by kernel_rfl)⟩
theorem call65 : Hr.Callable Try.prog 65 := fun args w => by kernel_rfl
theorem call71 : Hr.Callable Try.prog 71 := fun args w => by kernel_rfl

theorem mul64_just (y : Int) (W : World) (hy : 0 ≤ y ∧ y ≤ 4294967295) : Calls Try.prog 87 #[.int .u64 1, .int .u64 y] W (Hr.Just W (.tuple #[.int .u64 0, .int .u64 y])) := by
  refine Just.of_ret ?_
  refine enterA (X := nX) (vs := [.int .u64 1, .int .u64 y]) Try.func87 Try.ntmps87 rfl rfl Mem.nil ?_
  refine run_seq ?_
  refine run_region ?_
  refine run_q (.none rfl) rfl rfl (q_assign rfl rfl) ?_
  refine run_q (.none rfl) rfl rfl (q_assign rfl rfl) ?_
  refine run_nil ?_
  refine run_seq ?_
  refine run_region ?_
  refine run_q (.none rfl) rfl rfl (q_move rfl rfl) ?_
  refine run_q (.none rfl) rfl rfl (q_and rfl rfl rfl) ?_
  refine run_q (.none rfl) rfl rfl (q_assign rfl rfl) ?_
  refine run_nil ?_
  refine run_seq ?_
  refine run_sub (subMk (.cons (s := 0) rfl (.cons (s := 1) rfl (.cons (s := 4) rfl (.cons (s := 5) rfl (.cons (s := 14) rfl (.cons (s := 15) rfl (.cons' (s := 6) (v' := .int .u64 1) rfl (vint (and_mask (by omega))) .nil))))))) .refl) ?_
  refine run_region ?_
  refine run_q (.none rfl) rfl rfl (q_move rfl rfl) ?_
  refine run_q (.none rfl) rfl rfl (q_shr rfl rfl rfl (by omega)) ?_
  refine run_q (.none rfl) rfl rfl (q_assign rfl rfl) ?_
  refine run_nil ?_
  refine run_sub (subMk (.cons (s := 0) rfl (.cons (s := 1) rfl (.cons (s := 4) rfl (.cons (s := 5) rfl (.cons (s := 6) rfl (.cons (s := 7) rfl .nil)))))) .refl) ?_
  refine run_seq ?_
  refine run_sub (subMk (.cons (s := 0) rfl (.cons (s := 1) rfl (.cons (s := 4) rfl (.cons (s := 5) rfl (.cons (s := 6) rfl (.cons' (s := 7) (v' := .int .u64 0) rfl (vint (shr32 (by omega))) .nil)))))) .refl) ?_
  refine run_region ?_
  refine run_q (.none rfl) rfl rfl (q_move rfl rfl) ?_
  refine run_q (.none rfl) rfl rfl (q_and rfl rfl rfl) ?_
  refine run_q (.none rfl) rfl rfl (q_assign rfl rfl) ?_
  refine run_nil ?_
  refine run_seq ?_
  refine run_sub (subMk (.cons (s := 0) rfl (.cons (s := 1) rfl (.cons (s := 4) rfl (.cons (s := 5) rfl (.cons (s := 6) rfl (.cons (s := 7) rfl (.cons (s := 18) rfl (.cons (s := 19) rfl (.cons' (s := 8) (v' := .int .u64 y) rfl (vint (and_mask (by omega))) .nil))))))))) .refl) ?_
  refine run_region ?_
  refine run_q (.none rfl) rfl rfl (q_move rfl rfl) ?_
  refine run_q (.none rfl) rfl rfl (q_shr rfl rfl rfl (by omega)) ?_
  refine run_q (.none rfl) rfl rfl (q_assign rfl rfl) ?_
  refine run_nil ?_
  refine run_sub (subMk (.cons (s := 0) rfl (.cons (s := 1) rfl (.cons (s := 4) rfl (.cons (s := 5) rfl (.cons (s := 6) rfl (.cons (s := 7) rfl (.cons (s := 8) rfl (.cons (s := 9) rfl .nil)))))))) .refl) ?_
  refine run_seq ?_
  refine run_sub (subMk (.cons (s := 0) rfl (.cons (s := 1) rfl (.cons (s := 4) rfl (.cons (s := 5) rfl (.cons (s := 6) rfl (.cons (s := 7) rfl (.cons (s := 8) rfl (.cons' (s := 9) (v' := .int .u64 0) rfl (vint (shr32 (by omega))) .nil)))))))) .refl) ?_
  refine run_region ?_
  refine run_q (.none rfl) rfl rfl (q_move rfl rfl) ?_
  refine run_q (.none rfl) rfl rfl (q_move rfl rfl) ?_
  refine run_q (.none rfl) rfl rfl (q_mulw rfl rfl rfl) ?_
  refine run_q (.none rfl) rfl rfl (q_assign rfl rfl) ?_
  refine run_nil ?_
  refine run_sub (subMk (.cons (s := 0) rfl (.cons (s := 1) rfl (.cons (s := 4) rfl (.cons (s := 5) rfl (.cons (s := 6) rfl (.cons (s := 7) rfl (.cons (s := 8) rfl (.cons (s := 9) rfl (.cons (s := 10) rfl .nil))))))))) .refl) ?_
  refine run_seq ?_
  refine run_sub (subMk (.cons (s := 0) rfl (.cons (s := 1) rfl (.cons (s := 4) rfl (.cons (s := 5) rfl (.cons (s := 6) rfl (.cons (s := 7) rfl (.cons (s := 8) rfl (.cons (s := 9) rfl (.cons' (s := 10) (v' := .int .u64 y) rfl (vint (by rw [wrap64]; omega)) .nil))))))))) .refl) ?_
  refine run_region ?_
  refine run_q (.none rfl) rfl rfl (q_move rfl rfl) ?_
  refine run_q (.none rfl) rfl rfl (q_move rfl rfl) ?_
  refine run_q (.none rfl) rfl rfl (q_mulw rfl rfl rfl) ?_
  refine run_q (.none rfl) rfl rfl (q_move rfl rfl) ?_
  refine run_q (.none rfl) rfl rfl (q_shr rfl rfl rfl (by omega)) ?_
  refine run_q (.none rfl) rfl rfl (q_addw rfl rfl rfl) ?_
  refine run_q (.none rfl) rfl rfl (q_assign rfl rfl) ?_
  refine run_nil ?_
  refine run_sub (subMk (.cons (s := 0) rfl (.cons (s := 1) rfl (.cons (s := 4) rfl (.cons (s := 5) rfl (.cons (s := 6) rfl (.cons (s := 7) rfl (.cons (s := 9) rfl (.cons (s := 11) rfl .nil)))))))) .refl) ?_
  refine run_seq ?_
  refine run_sub (subMk (.cons (s := 0) rfl (.cons (s := 1) rfl (.cons (s := 4) rfl (.cons (s := 5) rfl (.cons (s := 6) rfl (.cons (s := 7) rfl (.cons (s := 9) rfl (.cons' (s := 11) (v' := .int .u64 0) rfl (vint (by rw [shr32 (by omega), wrap64, wrap64]; omega)) .nil)))))))) .refl) ?_
  refine run_region ?_
  refine run_q (.none rfl) rfl rfl (q_move rfl rfl) ?_
  refine run_q (.none rfl) rfl rfl (q_and rfl rfl rfl) ?_
  refine run_q (.none rfl) rfl rfl (q_assign rfl rfl) ?_
  refine run_nil ?_
  refine run_seq ?_
  refine run_sub (subMk (.cons (s := 0) rfl (.cons (s := 1) rfl (.cons (s := 4) rfl (.cons (s := 5) rfl (.cons (s := 6) rfl (.cons (s := 7) rfl (.cons (s := 9) rfl (.cons (s := 11) rfl (.cons (s := 31) rfl (.cons (s := 32) rfl (.cons' (s := 12) (v' := .int .u64 0) rfl (vint (and_mask (by omega))) .nil))))))))))) .refl) ?_
  refine run_region ?_
  refine run_q (.none rfl) rfl rfl (q_move rfl rfl) ?_
  refine run_q (.none rfl) rfl rfl (q_shr rfl rfl rfl (by omega)) ?_
  refine run_q (.none rfl) rfl rfl (q_assign rfl rfl) ?_
  refine run_nil ?_
  refine run_sub (subMk (.cons (s := 0) rfl (.cons (s := 1) rfl (.cons (s := 4) rfl (.cons (s := 5) rfl (.cons (s := 6) rfl (.cons (s := 7) rfl (.cons (s := 9) rfl (.cons (s := 12) rfl (.cons (s := 13) rfl .nil))))))))) .refl) ?_
  refine run_seq ?_
  refine run_sub (subMk (.cons (s := 0) rfl (.cons (s := 1) rfl (.cons (s := 4) rfl (.cons (s := 5) rfl (.cons (s := 6) rfl (.cons (s := 7) rfl (.cons (s := 9) rfl (.cons (s := 12) rfl (.cons' (s := 13) (v' := .int .u64 0) rfl (vint (shr32 (by omega))) .nil))))))))) .refl) ?_
  refine run_region ?_
  refine run_q (.none rfl) rfl rfl (q_move rfl rfl) ?_
  refine run_q (.none rfl) rfl rfl (q_move rfl rfl) ?_
  refine run_q (.none rfl) rfl rfl (q_move rfl rfl) ?_
  refine run_q (.none rfl) rfl rfl (q_mulw rfl rfl rfl) ?_
  refine run_q (.none rfl) rfl rfl (q_addw rfl rfl rfl) ?_
  refine run_q (.none rfl) rfl rfl (q_assign rfl rfl) ?_
  refine run_nil ?_
  refine run_sub (subMk (.cons (s := 0) rfl (.cons (s := 1) rfl (.cons (s := 4) rfl (.cons (s := 5) rfl (.cons (s := 7) rfl (.cons (s := 9) rfl (.cons (s := 12) rfl (.cons (s := 13) rfl .nil)))))))) .refl) ?_
  refine run_seq ?_
  refine run_sub (subMk (.cons (s := 0) rfl (.cons (s := 1) rfl (.cons (s := 4) rfl (.cons (s := 5) rfl (.cons (s := 7) rfl (.cons (s := 9) rfl (.cons' (s := 12) (v' := .int .u64 0) rfl (vint (by rw [wrap64, wrap64]; omega)) (.cons (s := 13) rfl .nil)))))))) .refl) ?_
  refine run_region ?_
  refine run_q (.none rfl) rfl rfl (q_move rfl rfl) ?_
  refine run_q (.none rfl) rfl rfl (q_move rfl rfl) ?_
  refine run_q (.none rfl) rfl rfl (q_mulw rfl rfl rfl) ?_
  refine run_q (.none rfl) rfl rfl (q_move rfl rfl) ?_
  refine run_q (.none rfl) rfl rfl (q_addw rfl rfl rfl) ?_
  refine run_q (.none rfl) rfl rfl (q_move rfl rfl) ?_
  refine run_q (.none rfl) rfl rfl (q_shr rfl rfl rfl (by omega)) ?_
  refine run_q (.none rfl) rfl rfl (q_addw rfl rfl rfl) ?_
  refine run_q (.none rfl) rfl rfl (q_assign rfl rfl) ?_
  refine run_nil ?_
  refine run_sub (subMk (.cons (s := 0) rfl (.cons (s := 1) rfl (.cons (s := 4) rfl (.cons (s := 5) rfl .nil)))) .refl) ?_
  refine run_seq ?_
  refine run_sub (subMk (.cons (s := 0) rfl (.cons (s := 1) rfl (.cons' (s := 4) (v' := .int .u64 0) rfl (vint (by rw [shr32 (by omega), wrap64, wrap64, wrap64]; omega)) (.cons (s := 5) rfl .nil)))) .refl) ?_
  refine run_region ?_
  refine run_q (.none rfl) rfl rfl (q_move rfl rfl) ?_
  refine run_q (.none rfl) rfl rfl (q_move rfl rfl) ?_
  refine run_q (.none rfl) rfl rfl (q_mulw rfl rfl rfl) ?_
  refine run_q (.none rfl) rfl rfl (q_assign rfl rfl) ?_
  refine run_nil ?_
  refine run_sub (subMk (.cons (s := 4) rfl (.cons (s := 5) rfl .nil)) .refl) ?_
  refine run_ret ?_
  exact end2 rfl rfl rfl (by rw [show IntKind.u64.wrap (1 * y) = y from by rw [wrap64]; omega])

theorem mul_just (y : Int) (W : World) (hy : 0 ≤ y ∧ y ≤ 4294967295) : Calls Try.prog 70 #[.int .u64 1, .int .u64 y] W (Hr.Just W (.tuple #[.int .u64 0, .int .u64 y])) := by
  refine Just.of_ret ?_
  refine enterA (X := nX) (vs := [.int .u64 1, .int .u64 y]) Try.func70 Try.ntmps70 rfl rfl Mem.nil ?_
  refine run_seq ?_
  refine run_region ?_
  refine run_q (.none rfl) rfl rfl (q_assign rfl rfl) ?_
  refine run_q (.none rfl) rfl rfl (q_assign rfl rfl) ?_
  refine run_nil ?_
  refine run_seq ?_
  refine run_condF rfl rfl ?_
  refine run_skip ?_
  refine run_seq ?_
  refine run_region ?_
  refine run_q (.none rfl) rfl rfl (q_move rfl rfl) ?_
  refine run_q (.none rfl) rfl rfl (q_move rfl rfl) ?_
  refine run_q (.none rfl) rfl rfl (q_call rfl call87 (.cons rfl (.cons rfl Evs.nil)) (fun w hk hm => mul64_just y w hy)) ?_
  refine run_q (.none rfl) rfl rfl (q_move rfl rfl) ?_
  refine run_q (.none rfl) rfl rfl (q_extract rfl rfl rfl) ?_
  refine run_q (.none rfl) rfl rfl (q_extract rfl rfl rfl) ?_
  refine run_q (.none rfl) rfl rfl (q_assign rfl rfl) ?_
  refine run_q (.none rfl) rfl rfl (q_assign rfl rfl) ?_
  refine run_nil ?_
  refine run_sub (subMk (.cons (s := 4) rfl (.cons (s := 5) rfl (.cons (s := 8) rfl (.cons (s := 9) rfl .nil)))) .refl) ?_
  refine run_seq ?_
  refine run_region ?_
  refine run_q (.none rfl) rfl rfl (q_move rfl rfl) ?_
  refine run_q (.none rfl) rfl rfl (q_move rfl rfl) ?_
  refine run_q (.none rfl) rfl rfl (q_assign rfl rfl) ?_
  refine run_q (.none rfl) rfl rfl (q_assign rfl rfl) ?_
  refine run_nil ?_
  refine run_sub (subMk (.cons (s := 4) rfl (.cons (s := 5) rfl .nil)) .refl) ?_
  refine run_ret ?_
  exact end2 rfl rfl rfl rfl

set_option maxRecDepth 100000 in
theorem repeat_ret (x : Int) (n : Nat) (B : Option Addr) (W : World) (hr : Rd W B 1 [[.int .i64 x]]) (hn : 1 ≤ n ∧ n ≤ 65536) : Calls Try.prog 49 #[.slice B 1 1, .int .i64 (n : Int)] W (Ret W nX (fun v m => ∃ A c, v = .slice A n c ∧ m = [.own 3 1 A n c ((List.replicate n x).map encI)])) := by
  refine enterA (X := nX) (vs := [.slice B 1 1, .int .i64 (n : Int)]) Try.func49 Try.ntmps49 rfl rfl Mem.nil ?_
  refine run_seq ?_
  refine run_region ?_
  refine run_q (.none rfl) rfl rfl (q_assign rfl rfl) ?_
  refine run_nil ?_
  refine run_seq ?_
  refine run_seq ?_
  refine run_region ?_
  refine run_q (.none rfl) rfl rfl (q_move rfl rfl) ?_
  refine run_q (.none rfl) rfl rfl (q_lss rfl rfl rfl) ?_
  refine run_nil ?_
  refine run_condF rfl (decide_eq_false (by omega)) ?_
  refine run_skip ?_
  refine run_seq ?_
  refine run_region ?_
  refine run_q (.none rfl) rfl rfl (q_move rfl rfl) ?_
  refine run_q (.none rfl) rfl rfl (q_len rfl Try.underlying38 rfl) ?_
  refine run_q (.none rfl) rfl rfl (q_convert' rfl rfl Try.underlying3 Try.underlying138 (by rw [wrap64]; omega)) ?_
  refine run_q (.none rfl) rfl rfl (q_move rfl rfl) ?_
  refine run_q (.none rfl) rfl rfl (q_convert' rfl rfl Try.underlying3 Try.underlying138 (by rw [wrap64]; omega)) ?_
  refine run_q (.none rfl) rfl rfl (q_call rfl call70 (.cons rfl (.cons rfl Evs.nil)) (fun w hk hm => mul_just (n : Int) w (by omega))) ?_
  refine run_q (.none rfl) rfl rfl (q_move rfl rfl) ?_
  refine run_q (.none rfl) rfl rfl (q_extract rfl rfl rfl) ?_
  refine run_q (.none rfl) rfl rfl (q_extract rfl rfl rfl) ?_
  refine run_q (.none rfl) rfl rfl (q_assign rfl rfl) ?_
  refine run_q (.none rfl) rfl rfl (q_assign rfl rfl) ?_
  refine run_nil ?_
  refine run_sub (subMk (.cons (s := 0) rfl (.cons (s := 4) rfl (.cons (s := 5) rfl (.cons (s := 6) rfl .nil)))) .refl) ?_
  refine run_seq ?_
  refine run_seq ?_
  refine run_region ?_
  refine run_q (.none rfl) rfl rfl (q_move rfl rfl) ?_
  refine run_q (.none rfl) rfl rfl (q_gtr rfl rfl rfl) ?_
  refine run_q (.none rfl) rfl rfl (q_move rfl rfl) ?_
  refine run_q (.on rfl rfl rfl rfl) rfl rfl (q_move rfl rfl) ?_
  refine run_q (.on rfl rfl rfl rfl) rfl rfl (q_gtr rfl rfl rfl) ?_
  refine run_q (.none rfl) rfl rfl (q_pickF rfl rfl rfl rfl) ?_
  refine run_nil ?_
  refine run_sub (subMk (.cons (s := 0) rfl (.cons (s := 4) rfl (.cons (s := 6) rfl (.cons (s := 26) rfl .nil)))) .refl) ?_
  refine run_condF rfl (decide_eq_false (by omega)) ?_
  refine run_skip ?_
  refine run_seq ?_
  refine run_region ?_
  refine run_q (.none rfl) rfl rfl (q_move rfl rfl) ?_
  refine run_q (.none rfl) rfl rfl (q_convert' rfl rfl Try.underlying138 Try.underlying3 (by rw [IntKind.wrap_i64]; omega)) ?_
  refine run_h (.none rfl) (h_make (m := n) (cap := n) rfl rfl rfl Try.underlying38 info3 rfl rfl (by omega) (by omega) (by omega)) ?_
  rintro b30 -
  refine run_q (.none rfl) rfl rfl (q_assign rfl rfl) ?_
  refine run_nil ?_
  refine run_sub (subMk (.cons (s := 0) rfl (.cons (s := 4) rfl (.cons (s := 7) rfl .nil))) .refl) ?_
  refine run_seq ?_
  refine run_region ?_
  refine run_q (.none rfl) rfl rfl (q_move rfl rfl) ?_
  refine run_q (.none rfl) rfl rfl (q_move rfl rfl) ?_
  refine run_h (.none rfl) (h_copy (i := 0) (q := 1) rfl rfl rfl Try.underlying38 sz3 rfl (cutA_zero _ _ _).symm rfl (by omega) Sel.here rfl (.inp hr .no) rfl (all1 rfl) (all1 rfl) (by omega)) ?_
  rintro - -
  refine run_q (.none rfl) rfl rfl (q_assign rfl rfl) ?_
  refine run_nil ?_
  refine run_sub (subMk (.cons (s := 4) rfl (.cons (s := 7) rfl (.cons (s := 8) rfl .nil))) .refl) ?_
  refine run_seq ?_
  refine run_block ?_
  refine run_sub (subMk (.cons (s := 8) rfl (.cons (s := 4) rfl (.cons (s := 7) rfl .nil))) (.cons Sel.here .refl .nil)) ?_
  refine run_loopC1M1 (ι := Nat) (fun k => 1 ≤ k ∧ k ≤ n) (fun k => .int .i64 (k : Int)) (fun k => .own 3 1 (some ⟨b30, 0, none⟩) n n ((repK n k x).map encI)) (fun k => n - k) 1 (by (try dsimp only); exact ⟨by omega, by omega⟩) rfl (.own rfl rfl rfl (rep_first hn.1)) ?_
  rintro k hq
  (try dsimp only at hq)
  obtain ⟨hk1, hk⟩ := hq
  show Run _ _ _ _ _ _ _ ⟨(8, .int .i64 (k : Int)) :: _, .own 3 1 (some ⟨b30, 0, none⟩) n n ((repK n k x).map encI) :: _⟩
  refine run_seq ?_
  refine run_seq ?_
  refine run_region ?_
  refine run_q (.none rfl) rfl rfl (q_move rfl rfl) ?_
  refine run_q (.none rfl) rfl rfl (q_move rfl rfl) ?_
  refine run_q (.none rfl) rfl rfl (q_len rfl Try.underlying38 rfl) ?_
  refine run_q (.none rfl) rfl rfl (q_lss rfl rfl rfl) ?_
  refine run_nil ?_
  refine run_sub (subMk (.cons (s := 4) rfl (.cons (s := 7) rfl (.cons (s := 8) rfl (.cons (s := 37) rfl .nil)))) .refl) ?_
  refine run_cond rfl (fun g37 => ?_) (fun g37 => ?_)
  · have g37' := g37
    try simp only [decide_eq_true_eq, decide_eq_false_iff_not, beq_iff_eq, beq_eq_false_iff_ne, bne_iff_ne, bne_eq_false_iff_eq, Bool.not_eq_true', Bool.not_eq_false', ne_eq, Int.not_lt, Int.not_le, Decidable.not_not] at g37'
    refine run_skip ?_
    refine run_block ?_
    refine run_pure [(0, 3), (1, 0), (2, 0), (3, 0), (4, 0), (5, 0), (6, 0), (7, 2), (8, 2), (9, 2)] mixed (by kernel_rfl) .refl ?_
    refine p_p rfl rfl (.none rfl) rfl rfl (q_move rfl rfl) ?_
    refine p_q rfl rfl (.none rfl) rfl rfl (q_move rfl rfl) ?_
    refine p_q rfl rfl (.none rfl) rfl rfl (q_move rfl rfl) ?_
    refine p_q rfl rfl (.none rfl) rfl rfl (q_sliceL rfl Try.underlying38 sz3 rfl rfl (by omega)) ?_
    refine p_q rfl rfl (.none rfl) rfl rfl (q_move rfl rfl) ?_
    refine p_q rfl rfl (.none rfl) rfl rfl (q_move rfl rfl) ?_
    refine p_q rfl rfl (.none rfl) rfl rfl (q_sliceH rfl Try.underlying38 sz3 rfl rfl (by omega)) ?_
    refine p_t rfl rfl (.none rfl) (h_copy (i := k) (q := (min k (n - k))) rfl rfl rfl Try.underlying38 sz3 rfl rfl rfl (by omega) Sel.here rfl ((RdS.own Sel.here).take k) (by rw [List.length_take, List.length_map, repK_len (by omega)]; omega) (fun z hz => encI_len (List.mem_of_mem_take hz)) (fun z hz => encI_all (List.mem_of_mem_take hz)) (by omega)) ?_
    rintro - -
    refine p_t rfl rfl (.none rfl) (.of_q rfl rfl (q_add rfl rfl rfl (by omega))) ?_
    rintro - -
    refine p_t rfl rfl (.none rfl) (.of_q rfl rfl (q_assign rfl rfl)) ?_
    rintro - -
    refine p_nil ?_
    refine run_sub (subMk (.cons (s := 4) rfl (.cons (s := 7) rfl (.cons (s := 8) rfl .nil))) .refl) ?_
    refine run_blk ?_
    exact run_again (k + min k (n - k)) (by (try dsimp only); exact ⟨by omega, by omega⟩) (by (try dsimp only); omega) (subMk (.cons' (s := 8) rfl (vint (by omega)) (.cons (s := 4) rfl (.cons (s := 7) rfl .nil))) (.cons Sel.here (.own rfl rfl rfl (repK_copy (by omega) (by omega) (by omega))) .nil))
  · have g37' := g37
    try simp only [decide_eq_true_eq, decide_eq_false_iff_not, beq_iff_eq, beq_eq_false_iff_ne, bne_iff_ne, bne_eq_false_iff_eq, Bool.not_eq_true', Bool.not_eq_false', ne_eq, Int.not_lt, Int.not_le, Decidable.not_not] at g37'
    refine run_exit rfl ?_
    refine run_seq ?_
    refine run_region ?_
    refine run_q (.none rfl) rfl rfl (q_move rfl rfl) ?_
    refine run_q (.none rfl) rfl rfl (q_assign rfl rfl) ?_
    refine run_nil ?_
    refine run_sub (subMk (.cons (s := 4) rfl .nil) .refl) ?_
    refine run_ret ?_
    refine run_sub (subMk .refl (.cons Sel.here .refl .nil)) ?_
    exact end1 rfl rfl ⟨some ⟨b30, 0, none⟩, n, rfl, by rw [repK_all (by omega) (by omega)]⟩

set_option maxRecDepth 100000 in
theorem new_ret (t h : Int) (n : Nat) (W : World) (ht : t = 1 ∨ t = -1) (hn : 1 ≤ n ∧ n ≤ 65536) (hh : -1048576 ≤ h ∧ h ≤ 1048576) : Calls Try.prog 26 #[.int .i64 t, .int .i64 (n : Int), .int .i64 h] W (Ret W nX (fun v m => ∃ (p : Nat) (A : Option Addr) (c : Nat), v = .tuple #[.pointer (some ⟨p, 0, none⟩), .int .i64 0] ∧ n ≤ c ∧ m = [.blk p 105 [(0, .int .i64 t), (1, .slice A n c)], .own 3 1 A n c ((List.replicate n (t * h)).map encI)])) := by
  refine enterA (X := nX) (vs := [.int .i64 t, .int .i64 (n : Int), .int .i64 h]) Try.func26 Try.ntmps26 rfl rfl Mem.nil ?_
  refine run_seq ?_
  refine run_region ?_
  refine run_q (.none rfl) rfl rfl (q_assign rfl rfl) ?_
  refine run_q (.none rfl) rfl rfl (q_assign rfl rfl) ?_
  refine run_nil ?_
  refine run_seq ?_
  refine run_block ?_
  refine run_seq ?_
  refine run_region ?_
  refine run_q (.none rfl) rfl rfl (q_move rfl rfl) ?_
  refine run_q (.none rfl) rfl rfl (q_neq rfl rfl rfl) ?_
  refine run_q (.none rfl) rfl rfl (q_move rfl rfl) ?_
  refine run_split 11 rfl (fun g11 => ?_) (fun g11 => ?_)
  · have g11' := g11
    try simp only [decide_eq_true_eq, decide_eq_false_iff_not, beq_iff_eq, beq_eq_false_iff_ne, bne_iff_ne, bne_eq_false_iff_eq, Bool.not_eq_true', Bool.not_eq_false', ne_eq, Int.not_lt, Int.not_le, Decidable.not_not] at g11'
    refine run_q (.on rfl rfl rfl g11) rfl rfl (q_move rfl rfl) ?_
    refine run_q (.on rfl rfl rfl g11) rfl rfl (q_neq rfl rfl rfl) ?_
    refine run_q (.none rfl) rfl rfl (q_pickT rfl rfl g11 rfl) ?_
    refine run_q (.none rfl) rfl rfl (q_assign rfl rfl) ?_
    refine run_nil ?_
    refine run_sub (subMk (.cons (s := 0) rfl (.cons (s := 1) rfl (.cons (s := 2) rfl (.cons (s := 6) rfl (.cons (s := 7) rfl (.cons (s := 8) rfl .nil)))))) .refl) ?_
    refine run_condF rfl (bne_eq_false_iff_eq.2 (by omega)) ?_
    refine run_seq ?_
    refine run_region ?_
    refine run_q (.none rfl) rfl rfl (q_move rfl rfl) ?_
    refine run_q (.none rfl) rfl rfl (q_lss rfl rfl rfl) ?_
    refine run_q (.none rfl) rfl rfl (q_move rfl rfl) ?_
    refine run_q (.on rfl rfl rfl (decide_eq_false (by omega))) rfl rfl (q_move rfl rfl) ?_
    refine run_q (.on rfl rfl rfl (decide_eq_false (by omega))) rfl rfl (q_gtr rfl rfl rfl) ?_
    refine run_q (.none rfl) rfl rfl (q_pickF rfl rfl (decide_eq_false (by omega)) rfl) ?_
    refine run_q (.none rfl) rfl rfl (q_move rfl rfl) ?_
    refine run_q (.on rfl rfl rfl (decide_eq_false (by omega))) rfl rfl (q_move rfl rfl) ?_
    refine run_q (.on rfl rfl rfl (decide_eq_false (by omega))) rfl rfl (q_call rfl call48 (.cons rfl Evs.nil) (fun w hk hm => perm_just _ w)) ?_
    refine run_q (.on rfl rfl rfl (decide_eq_false (by omega))) rfl rfl (q_not rfl rfl) ?_
    refine run_q (.none rfl) rfl rfl (q_pickF rfl rfl (decide_eq_false (by omega)) rfl) ?_
    refine run_q (.none rfl) rfl rfl (q_assign rfl rfl) ?_
    refine run_nil ?_
    refine run_sub (subMk (.cons (s := 0) rfl (.cons (s := 1) rfl (.cons (s := 2) rfl (.cons (s := 6) rfl (.cons (s := 7) rfl (.cons (s := 15) rfl .nil)))))) .refl) ?_
    refine run_condF rfl (by rw [decide_eq_true hh]; rfl) ?_
    refine run_skip ?_
    refine run_blk ?_
    refine run_seq ?_
    refine run_region ?_
    refine run_q (.none rfl) rfl rfl (q_move rfl rfl) ?_
    refine run_q (.none rfl) rfl rfl (q_move rfl rfl) ?_
    refine run_q (.none rfl) rfl rfl (q_move rfl rfl) ?_
    refine run_q (.none rfl) rfl rfl (q_mul rfl rfl rfl (by have := sgn_bd ht hh; omega)) ?_
    refine run_h (.none rfl) (h_buildSlice rfl rfl rfl Try.underlying38 info3 (.cons rfl rfl rfl rfl Parts.nil) rfl (by omega)) ?_
    rintro b31 -
    refine run_q (.none rfl) rfl rfl (q_move rfl rfl) ?_
    refine run_h (.none rfl) (h_call rfl rfl rfl call49 (.cons rfl (.cons rfl Evs.nil)) (fun w hk hm => repeat_ret (t * h) n (some ⟨b31, 0, none⟩) w (own_rd (Sel.here.holds hm)) hn)) ?_
    rintro ⟨v, m⟩ ⟨A33, c33, rfl, rfl⟩
    show Run _ _ _ _ _ _ _ ⟨(33, .slice A33 n c33) :: _, _ :: _⟩
    refine run_q (.none rfl) rfl rfl (q_build rfl (.cons rfl (.cons rfl PV.nil)) (built105p0p1 _ _ _ _)) ?_
    refine run_h (.none rfl) (h_box rfl rfl rfl rfl rfl) ?_
    rintro b35 -
    refine run_q (.none rfl) rfl rfl (q_assign rfl rfl) ?_
    refine run_q (.none rfl) rfl rfl (q_assign rfl rfl) ?_
    refine run_nil ?_
    refine run_sub (subMk (.cons (s := 6) rfl (.cons (s := 7) rfl .nil)) .refl) ?_
    refine run_ret ?_
    refine run_ownLe (.there Sel.here) (fun hle => ?_)
    refine run_sub (subMk .refl (.cons Sel.here (.blk (.cons (s := 0) rfl (.cons (s := 1) rfl (.nil)))) (.cons Sel.here .refl .nil))) ?_
    exact end2 rfl rfl rfl ⟨b35, A33, c33, rfl, hle, rfl⟩
  · have g11' := g11
    try simp only [decide_eq_true_eq, decide_eq_false_iff_not, beq_iff_eq, beq_eq_false_iff_ne, bne_iff_ne, bne_eq_false_iff_eq, Bool.not_eq_true', Bool.not_eq_false', ne_eq, Int.not_lt, Int.not_le, Decidable.not_not] at g11'
    refine run_off (.no rfl rfl rfl g11) rfl rfl ?_
    refine run_off (.no rfl rfl rfl g11) rfl rfl ?_
    refine run_q (.none rfl) rfl rfl (q_pickF rfl rfl g11 rfl) ?_
    refine run_q (.none rfl) rfl rfl (q_assign rfl rfl) ?_
    refine run_nil ?_
    refine run_sub (subMk (.cons (s := 0) rfl (.cons (s := 1) rfl (.cons (s := 2) rfl (.cons (s := 6) rfl (.cons (s := 7) rfl (.cons (s := 8) rfl .nil)))))) .refl) ?_
    refine run_condF rfl rfl ?_
    refine run_seq ?_
    refine run_region ?_
    refine run_q (.none rfl) rfl rfl (q_move rfl rfl) ?_
    refine run_q (.none rfl) rfl rfl (q_lss rfl rfl rfl) ?_
    refine run_q (.none rfl) rfl rfl (q_move rfl rfl) ?_
    refine run_q (.on rfl rfl rfl (decide_eq_false (by omega))) rfl rfl (q_move rfl rfl) ?_
    refine run_q (.on rfl rfl rfl (decide_eq_false (by omega))) rfl rfl (q_gtr rfl rfl rfl) ?_
    refine run_q (.none rfl) rfl rfl (q_pickF rfl rfl (decide_eq_false (by omega)) rfl) ?_
    refine run_q (.none rfl) rfl rfl (q_move rfl rfl) ?_
    refine run_q (.on rfl rfl rfl (decide_eq_false (by omega))) rfl rfl (q_move rfl rfl) ?_
    refine run_q (.on rfl rfl rfl (decide_eq_false (by omega))) rfl rfl (q_call rfl call48 (.cons rfl Evs.nil) (fun w hk hm => perm_just _ w)) ?_
    refine run_q (.on rfl rfl rfl (decide_eq_false (by omega))) rfl rfl (q_not rfl rfl) ?_
    refine run_q (.none rfl) rfl rfl (q_pickF rfl rfl (decide_eq_false (by omega)) rfl) ?_
    refine run_q (.none rfl) rfl rfl (q_assign rfl rfl) ?_
    refine run_nil ?_
    refine run_sub (subMk (.cons (s := 0) rfl (.cons (s := 1) rfl (.cons (s := 2) rfl (.cons (s := 6) rfl (.cons (s := 7) rfl (.cons (s := 15) rfl .nil)))))) .refl) ?_
    refine run_condF rfl (by rw [decide_eq_true hh]; rfl) ?_
    refine run_skip ?_
    refine run_blk ?_
    refine run_seq ?_
    refine run_region ?_
    refine run_q (.none rfl) rfl rfl (q_move rfl rfl) ?_
    refine run_q (.none rfl) rfl rfl (q_move rfl rfl) ?_
    refine run_q (.none rfl) rfl rfl (q_move rfl rfl) ?_
    refine run_q (.none rfl) rfl rfl (q_mul rfl rfl rfl (by have := sgn_bd ht hh; omega)) ?_
    refine run_h (.none rfl) (h_buildSlice rfl rfl rfl Try.underlying38 info3 (.cons rfl rfl rfl rfl Parts.nil) rfl (by omega)) ?_
    rintro b31 -
    refine run_q (.none rfl) rfl rfl (q_move rfl rfl) ?_
    refine run_h (.none rfl) (h_call rfl rfl rfl call49 (.cons rfl (.cons rfl Evs.nil)) (fun w hk hm => repeat_ret (t * h) n (some ⟨b31, 0, none⟩) w (own_rd (Sel.here.holds hm)) hn)) ?_
    rintro ⟨v, m⟩ ⟨A33, c33, rfl, rfl⟩
    show Run _ _ _ _ _ _ _ ⟨(33, .slice A33 n c33) :: _, _ :: _⟩
    refine run_q (.none rfl) rfl rfl (q_build rfl (.cons rfl (.cons rfl PV.nil)) (built105p0p1 _ _ _ _)) ?_
    refine run_h (.none rfl) (h_box rfl rfl rfl rfl rfl) ?_
    rintro b35 -
    refine run_q (.none rfl) rfl rfl (q_assign rfl rfl) ?_
    refine run_q (.none rfl) rfl rfl (q_assign rfl rfl) ?_
    refine run_nil ?_
    refine run_sub (subMk (.cons (s := 6) rfl (.cons (s := 7) rfl .nil)) .refl) ?_
    refine run_ret ?_
    refine run_ownLe (.there Sel.here) (fun hle => ?_)
    refine run_sub (subMk .refl (.cons Sel.here (.blk (.cons (s := 0) rfl (.cons (s := 1) rfl (.nil)))) (.cons Sel.here .refl .nil))) ?_
    exact end2 rfl rfl rfl ⟨b35, A33, c33, rfl, hle, rfl⟩

theorem Int_len {l : List Int} {z : List Value} (h : z ∈ l.map encI) : z.length = 1 := by
  obtain ⟨p, _, rfl⟩ := List.mem_map.1 h; rfl
theorem Int_all {l : List Int} {z : List Value} (h : z ∈ l.map encI) : allCells z = true := by
  obtain ⟨p, _, rfl⟩ := List.mem_map.1 h; rfl

set_option maxRecDepth 100000 in
theorem cloneI_ret (l : List Int) (A : Option Addr) (ca : Nat) (W : World) (hr : Rd W A 1 (l.map encI)) (hl : l.length ≤ 1000000) : Calls Try.prog 67 #[.slice A l.length ca] W (Ret W nX (fun v m => ∃ O co, v = .slice O l.length co ∧ m = [.own 3 1 O l.length co ((l).map encI)])) := by
  refine enterA (X := nX) (vs := [.slice A l.length ca]) Try.func67 Try.ntmps67 rfl rfl Mem.nil ?_
  refine run_seq ?_
  refine run_region ?_
  refine run_q (.none rfl) rfl rfl (q_assign rfl rfl) ?_
  refine run_nil ?_
  refine run_seq ?_
  refine run_seq ?_
  refine run_region ?_
  refine run_q (.none rfl) rfl rfl (q_move rfl rfl) ?_
  refine run_q (.none rfl) rfl rfl (q_eqlNil rfl rfl rfl Try.underlying38) ?_
  refine run_nil ?_
  refine run_cond rfl (fun g4 => ?_) (fun g4 => ?_)
  · have g4' := g4
    try simp only [decide_eq_true_eq, decide_eq_false_iff_not, beq_iff_eq, beq_eq_false_iff_ne, bne_iff_ne, bne_eq_false_iff_eq, Bool.not_eq_true', Bool.not_eq_false', ne_eq, Int.not_lt, Int.not_le, Decidable.not_not] at g4'
    have hl0 := rd_none hr g4
    refine run_seq ?_
    refine run_region ?_
    refine run_q (.none rfl) rfl rfl (q_assign rfl rfl) ?_
    refine run_nil ?_
    refine run_ret ?_
    refine run_sub (subMk .refl (MemSub.nilOwn 3 1)) ?_
    refine run_sub (subMk .refl (.cons Sel.here .refl .nil)) ?_
    exact end1 rfl rfl ⟨none, 0, by rw [hl0]; rfl, by rw [hl0]; rfl⟩
  · have g4' := g4
    try simp only [decide_eq_true_eq, decide_eq_false_iff_not, beq_iff_eq, beq_eq_false_iff_ne, bne_iff_ne, bne_eq_false_iff_eq, Bool.not_eq_true', Bool.not_eq_false', ne_eq, Int.not_lt, Int.not_le, Decidable.not_not] at g4'
    refine run_skip ?_
    refine run_seq ?_
    refine run_region ?_
    refine run_h (.none rfl) (h_buildSlice rfl rfl rfl Try.underlying38 info3 Parts.nil rfl (by omega)) ?_
    rintro b5 -
    refine run_q (.none rfl) rfl rfl (q_move rfl rfl) ?_
    refine run_h (.none rfl) (h_append rfl rfl rfl Try.underlying38 info3 rfl rfl Sel.here rfl (.inp hr .no) (by simp) (fun z hz => Int_len hz) (fun z hz => Int_all hz) (by omega) (by omega)) ?_
    rintro ⟨A7, c7⟩ -
    refine run_q (.none rfl) rfl rfl (q_assign rfl rfl) ?_
    refine run_nil ?_
    refine run_sub (subMk (.cons (s := 2) rfl .nil) .refl) ?_
    refine run_ret ?_
    refine run_sub (subMk .refl (.cons Sel.here .refl .nil)) ?_
    exact end1 rfl rfl ⟨A7, c7, by simp, by simp⟩

set_option maxRecDepth 100000 in
theorem side_just (o : List Int) (p : Nat) (A : Option Addr) (c : Nat) (t : Int) (n : Nat) (W : World) (hon : o.length = n) (hb : Rd W (some ⟨p, 0, none⟩) 2 [[.int .i64 t, .slice A n c]]) : Calls Try.prog 38 #[.pointer (some ((adr (some ⟨p, 0, none⟩)).add (0 * 2)))] W (Hr.Just W (.int .i64 t)) := by
  subst hon
  refine Just.of_ret ?_
  refine enterA (X := nX) (vs := [.pointer (some ((adr (some ⟨p, 0, none⟩)).add (0 * 2)))]) Try.func38 Try.ntmps38 rfl rfl Mem.nil ?_
  refine run_seq ?_
  refine run_region ?_
  refine run_q (.none rfl) rfl rfl (q_assign rfl rfl) ?_
  refine run_nil ?_
  refine run_seq ?_
  refine run_seq ?_
  refine run_region ?_
  refine run_q (.none rfl) rfl rfl (q_move rfl rfl) ?_
  refine run_q (.none rfl) rfl rfl (q_eqlPtr rfl rfl rfl Try.underlying41) ?_
  refine run_nil ?_
  refine run_condF rfl rfl ?_
  refine run_skip ?_
  refine run_seq ?_
  refine run_region ?_
  refine run_q (.none rfl) rfl rfl (q_move rfl rfl) ?_
  refine run_q (.none rfl) rfl rfl (q_nilCheck rfl rfl) ?_
  refine run_q (.none rfl) rfl rfl (q_fieldAddr (d := 0) rfl Try.underlying105 rfl rfl sz3 rfl) ?_
  refine run_q (.none rfl) rfl rfl (q_loadF rfl one3 rfl (.inp hb .no) (show ([[.int .i64 t, .slice A o.length c]] : List (List Value))[0]? = some [.int .i64 t, .slice A o.length c] from rfl) rfl) ?_
  refine run_q (.none rfl) rfl rfl (q_assign rfl rfl) ?_
  refine run_nil ?_
  refine run_sub (subMk (.cons (s := 2) rfl .nil) .refl) ?_
  refine run_ret ?_
  exact end1 rfl rfl rfl

set_option maxRecDepth 100000 in
theorem cols_just (o : List Int) (p : Nat) (A : Option Addr) (c : Nat) (t : Int) (n : Nat) (W : World) (hon : o.length = n) (hb : Rd W (some ⟨p, 0, none⟩) 2 [[.int .i64 t, .slice A n c]]) : Calls Try.prog 39 #[.pointer (some ((adr (some ⟨p, 0, none⟩)).add (0 * 2)))] W (Hr.Just W (.int .i64 (n : Int))) := by
  subst hon
  refine Just.of_ret ?_
  refine enterA (X := nX) (vs := [.pointer (some ((adr (some ⟨p, 0, none⟩)).add (0 * 2)))]) Try.func39 Try.ntmps39 rfl rfl Mem.nil ?_
  refine run_seq ?_
  refine run_region ?_
  refine run_q (.none rfl) rfl rfl (q_assign rfl rfl) ?_
  refine run_nil ?_
  refine run_seq ?_
  refine run_seq ?_
  refine run_region ?_
  refine run_q (.none rfl) rfl rfl (q_move rfl rfl) ?_
  refine run_q (.none rfl) rfl rfl (q_eqlPtr rfl rfl rfl Try.underlying41) ?_
  refine run_nil ?_
  refine run_condF rfl rfl ?_
  refine run_skip ?_
  refine run_seq ?_
  refine run_region ?_
  refine run_q (.none rfl) rfl rfl (q_move rfl rfl) ?_
  refine run_q (.none rfl) rfl rfl (q_nilCheck rfl rfl) ?_
  refine run_q (.none rfl) rfl rfl (q_fieldAddr (d := 1) rfl Try.underlying105 rfl rfl sz38 rfl) ?_
  refine run_q (.none rfl) rfl rfl (q_loadF rfl one38 rfl (.inp hb .no) (show ([[.int .i64 t, .slice A o.length c]] : List (List Value))[0]? = some [.int .i64 t, .slice A o.length c] from rfl) rfl) ?_
  refine run_q (.none rfl) rfl rfl (q_len rfl Try.underlying38 rfl) ?_
  refine run_q (.none rfl) rfl rfl (q_assign rfl rfl) ?_
  refine run_nil ?_
  refine run_sub (subMk (.cons (s := 2) rfl .nil) .refl) ?_
  refine run_ret ?_
  exact end1 rfl rfl rfl

set_option maxRecDepth 100000 in
theorem columns_just (o : List Int) (p : Nat) (A : Option Addr) (c : Nat) (t : Int) (n : Nat) (f l : Int) (W : World) (hon : o.length = n) (hb : Rd W (some ⟨p, 0, none⟩) 2 [[.int .i64 t, .slice A n c]]) : Calls Try.prog 65 #[.pointer (some ((adr (some ⟨p, 0, none⟩)).add (0 * 2))), .int .i64 f, .int .i64 l] W (Hr.Just W (.int .i64 (colE n f l))) := by
  subst hon
  refine Just.of_ret ?_
  refine enterA (X := nX) (vs := [.pointer (some ((adr (some ⟨p, 0, none⟩)).add (0 * 2))), .int .i64 f, .int .i64 l]) Try.func65 Try.ntmps65 rfl rfl Mem.nil ?_
  refine run_seq ?_
  refine run_region ?_
  refine run_q (.none rfl) rfl rfl (q_assign rfl rfl) ?_
  refine run_nil ?_
  refine run_seq ?_
  refine run_block ?_
  refine run_seq ?_
  refine run_region ?_
  refine run_q (.none rfl) rfl rfl (q_move rfl rfl) ?_
  refine run_q (.none rfl) rfl rfl (q_eqlPtr rfl rfl rfl Try.underlying41) ?_
  refine run_q (.none rfl) rfl rfl (q_assign rfl rfl) ?_
  refine run_nil ?_
  refine run_condF rfl rfl ?_
  refine run_seq ?_
  refine run_region ?_
  refine run_q (.none rfl) rfl rfl (q_move rfl rfl) ?_
  refine run_q (.none rfl) rfl rfl (q_lss rfl rfl rfl) ?_
  refine run_q (.none rfl) rfl rfl (q_move rfl rfl) ?_
  refine run_split 13 rfl (fun g13 => ?_) (fun g13 => ?_)
  · have g13' := g13
    try simp only [decide_eq_true_eq, decide_eq_false_iff_not, beq_iff_eq, beq_eq_false_iff_ne, bne_iff_ne, bne_eq_false_iff_eq, Bool.not_eq_true', Bool.not_eq_false', ne_eq, Int.not_lt, Int.not_le, Decidable.not_not] at g13'
    refine run_off (.no rfl rfl rfl g13) rfl rfl ?_
    refine run_off (.no rfl rfl rfl g13) rfl rfl ?_
    refine run_off (.no rfl rfl rfl g13) rfl rfl ?_
    refine run_q (.none rfl) rfl rfl (q_pickT rfl rfl g13 rfl) ?_
    refine run_q (.none rfl) rfl rfl (q_move rfl rfl) ?_
    refine run_off (.no rfl rfl rfl rfl) rfl rfl ?_
    refine run_off (.no rfl rfl rfl rfl) rfl rfl ?_
    refine run_off (.no rfl rfl rfl rfl) rfl rfl ?_
    refine run_off (.no rfl rfl rfl rfl) rfl rfl ?_
    refine run_off (.no rfl rfl rfl rfl) rfl rfl ?_
    refine run_off (.no rfl rfl rfl rfl) rfl rfl ?_
    refine run_off (.no rfl rfl rfl rfl) rfl rfl ?_
    refine run_q (.none rfl) rfl rfl (q_pickT rfl rfl rfl rfl) ?_
    refine run_q (.none rfl) rfl rfl (q_assign rfl rfl) ?_
    refine run_nil ?_
    refine run_sub (subMk (.cons (s := 6) rfl (.cons (s := 10) rfl .nil)) .refl) ?_
    refine run_condT rfl rfl ?_
    refine run_seq ?_
    refine run_region ?_
    refine run_q (.none rfl) rfl rfl (q_assign rfl rfl) ?_
    refine run_nil ?_
    refine run_ret ?_
    exact end1 rfl rfl (by first | rw [colE, if_pos (by omega)] | rw [colE, if_neg (by omega)])
  · have g13' := g13
    try simp only [decide_eq_true_eq, decide_eq_false_iff_not, beq_iff_eq, beq_eq_false_iff_ne, bne_iff_ne, bne_eq_false_iff_eq, Bool.not_eq_true', Bool.not_eq_false', ne_eq, Int.not_lt, Int.not_le, Decidable.not_not] at g13'
    refine run_q (.on rfl rfl rfl g13) rfl rfl (q_move rfl rfl) ?_
    refine run_q (.on rfl rfl rfl g13) rfl rfl (q_move rfl rfl) ?_
    refine run_q (.on rfl rfl rfl g13) rfl rfl (q_lss rfl rfl rfl) ?_
    refine run_q (.none rfl) rfl rfl (q_pickF rfl rfl g13 rfl) ?_
    refine run_q (.none rfl) rfl rfl (q_move rfl rfl) ?_
    refine run_split 18 rfl (fun g18 => ?_) (fun g18 => ?_)
    · have g18' := g18
      try simp only [decide_eq_true_eq, decide_eq_false_iff_not, beq_iff_eq, beq_eq_false_iff_ne, bne_iff_ne, bne_eq_false_iff_eq, Bool.not_eq_true', Bool.not_eq_false', ne_eq, Int.not_lt, Int.not_le, Decidable.not_not] at g18'
      refine run_off (.no rfl rfl rfl g18) rfl rfl ?_
      refine run_off (.no rfl rfl rfl g18) rfl rfl ?_
      refine run_off (.no rfl rfl rfl g18) rfl rfl ?_
      refine run_off (.no rfl rfl rfl g18) rfl rfl ?_
      refine run_off (.no rfl rfl rfl g18) rfl rfl ?_
      refine run_off (.no rfl rfl rfl g18) rfl rfl ?_
      refine run_off (.no rfl rfl rfl g18) rfl rfl ?_
      refine run_q (.none rfl) rfl rfl (q_pickT rfl rfl g18 rfl) ?_
      refine run_q (.none rfl) rfl rfl (q_assign rfl rfl) ?_
      refine run_nil ?_
      refine run_sub (subMk (.cons (s := 6) rfl (.cons (s := 10) rfl .nil)) .refl) ?_
      refine run_condT rfl rfl ?_
      refine run_seq ?_
      refine run_region ?_
      refine run_q (.none rfl) rfl rfl (q_assign rfl rfl) ?_
      refine run_nil ?_
      refine run_ret ?_
      exact end1 rfl rfl (by first | rw [colE, if_pos (by omega)] | rw [colE, if_neg (by omega)])
    · have g18' := g18
      try simp only [decide_eq_true_eq, decide_eq_false_iff_not, beq_iff_eq, beq_eq_false_iff_ne, bne_iff_ne, bne_eq_false_iff_eq, Bool.not_eq_true', Bool.not_eq_false', ne_eq, Int.not_lt, Int.not_le, Decidable.not_not] at g18'
      refine run_q (.on rfl rfl rfl g18) rfl rfl (q_move rfl rfl) ?_
      refine run_q (.on rfl rfl rfl g18) rfl rfl (q_move rfl rfl) ?_
      refine run_q (.on rfl rfl rfl g18) rfl rfl (q_nilCheck rfl rfl) ?_
      refine run_q (.on rfl rfl rfl g18) rfl rfl (q_fieldAddr (d := 1) rfl Try.underlying105 rfl rfl sz38 rfl) ?_
      refine run_q (.on rfl rfl rfl g18) rfl rfl (q_loadF rfl one38 rfl (.inp hb .no) (show ([[.int .i64 t, .slice A o.length c]] : List (List Value))[0]? = some [.int .i64 t, .slice A o.length c] from rfl) rfl) ?_
      refine run_q (.on rfl rfl rfl g18) rfl rfl (q_len rfl Try.underlying38 rfl) ?_
      refine run_q (.on rfl rfl rfl g18) rfl rfl (q_geq rfl rfl rfl) ?_
      refine run_q (.none rfl) rfl rfl (q_pickF rfl rfl g18 rfl) ?_
      refine run_q (.none rfl) rfl rfl (q_assign rfl rfl) ?_
      refine run_nil ?_
      refine run_sub (subMk (.cons (s := 6) rfl (.cons (s := 10) rfl .nil)) .refl) ?_
      refine run_cond rfl (fun g10 => ?_) (fun g10 => ?_)
      · have g10' := g10
        try simp only [decide_eq_true_eq, decide_eq_false_iff_not, beq_iff_eq, beq_eq_false_iff_ne, bne_iff_ne, bne_eq_false_iff_eq, Bool.not_eq_true', Bool.not_eq_false', ne_eq, Int.not_lt, Int.not_le, Decidable.not_not] at g10'
        refine run_seq ?_
        refine run_region ?_
        refine run_q (.none rfl) rfl rfl (q_assign rfl rfl) ?_
        refine run_nil ?_
        refine run_ret ?_
        exact end1 rfl rfl (by first | rw [colE, if_pos (by omega)] | rw [colE, if_neg (by omega)])
      · have g10' := g10
        try simp only [decide_eq_true_eq, decide_eq_false_iff_not, beq_iff_eq, beq_eq_false_iff_ne, bne_iff_ne, bne_eq_false_iff_eq, Bool.not_eq_true', Bool.not_eq_false', ne_eq, Int.not_lt, Int.not_le, Decidable.not_not] at g10'
        refine run_skip ?_
        refine run_blk ?_
        refine run_seq ?_
        refine run_region ?_
        refine run_q (.none rfl) rfl rfl (q_assign rfl rfl) ?_
        refine run_nil ?_
        refine run_ret ?_
        exact end1 rfl rfl (by first | rw [colE, if_pos (by omega)] | rw [colE, if_neg (by omega)])

set_option maxRecDepth 100000 in
theorem max_just (l : List Int) (n m : Nat) (A : Option Addr) (ca : Nat) (W : World) (hr : Rd W A 1 (l.map encI)) (hm : m = n + 1) (hl : l.length = m) (hb : m ≤ 1000000) : Calls Try.prog 71 #[.slice A m ca] W (Hr.Just W (.int .i64 (maxN (nth l) n))) := by
  refine Just.of_ret ?_
  refine enterA (X := nX) (vs := [.slice A m ca]) Try.func71 Try.ntmps71 rfl rfl Mem.nil ?_
  refine run_seq ?_
  refine run_region ?_
  refine run_q (.none rfl) rfl rfl (q_assign rfl rfl) ?_
  refine run_nil ?_
  refine run_seq ?_
  refine run_seq ?_
  refine run_region ?_
  refine run_q (.none rfl) rfl rfl (q_move rfl rfl) ?_
  refine run_q (.none rfl) rfl rfl (q_len rfl Try.underlying38 rfl) ?_
  refine run_q (.none rfl) rfl rfl (q_lss rfl rfl rfl) ?_
  refine run_nil ?_
  refine run_condF rfl (decide_eq_false (by omega)) ?_
  refine run_skip ?_
  refine run_seq ?_
  refine run_region ?_
  refine run_q (.none rfl) rfl rfl (q_move rfl rfl) ?_
  refine run_q (.none rfl) rfl rfl (q_indexS (q := 0) rfl Try.underlying38 sz3 rfl rfl (.inp hr .no) (by simp <;> omega) rfl (by omega)) ?_
  refine run_q (.none rfl) rfl rfl (q_loadC rfl one3 rfl (.inp hr .no) (getmap (by omega))) ?_
  refine run_q (.none rfl) rfl rfl (q_assign rfl rfl) ?_
  refine run_nil ?_
  refine run_sub (subMk (.cons (s := 0) rfl (.cons (s := 2) rfl (.cons (s := 3) rfl .nil))) .refl) ?_
  refine run_seq ?_
  refine run_seq ?_
  refine run_region ?_
  refine run_q (.none rfl) rfl rfl (q_assign rfl rfl) ?_
  refine run_nil ?_
  refine run_block ?_
  refine run_sub (subMk (.cons (s := 4) rfl (.cons (s := 3) rfl (.cons (s := 0) rfl (.cons (s := 2) rfl .nil)))) .nil) ?_
  refine run_loopC2M0 (ι := Nat) (fun k => k ≤ n) (fun k => .int .i64 ((k : Int) + 1)) (fun k => .int .i64 (maxN (nth l) k))  (fun k => n - k) 0 (by (try dsimp only); exact (by omega)) rfl rfl  ?_
  rintro k hk
  (try dsimp only at hk)
  show Run _ _ _ _ _ _ _ ⟨(4, .int .i64 ((k : Int) + 1)) :: (3, .int .i64 (maxN (nth l) k)) :: _, _⟩
  refine run_seq ?_
  refine run_seq ?_
  refine run_region ?_
  refine run_q (.none rfl) rfl rfl (q_move rfl rfl) ?_
  refine run_q (.none rfl) rfl rfl (q_move rfl rfl) ?_
  refine run_q (.none rfl) rfl rfl (q_len rfl Try.underlying38 rfl) ?_
  refine run_q (.none rfl) rfl rfl (q_lss rfl rfl rfl) ?_
  refine run_nil ?_
  refine run_sub (subMk (.cons (s := 0) rfl (.cons (s := 2) rfl (.cons (s := 3) rfl (.cons (s := 4) rfl (.cons (s := 15) rfl .nil))))) .refl) ?_
  refine run_cond rfl (fun g15 => ?_) (fun g15 => ?_)
  · have g15' := g15
    try simp only [decide_eq_true_eq, decide_eq_false_iff_not, beq_iff_eq, beq_eq_false_iff_ne, bne_iff_ne, bne_eq_false_iff_eq, Bool.not_eq_true', Bool.not_eq_false', ne_eq, Int.not_lt, Int.not_le, Decidable.not_not] at g15'
    refine run_skip ?_
    refine run_seq ?_
    refine run_block ?_
    refine run_region ?_
    refine run_q (.none rfl) rfl rfl (q_move rfl rfl) ?_
    refine run_q (.none rfl) rfl rfl (q_move rfl rfl) ?_
    refine run_q (.none rfl) rfl rfl (q_move rfl rfl) ?_
    refine run_q (.none rfl) rfl rfl (q_indexS (q := (k + 1)) rfl Try.underlying38 sz3 rfl rfl (.inp hr .no) (by simp <;> omega) (by omega) (by omega)) ?_
    refine run_q (.none rfl) rfl rfl (q_loadC rfl one3 rfl (.inp hr .no) (getmap (by omega))) ?_
    refine run_q (.none rfl) rfl rfl (q_max2 rfl rfl rfl) ?_
    refine run_q (.none rfl) rfl rfl (q_assign rfl rfl) ?_
    refine run_nil ?_
    refine run_sub (subMk (.cons (s := 0) rfl (.cons (s := 2) rfl (.cons (s := 3) rfl (.cons (s := 4) rfl .nil)))) .refl) ?_
    refine run_blk ?_
    refine run_region ?_
    refine run_q (.none rfl) rfl rfl (q_move rfl rfl) ?_
    refine run_q (.none rfl) rfl rfl (q_add rfl rfl rfl (by omega)) ?_
    refine run_q (.none rfl) rfl rfl (q_assign rfl rfl) ?_
    refine run_nil ?_
    exact run_again (k + 1) (by (try dsimp only); exact (by omega)) (by (try dsimp only); omega) (subMk (.cons' (s := 4) rfl (vint (by omega)) (.cons' (s := 3) rfl rfl (.cons (s := 0) rfl (.cons (s := 2) rfl .nil)))) .nil)
  · have g15' := g15
    try simp only [decide_eq_true_eq, decide_eq_false_iff_not, beq_iff_eq, beq_eq_false_iff_ne, bne_iff_ne, bne_eq_false_iff_eq, Bool.not_eq_true', Bool.not_eq_false', ne_eq, Int.not_lt, Int.not_le, Decidable.not_not] at g15'
    refine run_exit rfl ?_
    refine run_sub (subMk (.cons (s := 2) rfl (.cons (s := 3) rfl .nil)) .refl) ?_
    refine run_seq ?_
    refine run_region ?_
    refine run_q (.none rfl) rfl rfl (q_move rfl rfl) ?_
    refine run_q (.none rfl) rfl rfl (q_assign rfl rfl) ?_
    refine run_nil ?_
    refine run_ret ?_
    exact end1 rfl rfl (by rw [show k = n from by omega])

set_option maxRecDepth 100000 in
theorem most_just (o : List Int) (p : Nat) (A : Option Addr) (c : Nat) (t : Int) (n : Nat) (f l : Int) (W : World) (hon : o.length = n) (hb : Rd W (some ⟨p, 0, none⟩) 2 [[.int .i64 t, .slice A n c]]) (hr : Rd W A 1 (o.map encI)) (hf : 0 ≤ f ∧ f ≤ l ∧ l < o.length) (hc : o.length ≤ c) (hl6 : o.length ≤ 65536) (hbd : Bd o) (ht : t = 1 ∨ t = -1) : Calls Try.prog 50 #[.pointer (some ((adr (some ⟨p, 0, none⟩)).add (0 * 2))), .int .i64 f, .int .i64 l] W (Hr.Just W (.tuple #[.int .i64 (t * (maxR o f.toNat l.toNat)), .int .i64 0])) := by
  subst hon
  have hmb := maxR_bd hbd (show f.toNat ≤ l.toNat by omega) (by omega)
  have hmt := sgn_bd ht hmb
  refine Just.of_ret ?_
  refine enterA (X := nX) (vs := [.pointer (some ((adr (some ⟨p, 0, none⟩)).add (0 * 2))), .int .i64 f, .int .i64 l]) Try.func50 Try.ntmps50 rfl rfl Mem.nil ?_
  refine run_seq ?_
  refine run_region ?_
  refine run_q (.none rfl) rfl rfl (q_assign rfl rfl) ?_
  refine run_q (.none rfl) rfl rfl (q_assign rfl rfl) ?_
  refine run_nil ?_
  refine run_seq ?_
  refine run_seq ?_
  refine run_region ?_
  refine run_q (.none rfl) rfl rfl (q_move rfl rfl) ?_
  refine run_q (.none rfl) rfl rfl (q_move rfl rfl) ?_
  refine run_q (.none rfl) rfl rfl (q_move rfl rfl) ?_
  refine run_q (.none rfl) rfl rfl (q_call rfl call65 (.cons rfl (.cons rfl (.cons rfl Evs.nil))) (fun w hk hm => columns_just o p A c t _ f l w rfl (hb.kept0 hk))) ?_
  refine run_q (.none rfl) rfl rfl (q_assign rfl rfl) ?_
  refine run_nil ?_
  refine run_sub (subMk (.cons (s := 0) rfl (.cons (s := 1) rfl (.cons (s := 2) rfl (.cons (s := 6) rfl (.cons (s := 7) rfl (.cons (s := 8) rfl .nil)))))) .refl) ?_
  refine run_seq ?_
  refine run_region ?_
  refine run_q (.none rfl) rfl rfl (q_move rfl rfl) ?_
  refine run_q (.none rfl) rfl rfl (q_neq rfl rfl rfl) ?_
  refine run_nil ?_
  refine run_condF rfl (by rw [colE, if_neg (by omega)]; rfl) ?_
  refine run_skip ?_
  refine run_seq ?_
  refine run_draw [(0, 0), (1, 0), (2, 0), (3, 0), (4, 0), (5, 0), (6, 0), (7, 0), (8, 0), (9, 0), (10, 0), (11, 0), (12, 0), (13, 0), (14, 0), (15, 0)] mixed (by kernel_rfl) .refl ?_
  refine d_q rfl rfl (.none rfl) rfl rfl (q_move rfl rfl) ?_
  refine d_q rfl rfl (.none rfl) rfl rfl (q_nilCheck rfl rfl) ?_
  refine d_q rfl rfl (.none rfl) rfl rfl (q_fieldAddr (d := 0) rfl Try.underlying105 rfl rfl sz3 rfl) ?_
  refine d_q rfl rfl (.none rfl) rfl rfl (q_loadF rfl one3 rfl (.inp hb .no) (show ([[.int .i64 t, .slice A o.length c]] : List (List Value))[0]? = some [.int .i64 t, .slice A o.length c] from rfl) rfl) ?_
  refine d_q rfl rfl (.none rfl) rfl rfl (q_move rfl rfl) ?_
  refine d_q rfl rfl (.none rfl) rfl rfl (q_nilCheck rfl rfl) ?_
  refine d_q rfl rfl (.none rfl) rfl rfl (q_fieldAddr (d := 1) rfl Try.underlying105 rfl rfl sz38 rfl) ?_
  refine d_q rfl rfl (.none rfl) rfl rfl (q_loadF rfl one38 rfl (.inp hb .no) (show ([[.int .i64 t, .slice A o.length c]] : List (List Value))[0]? = some [.int .i64 t, .slice A o.length c] from rfl) rfl) ?_
  refine d_q rfl rfl (.none rfl) rfl rfl (q_move rfl rfl) ?_
  refine d_q rfl rfl (.none rfl) rfl rfl (q_move rfl rfl) ?_
  refine d_q rfl rfl (.none rfl) rfl rfl (q_add rfl rfl rfl (by omega)) ?_
  refine d_q rfl rfl (.none rfl) rfl rfl (q_sliceLH rfl Try.underlying38 sz3 rfl rfl rfl (by omega)) ?_
  refine d_q rfl rfl (.none rfl) rfl rfl (q_call rfl call71 (.cons rfl Evs.nil) (fun w hk hm => (by have h := max_just ((o.drop f.toNat).take (l.toNat + 1 - f.toNat)) (l.toNat - f.toNat) ((l + 1).toNat - f.toNat) (cutA A f.toNat c 1) (c - f.toNat) w (rd_cut (hr.kept0 hk) hc) (by omega) (by rw [cut_len (by omega) (by omega)]; omega) (by omega); rw [maxR_cut (by omega) (by omega)] at h; exact h))) ?_
  refine d_q rfl rfl (.none rfl) rfl rfl (q_mul rfl rfl rfl (by omega)) ?_
  refine d_q rfl rfl (.none rfl) rfl rfl (q_assign rfl rfl) ?_
  refine d_q rfl rfl (.none rfl) rfl rfl (q_assign rfl rfl) ?_
  refine d_nil ?_
  refine run_sub (subMk (.cons (s := 6) rfl (.cons (s := 7) rfl .nil)) .refl) ?_
  refine run_ret ?_
  exact end2 rfl rfl rfl rfl

end Go.Proofs.YtgphmbipakdggaaR
