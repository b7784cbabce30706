/- The law on order. -/
import Derived.Test.YtomhegnaojejnaaN
import Derived.Test.YtomhegnaojejnaaEqs
set_option linter.unusedSimpArgs false
set_option linter.unusedVariables false
namespace Go.Proofs.Ytomhegnaojejnaa
open Go Go.RowKit Hr

theorem call16 : Hr.Callable Try.prog 16 := fun args w => by kernel_rfl
theorem eqg25 : Try.prog.eqGuardType Try.prog.depth 25 = false := by kernel_rfl
theorem stood25 : Try.prog.stoodInHeld 25 = false := by kernel_rfl
theorem stood23 : Try.prog.stoodInHeld 23 = false := by kernel_rfl
set_option maxRecDepth 100000 in
theorem eqs23d9999 (a0 : Int) (a1 : Int) (b0 : Int) (b1 : Int) (w : World) : (Op.equalIn 9999 23 (.agg #[.int .i64 a0, .int .i64 a1]) (.agg #[.int .i64 b0, .int .i64 b1])).run Try.prog w = .ok (a0 == b0 && (a1 == b1)) w := by
  rw [run_equalIn_struct w 9998 23 _ _ (by simp only [Program.fieldsOf, Try.underlying23]) stood23]
  simp only [Program.fieldsOf, Try.underlying23]
  exact Eq.trans (eqF_cons (by decide) (part_one one3 rfl) (part_one one3 rfl) (run_equalIn_int w 9997 3 .i64 .i64 a0 b0 Try.underlying3) (eqF_cons (by decide) (part_one one3 rfl) (part_one one3 rfl) (run_equalIn_int w 9997 3 .i64 .i64 a1 b1 Try.underlying3) eqF_nil)) (by simp only [Bool.and_true, Bool.and_assoc, strEq])
set_option maxRecDepth 100000 in
theorem eqs25 (a0 : Int) (a1 : Int) (a2 : Int) (a3 : Int) (a4 : Int) (a5 : Int) (a6 : Int) (a7 : Int) (a8 : Int) (a9 : Int) (a10 : Bool) (a11 : Bool) (b0 : Int) (b1 : Int) (b2 : Int) (b3 : Int) (b4 : Int) (b5 : Int) (b6 : Int) (b7 : Int) (b8 : Int) (b9 : Int) (b10 : Bool) (b11 : Bool) (w : World) : (Op.equalIn 10000 25 (.agg #[.int .i64 a0, .int .i64 a1, .int .i64 a2, .int .i64 a3, .int .i64 a4, .int .i64 a5, .int .i64 a6, .int .i64 a7, .int .i64 a8, .int .i64 a9, .bool a10, .bool a11]) (.agg #[.int .i64 b0, .int .i64 b1, .int .i64 b2, .int .i64 b3, .int .i64 b4, .int .i64 b5, .int .i64 b6, .int .i64 b7, .int .i64 b8, .int .i64 b9, .bool b10, .bool b11])).run Try.prog w = .ok (a0 == b0 && (a1 == b1 && (a2 == b2 && (a3 == b3 && (a4 == b4 && (a5 == b5 && (a6 == b6 && (a7 == b7 && (a8 == b8 && (a9 == b9 && (a10 == b10 && (a11 == b11)))))))))))) w := by
  rw [run_equalIn_struct w 9999 25 _ _ (by simp only [Program.fieldsOf, Try.underlying25]) stood25]
  simp only [Program.fieldsOf, Try.underlying25]
  exact Eq.trans (eqF_cons (by decide) (part_one one3 rfl) (part_one one3 rfl) (run_equalIn_int w 9998 3 .i64 .i64 a0 b0 Try.underlying3) (eqF_cons (by decide) (part_one one3 rfl) (part_one one3 rfl) (run_equalIn_int w 9998 3 .i64 .i64 a1 b1 Try.underlying3) (eqF_cons (by decide) (part_one one3 rfl) (part_one one3 rfl) (run_equalIn_int w 9998 3 .i64 .i64 a2 b2 Try.underlying3) (eqF_cons (by decide) (part_one one3 rfl) (part_one one3 rfl) (run_equalIn_int w 9998 3 .i64 .i64 a3 b3 Try.underlying3) (eqF_cons (by decide) (part_agg agg23 rfl) (part_agg agg23 rfl) (eqs23d9999 a4 a5 b4 b5 w) (eqF_cons (by decide) (part_one one3 rfl) (part_one one3 rfl) (run_equalIn_int w 9998 3 .i64 .i64 a6 b6 Try.underlying3) (eqF_cons (by decide) (part_one one3 rfl) (part_one one3 rfl) (run_equalIn_int w 9998 3 .i64 .i64 a7 b7 Try.underlying3) (eqF_cons (by decide) (part_one one3 rfl) (part_one one3 rfl) (run_equalIn_int w 9998 3 .i64 .i64 a8 b8 Try.underlying3) (eqF_cons (by decide) (part_one one3 rfl) (part_one one3 rfl) (run_equalIn_int w 9998 3 .i64 .i64 a9 b9 Try.underlying3) (eqF_cons (by decide) (part_one one4 rfl) (part_one one4 rfl) (run_equalIn_bool' w 9998 4 a10 b10 Try.underlying4) (eqF_cons (by decide) (part_one one4 rfl) (part_one one4 rfl) (run_equalIn_bool' w 9998 4 a11 b11 Try.underlying4) eqF_nil))))))))))) (by simp only [Bool.and_true, Bool.and_assoc, strEq])
theorem call18 : Hr.Callable Try.prog 18 := fun args w => by kernel_rfl

set_option maxHeartbeats 2000000 in
set_option maxRecDepth 100000 in
theorem law4_just (l : List Spn) (X : Option Addr) (cx : Nat) (f t : Int) (W : World) (hx : Rd W X 12 (l.map Spn.enc)) (hb : ∀ x ∈ l, okX x) (hf : f ≤ 9223372036854775807) (ht : t ≤ 9223372036854775807) : Calls Try.prog 4 #[.slice X l.length cx, .int .i64 f, .int .i64 t] W (Hr.Just W (.bool true)) := by
  refine Just.of_ret ?_
  refine enterA (X := nX) (vs := [.slice X l.length cx, .int .i64 f, .int .i64 t]) Try.func4 Try.ntmps4 rfl rfl Mem.nil ?_
  refine run_seq ?_
  refine run_region ?_
  refine run_q (.none rfl) rfl rfl (q_assign rfl rfl) ?_
  refine run_nil ?_
  refine run_seq ?_
  refine run_seq ?_
  refine run_region ?_
  refine run_q (.none rfl) rfl rfl (q_call rfl call12 Evs.nil (fun w hk hm => known_just w)) ?_
  refine run_q (.none rfl) rfl rfl (q_not rfl rfl) ?_
  refine run_q (.none rfl) rfl rfl (q_move rfl rfl) ?_
  refine run_q (.on rfl rfl rfl rfl) rfl rfl (q_move rfl rfl) ?_
  refine run_q (.on rfl rfl rfl rfl) rfl rfl (q_len rfl Try.underlying30 rfl) ?_
  refine run_q (.on rfl rfl rfl rfl) rfl rfl (q_gtr rfl rfl rfl) ?_
  refine run_q (.none rfl) rfl rfl (q_pickF rfl rfl rfl rfl) ?_
  refine run_nil ?_
  refine run_sub (subMk (.cons (s := 0) rfl (.cons (s := 1) rfl (.cons (s := 2) rfl (.cons (s := 6) rfl (.cons (s := 17) rfl .nil))))) .refl) ?_
  refine run_cond rfl (fun g17 => ?_) (fun g17 => ?_)
  · have g17' := g17
    try simp only [decide_eq_true_eq, decide_eq_false_iff_not, beq_iff_eq, beq_eq_false_iff_ne, bne_iff_ne, bne_eq_false_iff_eq, Bool.not_eq_true', Bool.not_eq_false', ne_eq, Int.not_lt, Int.not_le, Decidable.not_not] at g17'
    refine run_seq ?_
    refine run_region ?_
    refine run_q (.none rfl) rfl rfl (q_call rfl call12 Evs.nil (fun w hk hm => known_just w)) ?_
    refine run_q (.none rfl) rfl rfl (q_assign rfl rfl) ?_
    refine run_nil ?_
    refine run_ret ?_
    exact end1 rfl rfl (by simp)
  · have g17' := g17
    try simp only [decide_eq_true_eq, decide_eq_false_iff_not, beq_iff_eq, beq_eq_false_iff_ne, bne_iff_ne, bne_eq_false_iff_eq, Bool.not_eq_true', Bool.not_eq_false', ne_eq, Int.not_lt, Int.not_le, Decidable.not_not] at g17'
    refine run_skip ?_
    refine run_seq ?_
    refine run_seq ?_
    refine run_region ?_
    refine run_q (.none rfl) rfl rfl (q_assign rfl rfl) ?_
    refine run_nil ?_
    refine run_block ?_
    refine run_sub (subMk (.cons (s := 7) rfl (.cons (s := 0) rfl (.cons (s := 1) rfl (.cons (s := 2) rfl (.cons (s := 6) rfl .nil))))) .nil) ?_
    refine run_loopC1M0 (ι := Nat) (fun i => i ≤ l.length ∧ ∀ j, j < i → 0 ≤ (nth l j).fst ∧ 0 ≤ (nth l j).lst) (fun i => .int .i64 (i : Int))  (fun i => l.length - i) 0 (by (try dsimp only); exact ⟨by omega, fun j hj => absurd hj (by omega)⟩) rfl  ?_
    rintro i hq
    (try dsimp only at hq)
    obtain ⟨hi, hP⟩ := hq
    show Run _ _ _ _ _ _ _ ⟨(7, .int .i64 (i : Int)) :: _, _⟩
    refine run_seq ?_
    refine run_seq ?_
    refine run_region ?_
    refine run_q (.none rfl) rfl rfl (q_move rfl rfl) ?_
    refine run_q (.none rfl) rfl rfl (q_move rfl rfl) ?_
    refine run_q (.none rfl) rfl rfl (q_len rfl Try.underlying30 rfl) ?_
    refine run_q (.none rfl) rfl rfl (q_lss rfl rfl rfl) ?_
    refine run_nil ?_
    refine run_sub (subMk (.cons (s := 0) rfl (.cons (s := 1) rfl (.cons (s := 2) rfl (.cons (s := 6) rfl (.cons (s := 7) rfl (.cons (s := 22) rfl .nil)))))) .refl) ?_
    refine run_cond rfl (fun g22 => ?_) (fun g22 => ?_)
    · have g22' := g22
      try simp only [decide_eq_true_eq, decide_eq_false_iff_not, beq_iff_eq, beq_eq_false_iff_ne, bne_iff_ne, bne_eq_false_iff_eq, Bool.not_eq_true', Bool.not_eq_false', ne_eq, Int.not_lt, Int.not_le, Decidable.not_not] at g22'
      have hil : i < l.length := by omega
      refine run_skip ?_
      refine run_seq ?_
      refine run_block ?_
      refine run_seq ?_
      refine run_region ?_
      refine run_q (.none rfl) rfl rfl (q_move rfl rfl) ?_
      refine run_q (.none rfl) rfl rfl (q_move rfl rfl) ?_
      refine run_q (.none rfl) rfl rfl (q_indexS (q := i) rfl Try.underlying30 sz25 rfl rfl (.inp hx .no) (by simp <;> omega) rfl (by omega)) ?_
      refine run_q (.none rfl) rfl rfl (q_fieldAddr (d := 6) rfl Try.underlying25 rfl rfl sz3 rfl) ?_
      refine run_q (.none rfl) rfl rfl (q_loadF rfl one3 rfl (.inp hx .no) (getmap (by omega)) rfl) ?_
      refine run_q (.none rfl) rfl rfl (q_lss rfl rfl rfl) ?_
      refine run_q (.none rfl) rfl rfl (q_move rfl rfl) ?_
      refine run_split 31 rfl (fun g31 => ?_) (fun g31 => ?_)
      · have g31' := g31
        try simp only [decide_eq_true_eq, decide_eq_false_iff_not, beq_iff_eq, beq_eq_false_iff_ne, bne_iff_ne, bne_eq_false_iff_eq, Bool.not_eq_true', Bool.not_eq_false', ne_eq, Int.not_lt, Int.not_le, Decidable.not_not] at g31'
        refine run_off (.no rfl rfl rfl g31) rfl rfl ?_
        refine run_off (.no rfl rfl rfl g31) rfl rfl ?_
        refine run_off (.no rfl rfl rfl g31) rfl rfl ?_
        refine run_off (.no rfl rfl rfl g31) rfl rfl ?_
        refine run_off (.no rfl rfl rfl g31) rfl rfl ?_
        refine run_off (.no rfl rfl rfl g31) rfl rfl ?_
        refine run_q (.none rfl) rfl rfl (q_pickT rfl rfl g31 rfl) ?_
        refine run_nil ?_
        refine run_sub (subMk (.cons (s := 0) rfl (.cons (s := 1) rfl (.cons (s := 2) rfl (.cons (s := 6) rfl (.cons (s := 7) rfl (.cons (s := 38) rfl .nil)))))) .refl) ?_
        refine run_condT rfl rfl ?_
        refine run_seq ?_
        refine run_region ?_
        refine run_q (.none rfl) rfl rfl (q_assign rfl rfl) ?_
        refine run_nil ?_
        refine run_ret ?_
        exact end1 rfl rfl (by simp)
      · have g31' := g31
        try simp only [decide_eq_true_eq, decide_eq_false_iff_not, beq_iff_eq, beq_eq_false_iff_ne, bne_iff_ne, bne_eq_false_iff_eq, Bool.not_eq_true', Bool.not_eq_false', ne_eq, Int.not_lt, Int.not_le, Decidable.not_not] at g31'
        refine run_q (.on rfl rfl rfl g31) rfl rfl (q_move rfl rfl) ?_
        refine run_q (.on rfl rfl rfl g31) rfl rfl (q_move rfl rfl) ?_
        refine run_q (.on rfl rfl rfl g31) rfl rfl (q_indexS (q := i) rfl Try.underlying30 sz25 rfl rfl (.inp hx .no) (by simp <;> omega) rfl (by omega)) ?_
        refine run_q (.on rfl rfl rfl g31) rfl rfl (q_fieldAddr (d := 7) rfl Try.underlying25 rfl rfl sz3 rfl) ?_
        refine run_q (.on rfl rfl rfl g31) rfl rfl (q_loadF rfl one3 rfl (.inp hx .no) (getmap (by omega)) rfl) ?_
        refine run_q (.on rfl rfl rfl g31) rfl rfl (q_lss rfl rfl rfl) ?_
        refine run_q (.none rfl) rfl rfl (q_pickF rfl rfl g31 rfl) ?_
        refine run_nil ?_
        refine run_sub (subMk (.cons (s := 0) rfl (.cons (s := 1) rfl (.cons (s := 2) rfl (.cons (s := 6) rfl (.cons (s := 7) rfl (.cons (s := 38) rfl .nil)))))) .refl) ?_
        refine run_cond rfl (fun g38 => ?_) (fun g38 => ?_)
        · have g38' := g38
          try simp only [decide_eq_true_eq, decide_eq_false_iff_not, beq_iff_eq, beq_eq_false_iff_ne, bne_iff_ne, bne_eq_false_iff_eq, Bool.not_eq_true', Bool.not_eq_false', ne_eq, Int.not_lt, Int.not_le, Decidable.not_not] at g38'
          refine run_seq ?_
          refine run_region ?_
          refine run_q (.none rfl) rfl rfl (q_assign rfl rfl) ?_
          refine run_nil ?_
          refine run_ret ?_
          exact end1 rfl rfl (by simp)
        · have g38' := g38
          try simp only [decide_eq_true_eq, decide_eq_false_iff_not, beq_iff_eq, beq_eq_false_iff_ne, bne_iff_ne, bne_eq_false_iff_eq, Bool.not_eq_true', Bool.not_eq_false', ne_eq, Int.not_lt, Int.not_le, Decidable.not_not] at g38'
          refine run_skip ?_
          refine run_blk ?_
          refine run_region ?_
          refine run_q (.none rfl) rfl rfl (q_move rfl rfl) ?_
          refine run_q (.none rfl) rfl rfl (q_add rfl rfl rfl (by omega)) ?_
          refine run_q (.none rfl) rfl rfl (q_assign rfl rfl) ?_
          refine run_nil ?_
          refine run_sub (subMk (.cons (s := 0) rfl (.cons (s := 1) rfl (.cons (s := 2) rfl (.cons (s := 6) rfl (.cons (s := 7) rfl .nil))))) .refl) ?_
          exact run_again (i + 1) (by (try dsimp only); exact ⟨by omega, fun j hj => by by_cases e : j = i; (· subst e; exact ⟨by omega, by omega⟩); (· exact hP j (by omega))⟩) (by (try dsimp only); omega) (subMk (.cons' (s := 7) rfl (vint (by omega)) (.cons (s := 0) rfl (.cons (s := 1) rfl (.cons (s := 2) rfl (.cons (s := 6) rfl .nil))))) .nil)
    · have g22' := g22
      try simp only [decide_eq_true_eq, decide_eq_false_iff_not, beq_iff_eq, beq_eq_false_iff_ne, bne_iff_ne, bne_eq_false_iff_eq, Bool.not_eq_true', Bool.not_eq_false', ne_eq, Int.not_lt, Int.not_le, Decidable.not_not] at g22'
      refine run_exit rfl ?_
      refine run_seq ?_
      have hN := all_NN hb (fun j hj => hP j (by omega))
      refine run_region ?_
      refine run_q (.none rfl) rfl rfl (q_move rfl rfl) ?_
      refine run_h (.none rfl) (h_call rfl rfl rfl call15 (.cons rfl Evs.nil) (fun w hk hm => order_ret l X cx w (hx.kept0 hk) (by omega) hN)) ?_
      rintro ⟨v, m⟩ ⟨O, co, rfl, rfl⟩
      show Run _ _ _ _ _ _ _ ⟨(40, .slice O l.length co) :: _, _ :: _⟩
      refine run_q (.none rfl) rfl rfl (q_move rfl rfl) ?_
      refine run_h (.none rfl) (h_call rfl rfl rfl call16 (.cons rfl Evs.nil) (fun w hk hm => reforder_ret l X cx w (hx.kept0 hk) (by omega) hN)) ?_
      rintro ⟨v, m⟩ ⟨O2, co2, rfl, rfl⟩
      show Run _ _ _ _ _ _ _ ⟨(42, .slice O2 l.length co2) :: _, _ :: _⟩
      refine run_q (.none rfl) rfl rfl (q_assign rfl rfl) ?_
      refine run_q (.none rfl) rfl rfl (q_assign rfl rfl) ?_
      refine run_nil ?_
      refine run_sub (subMk (.cons (s := 1) rfl (.cons (s := 2) rfl (.cons (s := 6) rfl (.cons (s := 8) rfl (.cons (s := 9) rfl .nil))))) .refl) ?_
      refine run_seq ?_
      refine run_seq ?_
      refine run_region ?_
      refine run_q (.none rfl) rfl rfl (q_assign rfl rfl) ?_
      refine run_nil ?_
      refine run_block ?_
      refine run_sub (subMk (.cons (s := 10) rfl (.cons (s := 1) rfl (.cons (s := 2) rfl (.cons (s := 6) rfl (.cons (s := 8) rfl (.cons (s := 9) rfl .nil)))))) (.cons Sel.here .refl (.cons Sel.here .refl .nil))) ?_
      refine run_loopC1M0 (ι := Nat) (fun i => i ≤ l.length) (fun i => .int .i64 (i : Int))  (fun i => l.length - i) 0 (by (try dsimp only); exact (by omega)) rfl  ?_
      rintro i hi2
      (try dsimp only at hi2)
      show Run _ _ _ _ _ _ _ ⟨(10, .int .i64 (i : Int)) :: _, _⟩
      refine run_seq ?_
      refine run_seq ?_
      refine run_region ?_
      refine run_q (.none rfl) rfl rfl (q_move rfl rfl) ?_
      refine run_q (.none rfl) rfl rfl (q_move rfl rfl) ?_
      refine run_q (.none rfl) rfl rfl (q_len rfl Try.underlying30 rfl) ?_
      refine run_q (.none rfl) rfl rfl (q_lss rfl rfl rfl) ?_
      refine run_nil ?_
      refine run_sub (subMk (.cons (s := 1) rfl (.cons (s := 2) rfl (.cons (s := 6) rfl (.cons (s := 8) rfl (.cons (s := 9) rfl (.cons (s := 10) rfl (.cons (s := 46) rfl .nil))))))) .refl) ?_
      refine run_cond rfl (fun g46 => ?_) (fun g46 => ?_)
      · have g46' := g46
        try simp only [decide_eq_true_eq, decide_eq_false_iff_not, beq_iff_eq, beq_eq_false_iff_ne, bne_iff_ne, bne_eq_false_iff_eq, Bool.not_eq_true', Bool.not_eq_false', ne_eq, Int.not_lt, Int.not_le, Decidable.not_not] at g46'
        refine run_skip ?_
        refine run_seq ?_
        refine run_block ?_
        refine run_seq ?_
        refine run_draw [(0, 0), (1, 0), (2, 0), (3, 0), (4, 0), (5, 0), (6, 0), (7, 0), (8, 0), (9, 0), (10, 0), (11, 0), (12, 0), (13, 0), (14, 0)] mixed (by kernel_rfl) .refl ?_
        refine d_q rfl rfl (.none rfl) rfl rfl (q_move rfl rfl) ?_
        refine d_q rfl rfl (.none rfl) rfl rfl (q_move rfl rfl) ?_
        refine d_q rfl rfl (.none rfl) rfl rfl (q_len rfl Try.underlying30 rfl) ?_
        refine d_q rfl rfl (.none rfl) rfl rfl (q_geq rfl rfl rfl) ?_
        refine d_q rfl rfl (.none rfl) rfl rfl (q_move rfl rfl) ?_
        refine d_q rfl rfl (.on rfl rfl rfl (decide_eq_false (by omega))) rfl rfl (q_move rfl rfl) ?_
        refine d_q rfl rfl (.on rfl rfl rfl (decide_eq_false (by omega))) rfl rfl (q_move rfl rfl) ?_
        refine d_q rfl rfl (.on rfl rfl rfl (decide_eq_false (by omega))) rfl rfl (q_indexS (q := i) rfl Try.underlying30 sz25 rfl rfl (.own (.there Sel.here)) (by rw [List.length_map, ordS_len]) rfl (by omega)) ?_
        refine d_q rfl rfl (.on rfl rfl rfl (decide_eq_false (by omega))) rfl rfl (q_loadE rfl agg25 rfl (.own (.there Sel.here)) (getmap (by rw [ordS_len]; omega)) rfl) ?_
        refine d_q rfl rfl (.on rfl rfl rfl (decide_eq_false (by omega))) rfl rfl (q_move rfl rfl) ?_
        refine d_q rfl rfl (.on rfl rfl rfl (decide_eq_false (by omega))) rfl rfl (q_move rfl rfl) ?_
        refine d_q rfl rfl (.on rfl rfl rfl (decide_eq_false (by omega))) rfl rfl (q_indexS (q := i) rfl Try.underlying30 sz25 rfl rfl (.own Sel.here) (by rw [List.length_map, ordS_len]) rfl (by omega)) ?_
        refine d_q rfl rfl (.on rfl rfl rfl (decide_eq_false (by omega))) rfl rfl (q_loadE rfl agg25 rfl (.own Sel.here) (getmap (by rw [ordS_len]; omega)) rfl) ?_
        refine d_q rfl rfl (.on rfl rfl rfl (decide_eq_false (by omega))) rfl rfl (q_neqS rfl rfl rfl eqg25 (fun w => eqs25 _ _ _ _ _ _ _ _ _ _ _ _ _ _ _ _ _ _ _ _ _ _ _ _ w)) ?_
        refine d_q rfl rfl (.none rfl) rfl rfl (q_pickF rfl rfl (decide_eq_false (by omega)) rfl) ?_
        refine d_nil ?_
        refine run_sub (subMk (.cons (s := 1) rfl (.cons (s := 2) rfl (.cons (s := 6) rfl (.cons (s := 8) rfl (.cons (s := 9) rfl (.cons (s := 10) rfl (.cons (s := 63) rfl .nil))))))) .refl) ?_
        refine run_condF rfl (by simp) ?_
        refine run_skip ?_
        refine run_blk ?_
        refine run_region ?_
        refine run_q (.none rfl) rfl rfl (q_move rfl rfl) ?_
        refine run_q (.none rfl) rfl rfl (q_add rfl rfl rfl (by omega)) ?_
        refine run_q (.none rfl) rfl rfl (q_assign rfl rfl) ?_
        refine run_nil ?_
        refine run_sub (subMk (.cons (s := 1) rfl (.cons (s := 2) rfl (.cons (s := 6) rfl (.cons (s := 8) rfl (.cons (s := 9) rfl (.cons (s := 10) rfl .nil)))))) .refl) ?_
        exact run_again (i + 1) (by (try dsimp only); exact (by omega)) (by (try dsimp only); omega) (subMk (.cons' (s := 10) rfl (vint (by omega)) (.cons (s := 1) rfl (.cons (s := 2) rfl (.cons (s := 6) rfl (.cons (s := 8) rfl (.cons (s := 9) rfl .nil)))))) (.cons Sel.here .refl (.cons Sel.here .refl .nil)))
      · have g46' := g46
        try simp only [decide_eq_true_eq, decide_eq_false_iff_not, beq_iff_eq, beq_eq_false_iff_ne, bne_iff_ne, bne_eq_false_iff_eq, Bool.not_eq_true', Bool.not_eq_false', ne_eq, Int.not_lt, Int.not_le, Decidable.not_not] at g46'
        refine run_exit rfl ?_
        refine run_seq ?_
        refine run_region ?_
        refine run_q (.none rfl) rfl rfl (q_move rfl rfl) ?_
        refine run_q (.none rfl) rfl rfl (q_len rfl Try.underlying30 rfl) ?_
        refine run_q (.none rfl) rfl rfl (q_move rfl rfl) ?_
        refine run_q (.none rfl) rfl rfl (q_len rfl Try.underlying30 rfl) ?_
        refine run_q (.none rfl) rfl rfl (q_eql rfl rfl rfl) ?_
        refine run_q (.none rfl) rfl rfl (q_move rfl rfl) ?_
        refine run_q (.on rfl rfl rfl (by simp)) rfl rfl (q_move rfl rfl) ?_
        refine run_q (.on rfl rfl rfl (by simp)) rfl rfl (q_move rfl rfl) ?_
        refine run_q (.on rfl rfl rfl (by simp)) rfl rfl (q_call rfl call17 (.cons rfl (.cons rfl Evs.nil)) (fun w hk hm => height_just f t w hf ht)) ?_
        refine run_q (.on rfl rfl rfl (by simp)) rfl rfl (q_move rfl rfl) ?_
        refine run_q (.on rfl rfl rfl (by simp)) rfl rfl (q_move rfl rfl) ?_
        refine run_q (.on rfl rfl rfl (by simp)) rfl rfl (q_call rfl call18 (.cons rfl (.cons rfl Evs.nil)) (fun w hk hm => refheight_just f t w hf ht)) ?_
        refine run_q (.on rfl rfl rfl (by simp)) rfl rfl (q_eql rfl rfl rfl) ?_
        refine run_q (.none rfl) rfl rfl (q_pickT rfl rfl (by simp) rfl) ?_
        refine run_q (.none rfl) rfl rfl (q_assign rfl rfl) ?_
        refine run_nil ?_
        refine run_sub (subMk (.cons (s := 6) rfl .nil) .refl) ?_
        refine run_ret ?_
        exact end1 rfl rfl (by simp)

end Go.Proofs.Ytomhegnaojejnaa
