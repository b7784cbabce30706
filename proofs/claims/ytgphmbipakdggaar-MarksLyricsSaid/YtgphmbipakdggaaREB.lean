/- Heads, grace notes and syllables checked. -/
import Derived.Test.YtgphmbipakdggaaREA
set_option linter.unusedSimpArgs false
set_option linter.unusedVariables false
namespace Go.Proofs.YtgphmbipakdggaaR.Ev
open Go Go.RowKit Hr

theorem sz152 : Hr.Sz Try.prog 152 5 := Hr.Sz.of (by kernel_rfl)
theorem agg152 : Hr.Agg Try.prog 152 5 := ⟨fun w => by simp [isAgg, run_underlying Try.underlying152], Hr.Sz.of (by kernel_rfl)⟩
theorem info152 : Hr.Info Try.prog 152 [.int .i64 0, .int .i64 0, .int .i64 0, .bool false, .int .i64 0] 5 40 := Hr.Info.of (by kernel_rfl)
theorem call82 : Hr.Callable Try.prog 82 := fun args w => by kernel_rfl
theorem sz155 : Hr.Sz Try.prog 155 5 := Hr.Sz.of (by kernel_rfl)
theorem agg155 : Hr.Agg Try.prog 155 5 := ⟨fun w => by simp [isAgg, run_underlying Try.underlying155], Hr.Sz.of (by kernel_rfl)⟩
theorem info155 : Hr.Info Try.prog 155 [.int .i64 0, .int .i64 0, .int .i64 0, .int .i64 0, .bool false] 5 40 := Hr.Info.of (by kernel_rfl)
theorem sz9 : Hr.Sz Try.prog 9 1 := Hr.Sz.of (by kernel_rfl)
theorem one9 : Hr.One Try.prog 9 := ⟨fun w => by simp [isAgg, run_underlying Try.underlying9], Hr.Sz.of (by kernel_rfl)⟩
theorem agg86 : Hr.Agg Try.prog 86 2 := ⟨fun w => by simp [isAgg, run_underlying Try.underlying86], Hr.Sz.of (by kernel_rfl)⟩
theorem built86  : Try.prog.built 86 [] = some #[.string (ByteArray.mk #[]), .int .i64 0] := by kernel_rfl
theorem eqg86 : Try.prog.eqGuardType Try.prog.depth 86 = false := by kernel_rfl
theorem stood86 : Try.prog.stoodInHeld 86 = false := by kernel_rfl
set_option maxRecDepth 100000 in
theorem eqs86 (a0 : ByteArray) (a1 : Int) (b0 : ByteArray) (b1 : Int) (w : World) : (Op.equalIn 10000 86 (.agg #[.string a0, .int .i64 a1]) (.agg #[.string b0, .int .i64 b1])).run Try.prog w = .ok (strEq a0 b0 && (a1 == b1)) w := by
  rw [run_equalIn_struct w 9999 86 _ _ (by simp only [Program.fieldsOf, Try.underlying86]) stood86]
  simp only [Program.fieldsOf, Try.underlying86]
  exact Eq.trans (eqF_cons (by decide) (part_one one9 rfl) (part_one one9 rfl) (run_equalIn_string w 9998 9 a0 b0 Try.underlying9) (eqF_cons (by decide) (part_one one3 rfl) (part_one one3 rfl) (run_equalIn_int w 9998 3 .i64 .i64 a1 b1 Try.underlying3) eqF_nil)) (by simp only [Bool.and_true, Bool.and_assoc, strEq])
theorem sz86 : Hr.Sz Try.prog 86 2 := Hr.Sz.of (by kernel_rfl)
theorem info86 : Hr.Info Try.prog 86 [.string (ByteArray.mk #[]), .int .i64 0] 2 24 := Hr.Info.of (by kernel_rfl)
theorem call84 : Hr.Callable Try.prog 84 := fun args w => by kernel_rfl
theorem call85 : Hr.Callable Try.prog 85 := fun args w => by kernel_rfl

set_option maxHeartbeats 1000000 in
set_option maxRecDepth 100000 in
theorem heads_just (l : List Hd) (A : Option Addr) (ca : Nat) (W : World) (hr : Rd W A 5 (l.map Hd.enc)) (hl : l.length ≤ 100000) : Calls Try.prog 62 #[.slice A l.length ca] W (Hr.Just W (.int .i64 (headsE l))) := by
  refine Just.of_ret ?_
  refine enterA (X := nX) (vs := [.slice A l.length ca]) Try.func62 Try.ntmps62 rfl rfl Mem.nil ?_
  refine run_seq ?_
  refine run_region ?_
  refine run_q (.none rfl) rfl rfl (q_assign rfl rfl) ?_
  refine run_nil ?_
  refine run_seq ?_
  refine run_block ?_
  refine run_seq ?_
  refine run_region ?_
  refine run_q (.none rfl) rfl rfl (q_move rfl rfl) ?_
  refine run_q (.none rfl) rfl rfl (q_len rfl Try.underlying74 rfl) ?_
  refine run_q (.none rfl) rfl rfl (q_eql rfl rfl rfl) ?_
  refine run_q (.none rfl) rfl rfl (q_assign rfl rfl) ?_
  refine run_nil ?_
  refine run_sub (subMk (.cons (s := 0) rfl (.cons (s := 2) rfl (.cons (s := 9) rfl .nil))) .refl) ?_
  refine run_cond rfl (fun g9 => ?_) (fun g9 => ?_)
  · have g9' := g9
    try simp only [decide_eq_true_eq, decide_eq_false_iff_not, beq_iff_eq, beq_eq_false_iff_ne, bne_iff_ne, bne_eq_false_iff_eq, Bool.not_eq_true', Bool.not_eq_false', ne_eq, Int.not_lt, Int.not_le, Decidable.not_not] at g9'
    refine run_seq ?_
    refine run_region ?_
    refine run_q (.none rfl) rfl rfl (q_assign rfl rfl) ?_
    refine run_nil ?_
    refine run_ret ?_
    exact end1 rfl rfl (by rw [headsE_1 (by omega)])
  · have g9' := g9
    try simp only [decide_eq_true_eq, decide_eq_false_iff_not, beq_iff_eq, beq_eq_false_iff_ne, bne_iff_ne, bne_eq_false_iff_eq, Bool.not_eq_true', Bool.not_eq_false', ne_eq, Int.not_lt, Int.not_le, Decidable.not_not] at g9'
    refine run_seq ?_
    refine run_region ?_
    refine run_q (.none rfl) rfl rfl (q_move rfl rfl) ?_
    refine run_q (.none rfl) rfl rfl (q_len rfl Try.underlying74 rfl) ?_
    refine run_q (.none rfl) rfl rfl (q_gtr rfl rfl rfl) ?_
    refine run_q (.none rfl) rfl rfl (q_assign rfl rfl) ?_
    refine run_nil ?_
    refine run_sub (subMk (.cons (s := 0) rfl (.cons (s := 2) rfl (.cons (s := 13) rfl .nil))) .refl) ?_
    refine run_cond rfl (fun g13 => ?_) (fun g13 => ?_)
    · have g13' := g13
      try simp only [decide_eq_true_eq, decide_eq_false_iff_not, beq_iff_eq, beq_eq_false_iff_ne, bne_iff_ne, bne_eq_false_iff_eq, Bool.not_eq_true', Bool.not_eq_false', ne_eq, Int.not_lt, Int.not_le, Decidable.not_not] at g13'
      refine run_seq ?_
      refine run_region ?_
      refine run_q (.none rfl) rfl rfl (q_assign rfl rfl) ?_
      refine run_nil ?_
      refine run_ret ?_
      exact end1 rfl rfl (by rw [headsE_2 (by omega) (by omega)])
    · have g13' := g13
      try simp only [decide_eq_true_eq, decide_eq_false_iff_not, beq_iff_eq, beq_eq_false_iff_ne, bne_iff_ne, bne_eq_false_iff_eq, Bool.not_eq_true', Bool.not_eq_false', ne_eq, Int.not_lt, Int.not_le, Decidable.not_not] at g13'
      refine run_skip ?_
      refine run_blk ?_
      refine run_seq ?_
      refine run_region ?_
      refine run_q (.none rfl) rfl rfl (q_assign rfl rfl) ?_
      refine run_nil ?_
      refine run_seq ?_
      refine run_seq ?_
      refine run_region ?_
      refine run_q (.none rfl) rfl rfl (q_move rfl rfl) ?_
      refine run_q (.none rfl) rfl rfl (q_len rfl Try.underlying74 rfl) ?_
      refine run_q (.none rfl) rfl rfl (q_move rfl rfl) ?_
      refine run_nil ?_
      refine run_block ?_
      refine run_sub (subMk (.cons (s := 19) rfl (.cons (s := 3) rfl (.cons (s := 2) rfl (.cons (s := 17) rfl (.cons (s := 18) rfl .nil))))) .nil) ?_
      refine run_loopC2M0 (ι := Nat) (fun k => k ≤ l.length ∧ firstErr (hF l) l.length 0 = firstErr (hF l) (l.length - k) k) (fun k => .int .i64 (k : Int)) (fun k => .int .i64 (lastN l k))  (fun k => l.length - k) 0 (by (try dsimp only); exact ⟨by omega, rfl⟩) rfl rfl  ?_
      rintro k hq
      (try dsimp only at hq)
      obtain ⟨hk, hE⟩ := hq
      show Run _ _ _ _ _ _ _ ⟨(19, .int .i64 (k : Int)) :: (3, .int .i64 (lastN l k)) :: _, _⟩
      refine run_seq ?_
      refine run_region ?_
      refine run_q (.none rfl) rfl rfl (q_lss rfl rfl rfl) ?_
      refine run_nil ?_
      refine run_seq ?_
      refine run_cond rfl (fun g20 => ?_) (fun g20 => ?_)
      · have g20' := g20
        try simp only [decide_eq_true_eq, decide_eq_false_iff_not, beq_iff_eq, beq_eq_false_iff_ne, bne_iff_ne, bne_eq_false_iff_eq, Bool.not_eq_true', Bool.not_eq_false', ne_eq, Int.not_lt, Int.not_le, Decidable.not_not] at g20'
        have hkl : k < l.length := by omega
        refine run_skip ?_
        refine run_seq ?_
        refine run_block ?_
        refine run_seq ?_
        refine run_region ?_
        refine run_q (.none rfl) rfl rfl (q_indexS (q := k) rfl Try.underlying74 sz152 rfl rfl (.inp hr .no) (by simp <;> omega) rfl (by omega)) ?_
        refine run_q (.none rfl) rfl rfl (q_loadE rfl agg152 rfl (.inp hr .no) (getmap (by omega)) rfl) ?_
        refine run_h (.none rfl) (h_alloc rfl rfl rfl info152) ?_
        rintro b5 -
        refine run_h (.none rfl) (h_storeB rfl rfl sz152 rfl rfl rfl rfl rfl Sel.here rfl) ?_
        rintro - -
        refine run_nil ?_
        refine run_sub (subMk (.cons (s := 2) rfl (.cons (s := 3) rfl (.cons (s := 5) rfl (.cons (s := 17) rfl (.cons (s := 18) rfl (.cons (s := 19) rfl .nil)))))) .refl) ?_
        refine run_seq ?_
        refine run_seq ?_
        refine run_region ?_
        refine run_q (.none rfl) rfl rfl (q_loadBN rfl agg152 rfl Sel.here (.cons rfl (.cons rfl (.cons rfl (.cons rfl (.cons rfl CellsAt.nil))))) rfl) ?_
        refine run_q (.none rfl) rfl rfl (q_call rfl call82 (.cons rfl Evs.nil) (fun w hk hm => well_just (nth l k) w)) ?_
        refine run_q (.none rfl) rfl rfl (q_assign rfl rfl) ?_
        refine run_nil ?_
        refine run_seq ?_
        refine run_region ?_
        refine run_q (.none rfl) rfl rfl (q_move rfl rfl) ?_
        refine run_q (.none rfl) rfl rfl (q_neq rfl rfl rfl) ?_
        refine run_nil ?_
        refine run_sub (subMk (.cons (s := 2) rfl (.cons (s := 3) rfl (.cons (s := 5) rfl (.cons (s := 6) rfl (.cons (s := 17) rfl (.cons (s := 18) rfl (.cons (s := 19) rfl (.cons (s := 26) rfl .nil)))))))) .refl) ?_
        refine run_cond rfl (fun g26 => ?_) (fun g26 => ?_)
        · have g26' := g26
          try simp only [decide_eq_true_eq, decide_eq_false_iff_not, beq_iff_eq, beq_eq_false_iff_ne, bne_iff_ne, bne_eq_false_iff_eq, Bool.not_eq_true', Bool.not_eq_false', ne_eq, Int.not_lt, Int.not_le, Decidable.not_not] at g26'
          refine run_seq ?_
          refine run_region ?_
          refine run_q (.none rfl) rfl rfl (q_move rfl rfl) ?_
          refine run_q (.none rfl) rfl rfl (q_assign rfl rfl) ?_
          refine run_nil ?_
          refine run_sub (subMk (.cons (s := 2) rfl (.cons (s := 3) rfl (.cons (s := 5) rfl (.cons (s := 17) rfl (.cons (s := 18) rfl (.cons (s := 19) rfl .nil)))))) .refl) ?_
          refine run_ret ?_
          exact end1 rfl rfl (by rw [hd_hit (by omega) (by omega) hE hkl (hF_1 g26') g26'])
        · have g26' := g26
          try simp only [decide_eq_true_eq, decide_eq_false_iff_not, beq_iff_eq, beq_eq_false_iff_ne, bne_iff_ne, bne_eq_false_iff_eq, Bool.not_eq_true', Bool.not_eq_false', ne_eq, Int.not_lt, Int.not_le, Decidable.not_not] at g26'
          have h0 : headE (nth l k) = 0 := by omega
          have hq := headE_ok h0
          refine run_skip ?_
          refine run_seq ?_
          refine run_region ?_
          refine run_q (.none rfl) rfl rfl (q_fieldB (d := 0) rfl Try.underlying152 rfl rfl sz150 rfl) ?_
          refine run_q (.none rfl) rfl rfl (q_loadBN rfl agg150 rfl Sel.here (.cons rfl (.cons rfl (.cons rfl CellsAt.nil))) rfl) ?_
          refine run_q (.none rfl) rfl rfl (q_call rfl call83 (.cons rfl Evs.nil) (fun w hk hm => number_just (nth l k).step (nth l k).alter (nth l k).oct w)) ?_
          refine run_q (.none rfl) rfl rfl (q_move rfl rfl) ?_
          refine run_q (.none rfl) rfl rfl (q_extract rfl rfl rfl) ?_
          refine run_q (.none rfl) rfl rfl (q_extract rfl rfl rfl) ?_
          refine run_q (.none rfl) rfl rfl (q_assign rfl rfl) ?_
          refine run_q (.none rfl) rfl rfl (q_assign rfl rfl) ?_
          refine run_nil ?_
          refine run_sub (subMk (.cons (s := 2) rfl (.cons (s := 3) rfl (.cons (s := 7) rfl (.cons (s := 17) rfl (.cons (s := 18) rfl (.cons (s := 19) rfl .nil)))))) .refl) ?_
          refine run_seq ?_
          refine run_seq ?_
          refine run_sub (subMk (.cons (s := 2) rfl (.cons (s := 3) rfl (.cons' (s := 7) (v' := .int .i64 (nth l k).num) rfl (vint (if_neg (show ¬ (nth l k).num < 0 by omega))) (.cons (s := 17) rfl (.cons (s := 18) rfl (.cons (s := 19) rfl .nil)))))) .refl) ?_
          refine run_region ?_
          refine run_q (.none rfl) rfl rfl (q_move rfl rfl) ?_
          refine run_q (.none rfl) rfl rfl (q_move rfl rfl) ?_
          refine run_q (.none rfl) rfl rfl (q_leq rfl rfl rfl) ?_
          refine run_nil ?_
          refine run_cond rfl (fun g36 => ?_) (fun g36 => ?_)
          · have g36' := g36
            try simp only [decide_eq_true_eq, decide_eq_false_iff_not, beq_iff_eq, beq_eq_false_iff_ne, bne_iff_ne, bne_eq_false_iff_eq, Bool.not_eq_true', Bool.not_eq_false', ne_eq, Int.not_lt, Int.not_le, Decidable.not_not] at g36'
            have hf2 : hF l k = 25 := hF_2 h0 (by unfold lastN at g36'; split at g36' <;> omega)
            refine run_seq ?_
            refine run_region ?_
            refine run_q (.none rfl) rfl rfl (q_assign rfl rfl) ?_
            refine run_nil ?_
            refine run_sub (subMk (.cons (s := 2) rfl (.cons (s := 3) rfl (.cons (s := 7) rfl (.cons (s := 17) rfl (.cons (s := 18) rfl (.cons (s := 19) rfl .nil)))))) .refl) ?_
            refine run_ret ?_
            exact end1 rfl rfl (by rw [hd_hit (by omega) (by omega) hE hkl hf2 (by decide)])
          · have g36' := g36
            try simp only [decide_eq_true_eq, decide_eq_false_iff_not, beq_iff_eq, beq_eq_false_iff_ne, bne_iff_ne, bne_eq_false_iff_eq, Bool.not_eq_true', Bool.not_eq_false', ne_eq, Int.not_lt, Int.not_le, Decidable.not_not] at g36'
            have hf3 : hF l k = 0 := hF_3 h0 (by unfold lastN at g36'; split at g36' <;> omega)
            refine run_skip ?_
            refine run_region ?_
            refine run_q (.none rfl) rfl rfl (q_move rfl rfl) ?_
            refine run_q (.none rfl) rfl rfl (q_assign rfl rfl) ?_
            refine run_nil ?_
            refine run_sub (subMk (.cons (s := 2) rfl (.cons (s := 3) rfl (.cons (s := 17) rfl (.cons (s := 18) rfl (.cons (s := 19) rfl .nil))))) .refl) ?_
            refine run_blk ?_
            refine run_region ?_
            refine run_q (.none rfl) rfl rfl (q_add rfl rfl rfl (by omega)) ?_
            refine run_q (.none rfl) rfl rfl (q_move rfl rfl) ?_
            refine run_nil ?_
            exact run_again (k + 1) (by (try dsimp only); exact ⟨by omega, by rw [hE, firstErr_step hkl hf3]⟩) (by (try dsimp only); omega) (subMk (.cons' (s := 19) rfl (vint (by omega)) (.cons' (s := 3) rfl rfl (.cons (s := 2) rfl (.cons (s := 17) rfl (.cons (s := 18) rfl .nil))))) .nil)
      · have g20' := g20
        try simp only [decide_eq_true_eq, decide_eq_false_iff_not, beq_iff_eq, beq_eq_false_iff_ne, bne_iff_ne, bne_eq_false_iff_eq, Bool.not_eq_true', Bool.not_eq_false', ne_eq, Int.not_lt, Int.not_le, Decidable.not_not] at g20'
        refine run_exit rfl ?_
        refine run_sub (subMk (.cons (s := 2) rfl .nil) .refl) ?_
        refine run_seq ?_
        refine run_region ?_
        refine run_q (.none rfl) rfl rfl (q_assign rfl rfl) ?_
        refine run_nil ?_
        refine run_ret ?_
        exact end1 rfl rfl (by rw [headsE_3 (by omega) (by omega), hE, firstErr_end (by omega)])

set_option maxHeartbeats 1000000 in
set_option maxRecDepth 100000 in
theorem graces_just (l : List Gr) (A : Option Addr) (ca : Nat) (W : World) (hr : Rd W A 5 (l.map Gr.enc)) (hl : l.length ≤ 100000) : Calls Try.prog 63 #[.slice A l.length ca] W (Hr.Just W (.int .i64 (gracesE l))) := by
  refine Just.of_ret ?_
  refine enterA (X := nX) (vs := [.slice A l.length ca]) Try.func63 Try.ntmps63 rfl rfl Mem.nil ?_
  refine run_seq ?_
  refine run_region ?_
  refine run_q (.none rfl) rfl rfl (q_assign rfl rfl) ?_
  refine run_nil ?_
  refine run_seq ?_
  refine run_seq ?_
  refine run_region ?_
  refine run_q (.none rfl) rfl rfl (q_move rfl rfl) ?_
  refine run_q (.none rfl) rfl rfl (q_len rfl Try.underlying75 rfl) ?_
  refine run_q (.none rfl) rfl rfl (q_gtr rfl rfl rfl) ?_
  refine run_nil ?_
  refine run_cond rfl (fun g9 => ?_) (fun g9 => ?_)
  · have g9' := g9
    try simp only [decide_eq_true_eq, decide_eq_false_iff_not, beq_iff_eq, beq_eq_false_iff_ne, bne_iff_ne, bne_eq_false_iff_eq, Bool.not_eq_true', Bool.not_eq_false', ne_eq, Int.not_lt, Int.not_le, Decidable.not_not] at g9'
    refine run_seq ?_
    refine run_region ?_
    refine run_q (.none rfl) rfl rfl (q_assign rfl rfl) ?_
    refine run_nil ?_
    refine run_sub (subMk (.cons (s := 0) rfl (.cons (s := 2) rfl .nil)) .refl) ?_
    refine run_ret ?_
    exact end1 rfl rfl (by rw [gracesE_1 (by omega)])
  · have g9' := g9
    try simp only [decide_eq_true_eq, decide_eq_false_iff_not, beq_iff_eq, beq_eq_false_iff_ne, bne_iff_ne, bne_eq_false_iff_eq, Bool.not_eq_true', Bool.not_eq_false', ne_eq, Int.not_lt, Int.not_le, Decidable.not_not] at g9'
    refine run_skip ?_
    refine run_seq ?_
    refine run_seq ?_
    refine run_region ?_
    refine run_q (.none rfl) rfl rfl (q_move rfl rfl) ?_
    refine run_q (.none rfl) rfl rfl (q_len rfl Try.underlying75 rfl) ?_
    refine run_q (.none rfl) rfl rfl (q_move rfl rfl) ?_
    refine run_nil ?_
    refine run_sub (subMk (.cons (s := 2) rfl (.cons (s := 10) rfl (.cons (s := 11) rfl (.cons (s := 12) rfl .nil)))) .refl) ?_
    refine run_block ?_
    refine run_sub (subMk (.cons (s := 12) rfl (.cons (s := 2) rfl (.cons (s := 10) rfl (.cons (s := 11) rfl .nil)))) .nil) ?_
    refine run_loopC1M0 (ι := Nat) (fun k => k ≤ l.length ∧ firstErr (gF l) l.length 0 = firstErr (gF l) (l.length - k) k) (fun k => .int .i64 (k : Int))  (fun k => l.length - k) 0 (by (try dsimp only); exact ⟨by omega, rfl⟩) rfl  ?_
    rintro k hq
    (try dsimp only at hq)
    obtain ⟨hk, hE⟩ := hq
    show Run _ _ _ _ _ _ _ ⟨(12, .int .i64 (k : Int)) :: _, _⟩
    refine run_seq ?_
    refine run_region ?_
    refine run_q (.none rfl) rfl rfl (q_lss rfl rfl rfl) ?_
    refine run_nil ?_
    refine run_seq ?_
    refine run_cond rfl (fun g13 => ?_) (fun g13 => ?_)
    · have g13' := g13
      try simp only [decide_eq_true_eq, decide_eq_false_iff_not, beq_iff_eq, beq_eq_false_iff_ne, bne_iff_ne, bne_eq_false_iff_eq, Bool.not_eq_true', Bool.not_eq_false', ne_eq, Int.not_lt, Int.not_le, Decidable.not_not] at g13'
      have hkl : k < l.length := by omega
      refine run_skip ?_
      refine run_seq ?_
      refine run_block ?_
      refine run_seq ?_
      refine run_region ?_
      refine run_q (.none rfl) rfl rfl (q_indexS (q := k) rfl Try.underlying75 sz155 rfl rfl (.inp hr .no) (by simp <;> omega) rfl (by omega)) ?_
      refine run_q (.none rfl) rfl rfl (q_loadE rfl agg155 rfl (.inp hr .no) (getmap (by omega)) rfl) ?_
      refine run_h (.none rfl) (h_alloc rfl rfl rfl info155) ?_
      rintro b4 -
      refine run_h (.none rfl) (h_storeB rfl rfl sz155 rfl rfl rfl rfl rfl Sel.here rfl) ?_
      rintro - -
      refine run_nil ?_
      refine run_sub (subMk (.cons (s := 2) rfl (.cons (s := 4) rfl (.cons (s := 10) rfl (.cons (s := 11) rfl (.cons (s := 12) rfl .nil))))) .refl) ?_
      refine run_seq ?_
      refine run_seq ?_
      refine run_region ?_
      refine run_q (.none rfl) rfl rfl (q_fieldB (d := 0) rfl Try.underlying155 rfl rfl sz150 rfl) ?_
      refine run_q (.none rfl) rfl rfl (q_loadBN rfl agg150 rfl Sel.here (.cons rfl (.cons rfl (.cons rfl CellsAt.nil))) rfl) ?_
      refine run_q (.none rfl) rfl rfl (q_call rfl call83 (.cons rfl Evs.nil) (fun w hk hm => number_just (nth l k).step (nth l k).alter (nth l k).oct w)) ?_
      refine run_q (.none rfl) rfl rfl (q_move rfl rfl) ?_
      refine run_q (.none rfl) rfl rfl (q_extract rfl rfl rfl) ?_
      refine run_q (.none rfl) rfl rfl (q_extract rfl rfl rfl) ?_
      refine run_q (.none rfl) rfl rfl (q_assign rfl rfl) ?_
      refine run_q (.none rfl) rfl rfl (q_assign rfl rfl) ?_
      refine run_nil ?_
      refine run_sub (subMk (.cons (s := 2) rfl (.cons (s := 4) rfl (.cons (s := 6) rfl (.cons (s := 10) rfl (.cons (s := 11) rfl (.cons (s := 12) rfl .nil)))))) .refl) ?_
      refine run_seq ?_
      refine run_region ?_
      refine run_q (.none rfl) rfl rfl (q_move rfl rfl) ?_
      refine run_q (.none rfl) rfl rfl (q_neq rfl rfl rfl) ?_
      refine run_nil ?_
      refine run_cond rfl (fun g23 => ?_) (fun g23 => ?_)
      · have g23' := g23
        try simp only [decide_eq_true_eq, decide_eq_false_iff_not, beq_iff_eq, beq_eq_false_iff_ne, bne_iff_ne, bne_eq_false_iff_eq, Bool.not_eq_true', Bool.not_eq_false', ne_eq, Int.not_lt, Int.not_le, Decidable.not_not] at g23'
        have hn : (nth l k).num < 0 := e18_t g23'
        refine run_seq ?_
        refine run_region ?_
        refine run_q (.none rfl) rfl rfl (q_move rfl rfl) ?_
        refine run_q (.none rfl) rfl rfl (q_assign rfl rfl) ?_
        refine run_nil ?_
        refine run_sub (subMk (.cons (s := 2) rfl (.cons (s := 4) rfl (.cons (s := 10) rfl (.cons (s := 11) rfl (.cons (s := 12) rfl .nil))))) .refl) ?_
        refine run_ret ?_
        exact end1 rfl rfl (by rw [gr_hit (by omega) hE hkl (graceE_1 hn) (by decide)]; exact vint (if_pos hn))
      · have g23' := g23
        try simp only [decide_eq_true_eq, decide_eq_false_iff_not, beq_iff_eq, beq_eq_false_iff_ne, bne_iff_ne, bne_eq_false_iff_eq, Bool.not_eq_true', Bool.not_eq_false', ne_eq, Int.not_lt, Int.not_le, Decidable.not_not] at g23'
        have hn : ¬ (nth l k).num < 0 := e18_f g23'
        refine run_skip ?_
        refine run_seq ?_
        refine run_region ?_
        refine run_q (.none rfl) rfl rfl (q_fieldB (d := 3) rfl Try.underlying155 rfl rfl sz3 rfl) ?_
        refine run_q (.none rfl) rfl rfl (q_loadB rfl one3 rfl Sel.here rfl) ?_
        refine run_q (.none rfl) rfl rfl (q_lss rfl rfl rfl) ?_
        refine run_q (.none rfl) rfl rfl (q_move rfl rfl) ?_
        refine run_split 28 rfl (fun g28 => ?_) (fun g28 => ?_)
        · have g28' := g28
          try simp only [decide_eq_true_eq, decide_eq_false_iff_not, beq_iff_eq, beq_eq_false_iff_ne, bne_iff_ne, bne_eq_false_iff_eq, Bool.not_eq_true', Bool.not_eq_false', ne_eq, Int.not_lt, Int.not_le, Decidable.not_not] at g28'
          refine run_off (.no rfl rfl rfl g28) rfl rfl ?_
          refine run_off (.no rfl rfl rfl g28) rfl rfl ?_
          refine run_off (.no rfl rfl rfl g28) rfl rfl ?_
          refine run_q (.none rfl) rfl rfl (q_pickT rfl rfl g28 rfl) ?_
          refine run_nil ?_
          refine run_sub (subMk (.cons (s := 2) rfl (.cons (s := 10) rfl (.cons (s := 11) rfl (.cons (s := 12) rfl (.cons (s := 32) rfl .nil))))) .refl) ?_
          refine run_condT rfl rfl ?_
          refine run_seq ?_
          refine run_region ?_
          refine run_q (.none rfl) rfl rfl (q_assign rfl rfl) ?_
          refine run_nil ?_
          refine run_ret ?_
          exact end1 rfl rfl (by rw [gr_hit (by omega) hE hkl (graceE_2 hn (by omega)) (by decide)])
        · have g28' := g28
          try simp only [decide_eq_true_eq, decide_eq_false_iff_not, beq_iff_eq, beq_eq_false_iff_ne, bne_iff_ne, bne_eq_false_iff_eq, Bool.not_eq_true', Bool.not_eq_false', ne_eq, Int.not_lt, Int.not_le, Decidable.not_not] at g28'
          refine run_q (.on rfl rfl rfl g28) rfl rfl (q_fieldB (d := 3) rfl Try.underlying155 rfl rfl sz3 rfl) ?_
          refine run_q (.on rfl rfl rfl g28) rfl rfl (q_loadB rfl one3 rfl Sel.here rfl) ?_
          refine run_q (.on rfl rfl rfl g28) rfl rfl (q_gtr rfl rfl rfl) ?_
          refine run_q (.none rfl) rfl rfl (q_pickF rfl rfl g28 rfl) ?_
          refine run_nil ?_
          refine run_sub (subMk (.cons (s := 2) rfl (.cons (s := 10) rfl (.cons (s := 11) rfl (.cons (s := 12) rfl (.cons (s := 32) rfl .nil))))) .refl) ?_
          refine run_cond rfl (fun g32 => ?_) (fun g32 => ?_)
          · have g32' := g32
            try simp only [decide_eq_true_eq, decide_eq_false_iff_not, beq_iff_eq, beq_eq_false_iff_ne, bne_iff_ne, bne_eq_false_iff_eq, Bool.not_eq_true', Bool.not_eq_false', ne_eq, Int.not_lt, Int.not_le, Decidable.not_not] at g32'
            refine run_seq ?_
            refine run_region ?_
            refine run_q (.none rfl) rfl rfl (q_assign rfl rfl) ?_
            refine run_nil ?_
            refine run_ret ?_
            exact end1 rfl rfl (by rw [gr_hit (by omega) hE hkl (graceE_2 hn (by omega)) (by decide)])
          · have g32' := g32
            try simp only [decide_eq_true_eq, decide_eq_false_iff_not, beq_iff_eq, beq_eq_false_iff_ne, bne_iff_ne, bne_eq_false_iff_eq, Bool.not_eq_true', Bool.not_eq_false', ne_eq, Int.not_lt, Int.not_le, Decidable.not_not] at g32'
            have h0 : graceE (nth l k) = 0 := graceE_3 hn (by omega)
            refine run_skip ?_
            refine run_blk ?_
            refine run_region ?_
            refine run_q (.none rfl) rfl rfl (q_add rfl rfl rfl (by omega)) ?_
            refine run_q (.none rfl) rfl rfl (q_move rfl rfl) ?_
            refine run_nil ?_
            exact run_again (k + 1) (by (try dsimp only); exact ⟨by omega, by rw [hE, firstErr_step hkl (by rw [gF, h0])]⟩) (by (try dsimp only); omega) (subMk (.cons' (s := 12) rfl (vint (by omega)) (.cons (s := 2) rfl (.cons (s := 10) rfl (.cons (s := 11) rfl .nil)))) .nil)
    · have g13' := g13
      try simp only [decide_eq_true_eq, decide_eq_false_iff_not, beq_iff_eq, beq_eq_false_iff_ne, bne_iff_ne, bne_eq_false_iff_eq, Bool.not_eq_true', Bool.not_eq_false', ne_eq, Int.not_lt, Int.not_le, Decidable.not_not] at g13'
      refine run_exit rfl ?_
      refine run_sub (subMk (.cons (s := 2) rfl .nil) .refl) ?_
      refine run_seq ?_
      refine run_region ?_
      refine run_q (.none rfl) rfl rfl (q_assign rfl rfl) ?_
      refine run_nil ?_
      refine run_ret ?_
      exact end1 rfl rfl (by rw [gracesE_2 (by omega), hE, firstErr_end (by omega)])

set_option maxHeartbeats 1000000 in
set_option maxRecDepth 100000 in
theorem syllable_just (x : Syl) (W : World)  : Calls Try.prog 84 #[x.val] W (Hr.Just W (.int .i64 (sylE x))) := by
  refine Just.of_ret ?_
  refine enterA (X := nX) (vs := [x.val]) Try.func84 Try.ntmps84 rfl rfl Mem.nil ?_
  refine run_seq ?_
  refine run_region ?_
  refine run_h (.none rfl) (h_box rfl rfl rfl rfl rfl) ?_
  rintro b1 -
  refine run_q (.none rfl) rfl rfl (q_assign rfl rfl) ?_
  refine run_nil ?_
  refine run_seq ?_
  refine run_block ?_
  refine run_seq ?_
  refine run_region ?_
  refine run_q (.none rfl) rfl rfl (q_fieldB (d := 1) rfl Try.underlying86 rfl rfl sz3 rfl) ?_
  refine run_q (.none rfl) rfl rfl (q_loadB rfl one3 rfl Sel.here rfl) ?_
  refine run_q (.none rfl) rfl rfl (q_lss rfl rfl rfl) ?_
  refine run_q (.none rfl) rfl rfl (q_move rfl rfl) ?_
  refine run_split 8 rfl (fun g8 => ?_) (fun g8 => ?_)
  · have g8' := g8
    try simp only [decide_eq_true_eq, decide_eq_false_iff_not, beq_iff_eq, beq_eq_false_iff_ne, bne_iff_ne, bne_eq_false_iff_eq, Bool.not_eq_true', Bool.not_eq_false', ne_eq, Int.not_lt, Int.not_le, Decidable.not_not] at g8'
    refine run_off (.no rfl rfl rfl g8) rfl rfl ?_
    refine run_off (.no rfl rfl rfl g8) rfl rfl ?_
    refine run_off (.no rfl rfl rfl g8) rfl rfl ?_
    refine run_q (.none rfl) rfl rfl (q_pickT rfl rfl g8 rfl) ?_
    refine run_q (.none rfl) rfl rfl (q_assign rfl rfl) ?_
    refine run_nil ?_
    refine run_sub (subMk (.cons (s := 1) rfl (.cons (s := 2) rfl (.cons (s := 4) rfl .nil))) .refl) ?_
    refine run_condT rfl rfl ?_
    refine run_seq ?_
    refine run_region ?_
    refine run_q (.none rfl) rfl rfl (q_assign rfl rfl) ?_
    refine run_nil ?_
    refine run_ret ?_
    exact end1 rfl rfl (by rw [sylE_1 (by omega)])
  · have g8' := g8
    try simp only [decide_eq_true_eq, decide_eq_false_iff_not, beq_iff_eq, beq_eq_false_iff_ne, bne_iff_ne, bne_eq_false_iff_eq, Bool.not_eq_true', Bool.not_eq_false', ne_eq, Int.not_lt, Int.not_le, Decidable.not_not] at g8'
    refine run_q (.on rfl rfl rfl g8) rfl rfl (q_fieldB (d := 1) rfl Try.underlying86 rfl rfl sz3 rfl) ?_
    refine run_q (.on rfl rfl rfl g8) rfl rfl (q_loadB rfl one3 rfl Sel.here rfl) ?_
    refine run_q (.on rfl rfl rfl g8) rfl rfl (q_gtr rfl rfl rfl) ?_
    refine run_q (.none rfl) rfl rfl (q_pickF rfl rfl g8 rfl) ?_
    refine run_q (.none rfl) rfl rfl (q_assign rfl rfl) ?_
    refine run_nil ?_
    refine run_sub (subMk (.cons (s := 1) rfl (.cons (s := 2) rfl (.cons (s := 4) rfl .nil))) .refl) ?_
    refine run_cond rfl (fun g4 => ?_) (fun g4 => ?_)
    · have g4' := g4
      try simp only [decide_eq_true_eq, decide_eq_false_iff_not, beq_iff_eq, beq_eq_false_iff_ne, bne_iff_ne, bne_eq_false_iff_eq, Bool.not_eq_true', Bool.not_eq_false', ne_eq, Int.not_lt, Int.not_le, Decidable.not_not] at g4'
      refine run_seq ?_
      refine run_region ?_
      refine run_q (.none rfl) rfl rfl (q_assign rfl rfl) ?_
      refine run_nil ?_
      refine run_ret ?_
      exact end1 rfl rfl (by rw [sylE_1 (by omega)])
    · have g4' := g4
      try simp only [decide_eq_true_eq, decide_eq_false_iff_not, beq_iff_eq, beq_eq_false_iff_ne, bne_iff_ne, bne_eq_false_iff_eq, Bool.not_eq_true', Bool.not_eq_false', ne_eq, Int.not_lt, Int.not_le, Decidable.not_not] at g4'
      refine run_seq ?_
      refine run_region ?_
      refine run_q (.none rfl) rfl rfl (q_fieldB (d := 0) rfl Try.underlying86 rfl rfl sz9 rfl) ?_
      refine run_q (.none rfl) rfl rfl (q_loadB rfl one9 rfl Sel.here rfl) ?_
      refine run_q (.none rfl) rfl rfl (q_lens rfl Try.underlying9 rfl) ?_
      refine run_q (.none rfl) rfl rfl (q_gtr rfl rfl rfl) ?_
      refine run_q (.none rfl) rfl rfl (q_assign rfl rfl) ?_
      refine run_nil ?_
      refine run_sub (subMk (.cons (s := 1) rfl (.cons (s := 2) rfl (.cons (s := 13) rfl .nil))) .refl) ?_
      refine run_cond rfl (fun g13 => ?_) (fun g13 => ?_)
      · have g13' := g13
        try simp only [decide_eq_true_eq, decide_eq_false_iff_not, beq_iff_eq, beq_eq_false_iff_ne, bne_iff_ne, bne_eq_false_iff_eq, Bool.not_eq_true', Bool.not_eq_false', ne_eq, Int.not_lt, Int.not_le, Decidable.not_not] at g13'
        refine run_seq ?_
        refine run_region ?_
        refine run_q (.none rfl) rfl rfl (q_assign rfl rfl) ?_
        refine run_nil ?_
        refine run_ret ?_
        exact end1 rfl rfl (by rw [sylE_2 (by omega) (by omega)])
      · have g13' := g13
        try simp only [decide_eq_true_eq, decide_eq_false_iff_not, beq_iff_eq, beq_eq_false_iff_ne, bne_iff_ne, bne_eq_false_iff_eq, Bool.not_eq_true', Bool.not_eq_false', ne_eq, Int.not_lt, Int.not_le, Decidable.not_not] at g13'
        refine run_skip ?_
        refine run_blk ?_
        refine run_seq ?_
        refine run_seq ?_
        refine run_region ?_
        refine run_q (.none rfl) rfl rfl (q_fieldB (d := 0) rfl Try.underlying86 rfl rfl sz9 rfl) ?_
        refine run_q (.none rfl) rfl rfl (q_loadB rfl one9 rfl Sel.here rfl) ?_
        refine run_q (.none rfl) rfl rfl (q_lens rfl Try.underlying9 rfl) ?_
        refine run_q (.none rfl) rfl rfl (q_move rfl rfl) ?_
        refine run_nil ?_
        refine run_sub (subMk (.cons (s := 1) rfl (.cons (s := 2) rfl (.cons (s := 20) rfl (.cons (s := 21) rfl .nil)))) .refl) ?_
        refine run_block ?_
        refine run_sub (subMk (.cons (s := 21) rfl (.cons (s := 1) rfl (.cons (s := 2) rfl (.cons (s := 20) rfl .nil)))) (.cons Sel.here .refl .nil)) ?_
        refine run_loopC1M0 (ι := Nat) (fun k => k ≤ x.text.size ∧ firstErr (byteF x.text) x.text.size 0 = firstErr (byteF x.text) (x.text.size - k) k) (fun k => .int .i64 (k : Int))  (fun k => x.text.size - k) 0 (by (try dsimp only); exact ⟨by omega, rfl⟩) rfl  ?_
        rintro k hq
        (try dsimp only at hq)
        obtain ⟨hk, hE⟩ := hq
        show Run _ _ _ _ _ _ _ ⟨(21, .int .i64 (k : Int)) :: _, _⟩
        refine run_seq ?_
        refine run_region ?_
        refine run_q (.none rfl) rfl rfl (q_lss rfl rfl rfl) ?_
        refine run_nil ?_
        refine run_seq ?_
        refine run_cond rfl (fun g22 => ?_) (fun g22 => ?_)
        · have g22' := g22
          try simp only [decide_eq_true_eq, decide_eq_false_iff_not, beq_iff_eq, beq_eq_false_iff_ne, bne_iff_ne, bne_eq_false_iff_eq, Bool.not_eq_true', Bool.not_eq_false', ne_eq, Int.not_lt, Int.not_le, Decidable.not_not] at g22'
          have hkl : k < x.text.size := by omega
          refine run_skip ?_
          refine run_seq ?_
          refine run_block ?_
          refine run_seq ?_
          refine run_region ?_
          refine run_q (.none rfl) rfl rfl (q_move rfl rfl) ?_
          refine run_q (.none rfl) rfl rfl (q_assign rfl rfl) ?_
          refine run_nil ?_
          refine run_seq ?_
          refine run_region ?_
          refine run_q (.none rfl) rfl rfl (q_fieldB (d := 0) rfl Try.underlying86 rfl rfl sz9 rfl) ?_
          refine run_q (.none rfl) rfl rfl (q_loadB rfl one9 rfl Sel.here rfl) ?_
          refine run_q (.none rfl) rfl rfl (q_move rfl rfl) ?_
          refine run_q (.none rfl) rfl rfl (q_indexStr (q := k) rfl Try.underlying9 rfl rfl rfl (bAt_get (by omega))) ?_
          refine run_q (.none rfl) rfl rfl (q_lss rfl rfl rfl) ?_
          refine run_q (.none rfl) rfl rfl (q_move rfl rfl) ?_
          refine run_split 29 rfl (fun g29 => ?_) (fun g29 => ?_)
          · have g29' := g29
            try simp only [decide_eq_true_eq, decide_eq_false_iff_not, beq_iff_eq, beq_eq_false_iff_ne, bne_iff_ne, bne_eq_false_iff_eq, Bool.not_eq_true', Bool.not_eq_false', ne_eq, Int.not_lt, Int.not_le, Decidable.not_not] at g29'
            have hb : byteF x.text k = 6 := byteF_1 (by unfold bAt; omega)
            refine run_off (.no rfl rfl rfl g29) rfl rfl ?_
            refine run_off (.no rfl rfl rfl g29) rfl rfl ?_
            refine run_off (.no rfl rfl rfl g29) rfl rfl ?_
            refine run_off (.no rfl rfl rfl g29) rfl rfl ?_
            refine run_off (.no rfl rfl rfl g29) rfl rfl ?_
            refine run_q (.none rfl) rfl rfl (q_pickT rfl rfl g29 rfl) ?_
            refine run_nil ?_
            refine run_sub (subMk (.cons (s := 1) rfl (.cons (s := 2) rfl (.cons (s := 20) rfl (.cons (s := 21) rfl (.cons (s := 35) rfl .nil))))) .refl) ?_
            refine run_condT rfl rfl ?_
            refine run_seq ?_
            refine run_region ?_
            refine run_q (.none rfl) rfl rfl (q_assign rfl rfl) ?_
            refine run_nil ?_
            refine run_ret ?_
            exact end1 rfl rfl (by rw [sylE_3 (by omega) (by omega) (by rw [hE, firstErr_hit hkl (by rw [hb]; decide), hb]; decide)])
          · have g29' := g29
            try simp only [decide_eq_true_eq, decide_eq_false_iff_not, beq_iff_eq, beq_eq_false_iff_ne, bne_iff_ne, bne_eq_false_iff_eq, Bool.not_eq_true', Bool.not_eq_false', ne_eq, Int.not_lt, Int.not_le, Decidable.not_not] at g29'
            refine run_q (.on rfl rfl rfl g29) rfl rfl (q_fieldB (d := 0) rfl Try.underlying86 rfl rfl sz9 rfl) ?_
            refine run_q (.on rfl rfl rfl g29) rfl rfl (q_loadB rfl one9 rfl Sel.here rfl) ?_
            refine run_q (.on rfl rfl rfl g29) rfl rfl (q_move rfl rfl) ?_
            refine run_q (.on rfl rfl rfl g29) rfl rfl (q_indexStr (q := k) rfl Try.underlying9 rfl rfl rfl (bAt_get (by omega))) ?_
            refine run_q (.on rfl rfl rfl g29) rfl rfl (q_eql rfl rfl rfl) ?_
            refine run_q (.none rfl) rfl rfl (q_pickF rfl rfl g29 rfl) ?_
            refine run_nil ?_
            refine run_sub (subMk (.cons (s := 1) rfl (.cons (s := 2) rfl (.cons (s := 20) rfl (.cons (s := 21) rfl (.cons (s := 35) rfl .nil))))) .refl) ?_
            refine run_cond rfl (fun g35 => ?_) (fun g35 => ?_)
            · have g35' := g35
              try simp only [decide_eq_true_eq, decide_eq_false_iff_not, beq_iff_eq, beq_eq_false_iff_ne, bne_iff_ne, bne_eq_false_iff_eq, Bool.not_eq_true', Bool.not_eq_false', ne_eq, Int.not_lt, Int.not_le, Decidable.not_not] at g35'
              have hb : byteF x.text k = 6 := byteF_1 (by unfold bAt; omega)
              refine run_seq ?_
              refine run_region ?_
              refine run_q (.none rfl) rfl rfl (q_assign rfl rfl) ?_
              refine run_nil ?_
              refine run_ret ?_
              exact end1 rfl rfl (by rw [sylE_3 (by omega) (by omega) (by rw [hE, firstErr_hit hkl (by rw [hb]; decide), hb]; decide)])
            · have g35' := g35
              try simp only [decide_eq_true_eq, decide_eq_false_iff_not, beq_iff_eq, beq_eq_false_iff_ne, bne_iff_ne, bne_eq_false_iff_eq, Bool.not_eq_true', Bool.not_eq_false', ne_eq, Int.not_lt, Int.not_le, Decidable.not_not] at g35'
              have hb : byteF x.text k = 0 := byteF_0 (by unfold bAt; omega)
              refine run_skip ?_
              refine run_blk ?_
              refine run_region ?_
              refine run_q (.none rfl) rfl rfl (q_add rfl rfl rfl (by omega)) ?_
              refine run_q (.none rfl) rfl rfl (q_move rfl rfl) ?_
              refine run_nil ?_
              exact run_again (k + 1) (by (try dsimp only); exact ⟨by omega, by rw [hE, firstErr_step hkl hb]⟩) (by (try dsimp only); omega) (subMk (.cons' (s := 21) rfl (vint (by omega)) (.cons (s := 1) rfl (.cons (s := 2) rfl (.cons (s := 20) rfl .nil)))) (.cons Sel.here .refl .nil))
        · have g22' := g22
          try simp only [decide_eq_true_eq, decide_eq_false_iff_not, beq_iff_eq, beq_eq_false_iff_ne, bne_iff_ne, bne_eq_false_iff_eq, Bool.not_eq_true', Bool.not_eq_false', ne_eq, Int.not_lt, Int.not_le, Decidable.not_not] at g22'
          refine run_exit rfl ?_
          refine run_sub (subMk (.cons (s := 1) rfl (.cons (s := 2) rfl .nil)) .refl) ?_
          refine run_seq ?_
          refine run_seq ?_
          have hz : firstErr (byteF x.text) x.text.size 0 = 0 := by rw [hE, firstErr_end (by omega)]
          refine run_region ?_
          refine run_q (.none rfl) rfl rfl (q_fieldB (d := 0) rfl Try.underlying86 rfl rfl sz9 rfl) ?_
          refine run_q (.none rfl) rfl rfl (q_loadB rfl one9 rfl Sel.here rfl) ?_
          refine run_q (.none rfl) rfl rfl (q_eqlStr rfl rfl rfl) ?_
          refine run_q (.none rfl) rfl rfl (q_move rfl rfl) ?_
          refine run_split 40 rfl (fun g40 => ?_) (fun g40 => ?_)
          · have g40' := g40
            try simp only [decide_eq_true_eq, decide_eq_false_iff_not, beq_iff_eq, beq_eq_false_iff_ne, bne_iff_ne, bne_eq_false_iff_eq, Bool.not_eq_true', Bool.not_eq_false', ne_eq, Int.not_lt, Int.not_le, Decidable.not_not] at g40'
            refine run_q (.on rfl rfl rfl g40) rfl rfl (q_fieldB (d := 1) rfl Try.underlying86 rfl rfl sz3 rfl) ?_
            refine run_q (.on rfl rfl rfl g40) rfl rfl (q_loadB rfl one3 rfl Sel.here rfl) ?_
            refine run_q (.on rfl rfl rfl g40) rfl rfl (q_eql rfl rfl rfl) ?_
            refine run_q (.none rfl) rfl rfl (q_pickT rfl rfl g40 rfl) ?_
            refine run_nil ?_
            refine run_sub (subMk (.cons (s := 2) rfl (.cons (s := 44) rfl .nil)) .refl) ?_
            refine run_cond rfl (fun g44 => ?_) (fun g44 => ?_)
            · have g44' := g44
              try simp only [decide_eq_true_eq, decide_eq_false_iff_not, beq_iff_eq, beq_eq_false_iff_ne, bne_iff_ne, bne_eq_false_iff_eq, Bool.not_eq_true', Bool.not_eq_false', ne_eq, Int.not_lt, Int.not_le, Decidable.not_not] at g44'
              refine run_seq ?_
              refine run_region ?_
              refine run_q (.none rfl) rfl rfl (q_assign rfl rfl) ?_
              refine run_nil ?_
              refine run_ret ?_
              exact end1 rfl rfl (by rw [sylE_4 (by omega) (by omega) hz ⟨g40, g44'⟩])
            · have g44' := g44
              try simp only [decide_eq_true_eq, decide_eq_false_iff_not, beq_iff_eq, beq_eq_false_iff_ne, bne_iff_ne, bne_eq_false_iff_eq, Bool.not_eq_true', Bool.not_eq_false', ne_eq, Int.not_lt, Int.not_le, Decidable.not_not] at g44'
              refine run_skip ?_
              refine run_seq ?_
              refine run_region ?_
              refine run_q (.none rfl) rfl rfl (q_assign rfl rfl) ?_
              refine run_nil ?_
              refine run_ret ?_
              exact end1 rfl rfl (by rw [sylE_5 (by omega) (by omega) hz (fun h => g44' h.2)])
          · have g40' := g40
            try simp only [decide_eq_true_eq, decide_eq_false_iff_not, beq_iff_eq, beq_eq_false_iff_ne, bne_iff_ne, bne_eq_false_iff_eq, Bool.not_eq_true', Bool.not_eq_false', ne_eq, Int.not_lt, Int.not_le, Decidable.not_not] at g40'
            refine run_off (.no rfl rfl rfl g40) rfl rfl ?_
            refine run_off (.no rfl rfl rfl g40) rfl rfl ?_
            refine run_off (.no rfl rfl rfl g40) rfl rfl ?_
            refine run_q (.none rfl) rfl rfl (q_pickF rfl rfl g40 rfl) ?_
            refine run_nil ?_
            refine run_sub (subMk (.cons (s := 2) rfl (.cons (s := 44) rfl .nil)) .refl) ?_
            refine run_condF rfl rfl ?_
            refine run_skip ?_
            refine run_seq ?_
            refine run_region ?_
            refine run_q (.none rfl) rfl rfl (q_assign rfl rfl) ?_
            refine run_nil ?_
            refine run_ret ?_
            exact end1 rfl rfl (by rw [sylE_5 (by omega) (by omega) hz (fun h => Bool.noConfusion (h.1.symm.trans g40))])

set_option maxRecDepth 100000 in
theorem absent_just (x : Syl) (W : World)  : Calls Try.prog 85 #[x.val] W (Hr.Just W (.bool (decide (absS x)))) := by
  refine Just.of_ret ?_
  refine enterA (X := nX) (vs := [x.val]) Try.func85 Try.ntmps85 rfl rfl Mem.nil ?_
  refine run_seq ?_
  refine run_region ?_
  refine run_h (.none rfl) (h_box rfl rfl rfl rfl rfl) ?_
  rintro b1 -
  refine run_q (.none rfl) rfl rfl (q_assign rfl rfl) ?_
  refine run_nil ?_
  refine run_seq ?_
  refine run_region ?_
  refine run_q (.none rfl) rfl rfl (q_loadBN rfl agg86 rfl Sel.here (.cons rfl (.cons rfl CellsAt.nil)) rfl) ?_
  refine run_q (.none rfl) rfl rfl (q_build rfl PV.nil (built86)) ?_
  refine run_q (.none rfl) rfl rfl (q_eqlS rfl rfl rfl eqg86 (fun w => eqs86 _ _ _ _ w)) ?_
  refine run_q (.none rfl) rfl rfl (q_assign rfl rfl) ?_
  refine run_nil ?_
  refine run_sub (subMk (.cons (s := 2) rfl .nil) .refl) ?_
  refine run_ret ?_
  exact end1 rfl rfl (congrArg Value.bool (by rw [Bool.eq_iff_iff, decide_eq_true_eq]; simp [absS, empS]))

set_option maxHeartbeats 1000000 in
set_option maxRecDepth 100000 in
theorem lyrics_just (l : List Syl) (A : Option Addr) (ca : Nat) (W : World) (hr : Rd W A 2 (l.map Syl.enc)) (hl : l.length ≤ 100000) : Calls Try.prog 64 #[.slice A l.length ca] W (Hr.Just W (.int .i64 (lyricsE l))) := by
  refine Just.of_ret ?_
  refine enterA (X := nX) (vs := [.slice A l.length ca]) Try.func64 Try.ntmps64 rfl rfl Mem.nil ?_
  refine run_seq ?_
  refine run_region ?_
  refine run_q (.none rfl) rfl rfl (q_assign rfl rfl) ?_
  refine run_nil ?_
  refine run_seq ?_
  refine run_seq ?_
  refine run_region ?_
  refine run_q (.none rfl) rfl rfl (q_move rfl rfl) ?_
  refine run_q (.none rfl) rfl rfl (q_len rfl Try.underlying76 rfl) ?_
  refine run_q (.none rfl) rfl rfl (q_gtr rfl rfl rfl) ?_
  refine run_nil ?_
  refine run_cond rfl (fun g9 => ?_) (fun g9 => ?_)
  · have g9' := g9
    try simp only [decide_eq_true_eq, decide_eq_false_iff_not, beq_iff_eq, beq_eq_false_iff_ne, bne_iff_ne, bne_eq_false_iff_eq, Bool.not_eq_true', Bool.not_eq_false', ne_eq, Int.not_lt, Int.not_le, Decidable.not_not] at g9'
    refine run_seq ?_
    refine run_region ?_
    refine run_q (.none rfl) rfl rfl (q_assign rfl rfl) ?_
    refine run_nil ?_
    refine run_sub (subMk (.cons (s := 0) rfl (.cons (s := 2) rfl .nil)) .refl) ?_
    refine run_ret ?_
    exact end1 rfl rfl (by rw [lyricsE_1 (by omega)])
  · have g9' := g9
    try simp only [decide_eq_true_eq, decide_eq_false_iff_not, beq_iff_eq, beq_eq_false_iff_ne, bne_iff_ne, bne_eq_false_iff_eq, Bool.not_eq_true', Bool.not_eq_false', ne_eq, Int.not_lt, Int.not_le, Decidable.not_not] at g9'
    refine run_skip ?_
    refine run_seq ?_
    refine run_seq ?_
    refine run_region ?_
    refine run_q (.none rfl) rfl rfl (q_move rfl rfl) ?_
    refine run_q (.none rfl) rfl rfl (q_len rfl Try.underlying76 rfl) ?_
    refine run_q (.none rfl) rfl rfl (q_move rfl rfl) ?_
    refine run_nil ?_
    refine run_sub (subMk (.cons (s := 0) rfl (.cons (s := 2) rfl (.cons (s := 10) rfl (.cons (s := 11) rfl (.cons (s := 12) rfl .nil))))) .refl) ?_
    refine run_block ?_
    refine run_sub (subMk (.cons (s := 12) rfl (.cons (s := 0) rfl (.cons (s := 2) rfl (.cons (s := 10) rfl (.cons (s := 11) rfl .nil))))) .nil) ?_
    refine run_loopC1M0 (ι := Nat) (fun k => k ≤ l.length ∧ firstErr (sF l) l.length 0 = firstErr (sF l) (l.length - k) k) (fun k => .int .i64 (k : Int))  (fun k => l.length - k) 0 (by (try dsimp only); exact ⟨by omega, rfl⟩) rfl  ?_
    rintro k hq
    (try dsimp only at hq)
    obtain ⟨hk, hE⟩ := hq
    show Run _ _ _ _ _ _ _ ⟨(12, .int .i64 (k : Int)) :: _, _⟩
    refine run_seq ?_
    refine run_region ?_
    refine run_q (.none rfl) rfl rfl (q_lss rfl rfl rfl) ?_
    refine run_nil ?_
    refine run_seq ?_
    refine run_cond rfl (fun g13 => ?_) (fun g13 => ?_)
    · have g13' := g13
      try simp only [decide_eq_true_eq, decide_eq_false_iff_not, beq_iff_eq, beq_eq_false_iff_ne, bne_iff_ne, bne_eq_false_iff_eq, Bool.not_eq_true', Bool.not_eq_false', ne_eq, Int.not_lt, Int.not_le, Decidable.not_not] at g13'
      have hkl : k < l.length := by omega
      refine run_skip ?_
      refine run_seq ?_
      refine run_block ?_
      refine run_seq ?_
      refine run_region ?_
      refine run_q (.none rfl) rfl rfl (q_indexS (q := k) rfl Try.underlying76 sz86 rfl rfl (.inp hr .no) (by simp <;> omega) rfl (by omega)) ?_
      refine run_q (.none rfl) rfl rfl (q_loadE rfl agg86 rfl (.inp hr .no) (getmap (by omega)) rfl) ?_
      refine run_h (.none rfl) (h_alloc rfl rfl rfl info86) ?_
      rintro b4 -
      refine run_h (.none rfl) (h_storeB rfl rfl sz86 rfl rfl rfl rfl rfl Sel.here rfl) ?_
      rintro - -
      refine run_nil ?_
      refine run_sub (subMk (.cons (s := 0) rfl (.cons (s := 2) rfl (.cons (s := 4) rfl (.cons (s := 10) rfl (.cons (s := 11) rfl (.cons (s := 12) rfl .nil)))))) .refl) ?_
      refine run_seq ?_
      refine run_region ?_
      refine run_q (.none rfl) rfl rfl (q_loadBN rfl agg86 rfl Sel.here (.cons rfl (.cons rfl CellsAt.nil)) rfl) ?_
      refine run_q (.none rfl) rfl rfl (q_call rfl call84 (.cons rfl Evs.nil) (fun w hk hm => syllable_just (nth l k) w)) ?_
      refine run_q (.none rfl) rfl rfl (q_assign rfl rfl) ?_
      refine run_nil ?_
      refine run_sub (subMk (.cons (s := 0) rfl (.cons (s := 2) rfl (.cons (s := 5) rfl (.cons (s := 10) rfl (.cons (s := 11) rfl (.cons (s := 12) rfl .nil)))))) .refl) ?_
      refine run_seq ?_
      refine run_region ?_
      refine run_q (.none rfl) rfl rfl (q_move rfl rfl) ?_
      refine run_q (.none rfl) rfl rfl (q_neq rfl rfl rfl) ?_
      refine run_nil ?_
      refine run_cond rfl (fun g19 => ?_) (fun g19 => ?_)
      · have g19' := g19
        try simp only [decide_eq_true_eq, decide_eq_false_iff_not, beq_iff_eq, beq_eq_false_iff_ne, bne_iff_ne, bne_eq_false_iff_eq, Bool.not_eq_true', Bool.not_eq_false', ne_eq, Int.not_lt, Int.not_le, Decidable.not_not] at g19'
        refine run_seq ?_
        refine run_region ?_
        refine run_q (.none rfl) rfl rfl (q_move rfl rfl) ?_
        refine run_q (.none rfl) rfl rfl (q_assign rfl rfl) ?_
        refine run_nil ?_
        refine run_sub (subMk (.cons (s := 0) rfl (.cons (s := 2) rfl (.cons (s := 10) rfl (.cons (s := 11) rfl (.cons (s := 12) rfl .nil))))) .refl) ?_
        refine run_ret ?_
        exact end1 rfl rfl (by rw [lyr_hit (by omega) hE hkl rfl g19'])
      · have g19' := g19
        try simp only [decide_eq_true_eq, decide_eq_false_iff_not, beq_iff_eq, beq_eq_false_iff_ne, bne_iff_ne, bne_eq_false_iff_eq, Bool.not_eq_true', Bool.not_eq_false', ne_eq, Int.not_lt, Int.not_le, Decidable.not_not] at g19'
        have h0 : sylE (nth l k) = 0 := by omega
        refine run_skip ?_
        refine run_blk ?_
        refine run_region ?_
        refine run_q (.none rfl) rfl rfl (q_add rfl rfl rfl (by omega)) ?_
        refine run_q (.none rfl) rfl rfl (q_move rfl rfl) ?_
        refine run_nil ?_
        refine run_sub (subMk (.cons (s := 0) rfl (.cons (s := 2) rfl (.cons (s := 10) rfl (.cons (s := 11) rfl (.cons (s := 12) rfl .nil))))) .refl) ?_
        exact run_again (k + 1) (by (try dsimp only); exact ⟨by omega, by rw [hE, firstErr_step hkl (by rw [sF, h0])]⟩) (by (try dsimp only); omega) (subMk (.cons' (s := 12) rfl (vint (by omega)) (.cons (s := 0) rfl (.cons (s := 2) rfl (.cons (s := 10) rfl (.cons (s := 11) rfl .nil))))) .nil)
    · have g13' := g13
      try simp only [decide_eq_true_eq, decide_eq_false_iff_not, beq_iff_eq, beq_eq_false_iff_ne, bne_iff_ne, bne_eq_false_iff_eq, Bool.not_eq_true', Bool.not_eq_false', ne_eq, Int.not_lt, Int.not_le, Decidable.not_not] at g13'
      refine run_exit rfl ?_
      refine run_sub (subMk (.cons (s := 0) rfl (.cons (s := 2) rfl .nil)) .refl) ?_
      refine run_seq ?_
      refine run_seq ?_
      have hz : firstErr (sF l) l.length 0 = 0 := by rw [hE, firstErr_end (by omega)]
      refine run_region ?_
      refine run_q (.none rfl) rfl rfl (q_move rfl rfl) ?_
      refine run_q (.none rfl) rfl rfl (q_len rfl Try.underlying76 rfl) ?_
      refine run_q (.none rfl) rfl rfl (q_assign rfl rfl) ?_
      refine run_nil ?_
      refine run_seq ?_
      refine run_region ?_
      refine run_q (.none rfl) rfl rfl (q_move rfl rfl) ?_
      refine run_q (.none rfl) rfl rfl (q_gtr rfl rfl rfl) ?_
      refine run_q (.none rfl) rfl rfl (q_move rfl rfl) ?_
      refine run_split 26 rfl (fun g26 => ?_) (fun g26 => ?_)
      · have g26' := g26
        try simp only [decide_eq_true_eq, decide_eq_false_iff_not, beq_iff_eq, beq_eq_false_iff_ne, bne_iff_ne, bne_eq_false_iff_eq, Bool.not_eq_true', Bool.not_eq_false', ne_eq, Int.not_lt, Int.not_le, Decidable.not_not] at g26'
        refine run_q (.on rfl rfl rfl g26) rfl rfl (q_move rfl rfl) ?_
        refine run_q (.on rfl rfl rfl g26) rfl rfl (q_move rfl rfl) ?_
        refine run_q (.on rfl rfl rfl g26) rfl rfl (q_sub rfl rfl rfl (by omega)) ?_
        refine run_q (.on rfl rfl rfl g26) rfl rfl (q_indexS (q := (l.length - 1)) rfl Try.underlying76 sz86 rfl rfl (.inp hr .no) (by simp <;> omega) (by omega) (by omega)) ?_
        refine run_q (.on rfl rfl rfl g26) rfl rfl (q_loadE rfl agg86 rfl (.inp hr .no) (getmap (by omega)) rfl) ?_
        refine run_q (.on rfl rfl rfl g26) rfl rfl (q_call rfl call85 (.cons rfl Evs.nil) (fun w hk hm => absent_just (nth l (l.length - 1)) w)) ?_
        refine run_q (.none rfl) rfl rfl (q_pickT rfl rfl g26 rfl) ?_
        refine run_nil ?_
        refine run_sub (subMk (.cons (s := 2) rfl (.cons (s := 33) rfl .nil)) .refl) ?_
        refine run_cond rfl (fun g33 => ?_) (fun g33 => ?_)
        · have g33' := g33
          try simp only [decide_eq_true_eq, decide_eq_false_iff_not, beq_iff_eq, beq_eq_false_iff_ne, bne_iff_ne, bne_eq_false_iff_eq, Bool.not_eq_true', Bool.not_eq_false', ne_eq, Int.not_lt, Int.not_le, Decidable.not_not] at g33'
          refine run_seq ?_
          refine run_region ?_
          refine run_q (.none rfl) rfl rfl (q_assign rfl rfl) ?_
          refine run_nil ?_
          refine run_ret ?_
          exact end1 rfl rfl (by rw [lyricsE_3 (by omega) hz ⟨by omega, g33'⟩])
        · have g33' := g33
          try simp only [decide_eq_true_eq, decide_eq_false_iff_not, beq_iff_eq, beq_eq_false_iff_ne, bne_iff_ne, bne_eq_false_iff_eq, Bool.not_eq_true', Bool.not_eq_false', ne_eq, Int.not_lt, Int.not_le, Decidable.not_not] at g33'
          refine run_skip ?_
          refine run_seq ?_
          refine run_region ?_
          refine run_q (.none rfl) rfl rfl (q_assign rfl rfl) ?_
          refine run_nil ?_
          refine run_ret ?_
          exact end1 rfl rfl (by rw [lyricsE_4 (by omega) hz (fun h => g33' h.2)])
      · have g26' := g26
        try simp only [decide_eq_true_eq, decide_eq_false_iff_not, beq_iff_eq, beq_eq_false_iff_ne, bne_iff_ne, bne_eq_false_iff_eq, Bool.not_eq_true', Bool.not_eq_false', ne_eq, Int.not_lt, Int.not_le, Decidable.not_not] at g26'
        refine run_off (.no rfl rfl rfl g26) rfl rfl ?_
        refine run_off (.no rfl rfl rfl g26) rfl rfl ?_
        refine run_off (.no rfl rfl rfl g26) rfl rfl ?_
        refine run_off (.no rfl rfl rfl g26) rfl rfl ?_
        refine run_off (.no rfl rfl rfl g26) rfl rfl ?_
        refine run_off (.no rfl rfl rfl g26) rfl rfl ?_
        refine run_q (.none rfl) rfl rfl (q_pickF rfl rfl g26 rfl) ?_
        refine run_nil ?_
        refine run_sub (subMk (.cons (s := 2) rfl (.cons (s := 33) rfl .nil)) .refl) ?_
        refine run_condF rfl rfl ?_
        refine run_skip ?_
        refine run_seq ?_
        refine run_region ?_
        refine run_q (.none rfl) rfl rfl (q_assign rfl rfl) ?_
        refine run_nil ?_
        refine run_ret ?_
        exact end1 rfl rfl (by rw [lyricsE_4 (by omega) hz (by omega)])

end Go.Proofs.YtgphmbipakdggaaR.Ev
