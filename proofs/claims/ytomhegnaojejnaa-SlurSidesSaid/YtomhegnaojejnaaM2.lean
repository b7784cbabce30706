/- The law on sides, one voice. -/
import Derived.Test.YtomhegnaojejnaaM
set_option linter.unusedSimpArgs false
set_option linter.unusedVariables false
namespace Go.Proofs.Ytomhegnaojejnaa
open Go Go.RowKit Hr



set_option maxHeartbeats 2000000 in
set_option maxRecDepth 100000 in
theorem law9_2t (n : Nat) (v0 v1 : Int) (W : World) (hr : 1 ≤ n ∧ n ≤ 10) (hc : v1 < 2) : Calls Try.prog 9 #[.int .i64 (n : Int), .bool true, .agg #[.int .i64 v0, .int .i64 v1]] W (Hr.Just W (.bool true)) := by
  refine Just.of_ret ?_
  refine enterA (X := nX) (vs := [.int .i64 (n : Int), .bool true, .agg #[.int .i64 v0, .int .i64 v1]]) Try.func9 Try.ntmps9 rfl rfl Mem.nil ?_
  refine run_seq ?_
  refine run_region ?_
  refine run_h (.none rfl) (h_box rfl rfl rfl rfl rfl) ?_
  rintro b5 -
  refine run_q (.none rfl) rfl rfl (q_assign rfl rfl) ?_
  refine run_nil ?_
  refine run_seq ?_
  refine run_seq ?_
  refine run_region ?_
  refine run_q (.none rfl) rfl rfl (q_call rfl call12 Evs.nil (fun w hk hm => known_just w)) ?_
  refine run_q (.none rfl) rfl rfl (q_not rfl rfl) ?_
  refine run_nil ?_
  refine run_condF rfl rfl ?_
  refine run_skip ?_
  refine run_seq ?_
  refine run_region ?_
  refine run_q (.none rfl) rfl rfl (q_assign rfl rfl) ?_
  refine run_nil ?_
  refine run_sub (subMk (.cons (s := 0) rfl (.cons (s := 1) rfl (.cons (s := 5) rfl (.cons (s := 6) rfl (.cons (s := 7) rfl .nil))))) .refl) ?_
  refine run_seq ?_
  refine run_seq ?_
  refine run_region ?_
  refine run_q (.none rfl) rfl rfl (q_indexB (q := 1) (d := 1) rfl Try.underlying64 sz3 rfl rfl rfl (by decide) rfl) ?_
  refine run_q (.none rfl) rfl rfl (q_loadB rfl one3 rfl Sel.here rfl) ?_
  refine run_q (.none rfl) rfl rfl (q_geq rfl rfl rfl) ?_
  refine run_q (.none rfl) rfl rfl (q_move rfl rfl) ?_
  refine run_off (.no rfl rfl rfl (decide_eq_false (by omega))) rfl rfl ?_
  refine run_off (.no rfl rfl rfl (decide_eq_false (by omega))) rfl rfl ?_
  refine run_off (.no rfl rfl rfl (decide_eq_false (by omega))) rfl rfl ?_
  refine run_q (.none rfl) rfl rfl (q_pickF rfl rfl (decide_eq_false (by omega)) rfl) ?_
  refine run_q (.none rfl) rfl rfl (q_move rfl rfl) ?_
  refine run_q (.on rfl rfl rfl rfl) rfl rfl (q_indexB (q := 1) (d := 1) rfl Try.underlying64 sz3 rfl rfl rfl (by decide) rfl) ?_
  refine run_q (.on rfl rfl rfl rfl) rfl rfl (q_loadB rfl one3 rfl Sel.here rfl) ?_
  refine run_q (.on rfl rfl rfl rfl) rfl rfl (q_lss rfl rfl rfl) ?_
  refine run_q (.on rfl rfl rfl rfl) rfl rfl (q_move rfl rfl) ?_
  refine run_q (.on rfl rfl rfl (decide_eq_true (by omega))) rfl rfl (q_move rfl rfl) ?_
  refine run_q (.on rfl rfl rfl rfl) rfl rfl (q_pickT rfl rfl (decide_eq_true (by omega)) rfl) ?_
  refine run_q (.none rfl) rfl rfl (q_pickF rfl rfl rfl rfl) ?_
  refine run_nil ?_
  refine run_sub (subMk (.cons (s := 0) rfl (.cons (s := 1) rfl (.cons (s := 5) rfl (.cons (s := 6) rfl (.cons (s := 7) rfl (.cons (s := 28) rfl .nil)))))) .refl) ?_
  refine run_condT rfl rfl ?_
  refine run_region ?_
  refine run_q (.none rfl) rfl rfl (q_assign rfl rfl) ?_
  refine run_nil ?_
  refine run_seq ?_
  have hS : (sideV true v0 v1) = (-1) := (sideV_2 (by omega) (.inr rfl))
  refine run_sub (subMk (.cons (s := 0) rfl (.cons (s := 1) rfl (.cons (s := 5) rfl (.cons (s := 6) rfl (.cons' (s := 7) (v' := .int .i64 (sideV true v0 v1)) rfl (vint hS.symm) (.cons (s := 28) rfl .nil)))))) .refl) ?_
  refine run_region ?_
  refine run_q (.none rfl) rfl rfl (q_move rfl rfl) ?_
  refine run_q (.none rfl) rfl rfl (q_move rfl rfl) ?_
  refine run_q (.none rfl) rfl rfl (q_indexB (q := 0) (d := 0) rfl Try.underlying64 sz3 rfl rfl rfl (by decide) rfl) ?_
  refine run_q (.none rfl) rfl rfl (q_loadB rfl one3 rfl Sel.here rfl) ?_
  refine run_q (.none rfl) rfl rfl (q_indexB (q := 1) (d := 1) rfl Try.underlying64 sz3 rfl rfl rfl (by decide) rfl) ?_
  refine run_q (.none rfl) rfl rfl (q_loadB rfl one3 rfl Sel.here rfl) ?_
  refine run_h (.none rfl) (h_call rfl rfl rfl call28 (.cons rfl (.cons rfl (.cons rfl (.cons rfl Evs.nil)))) (fun w hk hm => tie_some n true v0 v1 w hr)) ?_
  rintro ⟨v', m⟩ ⟨A, c, rfl, rfl⟩
  show Run _ _ _ _ _ _ _ ⟨(35, .slice A n c) :: _, _ :: _⟩
  refine run_q (.none rfl) rfl rfl (q_assign rfl rfl) ?_
  refine run_nil ?_
  refine run_sub (subMk (.cons (s := 0) rfl (.cons (s := 1) rfl (.cons (s := 5) rfl (.cons (s := 6) rfl (.cons (s := 7) rfl (.cons (s := 8) rfl .nil)))))) .refl) ?_
  refine run_seq ?_
  refine run_seq ?_
  refine run_region ?_
  refine run_q (.none rfl) rfl rfl (q_move rfl rfl) ?_
  refine run_q (.none rfl) rfl rfl (q_indexB (q := 0) (d := 0) rfl Try.underlying64 sz3 rfl rfl rfl (by decide) rfl) ?_
  refine run_q (.none rfl) rfl rfl (q_loadB rfl one3 rfl (.there Sel.here) rfl) ?_
  refine run_q (.none rfl) rfl rfl (q_indexB (q := 1) (d := 1) rfl Try.underlying64 sz3 rfl rfl rfl (by decide) rfl) ?_
  refine run_q (.none rfl) rfl rfl (q_loadB rfl one3 rfl (.there Sel.here) rfl) ?_
  refine run_q (.none rfl) rfl rfl (q_call rfl call29 (.cons rfl (.cons rfl (.cons rfl Evs.nil))) (fun w hk hm => Side_just true v0 v1 w)) ?_
  refine run_q (.none rfl) rfl rfl (q_move rfl rfl) ?_
  refine run_q (.none rfl) rfl rfl (q_neq rfl rfl rfl) ?_
  refine run_nil ?_
  refine run_sub (subMk (.cons (s := 0) rfl (.cons (s := 5) rfl (.cons (s := 6) rfl (.cons (s := 7) rfl (.cons (s := 8) rfl (.cons (s := 43) rfl .nil)))))) .refl) ?_
  refine run_condF rfl (by simp) ?_
  refine run_skip ?_
  refine run_seq ?_
  refine run_seq ?_
  refine run_region ?_
  refine run_q (.none rfl) rfl rfl (q_move rfl rfl) ?_
  refine run_q (.none rfl) rfl rfl (q_lss rfl rfl rfl) ?_
  refine run_q (.none rfl) rfl rfl (q_move rfl rfl) ?_
  refine run_q (.on rfl rfl rfl (decide_eq_false (by omega))) rfl rfl (q_move rfl rfl) ?_
  refine run_q (.on rfl rfl rfl (decide_eq_false (by omega))) rfl rfl (q_gtr rfl rfl rfl) ?_
  refine run_q (.none rfl) rfl rfl (q_pickF rfl rfl (decide_eq_false (by omega)) rfl) ?_
  refine run_nil ?_
  refine run_sub (subMk (.cons (s := 0) rfl (.cons (s := 5) rfl (.cons (s := 6) rfl (.cons (s := 7) rfl (.cons (s := 8) rfl (.cons (s := 49) rfl .nil)))))) .refl) ?_
  refine run_condF rfl (decide_eq_false (by omega)) ?_
  refine run_skip ?_
  refine run_seq ?_
  refine run_seq ?_
  refine run_region ?_
  refine run_q (.none rfl) rfl rfl (q_assign rfl rfl) ?_
  refine run_nil ?_
  refine run_block ?_
  refine run_sub (subMk (.cons (s := 9) rfl (.cons (s := 0) rfl (.cons (s := 5) rfl (.cons (s := 6) rfl (.cons (s := 7) rfl (.cons (s := 8) rfl .nil)))))) (.cons Sel.here .refl (.cons Sel.here .refl .nil))) ?_
  refine run_loopC1M0 (ι := Nat) (fun i => i ≤ n) (fun i => .int .i64 (i : Int))  (fun i => n - i) 0 (by (try dsimp only); exact (by omega)) rfl  ?_
  rintro i hi
  (try dsimp only at hi)
  show Run _ _ _ _ _ _ _ ⟨(9, .int .i64 (i : Int)) :: _, _⟩
  refine run_seq ?_
  refine run_seq ?_
  refine run_region ?_
  refine run_q (.none rfl) rfl rfl (q_move rfl rfl) ?_
  refine run_q (.none rfl) rfl rfl (q_move rfl rfl) ?_
  refine run_q (.none rfl) rfl rfl (q_lss rfl rfl rfl) ?_
  refine run_nil ?_
  refine run_cond rfl (fun g55 => ?_) (fun g55 => ?_)
  · have g55' := g55
    try simp only [decide_eq_true_eq, decide_eq_false_iff_not, beq_iff_eq, beq_eq_false_iff_ne, bne_iff_ne, bne_eq_false_iff_eq, Bool.not_eq_true', Bool.not_eq_false', ne_eq, Int.not_lt, Int.not_le, Decidable.not_not] at g55'
    have hil : i < n := by omega
    refine run_skip ?_
    refine run_seq ?_
    refine run_block ?_
    refine run_seq ?_
    refine run_region ?_
    refine run_q (.none rfl) rfl rfl (q_move rfl rfl) ?_
    refine run_q (.none rfl) rfl rfl (q_assign rfl rfl) ?_
    refine run_nil ?_
    refine run_sub (subMk (.cons (s := 0) rfl (.cons (s := 5) rfl (.cons (s := 6) rfl (.cons (s := 7) rfl (.cons (s := 8) rfl (.cons (s := 9) rfl (.cons (s := 10) rfl .nil))))))) .refl) ?_
    refine run_seq ?_
    refine run_seq ?_
    refine run_region ?_
    refine run_q (.none rfl) rfl rfl (q_indexB (q := 1) (d := 1) rfl Try.underlying64 sz3 rfl rfl rfl (by decide) rfl) ?_
    refine run_q (.none rfl) rfl rfl (q_loadB rfl one3 rfl (.there Sel.here) rfl) ?_
    refine run_q (.none rfl) rfl rfl (q_lss rfl rfl rfl) ?_
    refine run_q (.none rfl) rfl rfl (q_move rfl rfl) ?_
    refine run_q (.on rfl rfl rfl (decide_eq_true (by omega))) rfl rfl (q_move rfl rfl) ?_
    refine run_q (.on rfl rfl rfl (decide_eq_true (by omega))) rfl rfl (q_mul rfl rfl rfl (by omega)) ?_
    refine run_q (.on rfl rfl rfl (decide_eq_true (by omega))) rfl rfl (q_add rfl rfl rfl (by omega)) ?_
    refine run_q (.on rfl rfl rfl (decide_eq_true (by omega))) rfl rfl (q_move rfl rfl) ?_
    refine run_q (.on rfl rfl rfl (decide_eq_true (by omega))) rfl rfl (q_lss rfl rfl rfl) ?_
    refine run_q (.none rfl) rfl rfl (q_pickT rfl rfl (decide_eq_true (by omega)) rfl) ?_
    refine run_nil ?_
    refine run_sub (subMk (.cons (s := 0) rfl (.cons (s := 5) rfl (.cons (s := 6) rfl (.cons (s := 7) rfl (.cons (s := 8) rfl (.cons (s := 9) rfl (.cons (s := 10) rfl (.cons (s := 68) rfl .nil)))))))) .refl) ?_
    refine run_cond rfl (fun g68 => ?_) (fun g68 => ?_)
    · have g68' := g68
      try simp only [decide_eq_true_eq, decide_eq_false_iff_not, beq_iff_eq, beq_eq_false_iff_ne, bne_iff_ne, bne_eq_false_iff_eq, Bool.not_eq_true', Bool.not_eq_false', ne_eq, Int.not_lt, Int.not_le, Decidable.not_not] at g68'
      refine run_region ?_
      refine run_q (.none rfl) rfl rfl (q_assign rfl rfl) ?_
      refine run_nil ?_
      refine run_seq ?_
      refine run_seq ?_
      refine run_region ?_
      refine run_q (.none rfl) rfl rfl (q_indexB (q := 1) (d := 1) rfl Try.underlying64 sz3 rfl rfl rfl (by decide) rfl) ?_
      refine run_q (.none rfl) rfl rfl (q_loadB rfl one3 rfl (.there Sel.here) rfl) ?_
      refine run_q (.none rfl) rfl rfl (q_lss rfl rfl rfl) ?_
      refine run_q (.none rfl) rfl rfl (q_move rfl rfl) ?_
      refine run_q (.on rfl rfl rfl (decide_eq_true (by omega))) rfl rfl (q_move rfl rfl) ?_
      refine run_q (.on rfl rfl rfl (decide_eq_true (by omega))) rfl rfl (q_mul rfl rfl rfl (by omega)) ?_
      refine run_q (.on rfl rfl rfl (decide_eq_true (by omega))) rfl rfl (q_add rfl rfl rfl (by omega)) ?_
      refine run_q (.on rfl rfl rfl (decide_eq_true (by omega))) rfl rfl (q_move rfl rfl) ?_
      refine run_q (.on rfl rfl rfl (decide_eq_true (by omega))) rfl rfl (q_gtr rfl rfl rfl) ?_
      refine run_q (.none rfl) rfl rfl (q_pickT rfl rfl (decide_eq_true (by omega)) rfl) ?_
      refine run_nil ?_
      refine run_sub (subMk (.cons (s := 0) rfl (.cons (s := 5) rfl (.cons (s := 6) rfl (.cons (s := 7) rfl (.cons (s := 8) rfl (.cons (s := 9) rfl (.cons (s := 10) rfl (.cons (s := 78) rfl .nil)))))))) .refl) ?_
      refine run_cond rfl (fun g78 => ?_) (fun g78 => ?_)
      · have g78' := g78
        try simp only [decide_eq_true_eq, decide_eq_false_iff_not, beq_iff_eq, beq_eq_false_iff_ne, bne_iff_ne, bne_eq_false_iff_eq, Bool.not_eq_true', Bool.not_eq_false', ne_eq, Int.not_lt, Int.not_le, Decidable.not_not] at g78'
        refine run_region ?_
        refine run_q (.none rfl) rfl rfl (q_assign rfl rfl) ?_
        refine run_nil ?_
        refine run_seq ?_
        refine run_sub (subMk (.cons (s := 0) rfl (.cons (s := 5) rfl (.cons (s := 6) rfl (.cons (s := 7) rfl (.cons (s := 8) rfl (.cons (s := 9) rfl (.cons' (s := 10) (v' := .int .i64 (nth (tieL (sideV true v0 v1) v1 n) i)) rfl (vint (by first | (exfalso; omega) | rw [tieL_2 (by omega) hil] | (rw [tieL_2 (by omega) hil]; exact hS.symm) | rw [tieL_1 (by omega) hil, if_pos (by omega)] | rw [tieL_1 (by omega) hil, if_neg (by omega), if_pos (by omega)] | (rw [tieL_1 (by omega) hil, if_neg (by omega), if_neg (by omega)]) | (rw [tieL_1 (by omega) hil, if_neg (by omega), if_neg (by omega)]; exact hS.symm))) (.cons (s := 78) rfl .nil)))))))) .refl) ?_
        refine run_region ?_
        refine run_q (.none rfl) rfl rfl (q_move rfl rfl) ?_
        refine run_q (.none rfl) rfl rfl (q_move rfl rfl) ?_
        refine run_q (.none rfl) rfl rfl (q_len rfl Try.underlying38 rfl) ?_
        refine run_q (.none rfl) rfl rfl (q_geq rfl rfl rfl) ?_
        refine run_q (.none rfl) rfl rfl (q_move rfl rfl) ?_
        refine run_q (.on rfl rfl rfl (decide_eq_false (by omega))) rfl rfl (q_move rfl rfl) ?_
        refine run_q (.on rfl rfl rfl (decide_eq_false (by omega))) rfl rfl (q_move rfl rfl) ?_
        refine run_q (.on rfl rfl rfl (decide_eq_false (by omega))) rfl rfl (q_indexS (q := i) rfl Try.underlying38 sz3 rfl rfl (.own Sel.here) (by rw [List.length_map, tieL_len]) rfl (by omega)) ?_
        refine run_q (.on rfl rfl rfl (decide_eq_false (by omega))) rfl rfl (q_loadC rfl one3 rfl (.own Sel.here) (getmap (by rw [tieL_len]; omega))) ?_
        refine run_q (.on rfl rfl rfl (decide_eq_false (by omega))) rfl rfl (q_move rfl rfl) ?_
        refine run_q (.on rfl rfl rfl (decide_eq_false (by omega))) rfl rfl (q_neq rfl rfl rfl) ?_
        refine run_q (.none rfl) rfl rfl (q_pickF rfl rfl (decide_eq_false (by omega)) rfl) ?_
        refine run_nil ?_
        refine run_sub (subMk (.cons (s := 0) rfl (.cons (s := 5) rfl (.cons (s := 6) rfl (.cons (s := 7) rfl (.cons (s := 8) rfl (.cons (s := 9) rfl (.cons (s := 90) rfl .nil))))))) .refl) ?_
        refine run_condF rfl (by simp) ?_
        refine run_skip ?_
        refine run_blk ?_
        refine run_region ?_
        refine run_q (.none rfl) rfl rfl (q_move rfl rfl) ?_
        refine run_q (.none rfl) rfl rfl (q_add rfl rfl rfl (by omega)) ?_
        refine run_q (.none rfl) rfl rfl (q_assign rfl rfl) ?_
        refine run_nil ?_
        refine run_sub (subMk (.cons (s := 0) rfl (.cons (s := 5) rfl (.cons (s := 6) rfl (.cons (s := 7) rfl (.cons (s := 8) rfl (.cons (s := 9) rfl .nil)))))) .refl) ?_
        exact run_again (i + 1) (by (try dsimp only); exact (by omega)) (by (try dsimp only); omega) (subMk (.cons' (s := 9) rfl (vint (by omega)) (.cons (s := 0) rfl (.cons (s := 5) rfl (.cons (s := 6) rfl (.cons (s := 7) rfl (.cons (s := 8) rfl .nil)))))) (.cons Sel.here .refl (.cons Sel.here .refl .nil)))
      · have g78' := g78
        try simp only [decide_eq_true_eq, decide_eq_false_iff_not, beq_iff_eq, beq_eq_false_iff_ne, bne_iff_ne, bne_eq_false_iff_eq, Bool.not_eq_true', Bool.not_eq_false', ne_eq, Int.not_lt, Int.not_le, Decidable.not_not] at g78'
        refine run_skip ?_
        refine run_seq ?_
        refine run_sub (subMk (.cons (s := 0) rfl (.cons (s := 5) rfl (.cons (s := 6) rfl (.cons (s := 7) rfl (.cons (s := 8) rfl (.cons (s := 9) rfl (.cons' (s := 10) (v' := .int .i64 (nth (tieL (sideV true v0 v1) v1 n) i)) rfl (vint (by first | (exfalso; omega) | rw [tieL_2 (by omega) hil] | (rw [tieL_2 (by omega) hil]; exact hS.symm) | rw [tieL_1 (by omega) hil, if_pos (by omega)] | rw [tieL_1 (by omega) hil, if_neg (by omega), if_pos (by omega)] | (rw [tieL_1 (by omega) hil, if_neg (by omega), if_neg (by omega)]) | (rw [tieL_1 (by omega) hil, if_neg (by omega), if_neg (by omega)]; exact hS.symm))) (.cons (s := 78) rfl .nil)))))))) .refl) ?_
        refine run_region ?_
        refine run_q (.none rfl) rfl rfl (q_move rfl rfl) ?_
        refine run_q (.none rfl) rfl rfl (q_move rfl rfl) ?_
        refine run_q (.none rfl) rfl rfl (q_len rfl Try.underlying38 rfl) ?_
        refine run_q (.none rfl) rfl rfl (q_geq rfl rfl rfl) ?_
        refine run_q (.none rfl) rfl rfl (q_move rfl rfl) ?_
        refine run_q (.on rfl rfl rfl (decide_eq_false (by omega))) rfl rfl (q_move rfl rfl) ?_
        refine run_q (.on rfl rfl rfl (decide_eq_false (by omega))) rfl rfl (q_move rfl rfl) ?_
        refine run_q (.on rfl rfl rfl (decide_eq_false (by omega))) rfl rfl (q_indexS (q := i) rfl Try.underlying38 sz3 rfl rfl (.own Sel.here) (by rw [List.length_map, tieL_len]) rfl (by omega)) ?_
        refine run_q (.on rfl rfl rfl (decide_eq_false (by omega))) rfl rfl (q_loadC rfl one3 rfl (.own Sel.here) (getmap (by rw [tieL_len]; omega))) ?_
        refine run_q (.on rfl rfl rfl (decide_eq_false (by omega))) rfl rfl (q_move rfl rfl) ?_
        refine run_q (.on rfl rfl rfl (decide_eq_false (by omega))) rfl rfl (q_neq rfl rfl rfl) ?_
        refine run_q (.none rfl) rfl rfl (q_pickF rfl rfl (decide_eq_false (by omega)) rfl) ?_
        refine run_nil ?_
        refine run_sub (subMk (.cons (s := 0) rfl (.cons (s := 5) rfl (.cons (s := 6) rfl (.cons (s := 7) rfl (.cons (s := 8) rfl (.cons (s := 9) rfl (.cons (s := 90) rfl .nil))))))) .refl) ?_
        refine run_condF rfl (by simp) ?_
        refine run_skip ?_
        refine run_blk ?_
        refine run_region ?_
        refine run_q (.none rfl) rfl rfl (q_move rfl rfl) ?_
        refine run_q (.none rfl) rfl rfl (q_add rfl rfl rfl (by omega)) ?_
        refine run_q (.none rfl) rfl rfl (q_assign rfl rfl) ?_
        refine run_nil ?_
        refine run_sub (subMk (.cons (s := 0) rfl (.cons (s := 5) rfl (.cons (s := 6) rfl (.cons (s := 7) rfl (.cons (s := 8) rfl (.cons (s := 9) rfl .nil)))))) .refl) ?_
        exact run_again (i + 1) (by (try dsimp only); exact (by omega)) (by (try dsimp only); omega) (subMk (.cons' (s := 9) rfl (vint (by omega)) (.cons (s := 0) rfl (.cons (s := 5) rfl (.cons (s := 6) rfl (.cons (s := 7) rfl (.cons (s := 8) rfl .nil)))))) (.cons Sel.here .refl (.cons Sel.here .refl .nil)))
    · have g68' := g68
      try simp only [decide_eq_true_eq, decide_eq_false_iff_not, beq_iff_eq, beq_eq_false_iff_ne, bne_iff_ne, bne_eq_false_iff_eq, Bool.not_eq_true', Bool.not_eq_false', ne_eq, Int.not_lt, Int.not_le, Decidable.not_not] at g68'
      refine run_skip ?_
      refine run_seq ?_
      refine run_seq ?_
      refine run_region ?_
      refine run_q (.none rfl) rfl rfl (q_indexB (q := 1) (d := 1) rfl Try.underlying64 sz3 rfl rfl rfl (by decide) rfl) ?_
      refine run_q (.none rfl) rfl rfl (q_loadB rfl one3 rfl (.there Sel.here) rfl) ?_
      refine run_q (.none rfl) rfl rfl (q_lss rfl rfl rfl) ?_
      refine run_q (.none rfl) rfl rfl (q_move rfl rfl) ?_
      refine run_q (.on rfl rfl rfl (decide_eq_true (by omega))) rfl rfl (q_move rfl rfl) ?_
      refine run_q (.on rfl rfl rfl (decide_eq_true (by omega))) rfl rfl (q_mul rfl rfl rfl (by omega)) ?_
      refine run_q (.on rfl rfl rfl (decide_eq_true (by omega))) rfl rfl (q_add rfl rfl rfl (by omega)) ?_
      refine run_q (.on rfl rfl rfl (decide_eq_true (by omega))) rfl rfl (q_move rfl rfl) ?_
      refine run_q (.on rfl rfl rfl (decide_eq_true (by omega))) rfl rfl (q_gtr rfl rfl rfl) ?_
      refine run_q (.none rfl) rfl rfl (q_pickT rfl rfl (decide_eq_true (by omega)) rfl) ?_
      refine run_nil ?_
      refine run_sub (subMk (.cons (s := 0) rfl (.cons (s := 5) rfl (.cons (s := 6) rfl (.cons (s := 7) rfl (.cons (s := 8) rfl (.cons (s := 9) rfl (.cons (s := 10) rfl (.cons (s := 78) rfl .nil)))))))) .refl) ?_
      refine run_cond rfl (fun g78 => ?_) (fun g78 => ?_)
      · have g78' := g78
        try simp only [decide_eq_true_eq, decide_eq_false_iff_not, beq_iff_eq, beq_eq_false_iff_ne, bne_iff_ne, bne_eq_false_iff_eq, Bool.not_eq_true', Bool.not_eq_false', ne_eq, Int.not_lt, Int.not_le, Decidable.not_not] at g78'
        refine run_region ?_
        refine run_q (.none rfl) rfl rfl (q_assign rfl rfl) ?_
        refine run_nil ?_
        refine run_seq ?_
        refine run_sub (subMk (.cons (s := 0) rfl (.cons (s := 5) rfl (.cons (s := 6) rfl (.cons (s := 7) rfl (.cons (s := 8) rfl (.cons (s := 9) rfl (.cons' (s := 10) (v' := .int .i64 (nth (tieL (sideV true v0 v1) v1 n) i)) rfl (vint (by first | (exfalso; omega) | rw [tieL_2 (by omega) hil] | (rw [tieL_2 (by omega) hil]; exact hS.symm) | rw [tieL_1 (by omega) hil, if_pos (by omega)] | rw [tieL_1 (by omega) hil, if_neg (by omega), if_pos (by omega)] | (rw [tieL_1 (by omega) hil, if_neg (by omega), if_neg (by omega)]) | (rw [tieL_1 (by omega) hil, if_neg (by omega), if_neg (by omega)]; exact hS.symm))) (.cons (s := 78) rfl .nil)))))))) .refl) ?_
        refine run_region ?_
        refine run_q (.none rfl) rfl rfl (q_move rfl rfl) ?_
        refine run_q (.none rfl) rfl rfl (q_move rfl rfl) ?_
        refine run_q (.none rfl) rfl rfl (q_len rfl Try.underlying38 rfl) ?_
        refine run_q (.none rfl) rfl rfl (q_geq rfl rfl rfl) ?_
        refine run_q (.none rfl) rfl rfl (q_move rfl rfl) ?_
        refine run_q (.on rfl rfl rfl (decide_eq_false (by omega))) rfl rfl (q_move rfl rfl) ?_
        refine run_q (.on rfl rfl rfl (decide_eq_false (by omega))) rfl rfl (q_move rfl rfl) ?_
        refine run_q (.on rfl rfl rfl (decide_eq_false (by omega))) rfl rfl (q_indexS (q := i) rfl Try.underlying38 sz3 rfl rfl (.own Sel.here) (by rw [List.length_map, tieL_len]) rfl (by omega)) ?_
        refine run_q (.on rfl rfl rfl (decide_eq_false (by omega))) rfl rfl (q_loadC rfl one3 rfl (.own Sel.here) (getmap (by rw [tieL_len]; omega))) ?_
        refine run_q (.on rfl rfl rfl (decide_eq_false (by omega))) rfl rfl (q_move rfl rfl) ?_
        refine run_q (.on rfl rfl rfl (decide_eq_false (by omega))) rfl rfl (q_neq rfl rfl rfl) ?_
        refine run_q (.none rfl) rfl rfl (q_pickF rfl rfl (decide_eq_false (by omega)) rfl) ?_
        refine run_nil ?_
        refine run_sub (subMk (.cons (s := 0) rfl (.cons (s := 5) rfl (.cons (s := 6) rfl (.cons (s := 7) rfl (.cons (s := 8) rfl (.cons (s := 9) rfl (.cons (s := 90) rfl .nil))))))) .refl) ?_
        refine run_condF rfl (by simp) ?_
        refine run_skip ?_
        refine run_blk ?_
        refine run_region ?_
        refine run_q (.none rfl) rfl rfl (q_move rfl rfl) ?_
        refine run_q (.none rfl) rfl rfl (q_add rfl rfl rfl (by omega)) ?_
        refine run_q (.none rfl) rfl rfl (q_assign rfl rfl) ?_
        refine run_nil ?_
        refine run_sub (subMk (.cons (s := 0) rfl (.cons (s := 5) rfl (.cons (s := 6) rfl (.cons (s := 7) rfl (.cons (s := 8) rfl (.cons (s := 9) rfl .nil)))))) .refl) ?_
        exact run_again (i + 1) (by (try dsimp only); exact (by omega)) (by (try dsimp only); omega) (subMk (.cons' (s := 9) rfl (vint (by omega)) (.cons (s := 0) rfl (.cons (s := 5) rfl (.cons (s := 6) rfl (.cons (s := 7) rfl (.cons (s := 8) rfl .nil)))))) (.cons Sel.here .refl (.cons Sel.here .refl .nil)))
      · have g78' := g78
        try simp only [decide_eq_true_eq, decide_eq_false_iff_not, beq_iff_eq, beq_eq_false_iff_ne, bne_iff_ne, bne_eq_false_iff_eq, Bool.not_eq_true', Bool.not_eq_false', ne_eq, Int.not_lt, Int.not_le, Decidable.not_not] at g78'
        refine run_skip ?_
        refine run_seq ?_
        refine run_sub (subMk (.cons (s := 0) rfl (.cons (s := 5) rfl (.cons (s := 6) rfl (.cons (s := 7) rfl (.cons (s := 8) rfl (.cons (s := 9) rfl (.cons' (s := 10) (v' := .int .i64 (nth (tieL (sideV true v0 v1) v1 n) i)) rfl (vint (by first | (exfalso; omega) | rw [tieL_2 (by omega) hil] | (rw [tieL_2 (by omega) hil]; exact hS.symm) | rw [tieL_1 (by omega) hil, if_pos (by omega)] | rw [tieL_1 (by omega) hil, if_neg (by omega), if_pos (by omega)] | (rw [tieL_1 (by omega) hil, if_neg (by omega), if_neg (by omega)]) | (rw [tieL_1 (by omega) hil, if_neg (by omega), if_neg (by omega)]; exact hS.symm))) (.cons (s := 78) rfl .nil)))))))) .refl) ?_
        refine run_region ?_
        refine run_q (.none rfl) rfl rfl (q_move rfl rfl) ?_
        refine run_q (.none rfl) rfl rfl (q_move rfl rfl) ?_
        refine run_q (.none rfl) rfl rfl (q_len rfl Try.underlying38 rfl) ?_
        refine run_q (.none rfl) rfl rfl (q_geq rfl rfl rfl) ?_
        refine run_q (.none rfl) rfl rfl (q_move rfl rfl) ?_
        refine run_q (.on rfl rfl rfl (decide_eq_false (by omega))) rfl rfl (q_move rfl rfl) ?_
        refine run_q (.on rfl rfl rfl (decide_eq_false (by omega))) rfl rfl (q_move rfl rfl) ?_
        refine run_q (.on rfl rfl rfl (decide_eq_false (by omega))) rfl rfl (q_indexS (q := i) rfl Try.underlying38 sz3 rfl rfl (.own Sel.here) (by rw [List.length_map, tieL_len]) rfl (by omega)) ?_
        refine run_q (.on rfl rfl rfl (decide_eq_false (by omega))) rfl rfl (q_loadC rfl one3 rfl (.own Sel.here) (getmap (by rw [tieL_len]; omega))) ?_
        refine run_q (.on rfl rfl rfl (decide_eq_false (by omega))) rfl rfl (q_move rfl rfl) ?_
        refine run_q (.on rfl rfl rfl (decide_eq_false (by omega))) rfl rfl (q_neq rfl rfl rfl) ?_
        refine run_q (.none rfl) rfl rfl (q_pickF rfl rfl (decide_eq_false (by omega)) rfl) ?_
        refine run_nil ?_
        refine run_sub (subMk (.cons (s := 0) rfl (.cons (s := 5) rfl (.cons (s := 6) rfl (.cons (s := 7) rfl (.cons (s := 8) rfl (.cons (s := 9) rfl (.cons (s := 90) rfl .nil))))))) .refl) ?_
        refine run_condF rfl (by simp) ?_
        refine run_skip ?_
        refine run_blk ?_
        refine run_region ?_
        refine run_q (.none rfl) rfl rfl (q_move rfl rfl) ?_
        refine run_q (.none rfl) rfl rfl (q_add rfl rfl rfl (by omega)) ?_
        refine run_q (.none rfl) rfl rfl (q_assign rfl rfl) ?_
        refine run_nil ?_
        refine run_sub (subMk (.cons (s := 0) rfl (.cons (s := 5) rfl (.cons (s := 6) rfl (.cons (s := 7) rfl (.cons (s := 8) rfl (.cons (s := 9) rfl .nil)))))) .refl) ?_
        exact run_again (i + 1) (by (try dsimp only); exact (by omega)) (by (try dsimp only); omega) (subMk (.cons' (s := 9) rfl (vint (by omega)) (.cons (s := 0) rfl (.cons (s := 5) rfl (.cons (s := 6) rfl (.cons (s := 7) rfl (.cons (s := 8) rfl .nil)))))) (.cons Sel.here .refl (.cons Sel.here .refl .nil)))
  · have g55' := g55
    try simp only [decide_eq_true_eq, decide_eq_false_iff_not, beq_iff_eq, beq_eq_false_iff_ne, bne_iff_ne, bne_eq_false_iff_eq, Bool.not_eq_true', Bool.not_eq_false', ne_eq, Int.not_lt, Int.not_le, Decidable.not_not] at g55'
    refine run_exit rfl ?_
    refine run_sub (subMk (.cons (s := 0) rfl (.cons (s := 6) rfl (.cons (s := 8) rfl .nil))) .refl) ?_
    refine run_seq ?_
    refine run_region ?_
    refine run_q (.none rfl) rfl rfl (q_move rfl rfl) ?_
    refine run_q (.none rfl) rfl rfl (q_len rfl Try.underlying38 rfl) ?_
    refine run_q (.none rfl) rfl rfl (q_move rfl rfl) ?_
    refine run_q (.none rfl) rfl rfl (q_eql rfl rfl rfl) ?_
    refine run_q (.none rfl) rfl rfl (q_assign rfl rfl) ?_
    refine run_nil ?_
    refine run_sub (subMk (.cons (s := 6) rfl .nil) .refl) ?_
    refine run_ret ?_
    exact end1 rfl rfl (by simp)

set_option maxHeartbeats 2000000 in
set_option maxRecDepth 100000 in
theorem law9_3t (n : Nat) (v0 v1 : Int) (W : World) (hr : 1 ≤ n ∧ n ≤ 10) (hc : v1 < 2) : Calls Try.prog 9 #[.int .i64 (n : Int), .bool false, .agg #[.int .i64 v0, .int .i64 v1]] W (Hr.Just W (.bool true)) := by
  refine Just.of_ret ?_
  refine enterA (X := nX) (vs := [.int .i64 (n : Int), .bool false, .agg #[.int .i64 v0, .int .i64 v1]]) Try.func9 Try.ntmps9 rfl rfl Mem.nil ?_
  refine run_seq ?_
  refine run_region ?_
  refine run_h (.none rfl) (h_box rfl rfl rfl rfl rfl) ?_
  rintro b5 -
  refine run_q (.none rfl) rfl rfl (q_assign rfl rfl) ?_
  refine run_nil ?_
  refine run_seq ?_
  refine run_seq ?_
  refine run_region ?_
  refine run_q (.none rfl) rfl rfl (q_call rfl call12 Evs.nil (fun w hk hm => known_just w)) ?_
  refine run_q (.none rfl) rfl rfl (q_not rfl rfl) ?_
  refine run_nil ?_
  refine run_condF rfl rfl ?_
  refine run_skip ?_
  refine run_seq ?_
  refine run_region ?_
  refine run_q (.none rfl) rfl rfl (q_assign rfl rfl) ?_
  refine run_nil ?_
  refine run_sub (subMk (.cons (s := 0) rfl (.cons (s := 1) rfl (.cons (s := 5) rfl (.cons (s := 6) rfl (.cons (s := 7) rfl .nil))))) .refl) ?_
  refine run_seq ?_
  refine run_seq ?_
  refine run_region ?_
  refine run_q (.none rfl) rfl rfl (q_indexB (q := 1) (d := 1) rfl Try.underlying64 sz3 rfl rfl rfl (by decide) rfl) ?_
  refine run_q (.none rfl) rfl rfl (q_loadB rfl one3 rfl Sel.here rfl) ?_
  refine run_q (.none rfl) rfl rfl (q_geq rfl rfl rfl) ?_
  refine run_q (.none rfl) rfl rfl (q_move rfl rfl) ?_
  refine run_off (.no rfl rfl rfl (decide_eq_false (by omega))) rfl rfl ?_
  refine run_off (.no rfl rfl rfl (decide_eq_false (by omega))) rfl rfl ?_
  refine run_off (.no rfl rfl rfl (decide_eq_false (by omega))) rfl rfl ?_
  refine run_q (.none rfl) rfl rfl (q_pickF rfl rfl (decide_eq_false (by omega)) rfl) ?_
  refine run_q (.none rfl) rfl rfl (q_move rfl rfl) ?_
  refine run_q (.on rfl rfl rfl rfl) rfl rfl (q_indexB (q := 1) (d := 1) rfl Try.underlying64 sz3 rfl rfl rfl (by decide) rfl) ?_
  refine run_q (.on rfl rfl rfl rfl) rfl rfl (q_loadB rfl one3 rfl Sel.here rfl) ?_
  refine run_q (.on rfl rfl rfl rfl) rfl rfl (q_lss rfl rfl rfl) ?_
  refine run_q (.on rfl rfl rfl rfl) rfl rfl (q_move rfl rfl) ?_
  refine run_q (.on rfl rfl rfl (decide_eq_true (by omega))) rfl rfl (q_move rfl rfl) ?_
  refine run_q (.on rfl rfl rfl rfl) rfl rfl (q_pickT rfl rfl (decide_eq_true (by omega)) rfl) ?_
  refine run_q (.none rfl) rfl rfl (q_pickF rfl rfl rfl rfl) ?_
  refine run_nil ?_
  refine run_sub (subMk (.cons (s := 0) rfl (.cons (s := 1) rfl (.cons (s := 5) rfl (.cons (s := 6) rfl (.cons (s := 7) rfl (.cons (s := 28) rfl .nil)))))) .refl) ?_
  refine run_condF rfl rfl ?_
  refine run_skip ?_
  refine run_seq ?_
  have hS : (sideV false v0 v1) = 1 := (sideV_3 (by omega) (by rintro (h | h); (· omega); (· cases h)))
  refine run_sub (subMk (.cons (s := 0) rfl (.cons (s := 1) rfl (.cons (s := 5) rfl (.cons (s := 6) rfl (.cons' (s := 7) (v' := .int .i64 (sideV false v0 v1)) rfl (vint hS.symm) (.cons (s := 28) rfl .nil)))))) .refl) ?_
  refine run_region ?_
  refine run_q (.none rfl) rfl rfl (q_move rfl rfl) ?_
  refine run_q (.none rfl) rfl rfl (q_move rfl rfl) ?_
  refine run_q (.none rfl) rfl rfl (q_indexB (q := 0) (d := 0) rfl Try.underlying64 sz3 rfl rfl rfl (by decide) rfl) ?_
  refine run_q (.none rfl) rfl rfl (q_loadB rfl one3 rfl Sel.here rfl) ?_
  refine run_q (.none rfl) rfl rfl (q_indexB (q := 1) (d := 1) rfl Try.underlying64 sz3 rfl rfl rfl (by decide) rfl) ?_
  refine run_q (.none rfl) rfl rfl (q_loadB rfl one3 rfl Sel.here rfl) ?_
  refine run_h (.none rfl) (h_call rfl rfl rfl call28 (.cons rfl (.cons rfl (.cons rfl (.cons rfl Evs.nil)))) (fun w hk hm => tie_some n false v0 v1 w hr)) ?_
  rintro ⟨v', m⟩ ⟨A, c, rfl, rfl⟩
  show Run _ _ _ _ _ _ _ ⟨(35, .slice A n c) :: _, _ :: _⟩
  refine run_q (.none rfl) rfl rfl (q_assign rfl rfl) ?_
  refine run_nil ?_
  refine run_sub (subMk (.cons (s := 0) rfl (.cons (s := 1) rfl (.cons (s := 5) rfl (.cons (s := 6) rfl (.cons (s := 7) rfl (.cons (s := 8) rfl .nil)))))) .refl) ?_
  refine run_seq ?_
  refine run_seq ?_
  refine run_region ?_
  refine run_q (.none rfl) rfl rfl (q_move rfl rfl) ?_
  refine run_q (.none rfl) rfl rfl (q_indexB (q := 0) (d := 0) rfl Try.underlying64 sz3 rfl rfl rfl (by decide) rfl) ?_
  refine run_q (.none rfl) rfl rfl (q_loadB rfl one3 rfl (.there Sel.here) rfl) ?_
  refine run_q (.none rfl) rfl rfl (q_indexB (q := 1) (d := 1) rfl Try.underlying64 sz3 rfl rfl rfl (by decide) rfl) ?_
  refine run_q (.none rfl) rfl rfl (q_loadB rfl one3 rfl (.there Sel.here) rfl) ?_
  refine run_q (.none rfl) rfl rfl (q_call rfl call29 (.cons rfl (.cons rfl (.cons rfl Evs.nil))) (fun w hk hm => Side_just false v0 v1 w)) ?_
  refine run_q (.none rfl) rfl rfl (q_move rfl rfl) ?_
  refine run_q (.none rfl) rfl rfl (q_neq rfl rfl rfl) ?_
  refine run_nil ?_
  refine run_sub (subMk (.cons (s := 0) rfl (.cons (s := 5) rfl (.cons (s := 6) rfl (.cons (s := 7) rfl (.cons (s := 8) rfl (.cons (s := 43) rfl .nil)))))) .refl) ?_
  refine run_condF rfl (by simp) ?_
  refine run_skip ?_
  refine run_seq ?_
  refine run_seq ?_
  refine run_region ?_
  refine run_q (.none rfl) rfl rfl (q_move rfl rfl) ?_
  refine run_q (.none rfl) rfl rfl (q_lss rfl rfl rfl) ?_
  refine run_q (.none rfl) rfl rfl (q_move rfl rfl) ?_
  refine run_q (.on rfl rfl rfl (decide_eq_false (by omega))) rfl rfl (q_move rfl rfl) ?_
  refine run_q (.on rfl rfl rfl (decide_eq_false (by omega))) rfl rfl (q_gtr rfl rfl rfl) ?_
  refine run_q (.none rfl) rfl rfl (q_pickF rfl rfl (decide_eq_false (by omega)) rfl) ?_
  refine run_nil ?_
  refine run_sub (subMk (.cons (s := 0) rfl (.cons (s := 5) rfl (.cons (s := 6) rfl (.cons (s := 7) rfl (.cons (s := 8) rfl (.cons (s := 49) rfl .nil)))))) .refl) ?_
  refine run_condF rfl (decide_eq_false (by omega)) ?_
  refine run_skip ?_
  refine run_seq ?_
  refine run_seq ?_
  refine run_region ?_
  refine run_q (.none rfl) rfl rfl (q_assign rfl rfl) ?_
  refine run_nil ?_
  refine run_block ?_
  refine run_sub (subMk (.cons (s := 9) rfl (.cons (s := 0) rfl (.cons (s := 5) rfl (.cons (s := 6) rfl (.cons (s := 7) rfl (.cons (s := 8) rfl .nil)))))) (.cons Sel.here .refl (.cons Sel.here .refl .nil))) ?_
  refine run_loopC1M0 (ι := Nat) (fun i => i ≤ n) (fun i => .int .i64 (i : Int))  (fun i => n - i) 0 (by (try dsimp only); exact (by omega)) rfl  ?_
  rintro i hi
  (try dsimp only at hi)
  show Run _ _ _ _ _ _ _ ⟨(9, .int .i64 (i : Int)) :: _, _⟩
  refine run_seq ?_
  refine run_seq ?_
  refine run_region ?_
  refine run_q (.none rfl) rfl rfl (q_move rfl rfl) ?_
  refine run_q (.none rfl) rfl rfl (q_move rfl rfl) ?_
  refine run_q (.none rfl) rfl rfl (q_lss rfl rfl rfl) ?_
  refine run_nil ?_
  refine run_cond rfl (fun g55 => ?_) (fun g55 => ?_)
  · have g55' := g55
    try simp only [decide_eq_true_eq, decide_eq_false_iff_not, beq_iff_eq, beq_eq_false_iff_ne, bne_iff_ne, bne_eq_false_iff_eq, Bool.not_eq_true', Bool.not_eq_false', ne_eq, Int.not_lt, Int.not_le, Decidable.not_not] at g55'
    have hil : i < n := by omega
    refine run_skip ?_
    refine run_seq ?_
    refine run_block ?_
    refine run_seq ?_
    refine run_region ?_
    refine run_q (.none rfl) rfl rfl (q_move rfl rfl) ?_
    refine run_q (.none rfl) rfl rfl (q_assign rfl rfl) ?_
    refine run_nil ?_
    refine run_sub (subMk (.cons (s := 0) rfl (.cons (s := 5) rfl (.cons (s := 6) rfl (.cons (s := 7) rfl (.cons (s := 8) rfl (.cons (s := 9) rfl (.cons (s := 10) rfl .nil))))))) .refl) ?_
    refine run_seq ?_
    refine run_seq ?_
    refine run_region ?_
    refine run_q (.none rfl) rfl rfl (q_indexB (q := 1) (d := 1) rfl Try.underlying64 sz3 rfl rfl rfl (by decide) rfl) ?_
    refine run_q (.none rfl) rfl rfl (q_loadB rfl one3 rfl (.there Sel.here) rfl) ?_
    refine run_q (.none rfl) rfl rfl (q_lss rfl rfl rfl) ?_
    refine run_q (.none rfl) rfl rfl (q_move rfl rfl) ?_
    refine run_q (.on rfl rfl rfl (decide_eq_true (by omega))) rfl rfl (q_move rfl rfl) ?_
    refine run_q (.on rfl rfl rfl (decide_eq_true (by omega))) rfl rfl (q_mul rfl rfl rfl (by omega)) ?_
    refine run_q (.on rfl rfl rfl (decide_eq_true (by omega))) rfl rfl (q_add rfl rfl rfl (by omega)) ?_
    refine run_q (.on rfl rfl rfl (decide_eq_true (by omega))) rfl rfl (q_move rfl rfl) ?_
    refine run_q (.on rfl rfl rfl (decide_eq_true (by omega))) rfl rfl (q_lss rfl rfl rfl) ?_
    refine run_q (.none rfl) rfl rfl (q_pickT rfl rfl (decide_eq_true (by omega)) rfl) ?_
    refine run_nil ?_
    refine run_sub (subMk (.cons (s := 0) rfl (.cons (s := 5) rfl (.cons (s := 6) rfl (.cons (s := 7) rfl (.cons (s := 8) rfl (.cons (s := 9) rfl (.cons (s := 10) rfl (.cons (s := 68) rfl .nil)))))))) .refl) ?_
    refine run_cond rfl (fun g68 => ?_) (fun g68 => ?_)
    · have g68' := g68
      try simp only [decide_eq_true_eq, decide_eq_false_iff_not, beq_iff_eq, beq_eq_false_iff_ne, bne_iff_ne, bne_eq_false_iff_eq, Bool.not_eq_true', Bool.not_eq_false', ne_eq, Int.not_lt, Int.not_le, Decidable.not_not] at g68'
      refine run_region ?_
      refine run_q (.none rfl) rfl rfl (q_assign rfl rfl) ?_
      refine run_nil ?_
      refine run_seq ?_
      refine run_seq ?_
      refine run_region ?_
      refine run_q (.none rfl) rfl rfl (q_indexB (q := 1) (d := 1) rfl Try.underlying64 sz3 rfl rfl rfl (by decide) rfl) ?_
      refine run_q (.none rfl) rfl rfl (q_loadB rfl one3 rfl (.there Sel.here) rfl) ?_
      refine run_q (.none rfl) rfl rfl (q_lss rfl rfl rfl) ?_
      refine run_q (.none rfl) rfl rfl (q_move rfl rfl) ?_
      refine run_q (.on rfl rfl rfl (decide_eq_true (by omega))) rfl rfl (q_move rfl rfl) ?_
      refine run_q (.on rfl rfl rfl (decide_eq_true (by omega))) rfl rfl (q_mul rfl rfl rfl (by omega)) ?_
      refine run_q (.on rfl rfl rfl (decide_eq_true (by omega))) rfl rfl (q_add rfl rfl rfl (by omega)) ?_
      refine run_q (.on rfl rfl rfl (decide_eq_true (by omega))) rfl rfl (q_move rfl rfl) ?_
      refine run_q (.on rfl rfl rfl (decide_eq_true (by omega))) rfl rfl (q_gtr rfl rfl rfl) ?_
      refine run_q (.none rfl) rfl rfl (q_pickT rfl rfl (decide_eq_true (by omega)) rfl) ?_
      refine run_nil ?_
      refine run_sub (subMk (.cons (s := 0) rfl (.cons (s := 5) rfl (.cons (s := 6) rfl (.cons (s := 7) rfl (.cons (s := 8) rfl (.cons (s := 9) rfl (.cons (s := 10) rfl (.cons (s := 78) rfl .nil)))))))) .refl) ?_
      refine run_cond rfl (fun g78 => ?_) (fun g78 => ?_)
      · have g78' := g78
        try simp only [decide_eq_true_eq, decide_eq_false_iff_not, beq_iff_eq, beq_eq_false_iff_ne, bne_iff_ne, bne_eq_false_iff_eq, Bool.not_eq_true', Bool.not_eq_false', ne_eq, Int.not_lt, Int.not_le, Decidable.not_not] at g78'
        refine run_region ?_
        refine run_q (.none rfl) rfl rfl (q_assign rfl rfl) ?_
        refine run_nil ?_
        refine run_seq ?_
        refine run_sub (subMk (.cons (s := 0) rfl (.cons (s := 5) rfl (.cons (s := 6) rfl (.cons (s := 7) rfl (.cons (s := 8) rfl (.cons (s := 9) rfl (.cons' (s := 10) (v' := .int .i64 (nth (tieL (sideV false v0 v1) v1 n) i)) rfl (vint (by first | (exfalso; omega) | rw [tieL_2 (by omega) hil] | (rw [tieL_2 (by omega) hil]; exact hS.symm) | rw [tieL_1 (by omega) hil, if_pos (by omega)] | rw [tieL_1 (by omega) hil, if_neg (by omega), if_pos (by omega)] | (rw [tieL_1 (by omega) hil, if_neg (by omega), if_neg (by omega)]) | (rw [tieL_1 (by omega) hil, if_neg (by omega), if_neg (by omega)]; exact hS.symm))) (.cons (s := 78) rfl .nil)))))))) .refl) ?_
        refine run_region ?_
        refine run_q (.none rfl) rfl rfl (q_move rfl rfl) ?_
        refine run_q (.none rfl) rfl rfl (q_move rfl rfl) ?_
        refine run_q (.none rfl) rfl rfl (q_len rfl Try.underlying38 rfl) ?_
        refine run_q (.none rfl) rfl rfl (q_geq rfl rfl rfl) ?_
        refine run_q (.none rfl) rfl rfl (q_move rfl rfl) ?_
        refine run_q (.on rfl rfl rfl (decide_eq_false (by omega))) rfl rfl (q_move rfl rfl) ?_
        refine run_q (.on rfl rfl rfl (decide_eq_false (by omega))) rfl rfl (q_move rfl rfl) ?_
        refine run_q (.on rfl rfl rfl (decide_eq_false (by omega))) rfl rfl (q_indexS (q := i) rfl Try.underlying38 sz3 rfl rfl (.own Sel.here) (by rw [List.length_map, tieL_len]) rfl (by omega)) ?_
        refine run_q (.on rfl rfl rfl (decide_eq_false (by omega))) rfl rfl (q_loadC rfl one3 rfl (.own Sel.here) (getmap (by rw [tieL_len]; omega))) ?_
        refine run_q (.on rfl rfl rfl (decide_eq_false (by omega))) rfl rfl (q_move rfl rfl) ?_
        refine run_q (.on rfl rfl rfl (decide_eq_false (by omega))) rfl rfl (q_neq rfl rfl rfl) ?_
        refine run_q (.none rfl) rfl rfl (q_pickF rfl rfl (decide_eq_false (by omega)) rfl) ?_
        refine run_nil ?_
        refine run_sub (subMk (.cons (s := 0) rfl (.cons (s := 5) rfl (.cons (s := 6) rfl (.cons (s := 7) rfl (.cons (s := 8) rfl (.cons (s := 9) rfl (.cons (s := 90) rfl .nil))))))) .refl) ?_
        refine run_condF rfl (by simp) ?_
        refine run_skip ?_
        refine run_blk ?_
        refine run_region ?_
        refine run_q (.none rfl) rfl rfl (q_move rfl rfl) ?_
        refine run_q (.none rfl) rfl rfl (q_add rfl rfl rfl (by omega)) ?_
        refine run_q (.none rfl) rfl rfl (q_assign rfl rfl) ?_
        refine run_nil ?_
        refine run_sub (subMk (.cons (s := 0) rfl (.cons (s := 5) rfl (.cons (s := 6) rfl (.cons (s := 7) rfl (.cons (s := 8) rfl (.cons (s := 9) rfl .nil)))))) .refl) ?_
        exact run_again (i + 1) (by (try dsimp only); exact (by omega)) (by (try dsimp only); omega) (subMk (.cons' (s := 9) rfl (vint (by omega)) (.cons (s := 0) rfl (.cons (s := 5) rfl (.cons (s := 6) rfl (.cons (s := 7) rfl (.cons (s := 8) rfl .nil)))))) (.cons Sel.here .refl (.cons Sel.here .refl .nil)))
      · have g78' := g78
        try simp only [decide_eq_true_eq, decide_eq_false_iff_not, beq_iff_eq, beq_eq_false_iff_ne, bne_iff_ne, bne_eq_false_iff_eq, Bool.not_eq_true', Bool.not_eq_false', ne_eq, Int.not_lt, Int.not_le, Decidable.not_not] at g78'
        refine run_skip ?_
        refine run_seq ?_
        refine run_sub (subMk (.cons (s := 0) rfl (.cons (s := 5) rfl (.cons (s := 6) rfl (.cons (s := 7) rfl (.cons (s := 8) rfl (.cons (s := 9) rfl (.cons' (s := 10) (v' := .int .i64 (nth (tieL (sideV false v0 v1) v1 n) i)) rfl (vint (by first | (exfalso; omega) | rw [tieL_2 (by omega) hil] | (rw [tieL_2 (by omega) hil]; exact hS.symm) | rw [tieL_1 (by omega) hil, if_pos (by omega)] | rw [tieL_1 (by omega) hil, if_neg (by omega), if_pos (by omega)] | (rw [tieL_1 (by omega) hil, if_neg (by omega), if_neg (by omega)]) | (rw [tieL_1 (by omega) hil, if_neg (by omega), if_neg (by omega)]; exact hS.symm))) (.cons (s := 78) rfl .nil)))))))) .refl) ?_
        refine run_region ?_
        refine run_q (.none rfl) rfl rfl (q_move rfl rfl) ?_
        refine run_q (.none rfl) rfl rfl (q_move rfl rfl) ?_
        refine run_q (.none rfl) rfl rfl (q_len rfl Try.underlying38 rfl) ?_
        refine run_q (.none rfl) rfl rfl (q_geq rfl rfl rfl) ?_
        refine run_q (.none rfl) rfl rfl (q_move rfl rfl) ?_
        refine run_q (.on rfl rfl rfl (decide_eq_false (by omega))) rfl rfl (q_move rfl rfl) ?_
        refine run_q (.on rfl rfl rfl (decide_eq_false (by omega))) rfl rfl (q_move rfl rfl) ?_
        refine run_q (.on rfl rfl rfl (decide_eq_false (by omega))) rfl rfl (q_indexS (q := i) rfl Try.underlying38 sz3 rfl rfl (.own Sel.here) (by rw [List.length_map, tieL_len]) rfl (by omega)) ?_
        refine run_q (.on rfl rfl rfl (decide_eq_false (by omega))) rfl rfl (q_loadC rfl one3 rfl (.own Sel.here) (getmap (by rw [tieL_len]; omega))) ?_
        refine run_q (.on rfl rfl rfl (decide_eq_false (by omega))) rfl rfl (q_move rfl rfl) ?_
        refine run_q (.on rfl rfl rfl (decide_eq_false (by omega))) rfl rfl (q_neq rfl rfl rfl) ?_
        refine run_q (.none rfl) rfl rfl (q_pickF rfl rfl (decide_eq_false (by omega)) rfl) ?_
        refine run_nil ?_
        refine run_sub (subMk (.cons (s := 0) rfl (.cons (s := 5) rfl (.cons (s := 6) rfl (.cons (s := 7) rfl (.cons (s := 8) rfl (.cons (s := 9) rfl (.cons (s := 90) rfl .nil))))))) .refl) ?_
        refine run_condF rfl (by simp) ?_
        refine run_skip ?_
        refine run_blk ?_
        refine run_region ?_
        refine run_q (.none rfl) rfl rfl (q_move rfl rfl) ?_
        refine run_q (.none rfl) rfl rfl (q_add rfl rfl rfl (by omega)) ?_
        refine run_q (.none rfl) rfl rfl (q_assign rfl rfl) ?_
        refine run_nil ?_
        refine run_sub (subMk (.cons (s := 0) rfl (.cons (s := 5) rfl (.cons (s := 6) rfl (.cons (s := 7) rfl (.cons (s := 8) rfl (.cons (s := 9) rfl .nil)))))) .refl) ?_
        exact run_again (i + 1) (by (try dsimp only); exact (by omega)) (by (try dsimp only); omega) (subMk (.cons' (s := 9) rfl (vint (by omega)) (.cons (s := 0) rfl (.cons (s := 5) rfl (.cons (s := 6) rfl (.cons (s := 7) rfl (.cons (s := 8) rfl .nil)))))) (.cons Sel.here .refl (.cons Sel.here .refl .nil)))
    · have g68' := g68
      try simp only [decide_eq_true_eq, decide_eq_false_iff_not, beq_iff_eq, beq_eq_false_iff_ne, bne_iff_ne, bne_eq_false_iff_eq, Bool.not_eq_true', Bool.not_eq_false', ne_eq, Int.not_lt, Int.not_le, Decidable.not_not] at g68'
      refine run_skip ?_
      refine run_seq ?_
      refine run_seq ?_
      refine run_region ?_
      refine run_q (.none rfl) rfl rfl (q_indexB (q := 1) (d := 1) rfl Try.underlying64 sz3 rfl rfl rfl (by decide) rfl) ?_
      refine run_q (.none rfl) rfl rfl (q_loadB rfl one3 rfl (.there Sel.here) rfl) ?_
      refine run_q (.none rfl) rfl rfl (q_lss rfl rfl rfl) ?_
      refine run_q (.none rfl) rfl rfl (q_move rfl rfl) ?_
      refine run_q (.on rfl rfl rfl (decide_eq_true (by omega))) rfl rfl (q_move rfl rfl) ?_
      refine run_q (.on rfl rfl rfl (decide_eq_true (by omega))) rfl rfl (q_mul rfl rfl rfl (by omega)) ?_
      refine run_q (.on rfl rfl rfl (decide_eq_true (by omega))) rfl rfl (q_add rfl rfl rfl (by omega)) ?_
      refine run_q (.on rfl rfl rfl (decide_eq_true (by omega))) rfl rfl (q_move rfl rfl) ?_
      refine run_q (.on rfl rfl rfl (decide_eq_true (by omega))) rfl rfl (q_gtr rfl rfl rfl) ?_
      refine run_q (.none rfl) rfl rfl (q_pickT rfl rfl (decide_eq_true (by omega)) rfl) ?_
      refine run_nil ?_
      refine run_sub (subMk (.cons (s := 0) rfl (.cons (s := 5) rfl (.cons (s := 6) rfl (.cons (s := 7) rfl (.cons (s := 8) rfl (.cons (s := 9) rfl (.cons (s := 10) rfl (.cons (s := 78) rfl .nil)))))))) .refl) ?_
      refine run_cond rfl (fun g78 => ?_) (fun g78 => ?_)
      · have g78' := g78
        try simp only [decide_eq_true_eq, decide_eq_false_iff_not, beq_iff_eq, beq_eq_false_iff_ne, bne_iff_ne, bne_eq_false_iff_eq, Bool.not_eq_true', Bool.not_eq_false', ne_eq, Int.not_lt, Int.not_le, Decidable.not_not] at g78'
        refine run_region ?_
        refine run_q (.none rfl) rfl rfl (q_assign rfl rfl) ?_
        refine run_nil ?_
        refine run_seq ?_
        refine run_sub (subMk (.cons (s := 0) rfl (.cons (s := 5) rfl (.cons (s := 6) rfl (.cons (s := 7) rfl (.cons (s := 8) rfl (.cons (s := 9) rfl (.cons' (s := 10) (v' := .int .i64 (nth (tieL (sideV false v0 v1) v1 n) i)) rfl (vint (by first | (exfalso; omega) | rw [tieL_2 (by omega) hil] | (rw [tieL_2 (by omega) hil]; exact hS.symm) | rw [tieL_1 (by omega) hil, if_pos (by omega)] | rw [tieL_1 (by omega) hil, if_neg (by omega), if_pos (by omega)] | (rw [tieL_1 (by omega) hil, if_neg (by omega), if_neg (by omega)]) | (rw [tieL_1 (by omega) hil, if_neg (by omega), if_neg (by omega)]; exact hS.symm))) (.cons (s := 78) rfl .nil)))))))) .refl) ?_
        refine run_region ?_
        refine run_q (.none rfl) rfl rfl (q_move rfl rfl) ?_
        refine run_q (.none rfl) rfl rfl (q_move rfl rfl) ?_
        refine run_q (.none rfl) rfl rfl (q_len rfl Try.underlying38 rfl) ?_
        refine run_q (.none rfl) rfl rfl (q_geq rfl rfl rfl) ?_
        refine run_q (.none rfl) rfl rfl (q_move rfl rfl) ?_
        refine run_q (.on rfl rfl rfl (decide_eq_false (by omega))) rfl rfl (q_move rfl rfl) ?_
        refine run_q (.on rfl rfl rfl (decide_eq_false (by omega))) rfl rfl (q_move rfl rfl) ?_
        refine run_q (.on rfl rfl rfl (decide_eq_false (by omega))) rfl rfl (q_indexS (q := i) rfl Try.underlying38 sz3 rfl rfl (.own Sel.here) (by rw [List.length_map, tieL_len]) rfl (by omega)) ?_
        refine run_q (.on rfl rfl rfl (decide_eq_false (by omega))) rfl rfl (q_loadC rfl one3 rfl (.own Sel.here) (getmap (by rw [tieL_len]; omega))) ?_
        refine run_q (.on rfl rfl rfl (decide_eq_false (by omega))) rfl rfl (q_move rfl rfl) ?_
        refine run_q (.on rfl rfl rfl (decide_eq_false (by omega))) rfl rfl (q_neq rfl rfl rfl) ?_
        refine run_q (.none rfl) rfl rfl (q_pickF rfl rfl (decide_eq_false (by omega)) rfl) ?_
        refine run_nil ?_
        refine run_sub (subMk (.cons (s := 0) rfl (.cons (s := 5) rfl (.cons (s := 6) rfl (.cons (s := 7) rfl (.cons (s := 8) rfl (.cons (s := 9) rfl (.cons (s := 90) rfl .nil))))))) .refl) ?_
        refine run_condF rfl (by simp) ?_
        refine run_skip ?_
        refine run_blk ?_
        refine run_region ?_
        refine run_q (.none rfl) rfl rfl (q_move rfl rfl) ?_
        refine run_q (.none rfl) rfl rfl (q_add rfl rfl rfl (by omega)) ?_
        refine run_q (.none rfl) rfl rfl (q_assign rfl rfl) ?_
        refine run_nil ?_
        refine run_sub (subMk (.cons (s := 0) rfl (.cons (s := 5) rfl (.cons (s := 6) rfl (.cons (s := 7) rfl (.cons (s := 8) rfl (.cons (s := 9) rfl .nil)))))) .refl) ?_
        exact run_again (i + 1) (by (try dsimp only); exact (by omega)) (by (try dsimp only); omega) (subMk (.cons' (s := 9) rfl (vint (by omega)) (.cons (s := 0) rfl (.cons (s := 5) rfl (.cons (s := 6) rfl (.cons (s := 7) rfl (.cons (s := 8) rfl .nil)))))) (.cons Sel.here .refl (.cons Sel.here .refl .nil)))
      · have g78' := g78
        try simp only [decide_eq_true_eq, decide_eq_false_iff_not, beq_iff_eq, beq_eq_false_iff_ne, bne_iff_ne, bne_eq_false_iff_eq, Bool.not_eq_true', Bool.not_eq_false', ne_eq, Int.not_lt, Int.not_le, Decidable.not_not] at g78'
        refine run_skip ?_
        refine run_seq ?_
        refine run_sub (subMk (.cons (s := 0) rfl (.cons (s := 5) rfl (.cons (s := 6) rfl (.cons (s := 7) rfl (.cons (s := 8) rfl (.cons (s := 9) rfl (.cons' (s := 10) (v' := .int .i64 (nth (tieL (sideV false v0 v1) v1 n) i)) rfl (vint (by first | (exfalso; omega) | rw [tieL_2 (by omega) hil] | (rw [tieL_2 (by omega) hil]; exact hS.symm) | rw [tieL_1 (by omega) hil, if_pos (by omega)] | rw [tieL_1 (by omega) hil, if_neg (by omega), if_pos (by omega)] | (rw [tieL_1 (by omega) hil, if_neg (by omega), if_neg (by omega)]) | (rw [tieL_1 (by omega) hil, if_neg (by omega), if_neg (by omega)]; exact hS.symm))) (.cons (s := 78) rfl .nil)))))))) .refl) ?_
        refine run_region ?_
        refine run_q (.none rfl) rfl rfl (q_move rfl rfl) ?_
        refine run_q (.none rfl) rfl rfl (q_move rfl rfl) ?_
        refine run_q (.none rfl) rfl rfl (q_len rfl Try.underlying38 rfl) ?_
        refine run_q (.none rfl) rfl rfl (q_geq rfl rfl rfl) ?_
        refine run_q (.none rfl) rfl rfl (q_move rfl rfl) ?_
        refine run_q (.on rfl rfl rfl (decide_eq_false (by omega))) rfl rfl (q_move rfl rfl) ?_
        refine run_q (.on rfl rfl rfl (decide_eq_false (by omega))) rfl rfl (q_move rfl rfl) ?_
        refine run_q (.on rfl rfl rfl (decide_eq_false (by omega))) rfl rfl (q_indexS (q := i) rfl Try.underlying38 sz3 rfl rfl (.own Sel.here) (by rw [List.length_map, tieL_len]) rfl (by omega)) ?_
        refine run_q (.on rfl rfl rfl (decide_eq_false (by omega))) rfl rfl (q_loadC rfl one3 rfl (.own Sel.here) (getmap (by rw [tieL_len]; omega))) ?_
        refine run_q (.on rfl rfl rfl (decide_eq_false (by omega))) rfl rfl (q_move rfl rfl) ?_
        refine run_q (.on rfl rfl rfl (decide_eq_false (by omega))) rfl rfl (q_neq rfl rfl rfl) ?_
        refine run_q (.none rfl) rfl rfl (q_pickF rfl rfl (decide_eq_false (by omega)) rfl) ?_
        refine run_nil ?_
        refine run_sub (subMk (.cons (s := 0) rfl (.cons (s := 5) rfl (.cons (s := 6) rfl (.cons (s := 7) rfl (.cons (s := 8) rfl (.cons (s := 9) rfl (.cons (s := 90) rfl .nil))))))) .refl) ?_
        refine run_condF rfl (by simp) ?_
        refine run_skip ?_
        refine run_blk ?_
        refine run_region ?_
        refine run_q (.none rfl) rfl rfl (q_move rfl rfl) ?_
        refine run_q (.none rfl) rfl rfl (q_add rfl rfl rfl (by omega)) ?_
        refine run_q (.none rfl) rfl rfl (q_assign rfl rfl) ?_
        refine run_nil ?_
        refine run_sub (subMk (.cons (s := 0) rfl (.cons (s := 5) rfl (.cons (s := 6) rfl (.cons (s := 7) rfl (.cons (s := 8) rfl (.cons (s := 9) rfl .nil)))))) .refl) ?_
        exact run_again (i + 1) (by (try dsimp only); exact (by omega)) (by (try dsimp only); omega) (subMk (.cons' (s := 9) rfl (vint (by omega)) (.cons (s := 0) rfl (.cons (s := 5) rfl (.cons (s := 6) rfl (.cons (s := 7) rfl (.cons (s := 8) rfl .nil)))))) (.cons Sel.here .refl (.cons Sel.here .refl .nil)))
  · have g55' := g55
    try simp only [decide_eq_true_eq, decide_eq_false_iff_not, beq_iff_eq, beq_eq_false_iff_ne, bne_iff_ne, bne_eq_false_iff_eq, Bool.not_eq_true', Bool.not_eq_false', ne_eq, Int.not_lt, Int.not_le, Decidable.not_not] at g55'
    refine run_exit rfl ?_
    refine run_sub (subMk (.cons (s := 0) rfl (.cons (s := 6) rfl (.cons (s := 8) rfl .nil))) .refl) ?_
    refine run_seq ?_
    refine run_region ?_
    refine run_q (.none rfl) rfl rfl (q_move rfl rfl) ?_
    refine run_q (.none rfl) rfl rfl (q_len rfl Try.underlying38 rfl) ?_
    refine run_q (.none rfl) rfl rfl (q_move rfl rfl) ?_
    refine run_q (.none rfl) rfl rfl (q_eql rfl rfl rfl) ?_
    refine run_q (.none rfl) rfl rfl (q_assign rfl rfl) ?_
    refine run_nil ?_
    refine run_sub (subMk (.cons (s := 6) rfl .nil) .refl) ?_
    refine run_ret ?_
    exact end1 rfl rfl (by simp)

end Go.Proofs.Ytomhegnaojejnaa
