/- The law on limits, in the program. -/
import Derived.Test.YtbkmmjpklkallaaR
set_option linter.unusedSimpArgs false
set_option linter.unusedVariables false
namespace Go.Proofs.Ytbkmmjpklkallaa
open Go Go.RowKit Hr



theorem heard_nil  (W : World)  : Calls Try.prog 24 #[.pointer none] W (Hr.Just W (.int .i64 0)) := by
  refine Just.of_ret ?_
  refine enterA (X := nX) (vs := [.pointer none]) Try.func24 Try.ntmps24 rfl rfl Mem.nil ?_
  refine run_seq ?_
  refine run_region ?_
  refine run_q (.none rfl) rfl rfl (q_assign rfl rfl) ?_
  refine run_nil ?_
  refine run_seq ?_
  refine run_seq ?_
  refine run_region ?_
  refine run_q (.none rfl) rfl rfl (q_move rfl rfl) ?_
  refine run_q (.none rfl) rfl rfl (q_eqlPtr rfl rfl rfl Try.underlying54) ?_
  refine run_nil ?_
  refine run_condT rfl rfl ?_
  refine run_seq ?_
  refine run_region ?_
  refine run_q (.none rfl) rfl rfl (q_assign rfl rfl) ?_
  refine run_nil ?_
  refine run_ret ?_
  exact end1 rfl rfl rfl

theorem passed_nil  (W : World)  : Calls Try.prog 25 #[.pointer none] W (Hr.Just W (.int .i64 0)) := by
  refine Just.of_ret ?_
  refine enterA (X := nX) (vs := [.pointer none]) Try.func25 Try.ntmps25 rfl rfl Mem.nil ?_
  refine run_seq ?_
  refine run_region ?_
  refine run_q (.none rfl) rfl rfl (q_assign rfl rfl) ?_
  refine run_nil ?_
  refine run_seq ?_
  refine run_seq ?_
  refine run_region ?_
  refine run_q (.none rfl) rfl rfl (q_move rfl rfl) ?_
  refine run_q (.none rfl) rfl rfl (q_eqlPtr rfl rfl rfl Try.underlying54) ?_
  refine run_nil ?_
  refine run_condT rfl rfl ?_
  refine run_seq ?_
  refine run_region ?_
  refine run_q (.none rfl) rfl rfl (q_assign rfl rfl) ?_
  refine run_nil ?_
  refine run_ret ?_
  exact end1 rfl rfl rfl

theorem pairs_nil  (W : World)  : Calls Try.prog 26 #[.pointer none] W (Hr.Just W (.slice none 0 0)) := by
  refine Just.of_ret ?_
  refine enterA (X := nX) (vs := [.pointer none]) Try.func26 Try.ntmps26 rfl rfl Mem.nil ?_
  refine run_seq ?_
  refine run_region ?_
  refine run_q (.none rfl) rfl rfl (q_assign rfl rfl) ?_
  refine run_nil ?_
  refine run_seq ?_
  refine run_seq ?_
  refine run_region ?_
  refine run_q (.none rfl) rfl rfl (q_move rfl rfl) ?_
  refine run_q (.none rfl) rfl rfl (q_eqlPtr rfl rfl rfl Try.underlying54) ?_
  refine run_nil ?_
  refine run_condT rfl rfl ?_
  refine run_seq ?_
  refine run_region ?_
  refine run_q (.none rfl) rfl rfl (q_assign rfl rfl) ?_
  refine run_nil ?_
  refine run_ret ?_
  exact end1 rfl rfl rfl

theorem listen_nil (x : Note) (W : World)  : Calls Try.prog 27 #[.pointer none, x.val] W (Hr.Just W (.tuple #[.int .i64 0, .int .i64 1])) := by
  refine Just.of_ret ?_
  refine enterA (X := nX) (vs := [.pointer none, x.val]) Try.func27 Try.ntmps27 rfl rfl Mem.nil ?_
  refine run_seq ?_
  refine run_region ?_
  refine run_h (.none rfl) (h_box rfl rfl rfl rfl rfl) ?_
  rintro b3 -
  refine run_q (.none rfl) rfl rfl (q_assign rfl rfl) ?_
  refine run_q (.none rfl) rfl rfl (q_assign rfl rfl) ?_
  refine run_nil ?_
  refine run_seq ?_
  refine run_block ?_
  refine run_seq ?_
  refine run_region ?_
  refine run_q (.none rfl) rfl rfl (q_move rfl rfl) ?_
  refine run_q (.none rfl) rfl rfl (q_eqlPtr rfl rfl rfl Try.underlying54) ?_
  refine run_q (.none rfl) rfl rfl (q_assign rfl rfl) ?_
  refine run_nil ?_
  refine run_sub (subMk (.cons (s := 0) rfl (.cons (s := 3) rfl (.cons (s := 4) rfl (.cons (s := 5) rfl (.cons (s := 6) rfl .nil))))) .refl) ?_
  refine run_condT rfl rfl ?_
  refine run_seq ?_
  refine run_region ?_
  refine run_q (.none rfl) rfl rfl (q_assign rfl rfl) ?_
  refine run_q (.none rfl) rfl rfl (q_assign rfl rfl) ?_
  refine run_nil ?_
  refine run_ret ?_
  exact end2 rfl rfl rfl rfl

set_option maxRecDepth 100000 in
theorem law9_err (x : Int) (k0 : Nat) (W : World) (hx : 0 ≤ x ∧ x ≤ 255) (hk0 : 1022 + x % 5 = (k0 : Int)) (hw : wrongL (noteL k0 k0) ≠ 0) : Calls Try.prog 9 #[.int .u8 x] W (Hr.Just W (.bool true)) := by
  have hn := Int.emod_nonneg x (show (5 : Int) ≠ 0 by decide)
  have hn5 := Int.emod_lt_of_pos x (show (0 : Int) < 5 by decide)
  have hkc : costB kC = 0 := by decide
  have hnl : (noteL k0 k0).length = k0 := noteL_len (by omega)
  refine Just.of_ret ?_
  refine enterA (X := nX) (vs := [.int .u8 x]) Try.func9 Try.ntmps9 rfl rfl Mem.nil ?_
  refine run_seq ?_
  refine run_region ?_
  refine run_q (.none rfl) rfl rfl (q_assign rfl rfl) ?_
  refine run_nil ?_
  refine run_seq ?_
  refine run_region ?_
  refine run_q (.none rfl) rfl rfl (q_move rfl rfl) ?_
  refine run_q (.none rfl) rfl rfl (q_rem rfl rfl rfl (by omega)) ?_
  refine run_q (.none rfl) rfl rfl (q_convert' rfl rfl Try.underlying5 Try.underlying3 (by rw [IntKind.wrap_i64]; omega)) ?_
  refine run_q (.none rfl) rfl rfl (q_add rfl rfl rfl (by omega)) ?_
  refine run_h (.none rfl) (h_makeN (m := k0) (cap := k0) rfl rfl rfl Try.underlying22 info47 rfl (by rw [← hk0]; rfl) (by rw [← hk0]; rfl) (by omega) (by omega) (by omega)) ?_
  rintro b14 -
  refine run_q (.none rfl) rfl rfl (q_assign rfl rfl) ?_
  refine run_nil ?_
  refine run_sub (subMk (.cons (s := 2) rfl (.cons (s := 3) rfl .nil)) .refl) ?_
  refine run_seq ?_
  refine run_seq ?_
  refine run_region ?_
  refine run_q (.none rfl) rfl rfl (q_assign rfl rfl) ?_
  refine run_nil ?_
  refine run_block ?_
  refine run_sub (subMk (.cons (s := 4) rfl (.cons (s := 2) rfl (.cons (s := 3) rfl .nil))) (.cons Sel.here .refl .nil)) ?_
  refine run_loopC1M1 (ι := Nat) (fun k => k ≤ k0) (fun k => .int .i64 (k : Int)) (fun k => .own 47 7 (some ⟨b14, 0, none⟩) k0 k0 ((noteL k0 k).map Note.enc)) (fun k => k0 - k) 0 (by (try dsimp only); exact (by omega)) rfl (.own rfl rfl rfl noteL_zero) ?_
  rintro k hk
  (try dsimp only at hk)
  show Run _ _ _ _ _ _ _ ⟨(4, .int .i64 (k : Int)) :: _, .own 47 7 (some ⟨b14, 0, none⟩) k0 k0 ((noteL k0 k).map Note.enc) :: _⟩
  refine run_seq ?_
  refine run_seq ?_
  refine run_region ?_
  refine run_q (.none rfl) rfl rfl (q_move rfl rfl) ?_
  refine run_q (.none rfl) rfl rfl (q_move rfl rfl) ?_
  refine run_q (.none rfl) rfl rfl (q_len rfl Try.underlying22 rfl) ?_
  refine run_q (.none rfl) rfl rfl (q_lss rfl rfl rfl) ?_
  refine run_nil ?_
  refine run_sub (subMk (.cons (s := 2) rfl (.cons (s := 3) rfl (.cons (s := 4) rfl (.cons (s := 18) rfl .nil)))) .refl) ?_
  refine run_cond rfl (fun g18 => ?_) (fun g18 => ?_)
  · have g18' := g18
    try simp only [decide_eq_true_eq, decide_eq_false_iff_not, beq_iff_eq, beq_eq_false_iff_ne, bne_iff_ne, bne_eq_false_iff_eq, Bool.not_eq_true', Bool.not_eq_false', ne_eq, Int.not_lt, Int.not_le, Decidable.not_not] at g18'
    refine run_skip ?_
    refine run_seq ?_
    refine run_block ?_
    refine run_region ?_
    refine run_q (.none rfl) rfl rfl (q_move rfl rfl) ?_
    refine run_q (.none rfl) rfl rfl (q_move rfl rfl) ?_
    refine run_q (.none rfl) rfl rfl (q_move rfl rfl) ?_
    refine run_q (.none rfl) rfl rfl (q_call rfl call30 (.cons rfl (.cons rfl Evs.nil)) (fun w hk hm => note_just (k : Int) 60 w (by omega))) ?_
    refine run_q (.none rfl) rfl rfl (q_indexS (q := k) rfl Try.underlying22 sz47 rfl rfl (.own Sel.here) (by rw [List.length_map, noteL_len (by omega)]) rfl (by omega)) ?_
    refine run_h (.none rfl) (h_storeE rfl rfl sz47 rfl rfl rfl rfl rfl Sel.here (by omega)) ?_
    rintro - -
    refine run_nil ?_
    refine run_sub (subMk (.cons (s := 2) rfl (.cons (s := 3) rfl (.cons (s := 4) rfl .nil))) .refl) ?_
    refine run_blk ?_
    refine run_region ?_
    refine run_q (.none rfl) rfl rfl (q_move rfl rfl) ?_
    refine run_q (.none rfl) rfl rfl (q_add rfl rfl rfl (by omega)) ?_
    refine run_q (.none rfl) rfl rfl (q_assign rfl rfl) ?_
    refine run_nil ?_
    exact run_again (k + 1) (by (try dsimp only); exact (by omega)) (by (try dsimp only); omega) (subMk (.cons' (s := 4) rfl rfl (.cons (s := 2) rfl (.cons (s := 3) rfl .nil))) (.cons Sel.here (.own rfl rfl rfl (by rw [← noteL_set (by omega), List.map_set]; rfl)) .nil))
  · have g18' := g18
    try simp only [decide_eq_true_eq, decide_eq_false_iff_not, beq_iff_eq, beq_eq_false_iff_ne, bne_iff_ne, bne_eq_false_iff_eq, Bool.not_eq_true', Bool.not_eq_false', ne_eq, Int.not_lt, Int.not_le, Decidable.not_not] at g18'
    refine run_exit rfl ?_
    refine run_seq ?_
    obtain rfl : k0 = k := by omega
    refine run_sub (subMk (.cons (s := 2) rfl (.cons' (s := 3) (v' := .slice (some ⟨b14, 0, none⟩) (noteL k0 k0).length k0) rfl (by rw [hnl]) (.cons (s := 4) rfl (.cons (s := 18) rfl .nil)))) .refl) ?_
    refine run_region ?_
    refine run_q (.none rfl) rfl rfl (q_move rfl rfl) ?_
    refine run_q (.none rfl) rfl rfl (q_call rfl call31 Evs.nil (fun w hk hm => standard_just w)) ?_
    refine run_q (.none rfl) rfl rfl (q_call rfl call23 (.cons rfl (.cons rfl Evs.nil)) (fun w hk hm => new_err kC (noteL k0 k0) (some ⟨b14, 0, none⟩) k0 w (own_rd (Sel.here.holds hm)) (by omega) (by rw [hkc, firstNZ_left]; exact hw))) ?_
    refine run_q (.none rfl) rfl rfl (q_move rfl rfl) ?_
    refine run_q (.none rfl) rfl rfl (q_extract rfl rfl rfl) ?_
    refine run_q (.none rfl) rfl rfl (q_extract rfl rfl rfl) ?_
    refine run_q (.none rfl) rfl rfl (q_assign rfl rfl) ?_
    refine run_q (.none rfl) rfl rfl (q_assign rfl rfl) ?_
    refine run_nil ?_
    refine run_sub (subMk (.cons (s := 2) rfl (.cons (s := 3) rfl (.cons (s := 6) rfl .nil))) .refl) ?_
    refine run_seq ?_
    refine run_region ?_
    refine run_q (.none rfl) rfl rfl (q_assign rfl rfl) ?_
    refine run_nil ?_
    refine run_seq ?_
    refine run_region ?_
    refine run_q (.none rfl) rfl rfl (q_move rfl rfl) ?_
    refine run_q (.none rfl) rfl rfl (q_call rfl call30 (.cons rfl (.cons rfl Evs.nil)) (fun w hk hm => note_just 0 60 w (by decide))) ?_
    refine run_q (.none rfl) rfl rfl (q_call rfl call27 (.cons rfl (.cons rfl Evs.nil)) (fun w hk hm => listen_nil ⟨0, 0 + 1000, 60, 64, 0, 0, 0⟩ w)) ?_
    refine run_q (.none rfl) rfl rfl (q_move rfl rfl) ?_
    refine run_q (.none rfl) rfl rfl (q_extract rfl rfl rfl) ?_
    refine run_q (.none rfl) rfl rfl (q_extract rfl rfl rfl) ?_
    refine run_q (.none rfl) rfl rfl (q_assign rfl rfl) ?_
    refine run_q (.none rfl) rfl rfl (q_assign rfl rfl) ?_
    refine run_nil ?_
    refine run_sub (subMk (.cons (s := 2) rfl (.cons (s := 3) rfl (.cons (s := 6) rfl (.cons (s := 7) rfl (.cons (s := 8) rfl (.cons (s := 9) rfl .nil)))))) .refl) ?_
    refine run_seq ?_
    refine run_region ?_
    refine run_q (.none rfl) rfl rfl (q_call rfl call14 Evs.nil (fun w hk hm => known_just w)) ?_
    refine run_q (.none rfl) rfl rfl (q_move rfl rfl) ?_
    refine run_q (.on rfl rfl rfl rfl) rfl rfl (q_move rfl rfl) ?_
    refine run_q (.on rfl rfl rfl rfl) rfl rfl (q_move rfl rfl) ?_
    refine run_q (.on rfl rfl rfl rfl) rfl rfl (q_call rfl call15 (.cons rfl Evs.nil) (fun w hk hm => bad_just (noteL k0 k0) (some ⟨b14, 0, none⟩) (noteL k0 k0).length k0 w (own_rd (Sel.here.holds hm)) rfl (by omega))) ?_
    refine run_q (.on rfl rfl rfl rfl) rfl rfl (q_eql rfl rfl rfl) ?_
    refine run_q (.none rfl) rfl rfl (q_pickT rfl rfl rfl rfl) ?_
    refine run_q (.none rfl) rfl rfl (q_move rfl rfl) ?_
    refine run_q (.on rfl rfl rfl (by rw [hkc, firstNZ_left]; simp)) rfl rfl (q_move rfl rfl) ?_
    refine run_q (.on rfl rfl rfl (by rw [hkc, firstNZ_left]; simp)) rfl rfl (q_eql rfl rfl rfl) ?_
    refine run_q (.none rfl) rfl rfl (q_pickT rfl rfl (by rw [hkc, firstNZ_left]; simp) rfl) ?_
    refine run_q (.none rfl) rfl rfl (q_move rfl rfl) ?_
    refine run_q (.on rfl rfl rfl rfl) rfl rfl (q_move rfl rfl) ?_
    refine run_q (.on rfl rfl rfl rfl) rfl rfl (q_eql rfl rfl rfl) ?_
    refine run_q (.none rfl) rfl rfl (q_pickT rfl rfl rfl rfl) ?_
    refine run_q (.none rfl) rfl rfl (q_move rfl rfl) ?_
    refine run_q (.on rfl rfl rfl rfl) rfl rfl (q_move rfl rfl) ?_
    refine run_q (.on rfl rfl rfl rfl) rfl rfl (q_call rfl call24 (.cons rfl Evs.nil) (fun w hk hm => heard_nil w)) ?_
    refine run_q (.on rfl rfl rfl rfl) rfl rfl (q_eql rfl rfl rfl) ?_
    refine run_q (.none rfl) rfl rfl (q_pickT rfl rfl rfl rfl) ?_
    refine run_q (.none rfl) rfl rfl (q_move rfl rfl) ?_
    refine run_q (.on rfl rfl rfl rfl) rfl rfl (q_move rfl rfl) ?_
    refine run_q (.on rfl rfl rfl rfl) rfl rfl (q_call rfl call25 (.cons rfl Evs.nil) (fun w hk hm => passed_nil w)) ?_
    refine run_q (.on rfl rfl rfl rfl) rfl rfl (q_eql rfl rfl rfl) ?_
    refine run_q (.none rfl) rfl rfl (q_pickT rfl rfl rfl rfl) ?_
    refine run_q (.none rfl) rfl rfl (q_move rfl rfl) ?_
    refine run_q (.on rfl rfl rfl rfl) rfl rfl (q_move rfl rfl) ?_
    refine run_q (.on rfl rfl rfl rfl) rfl rfl (q_call rfl call26 (.cons rfl Evs.nil) (fun w hk hm => pairs_nil w)) ?_
    refine run_q (.on rfl rfl rfl rfl) rfl rfl (q_len rfl Try.underlying28 rfl) ?_
    refine run_q (.on rfl rfl rfl rfl) rfl rfl (q_eql rfl rfl rfl) ?_
    refine run_q (.none rfl) rfl rfl (q_pickT rfl rfl rfl rfl) ?_
    refine run_q (.none rfl) rfl rfl (q_assign rfl rfl) ?_
    refine run_nil ?_
    refine run_sub (subMk (.cons (s := 2) rfl .nil) .refl) ?_
    refine run_ret ?_
    exact end1 rfl rfl rfl

set_option maxRecDepth 100000 in
theorem law9_ok (x : Int) (k0 : Nat) (W : World) (hx : 0 ≤ x ∧ x ≤ 255) (hk0 : 1022 + x % 5 = (k0 : Int)) (hw : wrongL (noteL k0 k0) = 0) : Calls Try.prog 9 #[.int .u8 x] W (Hr.Just W (.bool true)) := by
  have hn := Int.emod_nonneg x (show (5 : Int) ≠ 0 by decide)
  have hn5 := Int.emod_lt_of_pos x (show (0 : Int) < 5 by decide)
  have hkc : costB kC = 0 := by decide
  have hnl : (noteL k0 k0).length = k0 := noteL_len (by omega)
  refine Just.of_ret ?_
  refine enterA (X := nX) (vs := [.int .u8 x]) Try.func9 Try.ntmps9 rfl rfl Mem.nil ?_
  refine run_seq ?_
  refine run_region ?_
  refine run_q (.none rfl) rfl rfl (q_assign rfl rfl) ?_
  refine run_nil ?_
  refine run_seq ?_
  refine run_region ?_
  refine run_q (.none rfl) rfl rfl (q_move rfl rfl) ?_
  refine run_q (.none rfl) rfl rfl (q_rem rfl rfl rfl (by omega)) ?_
  refine run_q (.none rfl) rfl rfl (q_convert' rfl rfl Try.underlying5 Try.underlying3 (by rw [IntKind.wrap_i64]; omega)) ?_
  refine run_q (.none rfl) rfl rfl (q_add rfl rfl rfl (by omega)) ?_
  refine run_h (.none rfl) (h_makeN (m := k0) (cap := k0) rfl rfl rfl Try.underlying22 info47 rfl (by rw [← hk0]; rfl) (by rw [← hk0]; rfl) (by omega) (by omega) (by omega)) ?_
  rintro b14 -
  refine run_q (.none rfl) rfl rfl (q_assign rfl rfl) ?_
  refine run_nil ?_
  refine run_sub (subMk (.cons (s := 2) rfl (.cons (s := 3) rfl .nil)) .refl) ?_
  refine run_seq ?_
  refine run_seq ?_
  refine run_region ?_
  refine run_q (.none rfl) rfl rfl (q_assign rfl rfl) ?_
  refine run_nil ?_
  refine run_block ?_
  refine run_sub (subMk (.cons (s := 4) rfl (.cons (s := 2) rfl (.cons (s := 3) rfl .nil))) (.cons Sel.here .refl .nil)) ?_
  refine run_loopC1M1 (ι := Nat) (fun k => k ≤ k0) (fun k => .int .i64 (k : Int)) (fun k => .own 47 7 (some ⟨b14, 0, none⟩) k0 k0 ((noteL k0 k).map Note.enc)) (fun k => k0 - k) 0 (by (try dsimp only); exact (by omega)) rfl (.own rfl rfl rfl noteL_zero) ?_
  rintro k hk
  (try dsimp only at hk)
  show Run _ _ _ _ _ _ _ ⟨(4, .int .i64 (k : Int)) :: _, .own 47 7 (some ⟨b14, 0, none⟩) k0 k0 ((noteL k0 k).map Note.enc) :: _⟩
  refine run_seq ?_
  refine run_seq ?_
  refine run_region ?_
  refine run_q (.none rfl) rfl rfl (q_move rfl rfl) ?_
  refine run_q (.none rfl) rfl rfl (q_move rfl rfl) ?_
  refine run_q (.none rfl) rfl rfl (q_len rfl Try.underlying22 rfl) ?_
  refine run_q (.none rfl) rfl rfl (q_lss rfl rfl rfl) ?_
  refine run_nil ?_
  refine run_sub (subMk (.cons (s := 2) rfl (.cons (s := 3) rfl (.cons (s := 4) rfl (.cons (s := 18) rfl .nil)))) .refl) ?_
  refine run_cond rfl (fun g18 => ?_) (fun g18 => ?_)
  · have g18' := g18
    try simp only [decide_eq_true_eq, decide_eq_false_iff_not, beq_iff_eq, beq_eq_false_iff_ne, bne_iff_ne, bne_eq_false_iff_eq, Bool.not_eq_true', Bool.not_eq_false', ne_eq, Int.not_lt, Int.not_le, Decidable.not_not] at g18'
    refine run_skip ?_
    refine run_seq ?_
    refine run_block ?_
    refine run_region ?_
    refine run_q (.none rfl) rfl rfl (q_move rfl rfl) ?_
    refine run_q (.none rfl) rfl rfl (q_move rfl rfl) ?_
    refine run_q (.none rfl) rfl rfl (q_move rfl rfl) ?_
    refine run_q (.none rfl) rfl rfl (q_call rfl call30 (.cons rfl (.cons rfl Evs.nil)) (fun w hk hm => note_just (k : Int) 60 w (by omega))) ?_
    refine run_q (.none rfl) rfl rfl (q_indexS (q := k) rfl Try.underlying22 sz47 rfl rfl (.own Sel.here) (by rw [List.length_map, noteL_len (by omega)]) rfl (by omega)) ?_
    refine run_h (.none rfl) (h_storeE rfl rfl sz47 rfl rfl rfl rfl rfl Sel.here (by omega)) ?_
    rintro - -
    refine run_nil ?_
    refine run_sub (subMk (.cons (s := 2) rfl (.cons (s := 3) rfl (.cons (s := 4) rfl .nil))) .refl) ?_
    refine run_blk ?_
    refine run_region ?_
    refine run_q (.none rfl) rfl rfl (q_move rfl rfl) ?_
    refine run_q (.none rfl) rfl rfl (q_add rfl rfl rfl (by omega)) ?_
    refine run_q (.none rfl) rfl rfl (q_assign rfl rfl) ?_
    refine run_nil ?_
    exact run_again (k + 1) (by (try dsimp only); exact (by omega)) (by (try dsimp only); omega) (subMk (.cons' (s := 4) rfl rfl (.cons (s := 2) rfl (.cons (s := 3) rfl .nil))) (.cons Sel.here (.own rfl rfl rfl (by rw [← noteL_set (by omega), List.map_set]; rfl)) .nil))
  · have g18' := g18
    try simp only [decide_eq_true_eq, decide_eq_false_iff_not, beq_iff_eq, beq_eq_false_iff_ne, bne_iff_ne, bne_eq_false_iff_eq, Bool.not_eq_true', Bool.not_eq_false', ne_eq, Int.not_lt, Int.not_le, Decidable.not_not] at g18'
    refine run_exit rfl ?_
    refine run_seq ?_
    obtain rfl : k0 = k := by omega
    refine run_sub (subMk (.cons (s := 2) rfl (.cons' (s := 3) (v' := .slice (some ⟨b14, 0, none⟩) (noteL k0 k0).length k0) rfl (by rw [hnl]) (.cons (s := 4) rfl (.cons (s := 18) rfl .nil)))) .refl) ?_
    refine run_region ?_
    refine run_q (.none rfl) rfl rfl (q_move rfl rfl) ?_
    refine run_q (.none rfl) rfl rfl (q_call rfl call31 Evs.nil (fun w hk hm => standard_just w)) ?_
    refine run_h (.none rfl) (h_call rfl rfl rfl call23 (.cons rfl (.cons rfl Evs.nil)) (fun w hk hm => new_ok kC (noteL k0 k0) (some ⟨b14, 0, none⟩) k0 w (own_rd (Sel.here.holds hm)) (by omega) hw hkc)) ?_
    rintro ⟨v, m⟩ ⟨p, S, cs, R, cr, rfl, hcs, rfl⟩
    show Run _ _ _ _ _ _ _ ⟨(29, .tuple #[.pointer (some ⟨p, 0, none⟩), .int .i64 0]) :: _, _ :: _ :: _ :: _⟩
    refine run_q (.none rfl) rfl rfl (q_move rfl rfl) ?_
    refine run_q (.none rfl) rfl rfl (q_extract rfl rfl rfl) ?_
    refine run_q (.none rfl) rfl rfl (q_extract rfl rfl rfl) ?_
    refine run_q (.none rfl) rfl rfl (q_assign rfl rfl) ?_
    refine run_q (.none rfl) rfl rfl (q_assign rfl rfl) ?_
    refine run_nil ?_
    refine run_sub (subMk (.cons (s := 2) rfl (.cons (s := 3) rfl (.cons (s := 6) rfl .nil))) .refl) ?_
    refine run_seq ?_
    refine run_region ?_
    refine run_q (.none rfl) rfl rfl (q_assign rfl rfl) ?_
    refine run_nil ?_
    refine run_seq ?_
    refine run_region ?_
    refine run_q (.none rfl) rfl rfl (q_move rfl rfl) ?_
    refine run_q (.none rfl) rfl rfl (q_call rfl call30 (.cons rfl (.cons rfl Evs.nil)) (fun w hk hm => note_just 0 60 w (by decide))) ?_
    refine run_q (.none rfl) rfl rfl (q_call rfl call27 (.cons rfl (.cons rfl Evs.nil)) (fun w hk hm => listen_nil ⟨0, 0 + 1000, 60, 64, 0, 0, 0⟩ w)) ?_
    refine run_q (.none rfl) rfl rfl (q_move rfl rfl) ?_
    refine run_q (.none rfl) rfl rfl (q_extract rfl rfl rfl) ?_
    refine run_q (.none rfl) rfl rfl (q_extract rfl rfl rfl) ?_
    refine run_q (.none rfl) rfl rfl (q_assign rfl rfl) ?_
    refine run_q (.none rfl) rfl rfl (q_assign rfl rfl) ?_
    refine run_nil ?_
    refine run_sub (subMk (.cons (s := 2) rfl (.cons (s := 3) rfl (.cons (s := 6) rfl (.cons (s := 7) rfl (.cons (s := 8) rfl (.cons (s := 9) rfl .nil)))))) .refl) ?_
    refine run_seq ?_
    refine run_region ?_
    refine run_q (.none rfl) rfl rfl (q_call rfl call14 Evs.nil (fun w hk hm => known_just w)) ?_
    refine run_q (.none rfl) rfl rfl (q_move rfl rfl) ?_
    refine run_q (.on rfl rfl rfl rfl) rfl rfl (q_move rfl rfl) ?_
    refine run_q (.on rfl rfl rfl rfl) rfl rfl (q_move rfl rfl) ?_
    refine run_q (.on rfl rfl rfl rfl) rfl rfl (q_call rfl call15 (.cons rfl Evs.nil) (fun w hk hm => bad_just (noteL k0 k0) (some ⟨b14, 0, none⟩) (noteL k0 k0).length k0 w (own_rd ((Sel.there (Sel.there (Sel.there Sel.here))).holds hm)) rfl (by omega))) ?_
    refine run_q (.on rfl rfl rfl rfl) rfl rfl (q_eql rfl rfl rfl) ?_
    refine run_q (.none rfl) rfl rfl (q_pickT rfl rfl rfl rfl) ?_
    refine run_q (.none rfl) rfl rfl (q_move rfl rfl) ?_
    refine run_q (.on rfl rfl rfl (by rw [hw]; rfl)) rfl rfl (q_move rfl rfl) ?_
    refine run_q (.on rfl rfl rfl (by rw [hw]; rfl)) rfl rfl (q_eql rfl rfl rfl) ?_
    refine run_q (.none rfl) rfl rfl (q_pickT rfl rfl (by rw [hw]; rfl) rfl) ?_
    refine run_q (.none rfl) rfl rfl (q_move rfl rfl) ?_
    refine run_q (.on rfl rfl rfl rfl) rfl rfl (q_move rfl rfl) ?_
    refine run_q (.on rfl rfl rfl rfl) rfl rfl (q_eql rfl rfl rfl) ?_
    refine run_q (.none rfl) rfl rfl (q_pickT rfl rfl rfl rfl) ?_
    refine run_q (.none rfl) rfl rfl (q_move rfl rfl) ?_
    refine run_q (.on rfl rfl rfl rfl) rfl rfl (q_move rfl rfl) ?_
    refine run_q (.on rfl rfl rfl rfl) rfl rfl (q_call rfl call24 (.cons rfl Evs.nil) (fun w hk hm => heard_nil w)) ?_
    refine run_q (.on rfl rfl rfl rfl) rfl rfl (q_eql rfl rfl rfl) ?_
    refine run_q (.none rfl) rfl rfl (q_pickT rfl rfl rfl rfl) ?_
    refine run_q (.none rfl) rfl rfl (q_move rfl rfl) ?_
    refine run_q (.on rfl rfl rfl rfl) rfl rfl (q_move rfl rfl) ?_
    refine run_q (.on rfl rfl rfl rfl) rfl rfl (q_call rfl call25 (.cons rfl Evs.nil) (fun w hk hm => passed_nil w)) ?_
    refine run_q (.on rfl rfl rfl rfl) rfl rfl (q_eql rfl rfl rfl) ?_
    refine run_q (.none rfl) rfl rfl (q_pickT rfl rfl rfl rfl) ?_
    refine run_q (.none rfl) rfl rfl (q_move rfl rfl) ?_
    refine run_q (.on rfl rfl rfl rfl) rfl rfl (q_move rfl rfl) ?_
    refine run_q (.on rfl rfl rfl rfl) rfl rfl (q_call rfl call26 (.cons rfl Evs.nil) (fun w hk hm => pairs_nil w)) ?_
    refine run_q (.on rfl rfl rfl rfl) rfl rfl (q_len rfl Try.underlying28 rfl) ?_
    refine run_q (.on rfl rfl rfl rfl) rfl rfl (q_eql rfl rfl rfl) ?_
    refine run_q (.none rfl) rfl rfl (q_pickT rfl rfl rfl rfl) ?_
    refine run_q (.none rfl) rfl rfl (q_assign rfl rfl) ?_
    refine run_nil ?_
    refine run_sub (subMk (.cons (s := 2) rfl .nil) .refl) ?_
    refine run_ret ?_
    exact end1 rfl rfl rfl

theorem law9_just (x : Int) (W : World) (hx : 0 ≤ x ∧ x ≤ 255) : Calls Try.prog 9 #[.int .u8 x] W (Just W (.bool true)) := by
  obtain ⟨k0, hk0⟩ : ∃ k0 : Nat, 1022 + x % 5 = (k0 : Int) := ⟨(1022 + x % 5).toNat, by have := Int.emod_nonneg x (show (5 : Int) ≠ 0 by decide); omega⟩
  by_cases hw : wrongL (noteL k0 k0) = 0
  · exact law9_ok x k0 W hx hk0 hw
  · exact law9_err x k0 W hx hk0 hw

end Go.Proofs.Ytbkmmjpklkallaa
