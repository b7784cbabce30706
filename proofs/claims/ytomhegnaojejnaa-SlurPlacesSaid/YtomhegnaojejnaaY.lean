/- The reference's place. -/
import Derived.Test.YtomhegnaojejnaaX
set_option linter.unusedSimpArgs false
set_option linter.unusedVariables false
namespace Go.Proofs.Ytomhegnaojejnaa
open Go Go.RowKit Hr



set_option maxHeartbeats 2000000 in
set_option maxRecDepth 100000 in
theorem hplace_ok (o : List Int) (P : Option Addr) (cp : Nat) (t : Int) (n : Nat) (x : Spn) (W : World) (hon : o.length = n) (hm : Mem (atAny [.own 3 1 P n cp ((sgL t o).map encI)]) W [.own 3 1 P n cp ((sgL t o).map encI)] W) (hE : spE x n = 0) (hsd : t = x.side) (hbd : Bd o) (hlim : ¬ 1048576 < atS x o + hS x) (hl6 : n ≤ 65536) : Calls Try.prog 50 #[.agg #[.int .i64 t, .slice P n cp], x.val] W (Ret W (atAny [.own 3 1 P n cp ((sgL t o).map encI)]) (fun v m => v = .tuple #[.int .i64 (t * atS x o), .bool true] ∧ m = [.own 3 1 P n cp ((sgL t (spO x o)).map encI)])) := by
  have h0 := spE_ok hE
  have ht : t = 1 ∨ t = -1 := by rw [hsd]; exact h0.2.1
  have ho := outS_bd hE
  have hb := hgtS_bd (f := x.fst) (l := x.lst)
  have e0 : hS x = hgtS x.fst x.lst := rfl
  have b1 := sgn_bd (b := 524288) ht (x := x.frm) ⟨by omega, by omega⟩
  have b2 := sgn_bd (b := 524288) ht (x := x.til) ⟨by omega, by omega⟩
  have hat := atS_bd (x := x) (o := o) (by rw [hon]; exact hE) hbd
  have hta := sgn_bd (b := 1048588) ht (x := atS x o) ⟨by omega, by omega⟩
  have eo : outS x = max (t * x.frm) (t * x.til) := by rw [hsd]; rfl
  have hon2 : (sgL t o).length = n := by rw [sgL_len, hon]
  refine enterA (X := _) (vs := [.agg #[.int .i64 t, .slice P n cp], x.val]) Try.func50 Try.ntmps50 rfl rfl hm ?_
  refine run_seq ?_
  refine run_region ?_
  refine run_h (.none rfl) (h_box rfl rfl rfl rfl rfl) ?_
  rintro b2 -
  refine run_h (.none rfl) (h_box rfl rfl rfl rfl rfl) ?_
  rintro b3 -
  refine run_q (.none rfl) rfl rfl (q_assign rfl rfl) ?_
  refine run_q (.none rfl) rfl rfl (q_assign rfl rfl) ?_
  refine run_nil ?_
  refine run_seq ?_
  refine run_region ?_
  refine run_q (.none rfl) rfl rfl (q_fieldB (d := 0) rfl Try.underlying40 rfl rfl sz3 rfl) ?_
  refine run_q (.none rfl) rfl rfl (q_loadB rfl one3 rfl (.there Sel.here) rfl) ?_
  refine run_q (.none rfl) rfl rfl (q_fieldB (d := 8) rfl Try.underlying25 rfl rfl sz3 rfl) ?_
  refine run_q (.none rfl) rfl rfl (q_loadB rfl one3 rfl Sel.here rfl) ?_
  refine run_q (.none rfl) rfl rfl (q_mul rfl rfl rfl (by omega)) ?_
  refine run_q (.none rfl) rfl rfl (q_fieldB (d := 0) rfl Try.underlying40 rfl rfl sz3 rfl) ?_
  refine run_q (.none rfl) rfl rfl (q_loadB rfl one3 rfl (.there Sel.here) rfl) ?_
  refine run_q (.none rfl) rfl rfl (q_fieldB (d := 9) rfl Try.underlying25 rfl rfl sz3 rfl) ?_
  refine run_q (.none rfl) rfl rfl (q_loadB rfl one3 rfl Sel.here rfl) ?_
  refine run_q (.none rfl) rfl rfl (q_mul rfl rfl rfl (by omega)) ?_
  refine run_q (.none rfl) rfl rfl (q_max2 rfl rfl rfl) ?_
  refine run_q (.none rfl) rfl rfl (q_assign rfl rfl) ?_
  refine run_nil ?_
  refine run_sub (subMk (.cons (s := 2) rfl (.cons (s := 3) rfl (.cons (s := 4) rfl (.cons (s := 5) rfl (.cons (s := 6) rfl .nil))))) .refl) ?_
  refine run_seq ?_
  refine run_region ?_
  refine run_q (.none rfl) rfl rfl (q_fieldB (d := 6) rfl Try.underlying25 rfl rfl sz3 rfl) ?_
  refine run_q (.none rfl) rfl rfl (q_loadB rfl one3 rfl Sel.here rfl) ?_
  refine run_q (.none rfl) rfl rfl (q_fieldB (d := 7) rfl Try.underlying25 rfl rfl sz3 rfl) ?_
  refine run_q (.none rfl) rfl rfl (q_loadB rfl one3 rfl Sel.here rfl) ?_
  refine run_q (.none rfl) rfl rfl (q_call rfl call18 (.cons rfl (.cons rfl Evs.nil)) (fun w hk hm => refheight_just x.fst x.lst w (by omega) (by omega))) ?_
  refine run_q (.none rfl) rfl rfl (q_assign rfl rfl) ?_
  refine run_nil ?_
  refine run_sub (subMk (.cons (s := 2) rfl (.cons (s := 3) rfl (.cons (s := 4) rfl (.cons (s := 5) rfl (.cons (s := 6) rfl (.cons (s := 7) rfl .nil)))))) .refl) ?_
  refine run_seq ?_
  refine run_region ?_
  refine run_q (.none rfl) rfl rfl (q_move rfl rfl) ?_
  refine run_q (.none rfl) rfl rfl (q_add rfl rfl rfl (by omega)) ?_
  refine run_q (.none rfl) rfl rfl (q_assign rfl rfl) ?_
  refine run_nil ?_
  refine run_seq ?_
  refine run_seq ?_
  refine run_region ?_
  refine run_q (.none rfl) rfl rfl (q_fieldB (d := 0) rfl Try.underlying25 rfl rfl sz3 rfl) ?_
  refine run_q (.none rfl) rfl rfl (q_loadB rfl one3 rfl Sel.here rfl) ?_
  refine run_q (.none rfl) rfl rfl (q_eql rfl rfl rfl) ?_
  refine run_nil ?_
  refine run_sub (subMk (.cons (s := 2) rfl (.cons (s := 3) rfl (.cons (s := 4) rfl (.cons (s := 5) rfl (.cons (s := 6) rfl (.cons (s := 7) rfl (.cons (s := 8) rfl (.cons (s := 31) rfl .nil)))))))) .refl) ?_
  refine run_cond rfl (fun g31 => ?_) (fun g31 => ?_)
  · have g31' := g31
    try simp only [decide_eq_true_eq, decide_eq_false_iff_not, beq_iff_eq, beq_eq_false_iff_ne, bne_iff_ne, bne_eq_false_iff_eq, Bool.not_eq_true', Bool.not_eq_false', ne_eq, Int.not_lt, Int.not_le, Decidable.not_not] at g31'
    refine run_seq ?_
    refine run_region ?_
    refine run_q (.none rfl) rfl rfl (q_move rfl rfl) ?_
    refine run_q (.none rfl) rfl rfl (q_assign rfl rfl) ?_
    refine run_nil ?_
    refine run_sub (subMk (.cons (s := 2) rfl (.cons (s := 3) rfl (.cons (s := 4) rfl (.cons (s := 5) rfl (.cons (s := 7) rfl (.cons (s := 8) rfl .nil)))))) .refl) ?_
    refine run_seq ?_
    refine run_region ?_
    refine run_q (.none rfl) rfl rfl (q_fieldB (d := 6) rfl Try.underlying25 rfl rfl sz3 rfl) ?_
    refine run_q (.none rfl) rfl rfl (q_loadB rfl one3 rfl Sel.here rfl) ?_
    refine run_q (.none rfl) rfl rfl (q_assign rfl rfl) ?_
    refine run_nil ?_
    refine run_block ?_
    refine run_sub (subMk (.cons (s := 9) rfl (.cons (s := 8) rfl (.cons (s := 2) rfl (.cons (s := 3) rfl (.cons (s := 4) rfl (.cons (s := 5) rfl (.cons (s := 7) rfl .nil))))))) (.cons Sel.here .refl (.cons Sel.here .refl (.cons Sel.here .refl .nil)))) ?_
    refine run_loopC2M0 (ι := Nat) (fun k => x.fst + (k : Int) ≤ x.lst + 1) (fun k => .int .i64 (x.fst + (k : Int))) (fun k => .int .i64 (edK x o k))  (fun k => x.lst.toNat + 1 - k) 0 (by (try dsimp only); exact (by omega)) (vint (by omega)) (vint eo.symm)  ?_
    rintro k hk
    (try dsimp only at hk)
    show Run _ _ _ _ _ _ _ ⟨(9, .int .i64 (x.fst + (k : Int))) :: (8, .int .i64 (edK x o k)) :: _, _⟩
    refine run_seq ?_
    refine run_seq ?_
    refine run_region ?_
    refine run_q (.none rfl) rfl rfl (q_move rfl rfl) ?_
    refine run_q (.none rfl) rfl rfl (q_fieldB (d := 7) rfl Try.underlying25 rfl rfl sz3 rfl) ?_
    refine run_q (.none rfl) rfl rfl (q_loadB rfl one3 rfl Sel.here rfl) ?_
    refine run_q (.none rfl) rfl rfl (q_leq rfl rfl rfl) ?_
    refine run_nil ?_
    refine run_sub (subMk (.cons (s := 2) rfl (.cons (s := 3) rfl (.cons (s := 4) rfl (.cons (s := 5) rfl (.cons (s := 7) rfl (.cons (s := 8) rfl (.cons (s := 9) rfl (.cons (s := 38) rfl .nil)))))))) .refl) ?_
    refine run_cond rfl (fun g38 => ?_) (fun g38 => ?_)
    · have g38' := g38
      try simp only [decide_eq_true_eq, decide_eq_false_iff_not, beq_iff_eq, beq_eq_false_iff_ne, bne_iff_ne, bne_eq_false_iff_eq, Bool.not_eq_true', Bool.not_eq_false', ne_eq, Int.not_lt, Int.not_le, Decidable.not_not] at g38'
      refine run_skip ?_
      refine run_seq ?_
      refine run_block ?_
      have hbk := hbd (x.fst.toNat + k) (by omega)
      have hek := edK_bd ho hbd (k := k) (by omega)
      have hsg : t * nth (sgL t o) (x.fst.toNat + k) = nth o (x.fst.toNat + k) := by rw [sgL_nth, sgn_sgn ht]
      refine run_fork mixed (by kernel_rfl) .refl ?_
      refine b_q (i := 0) rfl (by kernel_rfl) (.none rfl) rfl rfl (q_move rfl rfl) ?_
      refine b_q (i := 1) rfl (by kernel_rfl) (.none rfl) rfl rfl (q_fieldB (d := 0) rfl Try.underlying40 rfl rfl sz3 rfl) ?_
      refine b_q (i := 2) rfl (by kernel_rfl) (.none rfl) rfl rfl (q_loadB rfl one3 rfl (.there Sel.here) rfl) ?_
      refine b_q (i := 3) rfl (by kernel_rfl) (.none rfl) rfl rfl (q_fieldB (d := 1) rfl Try.underlying40 rfl rfl sz38 rfl) ?_
      refine b_q (i := 4) rfl (by kernel_rfl) (.none rfl) rfl rfl (q_loadB rfl one38 rfl (.there Sel.here) rfl) ?_
      refine b_q (i := 5) rfl (by kernel_rfl) (.none rfl) rfl rfl (q_move rfl rfl) ?_
      refine b_q (i := 6) rfl (by kernel_rfl) (.none rfl) rfl rfl (q_indexS (q := (x.fst.toNat + k)) rfl Try.underlying38 sz3 rfl rfl (.own (.there (.there Sel.here))) (by rw [List.length_map, sgL_len, hon]) (by omega) (by omega)) ?_
      refine b_q (i := 7) rfl (by kernel_rfl) (.none rfl) rfl rfl (q_loadC rfl one3 rfl (.own (.there (.there Sel.here))) (getmap (by rw [sgL_len]; omega))) ?_
      refine b_q (i := 8) rfl (by kernel_rfl) (.none rfl) rfl rfl (q_mul rfl rfl rfl (by omega)) ?_
      refine b_q (i := 9) rfl (by kernel_rfl) (.none rfl) rfl rfl (q_add rfl rfl rfl (by omega)) ?_
      refine b_q (i := 10) rfl (by kernel_rfl) (.none rfl) rfl rfl (q_max2 rfl rfl rfl) ?_
      refine b_q (i := 11) rfl (by kernel_rfl) (.none rfl) rfl rfl (q_assign rfl rfl) ?_
      refine b_nil (by kernel_rfl) ?_
      refine run_sub (subMk (.cons (s := 2) rfl (.cons (s := 3) rfl (.cons (s := 4) rfl (.cons (s := 5) rfl (.cons (s := 7) rfl (.cons (s := 8) rfl (.cons (s := 9) rfl .nil))))))) .refl) ?_
      refine run_blk ?_
      refine run_region ?_
      refine run_q (.none rfl) rfl rfl (q_move rfl rfl) ?_
      refine run_q (.none rfl) rfl rfl (q_add rfl rfl rfl (by omega)) ?_
      refine run_q (.none rfl) rfl rfl (q_assign rfl rfl) ?_
      refine run_nil ?_
      exact run_again (k + 1) (by (try dsimp only); exact (by omega)) (by (try dsimp only); omega) (subMk (.cons' (s := 9) rfl (vint (by omega)) (.cons' (s := 8) rfl (vint (by rw [edK_next, hsg])) (.cons (s := 2) rfl (.cons (s := 3) rfl (.cons (s := 4) rfl (.cons (s := 5) rfl (.cons (s := 7) rfl .nil))))))) (.cons Sel.here .refl (.cons Sel.here .refl (.cons Sel.here .refl .nil))))
    · have g38' := g38
      try simp only [decide_eq_true_eq, decide_eq_false_iff_not, beq_iff_eq, beq_eq_false_iff_ne, bne_iff_ne, bne_eq_false_iff_eq, Bool.not_eq_true', Bool.not_eq_false', ne_eq, Int.not_lt, Int.not_le, Decidable.not_not] at g38'
      refine run_exit rfl ?_
      refine run_seq ?_
      refine run_seq ?_
      refine run_sub (subMk (.cons (s := 2) rfl (.cons (s := 3) rfl (.cons (s := 4) rfl (.cons (s := 5) rfl (.cons (s := 7) rfl (.cons' (s := 8) (v' := .int .i64 (atS x o)) rfl (vint (edK_all (by omega) (by omega) (by omega))) (.cons (s := 9) rfl (.cons (s := 38) rfl .nil)))))))) .refl) ?_
      refine run_region ?_
      refine run_q (.none rfl) rfl rfl (q_move rfl rfl) ?_
      refine run_q (.none rfl) rfl rfl (q_move rfl rfl) ?_
      refine run_q (.none rfl) rfl rfl (q_add rfl rfl rfl (by omega)) ?_
      refine run_q (.none rfl) rfl rfl (q_gtr rfl rfl rfl) ?_
      refine run_nil ?_
      refine run_sub (subMk (.cons (s := 2) rfl (.cons (s := 3) rfl (.cons (s := 4) rfl (.cons (s := 5) rfl (.cons (s := 7) rfl (.cons (s := 8) rfl (.cons (s := 55) rfl .nil))))))) .refl) ?_
      refine run_condF rfl (decide_eq_false (by omega)) ?_
      refine run_skip ?_
      refine run_seq ?_
      refine run_seq ?_
      refine run_region ?_
      refine run_q (.none rfl) rfl rfl (q_fieldB (d := 6) rfl Try.underlying25 rfl rfl sz3 rfl) ?_
      refine run_q (.none rfl) rfl rfl (q_loadB rfl one3 rfl Sel.here rfl) ?_
      refine run_q (.none rfl) rfl rfl (q_assign rfl rfl) ?_
      refine run_nil ?_
      refine run_sub (subMk (.cons (s := 2) rfl (.cons (s := 3) rfl (.cons (s := 4) rfl (.cons (s := 5) rfl (.cons (s := 7) rfl (.cons (s := 8) rfl (.cons (s := 10) rfl .nil))))))) .refl) ?_
      refine run_block ?_
      refine run_sub (subMk (.cons (s := 10) rfl (.cons (s := 2) rfl (.cons (s := 3) rfl (.cons (s := 4) rfl (.cons (s := 5) rfl (.cons (s := 7) rfl (.cons (s := 8) rfl .nil))))))) (.cons (.there (.there Sel.here)) .refl (.cons Sel.here .refl (.cons Sel.here .refl .nil)))) ?_
      refine run_loopC1M1 (ι := Nat) (fun k => x.fst + (k : Int) ≤ x.lst + 1) (fun k => .int .i64 (x.fst + (k : Int))) (fun k => .own 3 1 P n cp ((sgL t (raiseN o x.fst.toNat (x.fst.toNat + k) (atS x o + hS x))).map encI)) (fun k => x.lst.toNat + 1 - k) 0 (by (try dsimp only); exact (by omega)) (vint (by omega)) (.own rfl rfl rfl (by rw [Nat.add_zero, raiseN_start])) ?_
      rintro k hk
      (try dsimp only at hk)
      show Run _ _ _ _ _ _ _ ⟨(10, .int .i64 (x.fst + (k : Int))) :: _, .own 3 1 P n cp ((sgL t (raiseN o x.fst.toNat (x.fst.toNat + k) (atS x o + hS x))).map encI) :: _⟩
      refine run_seq ?_
      refine run_seq ?_
      refine run_region ?_
      refine run_q (.none rfl) rfl rfl (q_move rfl rfl) ?_
      refine run_q (.none rfl) rfl rfl (q_fieldB (d := 7) rfl Try.underlying25 rfl rfl sz3 rfl) ?_
      refine run_q (.none rfl) rfl rfl (q_loadB rfl one3 rfl (.there Sel.here) rfl) ?_
      refine run_q (.none rfl) rfl rfl (q_leq rfl rfl rfl) ?_
      refine run_nil ?_
      refine run_sub (subMk (.cons (s := 2) rfl (.cons (s := 3) rfl (.cons (s := 4) rfl (.cons (s := 5) rfl (.cons (s := 7) rfl (.cons (s := 8) rfl (.cons (s := 10) rfl (.cons (s := 61) rfl .nil)))))))) .refl) ?_
      refine run_cond rfl (fun g61 => ?_) (fun g61 => ?_)
      · have g61' := g61
        try simp only [decide_eq_true_eq, decide_eq_false_iff_not, beq_iff_eq, beq_eq_false_iff_ne, bne_iff_ne, bne_eq_false_iff_eq, Bool.not_eq_true', Bool.not_eq_false', ne_eq, Int.not_lt, Int.not_le, Decidable.not_not] at g61'
        refine run_skip ?_
        refine run_seq ?_
        refine run_block ?_
        have hbk := hbd (x.fst.toNat + k) (by omega)
        have hnk : nth (raiseN o x.fst.toNat (x.fst.toNat + k) (atS x o + hS x)) (x.fst.toNat + k) = nth o (x.fst.toNat + k) := raiseN_nth (by omega)
        have hsg : t * nth (sgL t (raiseN o x.fst.toNat (x.fst.toNat + k) (atS x o + hS x))) (x.fst.toNat + k) = nth o (x.fst.toNat + k) := by rw [sgL_nth, hnk, sgn_sgn ht]
        have hmx := sgn_bd (b := 2000000) ht (x := max (t * nth (sgL t (raiseN o x.fst.toNat (x.fst.toNat + k) (atS x o + hS x))) (x.fst.toNat + k)) (atS x o + hgtS x.fst x.lst)) ⟨by omega, by omega⟩
        refine l_fork [19] mixed (by kernel_rfl) .refl ?_
        refine l_q (i := 0) rfl (by kernel_rfl) (.none rfl) rfl rfl (q_fieldB (d := 1) rfl Try.underlying40 rfl rfl sz38 rfl) ?_
        refine l_q (i := 1) rfl (by kernel_rfl) (.none rfl) rfl rfl (q_loadB rfl one38 rfl (.there (.there Sel.here)) rfl) ?_
        refine l_q (i := 2) rfl (by kernel_rfl) (.none rfl) rfl rfl (q_move rfl rfl) ?_
        refine l_q (i := 3) rfl (by kernel_rfl) (.none rfl) rfl rfl (q_fieldB (d := 0) rfl Try.underlying40 rfl rfl sz3 rfl) ?_
        refine l_q (i := 4) rfl (by kernel_rfl) (.none rfl) rfl rfl (q_loadB rfl one3 rfl (.there (.there Sel.here)) rfl) ?_
        refine l_q (i := 5) rfl (by kernel_rfl) (.none rfl) rfl rfl (q_fieldB (d := 0) rfl Try.underlying40 rfl rfl sz3 rfl) ?_
        refine l_q (i := 6) rfl (by kernel_rfl) (.none rfl) rfl rfl (q_loadB rfl one3 rfl (.there (.there Sel.here)) rfl) ?_
        refine l_q (i := 7) rfl (by kernel_rfl) (.none rfl) rfl rfl (q_fieldB (d := 1) rfl Try.underlying40 rfl rfl sz38 rfl) ?_
        refine l_q (i := 8) rfl (by kernel_rfl) (.none rfl) rfl rfl (q_loadB rfl one38 rfl (.there (.there Sel.here)) rfl) ?_
        refine l_q (i := 9) rfl (by kernel_rfl) (.none rfl) rfl rfl (q_move rfl rfl) ?_
        refine l_q (i := 10) rfl (by kernel_rfl) (.none rfl) rfl rfl (q_indexS (q := (x.fst.toNat + k)) rfl Try.underlying38 sz3 rfl rfl (.own Sel.here) (by rw [List.length_map, sgL_len, raiseN_len, hon]) (by omega) (by omega)) ?_
        refine l_q (i := 11) rfl (by kernel_rfl) (.none rfl) rfl rfl (q_loadC rfl one3 rfl (.own Sel.here) (getmap (by rw [sgL_len, raiseN_len]; omega))) ?_
        refine l_q (i := 12) rfl (by kernel_rfl) (.none rfl) rfl rfl (q_mul rfl rfl rfl (by omega)) ?_
        refine l_q (i := 13) rfl (by kernel_rfl) (.none rfl) rfl rfl (q_move rfl rfl) ?_
        refine l_q (i := 14) rfl (by kernel_rfl) (.none rfl) rfl rfl (q_move rfl rfl) ?_
        refine l_q (i := 15) rfl (by kernel_rfl) (.none rfl) rfl rfl (q_add rfl rfl rfl (by omega)) ?_
        refine l_q (i := 16) rfl (by kernel_rfl) (.none rfl) rfl rfl (q_max2 rfl rfl rfl) ?_
        refine l_q (i := 17) rfl (by kernel_rfl) (.none rfl) rfl rfl (q_mul rfl rfl rfl (by omega)) ?_
        refine l_q (i := 18) rfl (by kernel_rfl) (.none rfl) rfl rfl (q_indexS (q := (x.fst.toNat + k)) rfl Try.underlying38 sz3 rfl rfl (.own Sel.here) (by rw [List.length_map, sgL_len, raiseN_len, hon]) (by omega) (by omega)) ?_
        refine l_one 19 (by kernel_rfl) ?_
        refine l_late rfl rfl (.none rfl) (h_storeE rfl rfl sz3 rfl rfl rfl rfl rfl Sel.here (by omega)) ?_
        rintro - -
        refine l_nil (by kernel_rfl) ?_
        refine run_sub (subMk (.cons (s := 2) rfl (.cons (s := 3) rfl (.cons (s := 4) rfl (.cons (s := 5) rfl (.cons (s := 7) rfl (.cons (s := 8) rfl (.cons (s := 10) rfl .nil))))))) .refl) ?_
        refine run_blk ?_
        refine run_region ?_
        refine run_q (.none rfl) rfl rfl (q_move rfl rfl) ?_
        refine run_q (.none rfl) rfl rfl (q_add rfl rfl rfl (by omega)) ?_
        refine run_q (.none rfl) rfl rfl (q_assign rfl rfl) ?_
        refine run_nil ?_
        exact run_again (k + 1) (by (try dsimp only); exact (by omega)) (by (try dsimp only); omega) (subMk (.cons' (s := 10) rfl (vint (by omega)) (.cons (s := 2) rfl (.cons (s := 3) rfl (.cons (s := 4) rfl (.cons (s := 5) rfl (.cons (s := 7) rfl (.cons (s := 8) rfl .nil))))))) (.cons Sel.here (.own rfl rfl rfl (sgL_set ht (by omega))) (.cons Sel.here .refl (.cons Sel.here .refl .nil))))
      · have g61' := g61
        try simp only [decide_eq_true_eq, decide_eq_false_iff_not, beq_iff_eq, beq_eq_false_iff_ne, bne_iff_ne, bne_eq_false_iff_eq, Bool.not_eq_true', Bool.not_eq_false', ne_eq, Int.not_lt, Int.not_le, Decidable.not_not] at g61'
        refine run_exit rfl ?_
        refine run_sub (subMk (.cons (s := 2) rfl (.cons (s := 4) rfl (.cons (s := 5) rfl (.cons (s := 8) rfl .nil)))) .refl) ?_
        refine run_seq ?_
        refine run_region ?_
        refine run_q (.none rfl) rfl rfl (q_fieldB (d := 0) rfl Try.underlying40 rfl rfl sz3 rfl) ?_
        refine run_q (.none rfl) rfl rfl (q_loadB rfl one3 rfl (.there (.there Sel.here)) rfl) ?_
        refine run_q (.none rfl) rfl rfl (q_move rfl rfl) ?_
        refine run_q (.none rfl) rfl rfl (q_mul rfl rfl rfl (by omega)) ?_
        refine run_q (.none rfl) rfl rfl (q_assign rfl rfl) ?_
        refine run_q (.none rfl) rfl rfl (q_assign rfl rfl) ?_
        refine run_nil ?_
        refine run_sub (subMk (.cons (s := 4) rfl (.cons (s := 5) rfl .nil)) .refl) ?_
        refine run_ret ?_
        refine run_sub (subMk .refl (.cons Sel.here (.own (xs' := (sgL t (spO x o)).map encI) rfl rfl rfl (by rw [spO_ok hlim, show x.fst.toNat + k = x.lst.toNat + 1 from by omega])) .nil)) ?_
        exact end2 rfl rfl rfl ⟨rfl, rfl⟩
  · have g31' := g31
    try simp only [decide_eq_true_eq, decide_eq_false_iff_not, beq_iff_eq, beq_eq_false_iff_ne, bne_iff_ne, bne_eq_false_iff_eq, Bool.not_eq_true', Bool.not_eq_false', ne_eq, Int.not_lt, Int.not_le, Decidable.not_not] at g31'
    refine run_skip ?_
    refine run_seq ?_
    refine run_seq ?_
    refine run_sub (subMk (.cons (s := 2) rfl (.cons (s := 3) rfl (.cons (s := 4) rfl (.cons (s := 5) rfl (.cons (s := 6) rfl (.cons (s := 7) rfl (.cons' (s := 8) (v' := .int .i64 (atS x o)) rfl (vint (by rw [at_tie (by omega), eo])) (.cons (s := 31) rfl .nil)))))))) .refl) ?_
    refine run_region ?_
    refine run_q (.none rfl) rfl rfl (q_move rfl rfl) ?_
    refine run_q (.none rfl) rfl rfl (q_move rfl rfl) ?_
    refine run_q (.none rfl) rfl rfl (q_add rfl rfl rfl (by omega)) ?_
    refine run_q (.none rfl) rfl rfl (q_gtr rfl rfl rfl) ?_
    refine run_nil ?_
    refine run_sub (subMk (.cons (s := 2) rfl (.cons (s := 3) rfl (.cons (s := 4) rfl (.cons (s := 5) rfl (.cons (s := 7) rfl (.cons (s := 8) rfl (.cons (s := 55) rfl .nil))))))) .refl) ?_
    refine run_condF rfl (decide_eq_false (by omega)) ?_
    refine run_skip ?_
    refine run_seq ?_
    refine run_seq ?_
    refine run_region ?_
    refine run_q (.none rfl) rfl rfl (q_fieldB (d := 6) rfl Try.underlying25 rfl rfl sz3 rfl) ?_
    refine run_q (.none rfl) rfl rfl (q_loadB rfl one3 rfl Sel.here rfl) ?_
    refine run_q (.none rfl) rfl rfl (q_assign rfl rfl) ?_
    refine run_nil ?_
    refine run_sub (subMk (.cons (s := 2) rfl (.cons (s := 3) rfl (.cons (s := 4) rfl (.cons (s := 5) rfl (.cons (s := 7) rfl (.cons (s := 8) rfl (.cons (s := 10) rfl .nil))))))) .refl) ?_
    refine run_block ?_
    refine run_sub (subMk (.cons (s := 10) rfl (.cons (s := 2) rfl (.cons (s := 3) rfl (.cons (s := 4) rfl (.cons (s := 5) rfl (.cons (s := 7) rfl (.cons (s := 8) rfl .nil))))))) (.cons (.there (.there Sel.here)) .refl (.cons Sel.here .refl (.cons Sel.here .refl .nil)))) ?_
    refine run_loopC1M1 (ι := Nat) (fun k => x.fst + (k : Int) ≤ x.lst + 1) (fun k => .int .i64 (x.fst + (k : Int))) (fun k => .own 3 1 P n cp ((sgL t (raiseN o x.fst.toNat (x.fst.toNat + k) (atS x o + hS x))).map encI)) (fun k => x.lst.toNat + 1 - k) 0 (by (try dsimp only); exact (by omega)) (vint (by omega)) (.own rfl rfl rfl (by rw [Nat.add_zero, raiseN_start])) ?_
    rintro k hk
    (try dsimp only at hk)
    show Run _ _ _ _ _ _ _ ⟨(10, .int .i64 (x.fst + (k : Int))) :: _, .own 3 1 P n cp ((sgL t (raiseN o x.fst.toNat (x.fst.toNat + k) (atS x o + hS x))).map encI) :: _⟩
    refine run_seq ?_
    refine run_seq ?_
    refine run_region ?_
    refine run_q (.none rfl) rfl rfl (q_move rfl rfl) ?_
    refine run_q (.none rfl) rfl rfl (q_fieldB (d := 7) rfl Try.underlying25 rfl rfl sz3 rfl) ?_
    refine run_q (.none rfl) rfl rfl (q_loadB rfl one3 rfl (.there Sel.here) rfl) ?_
    refine run_q (.none rfl) rfl rfl (q_leq rfl rfl rfl) ?_
    refine run_nil ?_
    refine run_sub (subMk (.cons (s := 2) rfl (.cons (s := 3) rfl (.cons (s := 4) rfl (.cons (s := 5) rfl (.cons (s := 7) rfl (.cons (s := 8) rfl (.cons (s := 10) rfl (.cons (s := 61) rfl .nil)))))))) .refl) ?_
    refine run_cond rfl (fun g61 => ?_) (fun g61 => ?_)
    · have g61' := g61
      try simp only [decide_eq_true_eq, decide_eq_false_iff_not, beq_iff_eq, beq_eq_false_iff_ne, bne_iff_ne, bne_eq_false_iff_eq, Bool.not_eq_true', Bool.not_eq_false', ne_eq, Int.not_lt, Int.not_le, Decidable.not_not] at g61'
      refine run_skip ?_
      refine run_seq ?_
      refine run_block ?_
      have hbk := hbd (x.fst.toNat + k) (by omega)
      have hnk : nth (raiseN o x.fst.toNat (x.fst.toNat + k) (atS x o + hS x)) (x.fst.toNat + k) = nth o (x.fst.toNat + k) := raiseN_nth (by omega)
      have hsg : t * nth (sgL t (raiseN o x.fst.toNat (x.fst.toNat + k) (atS x o + hS x))) (x.fst.toNat + k) = nth o (x.fst.toNat + k) := by rw [sgL_nth, hnk, sgn_sgn ht]
      have hmx := sgn_bd (b := 2000000) ht (x := max (t * nth (sgL t (raiseN o x.fst.toNat (x.fst.toNat + k) (atS x o + hS x))) (x.fst.toNat + k)) (atS x o + hgtS x.fst x.lst)) ⟨by omega, by omega⟩
      refine l_fork [19] mixed (by kernel_rfl) .refl ?_
      refine l_q (i := 0) rfl (by kernel_rfl) (.none rfl) rfl rfl (q_fieldB (d := 1) rfl Try.underlying40 rfl rfl sz38 rfl) ?_
      refine l_q (i := 1) rfl (by kernel_rfl) (.none rfl) rfl rfl (q_loadB rfl one38 rfl (.there (.there Sel.here)) rfl) ?_
      refine l_q (i := 2) rfl (by kernel_rfl) (.none rfl) rfl rfl (q_move rfl rfl) ?_
      refine l_q (i := 3) rfl (by kernel_rfl) (.none rfl) rfl rfl (q_fieldB (d := 0) rfl Try.underlying40 rfl rfl sz3 rfl) ?_
      refine l_q (i := 4) rfl (by kernel_rfl) (.none rfl) rfl rfl (q_loadB rfl one3 rfl (.there (.there Sel.here)) rfl) ?_
      refine l_q (i := 5) rfl (by kernel_rfl) (.none rfl) rfl rfl (q_fieldB (d := 0) rfl Try.underlying40 rfl rfl sz3 rfl) ?_
      refine l_q (i := 6) rfl (by kernel_rfl) (.none rfl) rfl rfl (q_loadB rfl one3 rfl (.there (.there Sel.here)) rfl) ?_
      refine l_q (i := 7) rfl (by kernel_rfl) (.none rfl) rfl rfl (q_fieldB (d := 1) rfl Try.underlying40 rfl rfl sz38 rfl) ?_
      refine l_q (i := 8) rfl (by kernel_rfl) (.none rfl) rfl rfl (q_loadB rfl one38 rfl (.there (.there Sel.here)) rfl) ?_
      refine l_q (i := 9) rfl (by kernel_rfl) (.none rfl) rfl rfl (q_move rfl rfl) ?_
      refine l_q (i := 10) rfl (by kernel_rfl) (.none rfl) rfl rfl (q_indexS (q := (x.fst.toNat + k)) rfl Try.underlying38 sz3 rfl rfl (.own Sel.here) (by rw [List.length_map, sgL_len, raiseN_len, hon]) (by omega) (by omega)) ?_
      refine l_q (i := 11) rfl (by kernel_rfl) (.none rfl) rfl rfl (q_loadC rfl one3 rfl (.own Sel.here) (getmap (by rw [sgL_len, raiseN_len]; omega))) ?_
      refine l_q (i := 12) rfl (by kernel_rfl) (.none rfl) rfl rfl (q_mul rfl rfl rfl (by omega)) ?_
      refine l_q (i := 13) rfl (by kernel_rfl) (.none rfl) rfl rfl (q_move rfl rfl) ?_
      refine l_q (i := 14) rfl (by kernel_rfl) (.none rfl) rfl rfl (q_move rfl rfl) ?_
      refine l_q (i := 15) rfl (by kernel_rfl) (.none rfl) rfl rfl (q_add rfl rfl rfl (by omega)) ?_
      refine l_q (i := 16) rfl (by kernel_rfl) (.none rfl) rfl rfl (q_max2 rfl rfl rfl) ?_
      refine l_q (i := 17) rfl (by kernel_rfl) (.none rfl) rfl rfl (q_mul rfl rfl rfl (by omega)) ?_
      refine l_q (i := 18) rfl (by kernel_rfl) (.none rfl) rfl rfl (q_indexS (q := (x.fst.toNat + k)) rfl Try.underlying38 sz3 rfl rfl (.own Sel.here) (by rw [List.length_map, sgL_len, raiseN_len, hon]) (by omega) (by omega)) ?_
      refine l_one 19 (by kernel_rfl) ?_
      refine l_late rfl rfl (.none rfl) (h_storeE rfl rfl sz3 rfl rfl rfl rfl rfl Sel.here (by omega)) ?_
      rintro - -
      refine l_nil (by kernel_rfl) ?_
      refine run_sub (subMk (.cons (s := 2) rfl (.cons (s := 3) rfl (.cons (s := 4) rfl (.cons (s := 5) rfl (.cons (s := 7) rfl (.cons (s := 8) rfl (.cons (s := 10) rfl .nil))))))) .refl) ?_
      refine run_blk ?_
      refine run_region ?_
      refine run_q (.none rfl) rfl rfl (q_move rfl rfl) ?_
      refine run_q (.none rfl) rfl rfl (q_add rfl rfl rfl (by omega)) ?_
      refine run_q (.none rfl) rfl rfl (q_assign rfl rfl) ?_
      refine run_nil ?_
      exact run_again (k + 1) (by (try dsimp only); exact (by omega)) (by (try dsimp only); omega) (subMk (.cons' (s := 10) rfl (vint (by omega)) (.cons (s := 2) rfl (.cons (s := 3) rfl (.cons (s := 4) rfl (.cons (s := 5) rfl (.cons (s := 7) rfl (.cons (s := 8) rfl .nil))))))) (.cons Sel.here (.own rfl rfl rfl (sgL_set ht (by omega))) (.cons Sel.here .refl (.cons Sel.here .refl .nil))))
    · have g61' := g61
      try simp only [decide_eq_true_eq, decide_eq_false_iff_not, beq_iff_eq, beq_eq_false_iff_ne, bne_iff_ne, bne_eq_false_iff_eq, Bool.not_eq_true', Bool.not_eq_false', ne_eq, Int.not_lt, Int.not_le, Decidable.not_not] at g61'
      refine run_exit rfl ?_
      refine run_sub (subMk (.cons (s := 2) rfl (.cons (s := 4) rfl (.cons (s := 5) rfl (.cons (s := 8) rfl .nil)))) .refl) ?_
      refine run_seq ?_
      refine run_region ?_
      refine run_q (.none rfl) rfl rfl (q_fieldB (d := 0) rfl Try.underlying40 rfl rfl sz3 rfl) ?_
      refine run_q (.none rfl) rfl rfl (q_loadB rfl one3 rfl (.there (.there Sel.here)) rfl) ?_
      refine run_q (.none rfl) rfl rfl (q_move rfl rfl) ?_
      refine run_q (.none rfl) rfl rfl (q_mul rfl rfl rfl (by omega)) ?_
      refine run_q (.none rfl) rfl rfl (q_assign rfl rfl) ?_
      refine run_q (.none rfl) rfl rfl (q_assign rfl rfl) ?_
      refine run_nil ?_
      refine run_sub (subMk (.cons (s := 4) rfl (.cons (s := 5) rfl .nil)) .refl) ?_
      refine run_ret ?_
      refine run_sub (subMk .refl (.cons Sel.here (.own (xs' := (sgL t (spO x o)).map encI) rfl rfl rfl (by rw [spO_ok hlim, show x.fst.toNat + k = x.lst.toNat + 1 from by omega])) .nil)) ?_
      exact end2 rfl rfl rfl ⟨rfl, rfl⟩

end Go.Proofs.Ytomhegnaojejnaa
