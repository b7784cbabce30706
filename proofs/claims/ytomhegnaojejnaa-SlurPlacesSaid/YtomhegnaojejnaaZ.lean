/- The reference's places, one after another. -/
import Derived.Test.YtomhegnaojejnaaY
set_option linter.unusedSimpArgs false
set_option linter.unusedVariables false
namespace Go.Proofs.Ytomhegnaojejnaa
open Go Go.RowKit Hr

theorem call50 : Hr.Callable Try.prog 50 := fun args w => by kernel_rfl
theorem call51 : Hr.Callable Try.prog 51 := fun args w => by kernel_rfl

set_option maxHeartbeats 2000000 in
set_option maxRecDepth 100000 in
theorem hplace_bad (o : List Int) (P : Option Addr) (cp : Nat) (t : Int) (n : Nat) (x : Spn) (W : World) (hon : o.length = n) (hr : Rd W P 1 ((sgL t o).map encI)) (hE : spE x n = 0) (hsd : t = x.side) (hbd : Bd o) (hlim : 1048576 < atS x o + hS x) (hl6 : n ≤ 65536) : Calls Try.prog 50 #[.agg #[.int .i64 t, .slice P n cp], x.val] W (Hr.Just W (.tuple #[.int .i64 0, .bool false])) := by
  have h0 := spE_ok hE
  have ht : t = 1 ∨ t = -1 := by rw [hsd]; exact h0.2.1
  have ho := outS_bd hE
  have hb := hgtS_bd (f := x.fst) (l := x.lst)
  have e0 : hS x = hgtS x.fst x.lst := rfl
  have b1 := sgn_bd (b := 524288) ht (x := x.frm) ⟨by omega, by omega⟩
  have b2 := sgn_bd (b := 524288) ht (x := x.til) ⟨by omega, by omega⟩
  have hat := atS_bd (x := x) (o := o) (by rw [hon]; exact hE) hbd
  have eo : outS x = max (t * x.frm) (t * x.til) := by rw [hsd]; rfl
  refine Just.of_ret ?_
  refine enterA (X := nX) (vs := [.agg #[.int .i64 t, .slice P n cp], x.val]) Try.func50 Try.ntmps50 rfl rfl Mem.nil ?_
  refine run_seq ?_
  refine run_region ?_
  refine run_h (.none rfl) (h_box rfl rfl rfl rfl rfl) ?_
  rintro b2 -
  refine run_h (.none rfl) (h_box rfl rfl rfl rfl rfl) ?_
  rintro b3 -
  refine run_q (.none rfl) rfl rfl (q_assign rfl rfl) ?_
  refine run_q (.none rfl) rfl rfl (q_assign rfl rfl) ?_
  refine run_nil ?_
  refine run_seq ?_
  refine run_region ?_
  refine run_q (.none rfl) rfl rfl (q_fieldB (d := 0) rfl Try.underlying40 rfl rfl sz3 rfl) ?_
  refine run_q (.none rfl) rfl rfl (q_loadB rfl one3 rfl (.there Sel.here) rfl) ?_
  refine run_q (.none rfl) rfl rfl (q_fieldB (d := 8) rfl Try.underlying25 rfl rfl sz3 rfl) ?_
  refine run_q (.none rfl) rfl rfl (q_loadB rfl one3 rfl Sel.here rfl) ?_
  refine run_q (.none rfl) rfl rfl (q_mul rfl rfl rfl (by omega)) ?_
  refine run_q (.none rfl) rfl rfl (q_fieldB (d := 0) rfl Try.underlying40 rfl rfl sz3 rfl) ?_
  refine run_q (.none rfl) rfl rfl (q_loadB rfl one3 rfl (.there Sel.here) rfl) ?_
  refine run_q (.none rfl) rfl rfl (q_fieldB (d := 9) rfl Try.underlying25 rfl rfl sz3 rfl) ?_
  refine run_q (.none rfl) rfl rfl (q_loadB rfl one3 rfl Sel.here rfl) ?_
  refine run_q (.none rfl) rfl rfl (q_mul rfl rfl rfl (by omega)) ?_
  refine run_q (.none rfl) rfl rfl (q_max2 rfl rfl rfl) ?_
  refine run_q (.none rfl) rfl rfl (q_assign rfl rfl) ?_
  refine run_nil ?_
  refine run_sub (subMk (.cons (s := 2) rfl (.cons (s := 3) rfl (.cons (s := 4) rfl (.cons (s := 5) rfl (.cons (s := 6) rfl .nil))))) .refl) ?_
  refine run_seq ?_
  refine run_region ?_
  refine run_q (.none rfl) rfl rfl (q_fieldB (d := 6) rfl Try.underlying25 rfl rfl sz3 rfl) ?_
  refine run_q (.none rfl) rfl rfl (q_loadB rfl one3 rfl Sel.here rfl) ?_
  refine run_q (.none rfl) rfl rfl (q_fieldB (d := 7) rfl Try.underlying25 rfl rfl sz3 rfl) ?_
  refine run_q (.none rfl) rfl rfl (q_loadB rfl one3 rfl Sel.here rfl) ?_
  refine run_q (.none rfl) rfl rfl (q_call rfl call18 (.cons rfl (.cons rfl Evs.nil)) (fun w hk hm => refheight_just x.fst x.lst w (by omega) (by omega))) ?_
  refine run_q (.none rfl) rfl rfl (q_assign rfl rfl) ?_
  refine run_nil ?_
  refine run_sub (subMk (.cons (s := 2) rfl (.cons (s := 3) rfl (.cons (s := 4) rfl (.cons (s := 5) rfl (.cons (s := 6) rfl (.cons (s := 7) rfl .nil)))))) .refl) ?_
  refine run_seq ?_
  refine run_region ?_
  refine run_q (.none rfl) rfl rfl (q_move rfl rfl) ?_
  refine run_q (.none rfl) rfl rfl (q_add rfl rfl rfl (by omega)) ?_
  refine run_q (.none rfl) rfl rfl (q_assign rfl rfl) ?_
  refine run_nil ?_
  refine run_seq ?_
  refine run_seq ?_
  refine run_region ?_
  refine run_q (.none rfl) rfl rfl (q_fieldB (d := 0) rfl Try.underlying25 rfl rfl sz3 rfl) ?_
  refine run_q (.none rfl) rfl rfl (q_loadB rfl one3 rfl Sel.here rfl) ?_
  refine run_q (.none rfl) rfl rfl (q_eql rfl rfl rfl) ?_
  refine run_nil ?_
  refine run_sub (subMk (.cons (s := 2) rfl (.cons (s := 3) rfl (.cons (s := 4) rfl (.cons (s := 5) rfl (.cons (s := 6) rfl (.cons (s := 7) rfl (.cons (s := 8) rfl (.cons (s := 31) rfl .nil)))))))) .refl) ?_
  refine run_cond rfl (fun g31 => ?_) (fun g31 => ?_)
  · have g31' := g31
    try simp only [decide_eq_true_eq, decide_eq_false_iff_not, beq_iff_eq, beq_eq_false_iff_ne, bne_iff_ne, bne_eq_false_iff_eq, Bool.not_eq_true', Bool.not_eq_false', ne_eq, Int.not_lt, Int.not_le, Decidable.not_not] at g31'
    refine run_seq ?_
    refine run_region ?_
    refine run_q (.none rfl) rfl rfl (q_move rfl rfl) ?_
    refine run_q (.none rfl) rfl rfl (q_assign rfl rfl) ?_
    refine run_nil ?_
    refine run_sub (subMk (.cons (s := 2) rfl (.cons (s := 3) rfl (.cons (s := 4) rfl (.cons (s := 5) rfl (.cons (s := 7) rfl (.cons (s := 8) rfl .nil)))))) .refl) ?_
    refine run_seq ?_
    refine run_region ?_
    refine run_q (.none rfl) rfl rfl (q_fieldB (d := 6) rfl Try.underlying25 rfl rfl sz3 rfl) ?_
    refine run_q (.none rfl) rfl rfl (q_loadB rfl one3 rfl Sel.here rfl) ?_
    refine run_q (.none rfl) rfl rfl (q_assign rfl rfl) ?_
    refine run_nil ?_
    refine run_block ?_
    refine run_sub (subMk (.cons (s := 9) rfl (.cons (s := 8) rfl (.cons (s := 2) rfl (.cons (s := 3) rfl (.cons (s := 4) rfl (.cons (s := 5) rfl (.cons (s := 7) rfl .nil))))))) (.cons Sel.here .refl (.cons Sel.here .refl .nil))) ?_
    refine run_loopC2M0 (ι := Nat) (fun k => x.fst + (k : Int) ≤ x.lst + 1) (fun k => .int .i64 (x.fst + (k : Int))) (fun k => .int .i64 (edK x o k))  (fun k => x.lst.toNat + 1 - k) 0 (by (try dsimp only); exact (by omega)) (vint (by omega)) (vint eo.symm)  ?_
    rintro k hk
    (try dsimp only at hk)
    show Run _ _ _ _ _ _ _ ⟨(9, .int .i64 (x.fst + (k : Int))) :: (8, .int .i64 (edK x o k)) :: _, _⟩
    refine run_seq ?_
    refine run_seq ?_
    refine run_region ?_
    refine run_q (.none rfl) rfl rfl (q_move rfl rfl) ?_
    refine run_q (.none rfl) rfl rfl (q_fieldB (d := 7) rfl Try.underlying25 rfl rfl sz3 rfl) ?_
    refine run_q (.none rfl) rfl rfl (q_loadB rfl one3 rfl Sel.here rfl) ?_
    refine run_q (.none rfl) rfl rfl (q_leq rfl rfl rfl) ?_
    refine run_nil ?_
    refine run_sub (subMk (.cons (s := 2) rfl (.cons (s := 3) rfl (.cons (s := 4) rfl (.cons (s := 5) rfl (.cons (s := 7) rfl (.cons (s := 8) rfl (.cons (s := 9) rfl (.cons (s := 38) rfl .nil)))))))) .refl) ?_
    refine run_cond rfl (fun g38 => ?_) (fun g38 => ?_)
    · have g38' := g38
      try simp only [decide_eq_true_eq, decide_eq_false_iff_not, beq_iff_eq, beq_eq_false_iff_ne, bne_iff_ne, bne_eq_false_iff_eq, Bool.not_eq_true', Bool.not_eq_false', ne_eq, Int.not_lt, Int.not_le, Decidable.not_not] at g38'
      refine run_skip ?_
      refine run_seq ?_
      refine run_block ?_
      have hbk := hbd (x.fst.toNat + k) (by omega)
      have hek := edK_bd ho hbd (k := k) (by omega)
      have hsg : t * nth (sgL t o) (x.fst.toNat + k) = nth o (x.fst.toNat + k) := by rw [sgL_nth, sgn_sgn ht]
      refine run_fork mixed (by kernel_rfl) .refl ?_
      refine b_q (i := 0) rfl (by kernel_rfl) (.none rfl) rfl rfl (q_move rfl rfl) ?_
      refine b_q (i := 1) rfl (by kernel_rfl) (.none rfl) rfl rfl (q_fieldB (d := 0) rfl Try.underlying40 rfl rfl sz3 rfl) ?_
      refine b_q (i := 2) rfl (by kernel_rfl) (.none rfl) rfl rfl (q_loadB rfl one3 rfl (.there Sel.here) rfl) ?_
      refine b_q (i := 3) rfl (by kernel_rfl) (.none rfl) rfl rfl (q_fieldB (d := 1) rfl Try.underlying40 rfl rfl sz38 rfl) ?_
      refine b_q (i := 4) rfl (by kernel_rfl) (.none rfl) rfl rfl (q_loadB rfl one38 rfl (.there Sel.here) rfl) ?_
      refine b_q (i := 5) rfl (by kernel_rfl) (.none rfl) rfl rfl (q_move rfl rfl) ?_
      refine b_q (i := 6) rfl (by kernel_rfl) (.none rfl) rfl rfl (q_indexS (q := (x.fst.toNat + k)) rfl Try.underlying38 sz3 rfl rfl (.inp hr .no) (by rw [List.length_map, sgL_len, hon]) (by omega) (by omega)) ?_
      refine b_q (i := 7) rfl (by kernel_rfl) (.none rfl) rfl rfl (q_loadC rfl one3 rfl (.inp hr .no) (getmap (by rw [sgL_len]; omega))) ?_
      refine b_q (i := 8) rfl (by kernel_rfl) (.none rfl) rfl rfl (q_mul rfl rfl rfl (by omega)) ?_
      refine b_q (i := 9) rfl (by kernel_rfl) (.none rfl) rfl rfl (q_add rfl rfl rfl (by omega)) ?_
      refine b_q (i := 10) rfl (by kernel_rfl) (.none rfl) rfl rfl (q_max2 rfl rfl rfl) ?_
      refine b_q (i := 11) rfl (by kernel_rfl) (.none rfl) rfl rfl (q_assign rfl rfl) ?_
      refine b_nil (by kernel_rfl) ?_
      refine run_sub (subMk (.cons (s := 2) rfl (.cons (s := 3) rfl (.cons (s := 4) rfl (.cons (s := 5) rfl (.cons (s := 7) rfl (.cons (s := 8) rfl (.cons (s := 9) rfl .nil))))))) .refl) ?_
      refine run_blk ?_
      refine run_region ?_
      refine run_q (.none rfl) rfl rfl (q_move rfl rfl) ?_
      refine run_q (.none rfl) rfl rfl (q_add rfl rfl rfl (by omega)) ?_
      refine run_q (.none rfl) rfl rfl (q_assign rfl rfl) ?_
      refine run_nil ?_
      exact run_again (k + 1) (by (try dsimp only); exact (by omega)) (by (try dsimp only); omega) (subMk (.cons' (s := 9) rfl (vint (by omega)) (.cons' (s := 8) rfl (vint (by rw [edK_next, hsg])) (.cons (s := 2) rfl (.cons (s := 3) rfl (.cons (s := 4) rfl (.cons (s := 5) rfl (.cons (s := 7) rfl .nil))))))) (.cons Sel.here .refl (.cons Sel.here .refl .nil)))
    · have g38' := g38
      try simp only [decide_eq_true_eq, decide_eq_false_iff_not, beq_iff_eq, beq_eq_false_iff_ne, bne_iff_ne, bne_eq_false_iff_eq, Bool.not_eq_true', Bool.not_eq_false', ne_eq, Int.not_lt, Int.not_le, Decidable.not_not] at g38'
      refine run_exit rfl ?_
      refine run_seq ?_
      refine run_seq ?_
      refine run_sub (subMk (.cons (s := 2) rfl (.cons (s := 3) rfl (.cons (s := 4) rfl (.cons (s := 5) rfl (.cons (s := 7) rfl (.cons' (s := 8) (v' := .int .i64 (atS x o)) rfl (vint (edK_all (by omega) (by omega) (by omega))) (.cons (s := 9) rfl (.cons (s := 38) rfl .nil)))))))) .refl) ?_
      refine run_region ?_
      refine run_q (.none rfl) rfl rfl (q_move rfl rfl) ?_
      refine run_q (.none rfl) rfl rfl (q_move rfl rfl) ?_
      refine run_q (.none rfl) rfl rfl (q_add rfl rfl rfl (by omega)) ?_
      refine run_q (.none rfl) rfl rfl (q_gtr rfl rfl rfl) ?_
      refine run_nil ?_
      refine run_sub (subMk (.cons (s := 2) rfl (.cons (s := 3) rfl (.cons (s := 4) rfl (.cons (s := 5) rfl (.cons (s := 7) rfl (.cons (s := 8) rfl (.cons (s := 55) rfl .nil))))))) .refl) ?_
      refine run_condT rfl (decide_eq_true (by omega)) ?_
      refine run_seq ?_
      refine run_region ?_
      refine run_q (.none rfl) rfl rfl (q_assign rfl rfl) ?_
      refine run_q (.none rfl) rfl rfl (q_assign rfl rfl) ?_
      refine run_nil ?_
      refine run_ret ?_
      exact end2 rfl rfl rfl rfl
  · have g31' := g31
    try simp only [decide_eq_true_eq, decide_eq_false_iff_not, beq_iff_eq, beq_eq_false_iff_ne, bne_iff_ne, bne_eq_false_iff_eq, Bool.not_eq_true', Bool.not_eq_false', ne_eq, Int.not_lt, Int.not_le, Decidable.not_not] at g31'
    refine run_skip ?_
    refine run_seq ?_
    refine run_seq ?_
    refine run_sub (subMk (.cons (s := 2) rfl (.cons (s := 3) rfl (.cons (s := 4) rfl (.cons (s := 5) rfl (.cons (s := 6) rfl (.cons (s := 7) rfl (.cons' (s := 8) (v' := .int .i64 (atS x o)) rfl (vint (by rw [at_tie (by omega), eo])) (.cons (s := 31) rfl .nil)))))))) .refl) ?_
    refine run_region ?_
    refine run_q (.none rfl) rfl rfl (q_move rfl rfl) ?_
    refine run_q (.none rfl) rfl rfl (q_move rfl rfl) ?_
    refine run_q (.none rfl) rfl rfl (q_add rfl rfl rfl (by omega)) ?_
    refine run_q (.none rfl) rfl rfl (q_gtr rfl rfl rfl) ?_
    refine run_nil ?_
    refine run_sub (subMk (.cons (s := 2) rfl (.cons (s := 3) rfl (.cons (s := 4) rfl (.cons (s := 5) rfl (.cons (s := 7) rfl (.cons (s := 8) rfl (.cons (s := 55) rfl .nil))))))) .refl) ?_
    refine run_condT rfl (decide_eq_true (by omega)) ?_
    refine run_seq ?_
    refine run_region ?_
    refine run_q (.none rfl) rfl rfl (q_assign rfl rfl) ?_
    refine run_q (.none rfl) rfl rfl (q_assign rfl rfl) ?_
    refine run_nil ?_
    refine run_ret ?_
    exact end2 rfl rfl rfl rfl

theorem hplace_badR (o : List Int) (P : Option Addr) (cp : Nat) (t : Int) (n : Nat) (x : Spn) (W : World) (hon : o.length = n) (hr : Rd W P 1 ((sgL t o).map encI)) (hE : spE x n = 0) (hsd : t = x.side) (hbd : Bd o) (hlim : 1048576 < atS x o + hS x) (hl6 : n ≤ 65536) :
    Calls Try.prog 50 #[.agg #[.int .i64 t, .slice P n cp], x.val] W (Ret W nX (fun v m => v = .tuple #[.int .i64 0, .bool false] ∧ m = [])) :=
  (hplace_bad o P cp t n x W hon hr hE hsd hbd hlim hl6).mono fun _ _ ⟨he, hk⟩ => ⟨_, [], ⟨rfl, rfl⟩, he, hk, Mem.nil⟩

set_option maxHeartbeats 4000000 in
set_option maxRecDepth 100000 in
theorem placeAll_ok (xs : List Spn) (X : Option Addr) (cx : Nat) (a b : List Int) (P Q : Option Addr) (cp cq n : Nat) (W : World) (ha : a.length = n) (hb0 : b.length = n) (hm : Mem (atAny [.own 3 1 P n cp ((sgL 1 a).map encI), .own 3 1 Q n cq ((sgL (-1) b).map encI)]) W [.own 3 1 P n cp ((sgL 1 a).map encI), .own 3 1 Q n cq ((sgL (-1) b).map encI)] W) (hx : ∀ w, Kept (atAny [.own 3 1 P n cp ((sgL 1 a).map encI), .own 3 1 Q n cq ((sgL (-1) b).map encI)]) W w → Rd w X 12 (xs.map Spn.enc)) (hxl : xs.length ≤ 20) (hl6 : n ≤ 65536) (hba : Bd a) (hbb : Bd b) (hall : ∀ x ∈ xs, spE x n = 0) (hE0 : slEs (ordS xs) a b xs.length = 0) : Calls Try.prog 23 #[.slice X xs.length cx, .agg #[.int .i64 1, .slice P n cp], .agg #[.int .i64 (-1), .slice Q n cq]] W (Ret W (atAny [.own 3 1 P n cp ((sgL 1 a).map encI), .own 3 1 Q n cq ((sgL (-1) b).map encI)]) (fun v m => ∃ O co, v = .tuple #[.slice O xs.length co, .bool true] ∧ m = [.own 3 1 P n cp ((sgL 1 (sl (ordS xs) a b xs.length).1).map encI), .own 3 1 Q n cq ((sgL (-1) (sl (ordS xs) a b xs.length).2).map encI), .own 49 12 O xs.length co ((slMs (ordS xs) a b xs.length).map Mk.enc)])) := by
  have hN : ∀ x ∈ xs, NN x := fun x hx' => spE_NN (hall x hx') (by omega)
  refine enterA (X := _) (vs := [.slice X xs.length cx, .agg #[.int .i64 1, .slice P n cp], .agg #[.int .i64 (-1), .slice Q n cq]]) Try.func23 Try.ntmps23 rfl rfl hm ?_
  refine run_seq ?_
  refine run_region ?_
  refine run_h (.none rfl) (h_box rfl rfl rfl rfl rfl) ?_
  rintro b4 -
  refine run_h (.none rfl) (h_box rfl rfl rfl rfl rfl) ?_
  rintro b5 -
  refine run_q (.none rfl) rfl rfl (q_assign rfl rfl) ?_
  refine run_q (.none rfl) rfl rfl (q_assign rfl rfl) ?_
  refine run_nil ?_
  refine run_seq ?_
  refine run_region ?_
  refine run_q (.none rfl) rfl rfl (q_assign rfl rfl) ?_
  refine run_nil ?_
  refine run_seq ?_
  refine run_region ?_
  refine run_q (.none rfl) rfl rfl (q_move rfl rfl) ?_
  refine run_h (.none rfl) (h_call rfl rfl rfl call16 (.cons rfl Evs.nil) (fun w hk hm => reforder_ret xs X cx w (hx _ hk) hxl hN)) ?_
  rintro ⟨v, m⟩ ⟨Oy, cy, rfl, rfl⟩
  show Run _ _ _ _ _ _ _ ⟨(14, .slice Oy xs.length cy) :: _, _ :: _⟩
  refine run_q (.none rfl) rfl rfl (q_assign rfl rfl) ?_
  refine run_nil ?_
  refine run_sub (subMk (.cons (s := 0) rfl (.cons (s := 4) rfl (.cons (s := 5) rfl (.cons (s := 6) rfl (.cons (s := 7) rfl (.cons (s := 8) rfl .nil)))))) .refl) ?_
  refine run_seq ?_
  refine run_seq ?_
  refine run_region ?_
  refine run_q (.none rfl) rfl rfl (q_assign rfl rfl) ?_
  refine run_nil ?_
  refine run_block ?_
  refine run_sub (subMk .refl (MemSub.nilOwn 49 12)) ?_
  refine run_sub (subMk (.cons (s := 9) rfl (.cons (s := 8) rfl (.cons (s := 0) rfl (.cons (s := 4) rfl (.cons (s := 5) rfl (.cons (s := 6) rfl (.cons (s := 7) rfl .nil))))))) (.cons (.there (.there (.there (.there Sel.here)))) .refl (.cons (.there (.there (.there (.there Sel.here)))) .refl (.cons Sel.here .refl (.cons Sel.here .refl (.cons Sel.here .refl (.cons Sel.here .refl .nil))))))) ?_
  refine run_loopC2M3 (ι := Nat × (Option Addr) × Nat) (fun gg => gg.1 ≤ xs.length ∧ slEs (ordS xs) a b gg.1 = 0) (fun gg => .int .i64 (gg.1 : Int)) (fun gg => .slice gg.2.1 gg.1 gg.2.2) (fun gg => .own 3 1 P n cp ((sgL 1 (sl (ordS xs) a b gg.1).1).map encI)) (fun gg => .own 3 1 Q n cq ((sgL (-1) (sl (ordS xs) a b gg.1).2).map encI)) (fun gg => .own 49 12 gg.2.1 gg.1 gg.2.2 ((slMs (ordS xs) a b gg.1).map Mk.enc)) (fun gg => xs.length - gg.1) (0, none, 0) (by (try dsimp only); exact ⟨by omega, rfl⟩) rfl rfl (.own rfl rfl rfl rfl) (.own rfl rfl rfl rfl) (.own rfl rfl rfl rfl) ?_
  rintro ⟨i, O, co⟩ hq
  (try dsimp only at hq)
  obtain ⟨hi, hEs⟩ := hq
  show Run _ _ _ _ _ _ _ ⟨(9, .int .i64 (i : Int)) :: (8, .slice O i co) :: _, .own 3 1 P n cp ((sgL 1 (sl (ordS xs) a b i).1).map encI) :: .own 3 1 Q n cq ((sgL (-1) (sl (ordS xs) a b i).2).map encI) :: .own 49 12 O i co ((slMs (ordS xs) a b i).map Mk.enc) :: _⟩
  refine run_seq ?_
  refine run_seq ?_
  refine run_region ?_
  refine run_q (.none rfl) rfl rfl (q_move rfl rfl) ?_
  refine run_q (.none rfl) rfl rfl (q_move rfl rfl) ?_
  refine run_q (.none rfl) rfl rfl (q_len rfl Try.underlying30 rfl) ?_
  refine run_q (.none rfl) rfl rfl (q_lss rfl rfl rfl) ?_
  refine run_nil ?_
  refine run_sub (subMk (.cons (s := 0) rfl (.cons (s := 4) rfl (.cons (s := 5) rfl (.cons (s := 6) rfl (.cons (s := 7) rfl (.cons (s := 8) rfl (.cons (s := 9) rfl (.cons (s := 18) rfl .nil)))))))) .refl) ?_
  refine run_cond rfl (fun g18 => ?_) (fun g18 => ?_)
  · have g18' := g18
    try simp only [decide_eq_true_eq, decide_eq_false_iff_not, beq_iff_eq, beq_eq_false_iff_ne, bne_iff_ne, bne_eq_false_iff_eq, Bool.not_eq_true', Bool.not_eq_false', ne_eq, Int.not_lt, Int.not_le, Decidable.not_not] at g18'
    have hspi : spE (nth (ordS xs) i) n = 0 := hall _ (ordS_mem (by omega))
    have h0 := spE_ok hspi
    have hln := sl_len (ys := ordS xs) (a := a) (b := b) (i := i)
    have hbd := sl_bd (ys := ordS xs) hba hbb (i := i)
    have hat1 := atS_bd (x := (nth (ordS xs) i)) (o := (sl (ordS xs) a b i).1) (by rw [hln.1, ha]; exact hspi) hbd.1
    have hat2 := atS_bd (x := (nth (ordS xs) i)) (o := (sl (ordS xs) a b i).2) (by rw [hln.2, hb0]; exact hspi) hbd.2
    refine run_skip ?_
    refine run_seq ?_
    refine run_block ?_
    refine run_seq ?_
    refine run_region ?_
    refine run_q (.none rfl) rfl rfl (q_loadBN rfl agg40 rfl (.there (.there (.there (.there (.there Sel.here))))) (.cons rfl (.cons rfl CellsAt.nil)) rfl) ?_
    refine run_h (.none rfl) (h_alloc rfl rfl rfl info40) ?_
    rintro b10 -
    refine run_h (.none rfl) (h_storeB rfl rfl sz40 rfl rfl rfl rfl rfl Sel.here rfl) ?_
    rintro - -
    refine run_nil ?_
    refine run_seq ?_
    refine run_seq ?_
    refine run_region ?_
    refine run_q (.none rfl) rfl rfl (q_move rfl rfl) ?_
    refine run_q (.none rfl) rfl rfl (q_move rfl rfl) ?_
    refine run_q (.none rfl) rfl rfl (q_indexS (q := i) rfl Try.underlying30 sz25 rfl rfl (.own (.there (.there (.there (.there Sel.here))))) (by rw [List.length_map, ordS_len]) rfl (by omega)) ?_
    refine run_q (.none rfl) rfl rfl (q_fieldAddr (d := 3) rfl Try.underlying25 rfl rfl sz3 rfl) ?_
    refine run_q (.none rfl) rfl rfl (q_loadF rfl one3 rfl (.own (.there (.there (.there (.there Sel.here))))) (getmap (by rw [ordS_len]; omega)) rfl) ?_
    refine run_q (.none rfl) rfl rfl (q_lss rfl rfl rfl) ?_
    refine run_nil ?_
    refine run_sub (subMk (.cons (s := 0) rfl (.cons (s := 4) rfl (.cons (s := 5) rfl (.cons (s := 6) rfl (.cons (s := 7) rfl (.cons (s := 8) rfl (.cons (s := 9) rfl (.cons (s := 10) rfl (.cons (s := 27) rfl .nil))))))))) .refl) ?_
    refine run_cond rfl (fun g27 => ?_) (fun g27 => ?_)
    · have g27' := g27
      try simp only [decide_eq_true_eq, decide_eq_false_iff_not, beq_iff_eq, beq_eq_false_iff_ne, bne_iff_ne, bne_eq_false_iff_eq, Bool.not_eq_true', Bool.not_eq_false', ne_eq, Int.not_lt, Int.not_le, Decidable.not_not] at g27'
      refine run_region ?_
      refine run_q (.none rfl) rfl rfl (q_loadBN rfl agg40 rfl (.there (.there (.there (.there (.there Sel.here))))) (.cons rfl (.cons rfl CellsAt.nil)) rfl) ?_
      refine run_h (.none rfl) (h_storeB rfl rfl sz40 rfl rfl rfl rfl rfl Sel.here rfl) ?_
      rintro - -
      refine run_nil ?_
      refine run_seq ?_
      have hsd : (nth (ordS xs) i).side = -1 := by omega
      have hns : ¬ (nth (ordS xs) i).side = 1 := by omega
      have hta := sgn_bd (b := 1048588) h0.2.1 (x := atS (nth (ordS xs) i) (sl (ordS xs) a b i).2) ⟨by have := hat2; omega, by have := hat2; omega⟩
      rw [hsd] at hta
      have hbB := slEs_zero hE0 i (by omega)
      rw [rowS_b hns] at hbB
      have hli := spB_zero.1 hbB
      refine run_draw [(0, 0), (1, 0), (2, 0), (3, 0), (4, 0), (5, 1), (6, 0), (7, 0), (8, 0), (9, 0), (10, 0)] mixed (by kernel_rfl) (Sel.rest (.there (.there Sel.here))) ?_
      refine d_q rfl rfl (.none rfl) rfl rfl (q_loadBN rfl agg40 rfl Sel.here (.cons rfl (.cons rfl CellsAt.nil)) rfl) ?_
      refine d_q rfl rfl (.none rfl) rfl rfl (q_move rfl rfl) ?_
      refine d_q rfl rfl (.none rfl) rfl rfl (q_move rfl rfl) ?_
      refine d_q rfl rfl (.none rfl) rfl rfl (q_indexS (q := i) rfl Try.underlying30 sz25 rfl rfl (.own (.there (.there (.there Sel.here)))) (by rw [List.length_map, ordS_len]) rfl (by omega)) ?_
      refine d_q rfl rfl (.none rfl) rfl rfl (q_loadE rfl agg25 rfl (.own (.there (.there (.there Sel.here)))) (getmap (by rw [ordS_len]; omega)) rfl) ?_
      refine d_h rfl rfl (.none rfl) (h_callX [_] _ rfl rfl rfl call50 (.cons rfl (.cons rfl Evs.nil)) (Sel.perm (.there (.there Sel.here))) (Y := fun _ => atAny [_]) (fun _ _ h => h) (fun w hk hm => hplace_ok (sl (ordS xs) a b i).2 Q cq (-1) n (nth (ordS xs) i) w (by rw [hln.2, hb0]) ((hm.perm (Sel.perm (.there (.there Sel.here)))).give (rs := [_])) hspi (by omega) hbd.2 hli hl6)) (fun _ _ => (.sub (List.sublist_append_right _ _))) ?_
      rintro ⟨v, m⟩ ⟨rfl, rfl⟩
      show RunD _ _ _ _ _ _ _ _ _ _ _ ⟨(35, .tuple #[.int .i64 ((-1) * atS (nth (ordS xs) i) (sl (ordS xs) a b i).2), .bool true]) :: _, _ :: _⟩
      refine d_q rfl rfl (.none rfl) rfl rfl (q_move rfl rfl) ?_
      refine d_q rfl rfl (.none rfl) rfl rfl (q_extract rfl rfl rfl) ?_
      refine d_q rfl rfl (.none rfl) rfl rfl (q_extract rfl rfl rfl) ?_
      refine d_q rfl rfl (.none rfl) rfl rfl (q_assign rfl rfl) ?_
      refine d_q rfl rfl (.none rfl) rfl rfl (q_assign rfl rfl) ?_
      refine d_nil ?_
      refine run_sub (subMk (.cons (s := 0) rfl (.cons (s := 4) rfl (.cons (s := 5) rfl (.cons (s := 6) rfl (.cons (s := 7) rfl (.cons (s := 8) rfl (.cons (s := 9) rfl (.cons (s := 11) rfl (.cons (s := 12) rfl .nil))))))))) .refl) ?_
      refine run_seq ?_
      refine run_seq ?_
      refine run_region ?_
      refine run_q (.none rfl) rfl rfl (q_move rfl rfl) ?_
      refine run_q (.none rfl) rfl rfl (q_not rfl rfl) ?_
      refine run_nil ?_
      refine run_condF rfl rfl ?_
      refine run_skip ?_
      refine run_region ?_
      refine run_q (.none rfl) rfl rfl (q_move rfl rfl) ?_
      refine run_q (.none rfl) rfl rfl (q_move rfl rfl) ?_
      refine run_q (.none rfl) rfl rfl (q_move rfl rfl) ?_
      refine run_q (.none rfl) rfl rfl (q_indexS (q := i) rfl Try.underlying30 sz25 rfl rfl (.own (.there (.there (.there (.there Sel.here))))) (by rw [List.length_map, ordS_len]) rfl (by omega)) ?_
      refine run_q (.none rfl) rfl rfl (q_loadE rfl agg25 rfl (.own (.there (.there (.there (.there Sel.here))))) (getmap (by rw [ordS_len]; omega)) rfl) ?_
      refine run_q (.none rfl) rfl rfl (q_move rfl rfl) ?_
      refine run_q (.none rfl) rfl rfl (q_call rfl call51 (.cons rfl (.cons rfl Evs.nil)) (fun w hk hm => refmark_just (nth (ordS xs) i) ((-1) * atS (nth (ordS xs) i) (sl (ordS xs) a b i).2) w h0.2.1 (by omega) (by omega) ⟨by omega, by omega⟩)) ?_
      refine run_h (.none rfl) (h_buildSlice rfl rfl rfl Try.underlying43 info49 (.cons rfl rfl rfl rfl Parts.nil) rfl (by omega)) ?_
      rintro b47 -
      refine run_h (.none rfl) (h_append rfl rfl rfl Try.underlying43 info49 rfl rfl (.there (.there (.there (.there Sel.here)))) rfl (.own Sel.here) rfl (all1 rfl) (all1 rfl) (by omega) (by omega)) ?_
      rintro ⟨A48, c48⟩ -
      refine run_q (.none rfl) rfl rfl (q_assign rfl rfl) ?_
      refine run_nil ?_
      refine run_sub (subMk (.cons (s := 0) rfl (.cons (s := 4) rfl (.cons (s := 5) rfl (.cons (s := 6) rfl (.cons (s := 7) rfl (.cons (s := 8) rfl (.cons (s := 9) rfl .nil))))))) .refl) ?_
      refine run_blk ?_
      refine run_region ?_
      refine run_q (.none rfl) rfl rfl (q_move rfl rfl) ?_
      refine run_q (.none rfl) rfl rfl (q_add rfl rfl rfl (by omega)) ?_
      refine run_q (.none rfl) rfl rfl (q_assign rfl rfl) ?_
      refine run_nil ?_
      exact run_again (i + 1, A48, c48) (by (try dsimp only); exact ⟨by omega, slEs_next hEs (by rw [rowS_b hns]; exact spB_zero.2 hli)⟩) (by (try dsimp only); omega) (subMk (.cons' (s := 9) rfl (vint (by omega)) (.cons' (s := 8) rfl rfl (.cons (s := 0) rfl (.cons (s := 4) rfl (.cons (s := 5) rfl (.cons (s := 6) rfl (.cons (s := 7) rfl .nil))))))) (.cons (.there (.there (.there (.there Sel.here)))) (.own rfl rfl rfl (by rw [sl_b hns])) (.cons (.there (.there Sel.here)) (.own rfl rfl rfl (by rw [sl_b hns])) (.cons Sel.here (.own rfl rfl rfl (by rw [slMs_next, List.map_append, slM1, rowS_b hns, hsd]; rfl)) (.cons (.there (.there Sel.here)) .refl (.cons (.there (.there Sel.here)) .refl (.cons (.there (.there Sel.here)) .refl .nil)))))))
    · have g27' := g27
      try simp only [decide_eq_true_eq, decide_eq_false_iff_not, beq_iff_eq, beq_eq_false_iff_ne, bne_iff_ne, bne_eq_false_iff_eq, Bool.not_eq_true', Bool.not_eq_false', ne_eq, Int.not_lt, Int.not_le, Decidable.not_not] at g27'
      refine run_skip ?_
      refine run_seq ?_
      have hsd : (nth (ordS xs) i).side = 1 := by omega
      have hta := sgn_bd (b := 1048588) h0.2.1 (x := atS (nth (ordS xs) i) (sl (ordS xs) a b i).1) ⟨by have := hat1; omega, by have := hat1; omega⟩
      rw [hsd] at hta
      have hbB := slEs_zero hE0 i (by omega)
      rw [rowS_a hsd] at hbB
      have hli := spB_zero.1 hbB
      refine run_draw [(0, 0), (1, 0), (2, 0), (3, 0), (4, 0), (5, 1), (6, 0), (7, 0), (8, 0), (9, 0), (10, 0)] mixed (by kernel_rfl) (Sel.rest (.there Sel.here)) ?_
      refine d_q rfl rfl (.none rfl) rfl rfl (q_loadBN rfl agg40 rfl Sel.here (.cons rfl (.cons rfl CellsAt.nil)) rfl) ?_
      refine d_q rfl rfl (.none rfl) rfl rfl (q_move rfl rfl) ?_
      refine d_q rfl rfl (.none rfl) rfl rfl (q_move rfl rfl) ?_
      refine d_q rfl rfl (.none rfl) rfl rfl (q_indexS (q := i) rfl Try.underlying30 sz25 rfl rfl (.own (.there (.there (.there Sel.here)))) (by rw [List.length_map, ordS_len]) rfl (by omega)) ?_
      refine d_q rfl rfl (.none rfl) rfl rfl (q_loadE rfl agg25 rfl (.own (.there (.there (.there Sel.here)))) (getmap (by rw [ordS_len]; omega)) rfl) ?_
      refine d_h rfl rfl (.none rfl) (h_callX [_] _ rfl rfl rfl call50 (.cons rfl (.cons rfl Evs.nil)) (Sel.perm (.there Sel.here)) (Y := fun _ => atAny [_]) (fun _ _ h => h) (fun w hk hm => hplace_ok (sl (ordS xs) a b i).1 P cp 1 n (nth (ordS xs) i) w (by rw [hln.1, ha]) ((hm.perm (Sel.perm (.there Sel.here))).give (rs := [_])) hspi (by omega) hbd.1 hli hl6)) (fun _ _ => (.sub (List.sublist_append_right _ _))) ?_
      rintro ⟨v, m⟩ ⟨rfl, rfl⟩
      show RunD _ _ _ _ _ _ _ _ _ _ _ ⟨(35, .tuple #[.int .i64 (1 * atS (nth (ordS xs) i) (sl (ordS xs) a b i).1), .bool true]) :: _, _ :: _⟩
      refine d_q rfl rfl (.none rfl) rfl rfl (q_move rfl rfl) ?_
      refine d_q rfl rfl (.none rfl) rfl rfl (q_extract rfl rfl rfl) ?_
      refine d_q rfl rfl (.none rfl) rfl rfl (q_extract rfl rfl rfl) ?_
      refine d_q rfl rfl (.none rfl) rfl rfl (q_assign rfl rfl) ?_
      refine d_q rfl rfl (.none rfl) rfl rfl (q_assign rfl rfl) ?_
      refine d_nil ?_
      refine run_sub (subMk (.cons (s := 0) rfl (.cons (s := 4) rfl (.cons (s := 5) rfl (.cons (s := 6) rfl (.cons (s := 7) rfl (.cons (s := 8) rfl (.cons (s := 9) rfl (.cons (s := 11) rfl (.cons (s := 12) rfl .nil))))))))) .refl) ?_
      refine run_seq ?_
      refine run_seq ?_
      refine run_region ?_
      refine run_q (.none rfl) rfl rfl (q_move rfl rfl) ?_
      refine run_q (.none rfl) rfl rfl (q_not rfl rfl) ?_
      refine run_nil ?_
      refine run_condF rfl rfl ?_
      refine run_skip ?_
      refine run_region ?_
      refine run_q (.none rfl) rfl rfl (q_move rfl rfl) ?_
      refine run_q (.none rfl) rfl rfl (q_move rfl rfl) ?_
      refine run_q (.none rfl) rfl rfl (q_move rfl rfl) ?_
      refine run_q (.none rfl) rfl rfl (q_indexS (q := i) rfl Try.underlying30 sz25 rfl rfl (.own (.there (.there (.there (.there Sel.here))))) (by rw [List.length_map, ordS_len]) rfl (by omega)) ?_
      refine run_q (.none rfl) rfl rfl (q_loadE rfl agg25 rfl (.own (.there (.there (.there (.there Sel.here))))) (getmap (by rw [ordS_len]; omega)) rfl) ?_
      refine run_q (.none rfl) rfl rfl (q_move rfl rfl) ?_
      refine run_q (.none rfl) rfl rfl (q_call rfl call51 (.cons rfl (.cons rfl Evs.nil)) (fun w hk hm => refmark_just (nth (ordS xs) i) (1 * atS (nth (ordS xs) i) (sl (ordS xs) a b i).1) w h0.2.1 (by omega) (by omega) ⟨by omega, by omega⟩)) ?_
      refine run_h (.none rfl) (h_buildSlice rfl rfl rfl Try.underlying43 info49 (.cons rfl rfl rfl rfl Parts.nil) rfl (by omega)) ?_
      rintro b47 -
      refine run_h (.none rfl) (h_append rfl rfl rfl Try.underlying43 info49 rfl rfl (.there (.there (.there (.there Sel.here)))) rfl (.own Sel.here) rfl (all1 rfl) (all1 rfl) (by omega) (by omega)) ?_
      rintro ⟨A48, c48⟩ -
      refine run_q (.none rfl) rfl rfl (q_assign rfl rfl) ?_
      refine run_nil ?_
      refine run_sub (subMk (.cons (s := 0) rfl (.cons (s := 4) rfl (.cons (s := 5) rfl (.cons (s := 6) rfl (.cons (s := 7) rfl (.cons (s := 8) rfl (.cons (s := 9) rfl .nil))))))) .refl) ?_
      refine run_blk ?_
      refine run_region ?_
      refine run_q (.none rfl) rfl rfl (q_move rfl rfl) ?_
      refine run_q (.none rfl) rfl rfl (q_add rfl rfl rfl (by omega)) ?_
      refine run_q (.none rfl) rfl rfl (q_assign rfl rfl) ?_
      refine run_nil ?_
      exact run_again (i + 1, A48, c48) (by (try dsimp only); exact ⟨by omega, slEs_next hEs (by rw [rowS_a hsd]; exact spB_zero.2 hli)⟩) (by (try dsimp only); omega) (subMk (.cons' (s := 9) rfl (vint (by omega)) (.cons' (s := 8) rfl rfl (.cons (s := 0) rfl (.cons (s := 4) rfl (.cons (s := 5) rfl (.cons (s := 6) rfl (.cons (s := 7) rfl .nil))))))) (.cons (.there (.there Sel.here)) (.own rfl rfl rfl (by rw [sl_a hsd])) (.cons (.there (.there (.there Sel.here))) (.own rfl rfl rfl (by rw [sl_a hsd])) (.cons Sel.here (.own rfl rfl rfl (by rw [slMs_next, List.map_append, slM1, rowS_a hsd, hsd]; rfl)) (.cons (.there (.there Sel.here)) .refl (.cons (.there (.there Sel.here)) .refl (.cons (.there (.there Sel.here)) .refl .nil)))))))
  · have g18' := g18
    try simp only [decide_eq_true_eq, decide_eq_false_iff_not, beq_iff_eq, beq_eq_false_iff_ne, bne_iff_ne, bne_eq_false_iff_eq, Bool.not_eq_true', Bool.not_eq_false', ne_eq, Int.not_lt, Int.not_le, Decidable.not_not] at g18'
    refine run_exit rfl ?_
    refine run_sub (subMk (.cons (s := 6) rfl (.cons (s := 7) rfl (.cons (s := 8) rfl .nil))) .refl) ?_
    refine run_seq ?_
    refine run_region ?_
    refine run_q (.none rfl) rfl rfl (q_move rfl rfl) ?_
    refine run_q (.none rfl) rfl rfl (q_assign rfl rfl) ?_
    refine run_q (.none rfl) rfl rfl (q_assign rfl rfl) ?_
    refine run_nil ?_
    refine run_ret ?_
    refine run_sub (subMk .refl (.cons Sel.here (.own (xs' := (sgL 1 (sl (ordS xs) a b xs.length).1).map encI) rfl rfl rfl (by rw [show xs.length = i from by omega])) (.cons Sel.here (.own (xs' := (sgL (-1) (sl (ordS xs) a b xs.length).2).map encI) rfl rfl rfl (by rw [show xs.length = i from by omega])) (.cons Sel.here (.own (m' := xs.length) (xs' := (slMs (ordS xs) a b xs.length).map Mk.enc) rfl (by omega) rfl (by rw [show xs.length = i from by omega])) .nil)))) ?_
    exact end2 rfl rfl rfl ⟨O, co, by rw [show xs.length = i from by omega], rfl⟩

set_option maxHeartbeats 4000000 in
set_option maxRecDepth 100000 in
theorem placeAll_err (xs : List Spn) (X : Option Addr) (cx : Nat) (a b : List Int) (P Q : Option Addr) (cp cq n : Nat) (W : World) (ha : a.length = n) (hb0 : b.length = n) (hm : Mem (atAny [.own 3 1 P n cp ((sgL 1 a).map encI), .own 3 1 Q n cq ((sgL (-1) b).map encI)]) W [.own 3 1 P n cp ((sgL 1 a).map encI), .own 3 1 Q n cq ((sgL (-1) b).map encI)] W) (hx : ∀ w, Kept (atAny [.own 3 1 P n cp ((sgL 1 a).map encI), .own 3 1 Q n cq ((sgL (-1) b).map encI)]) W w → Rd w X 12 (xs.map Spn.enc)) (hxl : xs.length ≤ 20) (hl6 : n ≤ 65536) (hba : Bd a) (hbb : Bd b) (hall : ∀ x ∈ xs, spE x n = 0) (hE0 : slEs (ordS xs) a b xs.length ≠ 0) : Calls Try.prog 23 #[.slice X xs.length cx, .agg #[.int .i64 1, .slice P n cp], .agg #[.int .i64 (-1), .slice Q n cq]] W (Ret W (atAny [.own 3 1 P n cp ((sgL 1 a).map encI), .own 3 1 Q n cq ((sgL (-1) b).map encI)]) (fun v m => v = .tuple #[.slice none 0 0, .bool false] ∧ m = [])) := by
  have hN : ∀ x ∈ xs, NN x := fun x hx' => spE_NN (hall x hx') (by omega)
  refine enterA (X := _) (vs := [.slice X xs.length cx, .agg #[.int .i64 1, .slice P n cp], .agg #[.int .i64 (-1), .slice Q n cq]]) Try.func23 Try.ntmps23 rfl rfl hm ?_
  refine run_seq ?_
  refine run_region ?_
  refine run_h (.none rfl) (h_box rfl rfl rfl rfl rfl) ?_
  rintro b4 -
  refine run_h (.none rfl) (h_box rfl rfl rfl rfl rfl) ?_
  rintro b5 -
  refine run_q (.none rfl) rfl rfl (q_assign rfl rfl) ?_
  refine run_q (.none rfl) rfl rfl (q_assign rfl rfl) ?_
  refine run_nil ?_
  refine run_seq ?_
  refine run_region ?_
  refine run_q (.none rfl) rfl rfl (q_assign rfl rfl) ?_
  refine run_nil ?_
  refine run_seq ?_
  refine run_region ?_
  refine run_q (.none rfl) rfl rfl (q_move rfl rfl) ?_
  refine run_h (.none rfl) (h_call rfl rfl rfl call16 (.cons rfl Evs.nil) (fun w hk hm => reforder_ret xs X cx w (hx _ hk) hxl hN)) ?_
  rintro ⟨v, m⟩ ⟨Oy, cy, rfl, rfl⟩
  show Run _ _ _ _ _ _ _ ⟨(14, .slice Oy xs.length cy) :: _, _ :: _⟩
  refine run_q (.none rfl) rfl rfl (q_assign rfl rfl) ?_
  refine run_nil ?_
  refine run_sub (subMk (.cons (s := 0) rfl (.cons (s := 4) rfl (.cons (s := 5) rfl (.cons (s := 6) rfl (.cons (s := 7) rfl (.cons (s := 8) rfl .nil)))))) .refl) ?_
  refine run_seq ?_
  refine run_seq ?_
  refine run_region ?_
  refine run_q (.none rfl) rfl rfl (q_assign rfl rfl) ?_
  refine run_nil ?_
  refine run_block ?_
  refine run_sub (subMk .refl (MemSub.nilOwn 49 12)) ?_
  refine run_sub (subMk (.cons (s := 9) rfl (.cons (s := 8) rfl (.cons (s := 0) rfl (.cons (s := 4) rfl (.cons (s := 5) rfl (.cons (s := 6) rfl (.cons (s := 7) rfl .nil))))))) (.cons (.there (.there (.there (.there Sel.here)))) .refl (.cons (.there (.there (.there (.there Sel.here)))) .refl (.cons Sel.here .refl (.cons Sel.here .refl (.cons Sel.here .refl (.cons Sel.here .refl .nil))))))) ?_
  refine run_loopC2M3 (ι := Nat × (Option Addr) × Nat) (fun gg => gg.1 ≤ xs.length ∧ slEs (ordS xs) a b gg.1 = 0) (fun gg => .int .i64 (gg.1 : Int)) (fun gg => .slice gg.2.1 gg.1 gg.2.2) (fun gg => .own 3 1 P n cp ((sgL 1 (sl (ordS xs) a b gg.1).1).map encI)) (fun gg => .own 3 1 Q n cq ((sgL (-1) (sl (ordS xs) a b gg.1).2).map encI)) (fun gg => .own 49 12 gg.2.1 gg.1 gg.2.2 ((slMs (ordS xs) a b gg.1).map Mk.enc)) (fun gg => xs.length - gg.1) (0, none, 0) (by (try dsimp only); exact ⟨by omega, rfl⟩) rfl rfl (.own rfl rfl rfl rfl) (.own rfl rfl rfl rfl) (.own rfl rfl rfl rfl) ?_
  rintro ⟨i, O, co⟩ hq
  (try dsimp only at hq)
  obtain ⟨hi, hEs⟩ := hq
  show Run _ _ _ _ _ _ _ ⟨(9, .int .i64 (i : Int)) :: (8, .slice O i co) :: _, .own 3 1 P n cp ((sgL 1 (sl (ordS xs) a b i).1).map encI) :: .own 3 1 Q n cq ((sgL (-1) (sl (ordS xs) a b i).2).map encI) :: .own 49 12 O i co ((slMs (ordS xs) a b i).map Mk.enc) :: _⟩
  refine run_seq ?_
  refine run_seq ?_
  refine run_region ?_
  refine run_q (.none rfl) rfl rfl (q_move rfl rfl) ?_
  refine run_q (.none rfl) rfl rfl (q_move rfl rfl) ?_
  refine run_q (.none rfl) rfl rfl (q_len rfl Try.underlying30 rfl) ?_
  refine run_q (.none rfl) rfl rfl (q_lss rfl rfl rfl) ?_
  refine run_nil ?_
  refine run_sub (subMk (.cons (s := 0) rfl (.cons (s := 4) rfl (.cons (s := 5) rfl (.cons (s := 6) rfl (.cons (s := 7) rfl (.cons (s := 8) rfl (.cons (s := 9) rfl (.cons (s := 18) rfl .nil)))))))) .refl) ?_
  refine run_cond rfl (fun g18 => ?_) (fun g18 => ?_)
  · have g18' := g18
    try simp only [decide_eq_true_eq, decide_eq_false_iff_not, beq_iff_eq, beq_eq_false_iff_ne, bne_iff_ne, bne_eq_false_iff_eq, Bool.not_eq_true', Bool.not_eq_false', ne_eq, Int.not_lt, Int.not_le, Decidable.not_not] at g18'
    have hspi : spE (nth (ordS xs) i) n = 0 := hall _ (ordS_mem (by omega))
    have h0 := spE_ok hspi
    have hln := sl_len (ys := ordS xs) (a := a) (b := b) (i := i)
    have hbd := sl_bd (ys := ordS xs) hba hbb (i := i)
    have hat1 := atS_bd (x := (nth (ordS xs) i)) (o := (sl (ordS xs) a b i).1) (by rw [hln.1, ha]; exact hspi) hbd.1
    have hat2 := atS_bd (x := (nth (ordS xs) i)) (o := (sl (ordS xs) a b i).2) (by rw [hln.2, hb0]; exact hspi) hbd.2
    refine run_skip ?_
    refine run_seq ?_
    refine run_block ?_
    refine run_seq ?_
    by_cases hbB : spB (nth (ordS xs) i) (rowS (ordS xs) a b i) = 0
    · refine run_region ?_
      refine run_q (.none rfl) rfl rfl (q_loadBN rfl agg40 rfl (.there (.there (.there (.there (.there Sel.here))))) (.cons rfl (.cons rfl CellsAt.nil)) rfl) ?_
      refine run_h (.none rfl) (h_alloc rfl rfl rfl info40) ?_
      rintro b10 -
      refine run_h (.none rfl) (h_storeB rfl rfl sz40 rfl rfl rfl rfl rfl Sel.here rfl) ?_
      rintro - -
      refine run_nil ?_
      refine run_seq ?_
      refine run_seq ?_
      refine run_region ?_
      refine run_q (.none rfl) rfl rfl (q_move rfl rfl) ?_
      refine run_q (.none rfl) rfl rfl (q_move rfl rfl) ?_
      refine run_q (.none rfl) rfl rfl (q_indexS (q := i) rfl Try.underlying30 sz25 rfl rfl (.own (.there (.there (.there (.there Sel.here))))) (by rw [List.length_map, ordS_len]) rfl (by omega)) ?_
      refine run_q (.none rfl) rfl rfl (q_fieldAddr (d := 3) rfl Try.underlying25 rfl rfl sz3 rfl) ?_
      refine run_q (.none rfl) rfl rfl (q_loadF rfl one3 rfl (.own (.there (.there (.there (.there Sel.here))))) (getmap (by rw [ordS_len]; omega)) rfl) ?_
      refine run_q (.none rfl) rfl rfl (q_lss rfl rfl rfl) ?_
      refine run_nil ?_
      refine run_sub (subMk (.cons (s := 0) rfl (.cons (s := 4) rfl (.cons (s := 5) rfl (.cons (s := 6) rfl (.cons (s := 7) rfl (.cons (s := 8) rfl (.cons (s := 9) rfl (.cons (s := 10) rfl (.cons (s := 27) rfl .nil))))))))) .refl) ?_
      refine run_cond rfl (fun g27 => ?_) (fun g27 => ?_)
      · have g27' := g27
        try simp only [decide_eq_true_eq, decide_eq_false_iff_not, beq_iff_eq, beq_eq_false_iff_ne, bne_iff_ne, bne_eq_false_iff_eq, Bool.not_eq_true', Bool.not_eq_false', ne_eq, Int.not_lt, Int.not_le, Decidable.not_not] at g27'
        refine run_region ?_
        refine run_q (.none rfl) rfl rfl (q_loadBN rfl agg40 rfl (.there (.there (.there (.there (.there Sel.here))))) (.cons rfl (.cons rfl CellsAt.nil)) rfl) ?_
        refine run_h (.none rfl) (h_storeB rfl rfl sz40 rfl rfl rfl rfl rfl Sel.here rfl) ?_
        rintro - -
        refine run_nil ?_
        refine run_seq ?_
        have hsd : (nth (ordS xs) i).side = -1 := by omega
        have hns : ¬ (nth (ordS xs) i).side = 1 := by omega
        have hta := sgn_bd (b := 1048588) h0.2.1 (x := atS (nth (ordS xs) i) (sl (ordS xs) a b i).2) ⟨by have := hat2; omega, by have := hat2; omega⟩
        rw [hsd] at hta
        have hbB' : spB (nth (ordS xs) i) (sl (ordS xs) a b i).2 = 0 := by rw [rowS_b hns] at hbB; exact hbB
        have hli := spB_zero.1 hbB'
        refine run_draw [(0, 0), (1, 0), (2, 0), (3, 0), (4, 0), (5, 1), (6, 0), (7, 0), (8, 0), (9, 0), (10, 0)] mixed (by kernel_rfl) (Sel.rest (.there (.there Sel.here))) ?_
        refine d_q rfl rfl (.none rfl) rfl rfl (q_loadBN rfl agg40 rfl Sel.here (.cons rfl (.cons rfl CellsAt.nil)) rfl) ?_
        refine d_q rfl rfl (.none rfl) rfl rfl (q_move rfl rfl) ?_
        refine d_q rfl rfl (.none rfl) rfl rfl (q_move rfl rfl) ?_
        refine d_q rfl rfl (.none rfl) rfl rfl (q_indexS (q := i) rfl Try.underlying30 sz25 rfl rfl (.own (.there (.there (.there Sel.here)))) (by rw [List.length_map, ordS_len]) rfl (by omega)) ?_
        refine d_q rfl rfl (.none rfl) rfl rfl (q_loadE rfl agg25 rfl (.own (.there (.there (.there Sel.here)))) (getmap (by rw [ordS_len]; omega)) rfl) ?_
        refine d_h rfl rfl (.none rfl) (h_callX [_] _ rfl rfl rfl call50 (.cons rfl (.cons rfl Evs.nil)) (Sel.perm (.there (.there Sel.here))) (Y := fun _ => atAny [_]) (fun _ _ h => h) (fun w hk hm => hplace_ok (sl (ordS xs) a b i).2 Q cq (-1) n (nth (ordS xs) i) w (by rw [hln.2, hb0]) ((hm.perm (Sel.perm (.there (.there Sel.here)))).give (rs := [_])) hspi (by omega) hbd.2 hli hl6)) (fun _ _ => (.sub (List.sublist_append_right _ _))) ?_
        rintro ⟨v, m⟩ ⟨rfl, rfl⟩
        show RunD _ _ _ _ _ _ _ _ _ _ _ ⟨(35, .tuple #[.int .i64 ((-1) * atS (nth (ordS xs) i) (sl (ordS xs) a b i).2), .bool true]) :: _, _ :: _⟩
        refine d_q rfl rfl (.none rfl) rfl rfl (q_move rfl rfl) ?_
        refine d_q rfl rfl (.none rfl) rfl rfl (q_extract rfl rfl rfl) ?_
        refine d_q rfl rfl (.none rfl) rfl rfl (q_extract rfl rfl rfl) ?_
        refine d_q rfl rfl (.none rfl) rfl rfl (q_assign rfl rfl) ?_
        refine d_q rfl rfl (.none rfl) rfl rfl (q_assign rfl rfl) ?_
        refine d_nil ?_
        refine run_sub (subMk (.cons (s := 0) rfl (.cons (s := 4) rfl (.cons (s := 5) rfl (.cons (s := 6) rfl (.cons (s := 7) rfl (.cons (s := 8) rfl (.cons (s := 9) rfl (.cons (s := 11) rfl (.cons (s := 12) rfl .nil))))))))) .refl) ?_
        refine run_seq ?_
        refine run_seq ?_
        refine run_region ?_
        refine run_q (.none rfl) rfl rfl (q_move rfl rfl) ?_
        refine run_q (.none rfl) rfl rfl (q_not rfl rfl) ?_
        refine run_nil ?_
        refine run_condF rfl rfl ?_
        refine run_skip ?_
        refine run_region ?_
        refine run_q (.none rfl) rfl rfl (q_move rfl rfl) ?_
        refine run_q (.none rfl) rfl rfl (q_move rfl rfl) ?_
        refine run_q (.none rfl) rfl rfl (q_move rfl rfl) ?_
        refine run_q (.none rfl) rfl rfl (q_indexS (q := i) rfl Try.underlying30 sz25 rfl rfl (.own (.there (.there (.there (.there Sel.here))))) (by rw [List.length_map, ordS_len]) rfl (by omega)) ?_
        refine run_q (.none rfl) rfl rfl (q_loadE rfl agg25 rfl (.own (.there (.there (.there (.there Sel.here))))) (getmap (by rw [ordS_len]; omega)) rfl) ?_
        refine run_q (.none rfl) rfl rfl (q_move rfl rfl) ?_
        refine run_q (.none rfl) rfl rfl (q_call rfl call51 (.cons rfl (.cons rfl Evs.nil)) (fun w hk hm => refmark_just (nth (ordS xs) i) ((-1) * atS (nth (ordS xs) i) (sl (ordS xs) a b i).2) w h0.2.1 (by omega) (by omega) ⟨by omega, by omega⟩)) ?_
        refine run_h (.none rfl) (h_buildSlice rfl rfl rfl Try.underlying43 info49 (.cons rfl rfl rfl rfl Parts.nil) rfl (by omega)) ?_
        rintro b47 -
        refine run_h (.none rfl) (h_append rfl rfl rfl Try.underlying43 info49 rfl rfl (.there (.there (.there (.there Sel.here)))) rfl (.own Sel.here) rfl (all1 rfl) (all1 rfl) (by omega) (by omega)) ?_
        rintro ⟨A48, c48⟩ -
        refine run_q (.none rfl) rfl rfl (q_assign rfl rfl) ?_
        refine run_nil ?_
        refine run_sub (subMk (.cons (s := 0) rfl (.cons (s := 4) rfl (.cons (s := 5) rfl (.cons (s := 6) rfl (.cons (s := 7) rfl (.cons (s := 8) rfl (.cons (s := 9) rfl .nil))))))) .refl) ?_
        refine run_blk ?_
        refine run_region ?_
        refine run_q (.none rfl) rfl rfl (q_move rfl rfl) ?_
        refine run_q (.none rfl) rfl rfl (q_add rfl rfl rfl (by omega)) ?_
        refine run_q (.none rfl) rfl rfl (q_assign rfl rfl) ?_
        refine run_nil ?_
        exact run_again (i + 1, A48, c48) (by (try dsimp only); exact ⟨by omega, slEs_next hEs (by rw [rowS_b hns]; exact spB_zero.2 hli)⟩) (by (try dsimp only); omega) (subMk (.cons' (s := 9) rfl (vint (by omega)) (.cons' (s := 8) rfl rfl (.cons (s := 0) rfl (.cons (s := 4) rfl (.cons (s := 5) rfl (.cons (s := 6) rfl (.cons (s := 7) rfl .nil))))))) (.cons (.there (.there (.there (.there Sel.here)))) (.own rfl rfl rfl (by rw [sl_b hns])) (.cons (.there (.there Sel.here)) (.own rfl rfl rfl (by rw [sl_b hns])) (.cons Sel.here (.own rfl rfl rfl (by rw [slMs_next, List.map_append, slM1, rowS_b hns, hsd]; rfl)) (.cons (.there (.there Sel.here)) .refl (.cons (.there (.there Sel.here)) .refl (.cons (.there (.there Sel.here)) .refl .nil)))))))
      · have g27' := g27
        try simp only [decide_eq_true_eq, decide_eq_false_iff_not, beq_iff_eq, beq_eq_false_iff_ne, bne_iff_ne, bne_eq_false_iff_eq, Bool.not_eq_true', Bool.not_eq_false', ne_eq, Int.not_lt, Int.not_le, Decidable.not_not] at g27'
        refine run_skip ?_
        refine run_seq ?_
        have hsd : (nth (ordS xs) i).side = 1 := by omega
        have hta := sgn_bd (b := 1048588) h0.2.1 (x := atS (nth (ordS xs) i) (sl (ordS xs) a b i).1) ⟨by have := hat1; omega, by have := hat1; omega⟩
        rw [hsd] at hta
        have hbB' : spB (nth (ordS xs) i) (sl (ordS xs) a b i).1 = 0 := by rw [rowS_a hsd] at hbB; exact hbB
        have hli := spB_zero.1 hbB'
        refine run_draw [(0, 0), (1, 0), (2, 0), (3, 0), (4, 0), (5, 1), (6, 0), (7, 0), (8, 0), (9, 0), (10, 0)] mixed (by kernel_rfl) (Sel.rest (.there Sel.here)) ?_
        refine d_q rfl rfl (.none rfl) rfl rfl (q_loadBN rfl agg40 rfl Sel.here (.cons rfl (.cons rfl CellsAt.nil)) rfl) ?_
        refine d_q rfl rfl (.none rfl) rfl rfl (q_move rfl rfl) ?_
        refine d_q rfl rfl (.none rfl) rfl rfl (q_move rfl rfl) ?_
        refine d_q rfl rfl (.none rfl) rfl rfl (q_indexS (q := i) rfl Try.underlying30 sz25 rfl rfl (.own (.there (.there (.there Sel.here)))) (by rw [List.length_map, ordS_len]) rfl (by omega)) ?_
        refine d_q rfl rfl (.none rfl) rfl rfl (q_loadE rfl agg25 rfl (.own (.there (.there (.there Sel.here)))) (getmap (by rw [ordS_len]; omega)) rfl) ?_
        refine d_h rfl rfl (.none rfl) (h_callX [_] _ rfl rfl rfl call50 (.cons rfl (.cons rfl Evs.nil)) (Sel.perm (.there Sel.here)) (Y := fun _ => atAny [_]) (fun _ _ h => h) (fun w hk hm => hplace_ok (sl (ordS xs) a b i).1 P cp 1 n (nth (ordS xs) i) w (by rw [hln.1, ha]) ((hm.perm (Sel.perm (.there Sel.here))).give (rs := [_])) hspi (by omega) hbd.1 hli hl6)) (fun _ _ => (.sub (List.sublist_append_right _ _))) ?_
        rintro ⟨v, m⟩ ⟨rfl, rfl⟩
        show RunD _ _ _ _ _ _ _ _ _ _ _ ⟨(35, .tuple #[.int .i64 (1 * atS (nth (ordS xs) i) (sl (ordS xs) a b i).1), .bool true]) :: _, _ :: _⟩
        refine d_q rfl rfl (.none rfl) rfl rfl (q_move rfl rfl) ?_
        refine d_q rfl rfl (.none rfl) rfl rfl (q_extract rfl rfl rfl) ?_
        refine d_q rfl rfl (.none rfl) rfl rfl (q_extract rfl rfl rfl) ?_
        refine d_q rfl rfl (.none rfl) rfl rfl (q_assign rfl rfl) ?_
        refine d_q rfl rfl (.none rfl) rfl rfl (q_assign rfl rfl) ?_
        refine d_nil ?_
        refine run_sub (subMk (.cons (s := 0) rfl (.cons (s := 4) rfl (.cons (s := 5) rfl (.cons (s := 6) rfl (.cons (s := 7) rfl (.cons (s := 8) rfl (.cons (s := 9) rfl (.cons (s := 11) rfl (.cons (s := 12) rfl .nil))))))))) .refl) ?_
        refine run_seq ?_
        refine run_seq ?_
        refine run_region ?_
        refine run_q (.none rfl) rfl rfl (q_move rfl rfl) ?_
        refine run_q (.none rfl) rfl rfl (q_not rfl rfl) ?_
        refine run_nil ?_
        refine run_condF rfl rfl ?_
        refine run_skip ?_
        refine run_region ?_
        refine run_q (.none rfl) rfl rfl (q_move rfl rfl) ?_
        refine run_q (.none rfl) rfl rfl (q_move rfl rfl) ?_
        refine run_q (.none rfl) rfl rfl (q_move rfl rfl) ?_
        refine run_q (.none rfl) rfl rfl (q_indexS (q := i) rfl Try.underlying30 sz25 rfl rfl (.own (.there (.there (.there (.there Sel.here))))) (by rw [List.length_map, ordS_len]) rfl (by omega)) ?_
        refine run_q (.none rfl) rfl rfl (q_loadE rfl agg25 rfl (.own (.there (.there (.there (.there Sel.here))))) (getmap (by rw [ordS_len]; omega)) rfl) ?_
        refine run_q (.none rfl) rfl rfl (q_move rfl rfl) ?_
        refine run_q (.none rfl) rfl rfl (q_call rfl call51 (.cons rfl (.cons rfl Evs.nil)) (fun w hk hm => refmark_just (nth (ordS xs) i) (1 * atS (nth (ordS xs) i) (sl (ordS xs) a b i).1) w h0.2.1 (by omega) (by omega) ⟨by omega, by omega⟩)) ?_
        refine run_h (.none rfl) (h_buildSlice rfl rfl rfl Try.underlying43 info49 (.cons rfl rfl rfl rfl Parts.nil) rfl (by omega)) ?_
        rintro b47 -
        refine run_h (.none rfl) (h_append rfl rfl rfl Try.underlying43 info49 rfl rfl (.there (.there (.there (.there Sel.here)))) rfl (.own Sel.here) rfl (all1 rfl) (all1 rfl) (by omega) (by omega)) ?_
        rintro ⟨A48, c48⟩ -
        refine run_q (.none rfl) rfl rfl (q_assign rfl rfl) ?_
        refine run_nil ?_
        refine run_sub (subMk (.cons (s := 0) rfl (.cons (s := 4) rfl (.cons (s := 5) rfl (.cons (s := 6) rfl (.cons (s := 7) rfl (.cons (s := 8) rfl (.cons (s := 9) rfl .nil))))))) .refl) ?_
        refine run_blk ?_
        refine run_region ?_
        refine run_q (.none rfl) rfl rfl (q_move rfl rfl) ?_
        refine run_q (.none rfl) rfl rfl (q_add rfl rfl rfl (by omega)) ?_
        refine run_q (.none rfl) rfl rfl (q_assign rfl rfl) ?_
        refine run_nil ?_
        exact run_again (i + 1, A48, c48) (by (try dsimp only); exact ⟨by omega, slEs_next hEs (by rw [rowS_a hsd]; exact spB_zero.2 hli)⟩) (by (try dsimp only); omega) (subMk (.cons' (s := 9) rfl (vint (by omega)) (.cons' (s := 8) rfl rfl (.cons (s := 0) rfl (.cons (s := 4) rfl (.cons (s := 5) rfl (.cons (s := 6) rfl (.cons (s := 7) rfl .nil))))))) (.cons (.there (.there Sel.here)) (.own rfl rfl rfl (by rw [sl_a hsd])) (.cons (.there (.there (.there Sel.here))) (.own rfl rfl rfl (by rw [sl_a hsd])) (.cons Sel.here (.own rfl rfl rfl (by rw [slMs_next, List.map_append, slM1, rowS_a hsd, hsd]; rfl)) (.cons (.there (.there Sel.here)) .refl (.cons (.there (.there Sel.here)) .refl (.cons (.there (.there Sel.here)) .refl .nil)))))))
    · refine run_region ?_
      refine run_q (.none rfl) rfl rfl (q_loadBN rfl agg40 rfl (.there (.there (.there (.there (.there Sel.here))))) (.cons rfl (.cons rfl CellsAt.nil)) rfl) ?_
      refine run_h (.none rfl) (h_alloc rfl rfl rfl info40) ?_
      rintro b10 -
      refine run_h (.none rfl) (h_storeB rfl rfl sz40 rfl rfl rfl rfl rfl Sel.here rfl) ?_
      rintro - -
      refine run_nil ?_
      refine run_seq ?_
      refine run_seq ?_
      refine run_region ?_
      refine run_q (.none rfl) rfl rfl (q_move rfl rfl) ?_
      refine run_q (.none rfl) rfl rfl (q_move rfl rfl) ?_
      refine run_q (.none rfl) rfl rfl (q_indexS (q := i) rfl Try.underlying30 sz25 rfl rfl (.own (.there (.there (.there (.there Sel.here))))) (by rw [List.length_map, ordS_len]) rfl (by omega)) ?_
      refine run_q (.none rfl) rfl rfl (q_fieldAddr (d := 3) rfl Try.underlying25 rfl rfl sz3 rfl) ?_
      refine run_q (.none rfl) rfl rfl (q_loadF rfl one3 rfl (.own (.there (.there (.there (.there Sel.here))))) (getmap (by rw [ordS_len]; omega)) rfl) ?_
      refine run_q (.none rfl) rfl rfl (q_lss rfl rfl rfl) ?_
      refine run_nil ?_
      refine run_sub (subMk (.cons (s := 0) rfl (.cons (s := 4) rfl (.cons (s := 5) rfl (.cons (s := 6) rfl (.cons (s := 7) rfl (.cons (s := 8) rfl (.cons (s := 9) rfl (.cons (s := 10) rfl (.cons (s := 27) rfl .nil))))))))) .refl) ?_
      refine run_cond rfl (fun g27 => ?_) (fun g27 => ?_)
      · have g27' := g27
        try simp only [decide_eq_true_eq, decide_eq_false_iff_not, beq_iff_eq, beq_eq_false_iff_ne, bne_iff_ne, bne_eq_false_iff_eq, Bool.not_eq_true', Bool.not_eq_false', ne_eq, Int.not_lt, Int.not_le, Decidable.not_not] at g27'
        refine run_region ?_
        refine run_q (.none rfl) rfl rfl (q_loadBN rfl agg40 rfl (.there (.there (.there (.there (.there Sel.here))))) (.cons rfl (.cons rfl CellsAt.nil)) rfl) ?_
        refine run_h (.none rfl) (h_storeB rfl rfl sz40 rfl rfl rfl rfl rfl Sel.here rfl) ?_
        rintro - -
        refine run_nil ?_
        refine run_seq ?_
        have hsd : (nth (ordS xs) i).side = -1 := by omega
        have hns : ¬ (nth (ordS xs) i).side = 1 := by omega
        have hta := sgn_bd (b := 1048588) h0.2.1 (x := atS (nth (ordS xs) i) (sl (ordS xs) a b i).2) ⟨by have := hat2; omega, by have := hat2; omega⟩
        rw [hsd] at hta
        have hbB' : ¬ spB (nth (ordS xs) i) (sl (ordS xs) a b i).2 = 0 := by rw [rowS_b hns] at hbB; exact hbB
        have hli : 1048576 < atS (nth (ordS xs) i) (sl (ordS xs) a b i).2 + hS (nth (ordS xs) i) := by (by_cases hq : 1048576 < atS (nth (ordS xs) i) (sl (ordS xs) a b i).2 + hS (nth (ordS xs) i); (· exact hq); (· exact absurd (spB_zero.2 hq) hbB'))
        refine run_draw [(0, 0), (1, 0), (2, 0), (3, 0), (4, 0), (5, 1), (6, 0), (7, 0), (8, 0), (9, 0), (10, 0)] mixed (by kernel_rfl) .refl ?_
        refine d_q rfl rfl (.none rfl) rfl rfl (q_loadBN rfl agg40 rfl Sel.here (.cons rfl (.cons rfl CellsAt.nil)) rfl) ?_
        refine d_q rfl rfl (.none rfl) rfl rfl (q_move rfl rfl) ?_
        refine d_q rfl rfl (.none rfl) rfl rfl (q_move rfl rfl) ?_
        refine d_q rfl rfl (.none rfl) rfl rfl (q_indexS (q := i) rfl Try.underlying30 sz25 rfl rfl (.own (.there (.there (.there (.there Sel.here))))) (by rw [List.length_map, ordS_len]) rfl (by omega)) ?_
        refine d_q rfl rfl (.none rfl) rfl rfl (q_loadE rfl agg25 rfl (.own (.there (.there (.there (.there Sel.here))))) (getmap (by rw [ordS_len]; omega)) rfl) ?_
        refine d_h rfl rfl (.none rfl) (h_call rfl rfl rfl call50 (.cons rfl (.cons rfl Evs.nil)) (fun w hk hm => hplace_badR (sl (ordS xs) a b i).2 Q cq (-1) n (nth (ordS xs) i) w (by rw [hln.2, hb0]) (own_rd ((Sel.there (Sel.there Sel.here)).holds hm)) hspi (by omega) hbd.2 hli hl6)) (fun _ _ => (.sub (List.sublist_append_right _ _))) ?_
        rintro ⟨v, m⟩ ⟨rfl, rfl⟩
        show RunD _ _ _ _ _ _ _ _ _ _ _ ⟨(35, .tuple #[.int .i64 0, .bool false]) :: _, _⟩
        refine d_q rfl rfl (.none rfl) rfl rfl (q_move rfl rfl) ?_
        refine d_q rfl rfl (.none rfl) rfl rfl (q_extract rfl rfl rfl) ?_
        refine d_q rfl rfl (.none rfl) rfl rfl (q_extract rfl rfl rfl) ?_
        refine d_q rfl rfl (.none rfl) rfl rfl (q_assign rfl rfl) ?_
        refine d_q rfl rfl (.none rfl) rfl rfl (q_assign rfl rfl) ?_
        refine d_nil ?_
        refine run_sub (subMk (.cons (s := 0) rfl (.cons (s := 4) rfl (.cons (s := 5) rfl (.cons (s := 6) rfl (.cons (s := 7) rfl (.cons (s := 8) rfl (.cons (s := 9) rfl (.cons (s := 11) rfl (.cons (s := 12) rfl .nil))))))))) .refl) ?_
        refine run_seq ?_
        refine run_seq ?_
        refine run_region ?_
        refine run_q (.none rfl) rfl rfl (q_move rfl rfl) ?_
        refine run_q (.none rfl) rfl rfl (q_not rfl rfl) ?_
        refine run_nil ?_
        refine run_condT rfl rfl ?_
        refine run_seq ?_
        refine run_region ?_
        refine run_q (.none rfl) rfl rfl (q_assign rfl rfl) ?_
        refine run_q (.none rfl) rfl rfl (q_assign rfl rfl) ?_
        refine run_nil ?_
        refine run_sub (subMk (.cons (s := 0) rfl (.cons (s := 4) rfl (.cons (s := 5) rfl (.cons (s := 6) rfl (.cons (s := 7) rfl (.cons (s := 8) rfl (.cons (s := 9) rfl (.cons (s := 11) rfl .nil)))))))) .refl) ?_
        refine run_ret ?_
        refine run_sub (subMk .refl .nil) ?_
        exact end2 rfl rfl rfl ⟨rfl, rfl⟩
      · have g27' := g27
        try simp only [decide_eq_true_eq, decide_eq_false_iff_not, beq_iff_eq, beq_eq_false_iff_ne, bne_iff_ne, bne_eq_false_iff_eq, Bool.not_eq_true', Bool.not_eq_false', ne_eq, Int.not_lt, Int.not_le, Decidable.not_not] at g27'
        refine run_skip ?_
        refine run_seq ?_
        have hsd : (nth (ordS xs) i).side = 1 := by omega
        have hta := sgn_bd (b := 1048588) h0.2.1 (x := atS (nth (ordS xs) i) (sl (ordS xs) a b i).1) ⟨by have := hat1; omega, by have := hat1; omega⟩
        rw [hsd] at hta
        have hbB' : ¬ spB (nth (ordS xs) i) (sl (ordS xs) a b i).1 = 0 := by rw [rowS_a hsd] at hbB; exact hbB
        have hli : 1048576 < atS (nth (ordS xs) i) (sl (ordS xs) a b i).1 + hS (nth (ordS xs) i) := by (by_cases hq : 1048576 < atS (nth (ordS xs) i) (sl (ordS xs) a b i).1 + hS (nth (ordS xs) i); (· exact hq); (· exact absurd (spB_zero.2 hq) hbB'))
        refine run_draw [(0, 0), (1, 0), (2, 0), (3, 0), (4, 0), (5, 1), (6, 0), (7, 0), (8, 0), (9, 0), (10, 0)] mixed (by kernel_rfl) .refl ?_
        refine d_q rfl rfl (.none rfl) rfl rfl (q_loadBN rfl agg40 rfl Sel.here (.cons rfl (.cons rfl CellsAt.nil)) rfl) ?_
        refine d_q rfl rfl (.none rfl) rfl rfl (q_move rfl rfl) ?_
        refine d_q rfl rfl (.none rfl) rfl rfl (q_move rfl rfl) ?_
        refine d_q rfl rfl (.none rfl) rfl rfl (q_indexS (q := i) rfl Try.underlying30 sz25 rfl rfl (.own (.there (.there (.there (.there Sel.here))))) (by rw [List.length_map, ordS_len]) rfl (by omega)) ?_
        refine d_q rfl rfl (.none rfl) rfl rfl (q_loadE rfl agg25 rfl (.own (.there (.there (.there (.there Sel.here))))) (getmap (by rw [ordS_len]; omega)) rfl) ?_
        refine d_h rfl rfl (.none rfl) (h_call rfl rfl rfl call50 (.cons rfl (.cons rfl Evs.nil)) (fun w hk hm => hplace_badR (sl (ordS xs) a b i).1 P cp 1 n (nth (ordS xs) i) w (by rw [hln.1, ha]) (own_rd ((Sel.there Sel.here).holds hm)) hspi (by omega) hbd.1 hli hl6)) (fun _ _ => (.sub (List.sublist_append_right _ _))) ?_
        rintro ⟨v, m⟩ ⟨rfl, rfl⟩
        show RunD _ _ _ _ _ _ _ _ _ _ _ ⟨(35, .tuple #[.int .i64 0, .bool false]) :: _, _⟩
        refine d_q rfl rfl (.none rfl) rfl rfl (q_move rfl rfl) ?_
        refine d_q rfl rfl (.none rfl) rfl rfl (q_extract rfl rfl rfl) ?_
        refine d_q rfl rfl (.none rfl) rfl rfl (q_extract rfl rfl rfl) ?_
        refine d_q rfl rfl (.none rfl) rfl rfl (q_assign rfl rfl) ?_
        refine d_q rfl rfl (.none rfl) rfl rfl (q_assign rfl rfl) ?_
        refine d_nil ?_
        refine run_sub (subMk (.cons (s := 0) rfl (.cons (s := 4) rfl (.cons (s := 5) rfl (.cons (s := 6) rfl (.cons (s := 7) rfl (.cons (s := 8) rfl (.cons (s := 9) rfl (.cons (s := 11) rfl (.cons (s := 12) rfl .nil))))))))) .refl) ?_
        refine run_seq ?_
        refine run_seq ?_
        refine run_region ?_
        refine run_q (.none rfl) rfl rfl (q_move rfl rfl) ?_
        refine run_q (.none rfl) rfl rfl (q_not rfl rfl) ?_
        refine run_nil ?_
        refine run_condT rfl rfl ?_
        refine run_seq ?_
        refine run_region ?_
        refine run_q (.none rfl) rfl rfl (q_assign rfl rfl) ?_
        refine run_q (.none rfl) rfl rfl (q_assign rfl rfl) ?_
        refine run_nil ?_
        refine run_sub (subMk (.cons (s := 0) rfl (.cons (s := 4) rfl (.cons (s := 5) rfl (.cons (s := 6) rfl (.cons (s := 7) rfl (.cons (s := 8) rfl (.cons (s := 9) rfl (.cons (s := 11) rfl .nil)))))))) .refl) ?_
        refine run_ret ?_
        refine run_sub (subMk .refl .nil) ?_
        exact end2 rfl rfl rfl ⟨rfl, rfl⟩
  · have g18' := g18
    try simp only [decide_eq_true_eq, decide_eq_false_iff_not, beq_iff_eq, beq_eq_false_iff_ne, bne_iff_ne, bne_eq_false_iff_eq, Bool.not_eq_true', Bool.not_eq_false', ne_eq, Int.not_lt, Int.not_le, Decidable.not_not] at g18'
    refine run_exit rfl ?_
    refine run_sub (subMk (.cons (s := 6) rfl (.cons (s := 7) rfl (.cons (s := 8) rfl .nil))) .refl) ?_
    refine run_seq ?_
    exact absurd (by rw [← show i = xs.length from by omega]; exact hEs) hE0

end Go.Proofs.Ytomhegnaojejnaa
