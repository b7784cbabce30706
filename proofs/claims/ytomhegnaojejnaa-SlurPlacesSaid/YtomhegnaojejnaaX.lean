/- The reference's errors, marks and comparison. -/
import Derived.Test.YtomhegnaojejnaaV
import Derived.Test.YtomhegnaojejnaaRef
set_option linter.unusedSimpArgs false
set_option linter.unusedVariables false
namespace Go.Proofs.Ytomhegnaojejnaa
open Go Go.RowKit Hr

theorem call52 : Hr.Callable Try.prog 52 := fun args w => by kernel_rfl
theorem built49p0p1p2p3p4p6 (x0y : Int) (x1y : Int) (x2y : Int) (x3y : Int) (x4y : Int) (x6y0 : Int) (x6y1 : Int) : Try.prog.built 49 [(0, .int .i64 x0y), (1, .int .i64 x1y), (2, .int .i64 x2y), (3, .int .i64 x3y), (4, .int .i64 x4y), (6, .agg #[.int .i64 x6y0, .int .i64 x6y1])] = some #[.int .i64 x0y, .int .i64 x1y, .int .i64 x2y, .int .i64 x3y, .int .i64 x4y, .int .i64 0, .int .i64 x6y0, .int .i64 x6y1, .int .i64 0, .int .i64 0, .int .i64 0, .int .i64 0] := by kernel_rfl
theorem agg49 : Hr.Agg Try.prog 49 12 := ⟨fun w => by simp [isAgg, run_underlying Try.underlying49], Hr.Sz.of (by kernel_rfl)⟩

set_option maxRecDepth 100000 in
theorem first_just (l : List Spn) (A : Option Addr) (ca : Nat) (n : Int) (W : World) (hr : Rd W A 12 (l.map Spn.enc)) (hl : l.length ≤ 100000) : Calls Try.prog 22 #[.slice A l.length ca, .int .i64 n] W (Hr.Just W (.int .i64 (spsE n l))) := by
  refine Just.of_ret ?_
  refine enterA (X := nX) (vs := [.slice A l.length ca, .int .i64 n]) Try.func22 Try.ntmps22 rfl rfl Mem.nil ?_
  refine run_seq ?_
  refine run_region ?_
  refine run_q (.none rfl) rfl rfl (q_assign rfl rfl) ?_
  refine run_nil ?_
  refine run_seq ?_
  refine run_seq ?_
  refine run_region ?_
  refine run_q (.none rfl) rfl rfl (q_assign rfl rfl) ?_
  refine run_nil ?_
  refine run_block ?_
  refine run_sub (subMk (.cons (s := 5) rfl (.cons (s := 0) rfl (.cons (s := 1) rfl (.cons (s := 4) rfl .nil)))) .nil) ?_
  refine run_loopC1M0 (ι := Nat) (fun k => k ≤ l.length ∧ spsE n l = spsE n (l.drop k)) (fun k => .int .i64 (k : Int))  (fun k => l.length - k) 0 (by (try dsimp only); exact ⟨by omega, rfl⟩) rfl  ?_
  rintro k hq
  (try dsimp only at hq)
  obtain ⟨hk, hE⟩ := hq
  show Run _ _ _ _ _ _ _ ⟨(5, .int .i64 (k : Int)) :: _, _⟩
  refine run_seq ?_
  refine run_seq ?_
  refine run_region ?_
  refine run_q (.none rfl) rfl rfl (q_move rfl rfl) ?_
  refine run_q (.none rfl) rfl rfl (q_move rfl rfl) ?_
  refine run_q (.none rfl) rfl rfl (q_len rfl Try.underlying30 rfl) ?_
  refine run_q (.none rfl) rfl rfl (q_lss rfl rfl rfl) ?_
  refine run_nil ?_
  refine run_sub (subMk (.cons (s := 0) rfl (.cons (s := 1) rfl (.cons (s := 4) rfl (.cons (s := 5) rfl (.cons (s := 10) rfl .nil))))) .refl) ?_
  refine run_cond rfl (fun g10 => ?_) (fun g10 => ?_)
  · have g10' := g10
    try simp only [decide_eq_true_eq, decide_eq_false_iff_not, beq_iff_eq, beq_eq_false_iff_ne, bne_iff_ne, bne_eq_false_iff_eq, Bool.not_eq_true', Bool.not_eq_false', ne_eq, Int.not_lt, Int.not_le, Decidable.not_not] at g10'
    have hkl : k < l.length := by omega
    have hst := spsE_step (n := n) (xs := l) (i := k) hkl
    refine run_skip ?_
    refine run_seq ?_
    refine run_block ?_
    refine run_seq ?_
    refine run_region ?_
    refine run_q (.none rfl) rfl rfl (q_move rfl rfl) ?_
    refine run_q (.none rfl) rfl rfl (q_move rfl rfl) ?_
    refine run_q (.none rfl) rfl rfl (q_indexS (q := k) rfl Try.underlying30 sz25 rfl rfl (.inp hr .no) (by simp <;> omega) rfl (by omega)) ?_
    refine run_q (.none rfl) rfl rfl (q_loadE rfl agg25 rfl (.inp hr .no) (getmap (by omega)) rfl) ?_
    refine run_q (.none rfl) rfl rfl (q_move rfl rfl) ?_
    refine run_q (.none rfl) rfl rfl (q_call rfl call14 (.cons rfl (.cons rfl Evs.nil)) (fun w hk hm => wrong_just (nth l k) n w)) ?_
    refine run_q (.none rfl) rfl rfl (q_assign rfl rfl) ?_
    refine run_nil ?_
    refine run_sub (subMk (.cons (s := 0) rfl (.cons (s := 1) rfl (.cons (s := 4) rfl (.cons (s := 5) rfl (.cons (s := 6) rfl .nil))))) .refl) ?_
    refine run_seq ?_
    refine run_region ?_
    refine run_q (.none rfl) rfl rfl (q_move rfl rfl) ?_
    refine run_q (.none rfl) rfl rfl (q_neq rfl rfl rfl) ?_
    refine run_nil ?_
    refine run_cond rfl (fun g20 => ?_) (fun g20 => ?_)
    · have g20' := g20
      try simp only [decide_eq_true_eq, decide_eq_false_iff_not, beq_iff_eq, beq_eq_false_iff_ne, bne_iff_ne, bne_eq_false_iff_eq, Bool.not_eq_true', Bool.not_eq_false', ne_eq, Int.not_lt, Int.not_le, Decidable.not_not] at g20'
      refine run_seq ?_
      refine run_region ?_
      refine run_q (.none rfl) rfl rfl (q_move rfl rfl) ?_
      refine run_q (.none rfl) rfl rfl (q_assign rfl rfl) ?_
      refine run_nil ?_
      refine run_sub (subMk (.cons (s := 0) rfl (.cons (s := 1) rfl (.cons (s := 4) rfl (.cons (s := 5) rfl .nil)))) .refl) ?_
      refine run_ret ?_
      exact end1 rfl rfl (by rw [hE, hst, if_neg g20'])
    · have g20' := g20
      try simp only [decide_eq_true_eq, decide_eq_false_iff_not, beq_iff_eq, beq_eq_false_iff_ne, bne_iff_ne, bne_eq_false_iff_eq, Bool.not_eq_true', Bool.not_eq_false', ne_eq, Int.not_lt, Int.not_le, Decidable.not_not] at g20'
      refine run_skip ?_
      refine run_blk ?_
      refine run_region ?_
      refine run_q (.none rfl) rfl rfl (q_move rfl rfl) ?_
      refine run_q (.none rfl) rfl rfl (q_add rfl rfl rfl (by omega)) ?_
      refine run_q (.none rfl) rfl rfl (q_assign rfl rfl) ?_
      refine run_nil ?_
      refine run_sub (subMk (.cons (s := 0) rfl (.cons (s := 1) rfl (.cons (s := 4) rfl (.cons (s := 5) rfl .nil)))) .refl) ?_
      exact run_again (k + 1) (by (try dsimp only); exact ⟨by omega, by rw [hE, hst, if_pos (by omega)]⟩) (by (try dsimp only); omega) (subMk (.cons' (s := 5) rfl (vint (by omega)) (.cons (s := 0) rfl (.cons (s := 1) rfl (.cons (s := 4) rfl .nil)))) .nil)
  · have g10' := g10
    try simp only [decide_eq_true_eq, decide_eq_false_iff_not, beq_iff_eq, beq_eq_false_iff_ne, bne_iff_ne, bne_eq_false_iff_eq, Bool.not_eq_true', Bool.not_eq_false', ne_eq, Int.not_lt, Int.not_le, Decidable.not_not] at g10'
    refine run_exit rfl ?_
    refine run_sub (subMk (.cons (s := 4) rfl .nil) .refl) ?_
    refine run_seq ?_
    refine run_region ?_
    refine run_q (.none rfl) rfl rfl (q_assign rfl rfl) ?_
    refine run_nil ?_
    refine run_ret ?_
    exact end1 rfl rfl (by rw [hE, List.drop_eq_nil_of_le (by omega)]; rfl)

set_option maxHeartbeats 1000000 in
set_option maxRecDepth 100000 in
theorem is_just (o : List Int) (p : Nat) (A : Option Addr) (c : Nat) (t : Int) (n : Nat) (P : Option Addr) (cp : Nat) (s0 : Int) (W : World) (hon : o.length = n) (hb : Rd W (some ⟨p, 0, none⟩) 2 [[.int .i64 t, .slice A n c]]) (hr : Rd W A 1 (o.map encI)) (hq : Rd W P 1 ((sgL t o).map encI)) (hc : o.length ≤ c) (hl6 : o.length ≤ 65536) (hbd : Bd o) (ht : t = 1 ∨ t = -1) : Calls Try.prog 24 #[.agg #[.int .i64 s0, .slice P n cp], .pointer (some ((adr (some ⟨p, 0, none⟩)).add (0 * 2)))] W (Hr.Just W (.bool true)) := by
  refine Just.of_ret ?_
  refine enterA (X := nX) (vs := [.agg #[.int .i64 s0, .slice P n cp], .pointer (some ((adr (some ⟨p, 0, none⟩)).add (0 * 2)))]) Try.func24 Try.ntmps24 rfl rfl Mem.nil ?_
  refine run_seq ?_
  refine run_region ?_
  refine run_h (.none rfl) (h_box rfl rfl rfl rfl rfl) ?_
  rintro b2 -
  refine run_q (.none rfl) rfl rfl (q_assign rfl rfl) ?_
  refine run_nil ?_
  refine run_seq ?_
  refine run_seq ?_
  refine run_region ?_
  refine run_q (.none rfl) rfl rfl (q_assign rfl rfl) ?_
  refine run_nil ?_
  refine run_block ?_
  refine run_sub (subMk (.cons (s := 5) rfl (.cons (s := 1) rfl (.cons (s := 2) rfl (.cons (s := 4) rfl .nil)))) (.cons Sel.here .refl .nil)) ?_
  refine run_loopC1M0 (ι := Nat) (fun k => k ≤ n) (fun k => .int .i64 (k : Int))  (fun k => n - k) 0 (by (try dsimp only); exact (by omega)) rfl  ?_
  rintro k hk
  (try dsimp only at hk)
  show Run _ _ _ _ _ _ _ ⟨(5, .int .i64 (k : Int)) :: _, _⟩
  refine run_seq ?_
  refine run_seq ?_
  refine run_region ?_
  refine run_q (.none rfl) rfl rfl (q_move rfl rfl) ?_
  refine run_q (.none rfl) rfl rfl (q_fieldB (d := 1) rfl Try.underlying40 rfl rfl sz38 rfl) ?_
  refine run_q (.none rfl) rfl rfl (q_loadB rfl one38 rfl Sel.here rfl) ?_
  refine run_q (.none rfl) rfl rfl (q_len rfl Try.underlying38 rfl) ?_
  refine run_q (.none rfl) rfl rfl (q_lss rfl rfl rfl) ?_
  refine run_nil ?_
  refine run_sub (subMk (.cons (s := 1) rfl (.cons (s := 2) rfl (.cons (s := 4) rfl (.cons (s := 5) rfl (.cons (s := 12) rfl .nil))))) .refl) ?_
  refine run_cond rfl (fun g12 => ?_) (fun g12 => ?_)
  · have g12' := g12
    try simp only [decide_eq_true_eq, decide_eq_false_iff_not, beq_iff_eq, beq_eq_false_iff_ne, bne_iff_ne, bne_eq_false_iff_eq, Bool.not_eq_true', Bool.not_eq_false', ne_eq, Int.not_lt, Int.not_le, Decidable.not_not] at g12'
    refine run_skip ?_
    refine run_seq ?_
    refine run_block ?_
    refine run_seq ?_
    refine run_region ?_
    refine run_q (.none rfl) rfl rfl (q_move rfl rfl) ?_
    refine run_q (.none rfl) rfl rfl (q_move rfl rfl) ?_
    refine run_q (.none rfl) rfl rfl (q_call rfl call52 (.cons rfl (.cons rfl Evs.nil)) (fun w hk hm => at_just o p A c t n (k : Int) w hon (hb.kept0 hk) (hr.kept0 hk) ⟨by omega, by omega⟩ hc hl6 hbd ht)) ?_
    refine run_q (.none rfl) rfl rfl (q_move rfl rfl) ?_
    refine run_q (.none rfl) rfl rfl (q_extract rfl rfl rfl) ?_
    refine run_q (.none rfl) rfl rfl (q_extract rfl rfl rfl) ?_
    refine run_q (.none rfl) rfl rfl (q_assign rfl rfl) ?_
    refine run_q (.none rfl) rfl rfl (q_assign rfl rfl) ?_
    refine run_nil ?_
    refine run_sub (subMk (.cons (s := 1) rfl (.cons (s := 2) rfl (.cons (s := 4) rfl (.cons (s := 5) rfl (.cons (s := 6) rfl (.cons (s := 7) rfl .nil)))))) .refl) ?_
    refine run_seq ?_
    refine run_region ?_
    refine run_q (.none rfl) rfl rfl (q_move rfl rfl) ?_
    refine run_q (.none rfl) rfl rfl (q_neq rfl rfl rfl) ?_
    refine run_q (.none rfl) rfl rfl (q_move rfl rfl) ?_
    refine run_q (.on rfl rfl rfl rfl) rfl rfl (q_move rfl rfl) ?_
    refine run_q (.on rfl rfl rfl rfl) rfl rfl (q_fieldB (d := 1) rfl Try.underlying40 rfl rfl sz38 rfl) ?_
    refine run_q (.on rfl rfl rfl rfl) rfl rfl (q_loadB rfl one38 rfl Sel.here rfl) ?_
    refine run_q (.on rfl rfl rfl rfl) rfl rfl (q_move rfl rfl) ?_
    refine run_q (.on rfl rfl rfl rfl) rfl rfl (q_indexS (q := k) rfl Try.underlying38 sz3 rfl rfl (.inp hq .no) (by rw [List.length_map, sgL_len, hon]) rfl (by omega)) ?_
    refine run_q (.on rfl rfl rfl rfl) rfl rfl (q_loadC rfl one3 rfl (.inp hq .no) (getmap (by rw [sgL_len]; omega))) ?_
    refine run_q (.on rfl rfl rfl rfl) rfl rfl (q_neq rfl rfl rfl) ?_
    refine run_q (.none rfl) rfl rfl (q_pickF rfl rfl rfl rfl) ?_
    refine run_nil ?_
    refine run_sub (subMk (.cons (s := 1) rfl (.cons (s := 2) rfl (.cons (s := 4) rfl (.cons (s := 5) rfl (.cons (s := 31) rfl .nil))))) .refl) ?_
    refine run_condF rfl (by rw [sgL_nth]; simp) ?_
    refine run_skip ?_
    refine run_blk ?_
    refine run_region ?_
    refine run_q (.none rfl) rfl rfl (q_move rfl rfl) ?_
    refine run_q (.none rfl) rfl rfl (q_add rfl rfl rfl (by omega)) ?_
    refine run_q (.none rfl) rfl rfl (q_assign rfl rfl) ?_
    refine run_nil ?_
    refine run_sub (subMk (.cons (s := 1) rfl (.cons (s := 2) rfl (.cons (s := 4) rfl (.cons (s := 5) rfl .nil)))) .refl) ?_
    exact run_again (k + 1) (by (try dsimp only); exact (by omega)) (by (try dsimp only); omega) (subMk (.cons' (s := 5) rfl (vint (by omega)) (.cons (s := 1) rfl (.cons (s := 2) rfl (.cons (s := 4) rfl .nil)))) (.cons Sel.here .refl .nil))
  · have g12' := g12
    try simp only [decide_eq_true_eq, decide_eq_false_iff_not, beq_iff_eq, beq_eq_false_iff_ne, bne_iff_ne, bne_eq_false_iff_eq, Bool.not_eq_true', Bool.not_eq_false', ne_eq, Int.not_lt, Int.not_le, Decidable.not_not] at g12'
    refine run_exit rfl ?_
    refine run_seq ?_
    refine run_draw [(0, 0), (1, 0), (2, 0), (3, 0), (4, 0), (5, 0), (6, 0)] mixed (by kernel_rfl) .refl ?_
    refine d_q rfl rfl (.none rfl) rfl rfl (q_move rfl rfl) ?_
    refine d_q rfl rfl (.none rfl) rfl rfl (q_call rfl call44 (.cons rfl Evs.nil) (fun w hk hm => cols_just o p A c t n w hon (hb.kept0 hk))) ?_
    refine d_q rfl rfl (.none rfl) rfl rfl (q_fieldB (d := 1) rfl Try.underlying40 rfl rfl sz38 rfl) ?_
    refine d_q rfl rfl (.none rfl) rfl rfl (q_loadB rfl one38 rfl Sel.here rfl) ?_
    refine d_q rfl rfl (.none rfl) rfl rfl (q_len rfl Try.underlying38 rfl) ?_
    refine d_q rfl rfl (.none rfl) rfl rfl (q_eql rfl rfl rfl) ?_
    refine d_q rfl rfl (.none rfl) rfl rfl (q_assign rfl rfl) ?_
    refine d_nil ?_
    refine run_sub (subMk (.cons (s := 4) rfl .nil) .refl) ?_
    refine run_ret ?_
    exact end1 rfl rfl (by simp)

set_option maxHeartbeats 1000000 in
set_option maxRecDepth 100000 in
theorem refmark_just (x : Spn) (e : Int) (W : World) (ht : x.side = 1 ∨ x.side = -1) (hf : x.fst ≤ 9223372036854775807) (hl : x.lst ≤ 9223372036854775807) (he : -1000000000 ≤ e ∧ e ≤ 1000000000) : Calls Try.prog 51 #[x.val, .int .i64 e] W (Hr.Just W ((mkS x e).val)) := by
  have hb := hgtS_bd (f := x.fst) (l := x.lst)
  have hsb := sgn_bd (b := 128) ht (x := hgtS x.fst x.lst) ⟨by omega, by omega⟩
  refine Just.of_ret ?_
  refine enterA (X := nX) (vs := [x.val, .int .i64 e]) Try.func51 Try.ntmps51 rfl rfl Mem.nil ?_
  refine run_seq ?_
  refine run_region ?_
  refine run_h (.none rfl) (h_box rfl rfl rfl rfl rfl) ?_
  rintro b2 -
  refine run_h (.none rfl) (h_alloc rfl rfl rfl info49) ?_
  rintro b4 -
  refine run_nil ?_
  refine run_seq ?_
  refine run_region ?_
  refine run_q (.none rfl) rfl rfl (q_fieldB (d := 0) rfl Try.underlying25 rfl rfl sz3 rfl) ?_
  refine run_q (.none rfl) rfl rfl (q_loadB rfl one3 rfl (.there Sel.here) rfl) ?_
  refine run_q (.none rfl) rfl rfl (q_fieldB (d := 1) rfl Try.underlying25 rfl rfl sz3 rfl) ?_
  refine run_q (.none rfl) rfl rfl (q_loadB rfl one3 rfl (.there Sel.here) rfl) ?_
  refine run_q (.none rfl) rfl rfl (q_fieldB (d := 2) rfl Try.underlying25 rfl rfl sz3 rfl) ?_
  refine run_q (.none rfl) rfl rfl (q_loadB rfl one3 rfl (.there Sel.here) rfl) ?_
  refine run_q (.none rfl) rfl rfl (q_fieldB (d := 6) rfl Try.underlying25 rfl rfl sz3 rfl) ?_
  refine run_q (.none rfl) rfl rfl (q_loadB rfl one3 rfl (.there Sel.here) rfl) ?_
  refine run_q (.none rfl) rfl rfl (q_fieldB (d := 7) rfl Try.underlying25 rfl rfl sz3 rfl) ?_
  refine run_q (.none rfl) rfl rfl (q_loadB rfl one3 rfl (.there Sel.here) rfl) ?_
  refine run_q (.none rfl) rfl rfl (q_fieldB (d := 4) rfl Try.underlying25 rfl rfl sz23 rfl) ?_
  refine run_q (.none rfl) rfl rfl (q_loadBN rfl agg23 rfl (.there Sel.here) (.cons rfl (.cons rfl CellsAt.nil)) rfl) ?_
  refine run_q (.none rfl) rfl rfl (q_build rfl (.cons rfl (.cons rfl (.cons rfl (.cons rfl (.cons rfl (.cons rfl PV.nil)))))) (built49p0p1p2p3p4p6 _ _ _ _ _ _ _)) ?_
  refine run_h (.none rfl) (h_alloc rfl rfl rfl info49) ?_
  rintro b5 -
  refine run_h (.none rfl) (h_storeB rfl rfl sz49 rfl rfl rfl rfl rfl Sel.here rfl) ?_
  rintro - -
  refine run_nil ?_
  refine run_sub (subMk (.cons (s := 1) rfl (.cons (s := 2) rfl (.cons (s := 4) rfl (.cons (s := 5) rfl .nil)))) .refl) ?_
  refine run_seq ?_
  refine run_draw [(0, 0), (1, 0), (2, 0), (3, 0), (4, 0), (5, 0), (6, 0), (7, 0), (8, 0), (9, 0), (10, 0)] mixed (by kernel_rfl) .refl ?_
  refine d_q rfl rfl (.none rfl) rfl rfl (q_move rfl rfl) ?_
  refine d_q rfl rfl (.none rfl) rfl rfl (q_fieldB (d := 3) rfl Try.underlying25 rfl rfl sz3 rfl) ?_
  refine d_q rfl rfl (.none rfl) rfl rfl (q_loadB rfl one3 rfl (.there (.there Sel.here)) rfl) ?_
  refine d_q rfl rfl (.none rfl) rfl rfl (q_fieldB (d := 6) rfl Try.underlying25 rfl rfl sz3 rfl) ?_
  refine d_q rfl rfl (.none rfl) rfl rfl (q_loadB rfl one3 rfl (.there (.there Sel.here)) rfl) ?_
  refine d_q rfl rfl (.none rfl) rfl rfl (q_fieldB (d := 7) rfl Try.underlying25 rfl rfl sz3 rfl) ?_
  refine d_q rfl rfl (.none rfl) rfl rfl (q_loadB rfl one3 rfl (.there (.there Sel.here)) rfl) ?_
  refine d_q rfl rfl (.none rfl) rfl rfl (q_call rfl call18 (.cons rfl (.cons rfl Evs.nil)) (fun w hk hm => refheight_just x.fst x.lst w hf hl)) ?_
  refine d_q rfl rfl (.none rfl) rfl rfl (q_mul rfl rfl rfl (by omega)) ?_
  refine d_q rfl rfl (.none rfl) rfl rfl (q_add rfl rfl rfl (by omega)) ?_
  refine d_q rfl rfl (.none rfl) rfl rfl (q_assign rfl rfl) ?_
  refine d_nil ?_
  refine run_sub (subMk (.cons (s := 1) rfl (.cons (s := 4) rfl (.cons (s := 5) rfl (.cons (s := 6) rfl .nil)))) .refl) ?_
  refine run_seq ?_
  refine run_region ?_
  refine run_q (.none rfl) rfl rfl (q_move rfl rfl) ?_
  refine run_q (.none rfl) rfl rfl (q_move rfl rfl) ?_
  refine run_q (.none rfl) rfl rfl (q_min2 rfl rfl rfl) ?_
  refine run_q (.none rfl) rfl rfl (q_move rfl rfl) ?_
  refine run_q (.none rfl) rfl rfl (q_move rfl rfl) ?_
  refine run_q (.none rfl) rfl rfl (q_max2 rfl rfl rfl) ?_
  refine run_q (.none rfl) rfl rfl (q_build rfl (.cons rfl (.cons rfl PV.nil)) (built47p1p3 _ _)) ?_
  refine run_q (.none rfl) rfl rfl (q_fieldB (d := 8) rfl Try.underlying49 rfl rfl sz47 rfl) ?_
  refine run_h (.none rfl) (h_storeB rfl rfl sz47 rfl rfl rfl rfl rfl Sel.here rfl) ?_
  rintro - -
  refine run_nil ?_
  refine run_sub (subMk (.cons (s := 4) rfl (.cons (s := 5) rfl .nil)) .refl) ?_
  refine run_seq ?_
  refine run_region ?_
  refine run_q (.none rfl) rfl rfl (q_loadBN rfl agg49 rfl Sel.here (.cons rfl (.cons rfl (.cons rfl (.cons rfl (.cons rfl (.cons rfl (.cons rfl (.cons rfl (.cons rfl (.cons rfl (.cons rfl (.cons rfl CellsAt.nil)))))))))))) rfl) ?_
  refine run_h (.none rfl) (h_storeB rfl rfl sz49 rfl rfl rfl rfl rfl (.there Sel.here) rfl) ?_
  rintro - -
  refine run_nil ?_
  refine run_ret ?_
  exact endG rfl (.cellN rfl agg49 Sel.here (.cons rfl (.cons rfl (.cons rfl (.cons rfl (.cons rfl (.cons rfl (.cons rfl (.cons rfl (.cons rfl (.cons rfl (.cons rfl (.cons rfl CellsAt.nil)))))))))))) rfl Outs.nil) _ .nil (mark_val ht)

end Go.Proofs.Ytomhegnaojejnaa
