/- The alignment of proper notes. -/
import Derived.Test.YtbkmmjpklkallaaA
import Derived.Test.YtbkmmjpklkallaaTab
set_option linter.unusedSimpArgs false
set_option linter.unusedVariables false
namespace Go.Proofs.Ytbkmmjpklkallaa
open Go Go.RowKit Hr

theorem info72 : Hr.Info Try.prog 72 [.slice none 0 0] 1 24 := Hr.Info.of (by kernel_rfl)
theorem info3 : Hr.Info Try.prog 3 [.int .i64 0] 1 8 := Hr.Info.of (by kernel_rfl)
theorem sz72 : Hr.Sz Try.prog 72 1 := Hr.Sz.of (by kernel_rfl)
theorem one72 : Hr.One Try.prog 72 := ⟨fun w => by simp [isAgg, run_underlying Try.underlying72], Hr.Sz.of (by kernel_rfl)⟩
theorem agg26 : Hr.Agg Try.prog 26 5 := ⟨fun w => by simp [isAgg, run_underlying Try.underlying26], Hr.Sz.of (by kernel_rfl)⟩
theorem call41 : Hr.Callable Try.prog 41 := fun args w => by kernel_rfl
theorem call43 : Hr.Callable Try.prog 43 := fun args w => by kernel_rfl
theorem built40p0p1p2 (x0y : Int) (x1y : Int) (x2y : Int) : Try.prog.built 40 [(0, .int .i64 x0y), (1, .int .i64 x1y), (2, .int .i64 x2y)] = some #[.int .i64 x0y, .int .i64 x1y, .int .i64 x2y] := by kernel_rfl
theorem info40 : Hr.Info Try.prog 40 [.int .i64 0, .int .i64 0, .int .i64 0] 3 24 := Hr.Info.of (by kernel_rfl)

theorem join_just (c : Cost) (a b : Note) (W : World) (hc : CostOk c) (ha : NoteOk a) (hb : NoteOk b) : Calls Try.prog 41 #[c.val, a.val, b.val] W (Hr.Just W (.int .i64 (joinV c a b))) := by
  have hl := hc.l
  have hw := hc.w
  unfold NoteOk at ha hb
  have h1 := mul_bd hc.t (y := min c.late (max (a.on - b.on) (b.on - a.on))) (by omega)
  refine Just.of_ret ?_
  refine enterA (X := nX) (vs := [c.val, a.val, b.val]) Try.func41 Try.ntmps41 rfl rfl Mem.nil ?_
  refine run_seq ?_
  refine run_region ?_
  refine run_h (.none rfl) (h_box rfl rfl rfl rfl rfl) ?_
  rintro b3 -
  refine run_h (.none rfl) (h_box rfl rfl rfl rfl rfl) ?_
  rintro b4 -
  refine run_h (.none rfl) (h_box rfl rfl rfl rfl rfl) ?_
  rintro b5 -
  refine run_q (.none rfl) rfl rfl (q_assign rfl rfl) ?_
  refine run_nil ?_
  refine run_seq ?_
  refine run_region ?_
  refine run_q (.none rfl) rfl rfl (q_fieldB (d := 3) rfl Try.underlying26 rfl rfl sz3 rfl) ?_
  refine run_q (.none rfl) rfl rfl (q_loadB rfl one3 rfl (.there (.there Sel.here)) rfl) ?_
  refine run_q (.none rfl) rfl rfl (q_fieldB (d := 4) rfl Try.underlying26 rfl rfl sz3 rfl) ?_
  refine run_q (.none rfl) rfl rfl (q_loadB rfl one3 rfl (.there (.there Sel.here)) rfl) ?_
  refine run_q (.none rfl) rfl rfl (q_fieldB (d := 0) rfl Try.underlying47 rfl rfl sz3 rfl) ?_
  refine run_q (.none rfl) rfl rfl (q_loadB rfl one3 rfl (.there Sel.here) rfl) ?_
  refine run_q (.none rfl) rfl rfl (q_fieldB (d := 0) rfl Try.underlying47 rfl rfl sz3 rfl) ?_
  refine run_q (.none rfl) rfl rfl (q_loadB rfl one3 rfl Sel.here rfl) ?_
  refine run_q (.none rfl) rfl rfl (q_sub rfl rfl rfl (by omega)) ?_
  refine run_q (.none rfl) rfl rfl (q_fieldB (d := 0) rfl Try.underlying47 rfl rfl sz3 rfl) ?_
  refine run_q (.none rfl) rfl rfl (q_loadB rfl one3 rfl Sel.here rfl) ?_
  refine run_q (.none rfl) rfl rfl (q_fieldB (d := 0) rfl Try.underlying47 rfl rfl sz3 rfl) ?_
  refine run_q (.none rfl) rfl rfl (q_loadB rfl one3 rfl (.there Sel.here) rfl) ?_
  refine run_q (.none rfl) rfl rfl (q_sub rfl rfl rfl (by omega)) ?_
  refine run_q (.none rfl) rfl rfl (q_max2 rfl rfl rfl) ?_
  refine run_q (.none rfl) rfl rfl (q_min2 rfl rfl rfl) ?_
  refine run_q (.none rfl) rfl rfl (q_mul rfl rfl rfl (by omega)) ?_
  refine run_q (.none rfl) rfl rfl (q_quo rfl rfl rfl (by omega)) ?_
  refine run_q (.none rfl) rfl rfl (q_assign rfl rfl) ?_
  refine run_nil ?_
  refine run_sub (subMk (.cons (s := 3) rfl (.cons (s := 4) rfl (.cons (s := 5) rfl (.cons (s := 6) rfl (.cons (s := 7) rfl .nil))))) .refl) ?_
  refine run_seq ?_
  refine run_seq ?_
  refine run_region ?_
  refine run_q (.none rfl) rfl rfl (q_fieldB (d := 2) rfl Try.underlying47 rfl rfl sz3 rfl) ?_
  refine run_q (.none rfl) rfl rfl (q_loadB rfl one3 rfl (.there Sel.here) rfl) ?_
  refine run_q (.none rfl) rfl rfl (q_fieldB (d := 2) rfl Try.underlying47 rfl rfl sz3 rfl) ?_
  refine run_q (.none rfl) rfl rfl (q_loadB rfl one3 rfl Sel.here rfl) ?_
  refine run_q (.none rfl) rfl rfl (q_neq rfl rfl rfl) ?_
  refine run_nil ?_
  refine run_sub (subMk (.cons (s := 3) rfl (.cons (s := 6) rfl (.cons (s := 7) rfl (.cons (s := 30) rfl .nil)))) .refl) ?_
  refine run_cond rfl (fun g30 => ?_) (fun g30 => ?_)
  · have g30' := g30
    try simp only [decide_eq_true_eq, decide_eq_false_iff_not, beq_iff_eq, beq_eq_false_iff_ne, bne_iff_ne, bne_eq_false_iff_eq, Bool.not_eq_true', Bool.not_eq_false', ne_eq, Int.not_lt, Int.not_le, Decidable.not_not] at g30'
    refine run_region ?_
    refine run_q (.none rfl) rfl rfl (q_move rfl rfl) ?_
    refine run_q (.none rfl) rfl rfl (q_fieldB (d := 0) rfl Try.underlying26 rfl rfl sz3 rfl) ?_
    refine run_q (.none rfl) rfl rfl (q_loadB rfl one3 rfl (.there (.there Sel.here)) rfl) ?_
    refine run_q (.none rfl) rfl rfl (q_add rfl rfl rfl (by omega)) ?_
    refine run_q (.none rfl) rfl rfl (q_assign rfl rfl) ?_
    refine run_nil ?_
    refine run_sub (subMk (.cons (s := 6) rfl (.cons (s := 7) rfl .nil)) .refl) ?_
    refine run_seq ?_
    refine run_region ?_
    refine run_q (.none rfl) rfl rfl (q_move rfl rfl) ?_
    refine run_q (.none rfl) rfl rfl (q_assign rfl rfl) ?_
    refine run_nil ?_
    refine run_ret ?_
    exact end1 rfl rfl (vint (by simp only [joinV]; split <;> simp_all))
  · have g30' := g30
    try simp only [decide_eq_true_eq, decide_eq_false_iff_not, beq_iff_eq, beq_eq_false_iff_ne, bne_iff_ne, bne_eq_false_iff_eq, Bool.not_eq_true', Bool.not_eq_false', ne_eq, Int.not_lt, Int.not_le, Decidable.not_not] at g30'
    refine run_skip ?_
    refine run_seq ?_
    refine run_region ?_
    refine run_q (.none rfl) rfl rfl (q_move rfl rfl) ?_
    refine run_q (.none rfl) rfl rfl (q_assign rfl rfl) ?_
    refine run_nil ?_
    refine run_sub (subMk (.cons (s := 6) rfl .nil) .refl) ?_
    refine run_ret ?_
    exact end1 rfl rfl (vint (by simp only [joinV]; split <;> simp_all))

theorem align_ret (c : Cost) (a b : List Note) (A B : Option Addr) (ca cb : Nat) (W : World) (hra : Rd W A 7 (a.map Note.enc)) (hrb : Rd W B 7 (b.map Note.enc)) (hc : CostOk c) (hna : ∀ p ∈ a, NoteOk p) (hnb : ∀ p ∈ b, NoteOk p) (hla : a.length ≤ 1024) (hlb : b.length ≤ 1024) : Calls Try.prog 38 #[.slice A a.length ca, .slice B b.length cb, c.val] W (Ret W nX (fun v m => ∃ A' c', v = .tuple #[.slice A' (path c a b 0 0).length c', .int .i64 (best c a b)] ∧ m = [.own 40 3 A' (path c a b 0 0).length c' ((path c a b 0 0).map Pair.enc)])) := by
  refine enterA (X := nX) (vs := [.slice A a.length ca, .slice B b.length cb, c.val]) Try.func38 Try.ntmps38 rfl rfl Mem.nil ?_
  refine run_seq ?_
  refine run_region ?_
  refine run_h (.none rfl) (h_box rfl rfl rfl rfl rfl) ?_
  rintro b5 -
  refine run_q (.none rfl) rfl rfl (q_assign rfl rfl) ?_
  refine run_q (.none rfl) rfl rfl (q_assign rfl rfl) ?_
  refine run_nil ?_
  refine run_seq ?_
  refine run_region ?_
  refine run_q (.none rfl) rfl rfl (q_move rfl rfl) ?_
  refine run_q (.none rfl) rfl rfl (q_len rfl Try.underlying22 rfl) ?_
  refine run_q (.none rfl) rfl rfl (q_add rfl rfl rfl (by omega)) ?_
  refine run_h (.none rfl) (h_make (m := (a.length + 1)) (cap := (a.length + 1)) rfl rfl rfl Try.underlying73 info72 rfl rfl (by omega) (by omega) (by omega)) ?_
  rintro b18 -
  refine run_q (.none rfl) rfl rfl (q_assign rfl rfl) ?_
  refine run_nil ?_
  refine run_sub (subMk (.cons (s := 0) rfl (.cons (s := 1) rfl (.cons (s := 5) rfl (.cons (s := 6) rfl (.cons (s := 7) rfl (.cons (s := 8) rfl .nil)))))) .refl) ?_
  refine run_seq ?_
  refine run_seq ?_
  refine run_region ?_
  refine run_q (.none rfl) rfl rfl (q_move rfl rfl) ?_
  refine run_q (.none rfl) rfl rfl (q_len rfl Try.underlying22 rfl) ?_
  refine run_q (.none rfl) rfl rfl (q_assign rfl rfl) ?_
  refine run_nil ?_
  refine run_block ?_
  refine run_sub (subMk .refl MemSub.sepNil) ?_
  refine run_sub (subMk (.cons (s := 9) rfl (.cons (s := 0) rfl (.cons (s := 1) rfl (.cons (s := 5) rfl (.cons (s := 6) rfl (.cons (s := 7) rfl (.cons (s := 8) rfl .nil))))))) (.cons (.there Sel.here) .refl (.cons Sel.here .refl (.cons Sel.here .refl .nil)))) ?_
  refine run_loopC1M2 (ι := Nat × (List Nat)) (fun gg => gg.1 ≤ a.length + 1 ∧ gg.2.length + gg.1 = a.length + 1) (fun gg => .int .i64 ((gg.1 : Int) - 1)) (fun gg => .own 72 1 (some ⟨b18, 0, none⟩) (a.length + 1) (a.length + 1) (outerL a.length b.length gg.2)) (fun gg => .sep (rowsR c a b gg.2)) (fun gg => gg.1) (a.length + 1, []) (by (try dsimp only); exact ⟨by omega, by simp⟩) (vint (by (try dsimp only); omega)) (.own rfl rfl rfl (outerL_nil _ _).symm) .refl ?_
  rintro ⟨j, gs⟩ hq
  (try dsimp only at hq)
  obtain ⟨hj1, hgs⟩ := hq
  show Run _ _ _ _ _ _ _ ⟨(9, .int .i64 ((j : Int) - 1)) :: _, .own 72 1 (some ⟨b18, 0, none⟩) (a.length + 1) (a.length + 1) (outerL a.length b.length gs) :: .sep (rowsR c a b gs) :: _⟩
  refine run_seq ?_
  refine run_seq ?_
  refine run_region ?_
  refine run_q (.none rfl) rfl rfl (q_move rfl rfl) ?_
  refine run_q (.none rfl) rfl rfl (q_geq rfl rfl rfl) ?_
  refine run_nil ?_
  refine run_cond rfl (fun g22 => ?_) (fun g22 => ?_)
  · have g22' := g22
    try simp only [decide_eq_true_eq, decide_eq_false_iff_not, beq_iff_eq, beq_eq_false_iff_ne, bne_iff_ne, bne_eq_false_iff_eq, Bool.not_eq_true', Bool.not_eq_false', ne_eq, Int.not_lt, Int.not_le, Decidable.not_not] at g22'
    obtain ⟨i, rfl⟩ : ∃ i, j = i + 1 := ⟨j - 1, by omega⟩
    refine run_skip ?_
    refine run_seq ?_
    refine run_block ?_
    refine run_seq ?_
    refine run_sub (subMk (.cons' (s := 9) (v' := .int .i64 (i : Int)) rfl (vint (by omega)) (.cons (s := 0) rfl (.cons (s := 1) rfl (.cons (s := 5) rfl (.cons (s := 6) rfl (.cons (s := 7) rfl (.cons (s := 8) rfl (.cons (s := 21) rfl (.cons (s := 22) rfl .nil))))))))) .refl) ?_
    refine run_region ?_
    refine run_q (.none rfl) rfl rfl (q_move rfl rfl) ?_
    refine run_q (.none rfl) rfl rfl (q_move rfl rfl) ?_
    refine run_q (.none rfl) rfl rfl (q_move rfl rfl) ?_
    refine run_q (.none rfl) rfl rfl (q_len rfl Try.underlying22 rfl) ?_
    refine run_q (.none rfl) rfl rfl (q_add rfl rfl rfl (by omega)) ?_
    refine run_h (.none rfl) (h_make (m := (b.length + 1)) (cap := (b.length + 1)) rfl rfl rfl Try.underlying72 info3 rfl rfl (by omega) (by omega) (by omega)) ?_
    rintro b30 -
    refine run_q (.none rfl) rfl rfl (q_indexS (q := i) rfl Try.underlying73 sz72 rfl rfl (.own (.there Sel.here)) (outerL_len (by omega)) (by omega) (by omega)) ?_
    refine run_h (.none rfl) (h_storeE rfl rfl sz72 rfl rfl rfl rfl rfl (.there Sel.here) (by omega)) ?_
    rintro - -
    refine run_nil ?_
    refine run_sub (subMk (.cons (s := 0) rfl (.cons (s := 1) rfl (.cons (s := 5) rfl (.cons (s := 6) rfl (.cons (s := 7) rfl (.cons (s := 8) rfl (.cons (s := 9) rfl .nil))))))) .refl) ?_
    refine run_seq ?_
    refine run_region ?_
    refine run_q (.none rfl) rfl rfl (q_move rfl rfl) ?_
    refine run_q (.none rfl) rfl rfl (q_len rfl Try.underlying22 rfl) ?_
    refine run_q (.none rfl) rfl rfl (q_assign rfl rfl) ?_
    refine run_nil ?_
    refine run_block ?_
    refine run_sub (subMk (.cons (s := 10) rfl (.cons (s := 0) rfl (.cons (s := 1) rfl (.cons (s := 5) rfl (.cons (s := 6) rfl (.cons (s := 7) rfl (.cons (s := 8) rfl (.cons (s := 9) rfl .nil)))))))) (.cons Sel.here .refl (.cons Sel.here .refl (.cons Sel.here .refl (.cons Sel.here .refl .nil))))) ?_
    refine run_loopC1M2 (ι := Nat) (fun s => s ≤ b.length + 1) (fun s => .int .i64 ((b.length : Int) - s)) (fun s => .own 72 1 (some ⟨b18, 0, none⟩) (a.length + 1) (a.length + 1) (outerL a.length b.length (b30 :: gs))) (fun s => .own 3 1 (some ⟨b30, 0, none⟩) (b.length + 1) (b.length + 1) ((rowPart c (a.drop i) b s).map encI)) (fun s => b.length + 1 - s) 0 (by (try dsimp only); exact (by omega)) (vint (by (try dsimp only); omega)) (.own rfl rfl rfl (outerL_set (by omega))) (.own rfl rfl rfl (rowPart_zero _ _ _).symm) ?_
    rintro s hs
    (try dsimp only at hs)
    show Run _ _ _ _ _ _ _ ⟨(10, .int .i64 ((b.length : Int) - s)) :: _, .own 72 1 (some ⟨b18, 0, none⟩) (a.length + 1) (a.length + 1) (outerL a.length b.length (b30 :: gs)) :: .own 3 1 (some ⟨b30, 0, none⟩) (b.length + 1) (b.length + 1) ((rowPart c (a.drop i) b s).map encI) :: _⟩
    refine run_seq ?_
    refine run_seq ?_
    refine run_region ?_
    refine run_q (.none rfl) rfl rfl (q_move rfl rfl) ?_
    refine run_q (.none rfl) rfl rfl (q_geq rfl rfl rfl) ?_
    refine run_nil ?_
    refine run_cond rfl (fun g35 => ?_) (fun g35 => ?_)
    · have g35' := g35
      try simp only [decide_eq_true_eq, decide_eq_false_iff_not, beq_iff_eq, beq_eq_false_iff_ne, bne_iff_ne, bne_eq_false_iff_eq, Bool.not_eq_true', Bool.not_eq_false', ne_eq, Int.not_lt, Int.not_le, Decidable.not_not] at g35'
      obtain ⟨k, hk⟩ : ∃ k, k + s = b.length := ⟨b.length - s, by omega⟩
      have hcur := outerL_cur (n := a.length) (m := b.length) (g := b30) hgs
      have hbel := fun h => outerL_bel (n := a.length) (m := b.length) (g := b30) hgs h
      have hbelR := fun h => rowsR_bel (c := c) (b := b) hgs h
      have hb1 := best_drop_bd hc hla hlb (i + 1) (k + 1)
      have hb2 := best_drop_bd hc hla hlb (i + 1) k
      have hb3 := best_drop_bd hc hla hlb i (k + 1)
      have hb4 := best_drop_bd hc hla hlb i k
      have hj := joinV_bd hc (nth a i) (nth b k)
      have hm := hc.m
      have he := hc.e
      refine run_skip ?_
      refine run_seq ?_
      refine run_block ?_
      refine run_block ?_
      refine run_seq ?_
      refine run_sub (subMk (.cons' (s := 10) (v' := .int .i64 (k : Int)) rfl (vint (by omega)) (.cons (s := 0) rfl (.cons (s := 1) rfl (.cons (s := 5) rfl (.cons (s := 6) rfl (.cons (s := 7) rfl (.cons (s := 8) rfl (.cons (s := 9) rfl (.cons (s := 34) rfl (.cons (s := 35) rfl .nil)))))))))) .refl) ?_
      refine run_region ?_
      refine run_q (.none rfl) rfl rfl (q_move rfl rfl) ?_
      refine run_q (.none rfl) rfl rfl (q_move rfl rfl) ?_
      refine run_q (.none rfl) rfl rfl (q_len rfl Try.underlying22 rfl) ?_
      refine run_q (.none rfl) rfl rfl (q_eql rfl rfl rfl) ?_
      refine run_q (.none rfl) rfl rfl (q_assign rfl rfl) ?_
      refine run_nil ?_
      refine run_sub (subMk (.cons (s := 0) rfl (.cons (s := 1) rfl (.cons (s := 5) rfl (.cons (s := 6) rfl (.cons (s := 7) rfl (.cons (s := 8) rfl (.cons (s := 9) rfl (.cons (s := 10) rfl (.cons (s := 87) rfl .nil))))))))) .refl) ?_
      refine run_cond rfl (fun g87 => ?_) (fun g87 => ?_)
      · have g87' := g87
        try simp only [decide_eq_true_eq, decide_eq_false_iff_not, beq_iff_eq, beq_eq_false_iff_ne, bne_iff_ne, bne_eq_false_iff_eq, Bool.not_eq_true', Bool.not_eq_false', ne_eq, Int.not_lt, Int.not_le, Decidable.not_not] at g87'
        refine run_draw [(0, 0), (1, 0), (2, 0), (3, 0), (4, 0), (5, 0), (6, 0), (7, 0), (8, 0), (9, 0), (10, 0), (11, 0), (12, 0), (13, 2)] mixed (by kernel_rfl) .refl ?_
        refine d_q rfl rfl (.none rfl) rfl rfl (q_move rfl rfl) ?_
        refine d_q rfl rfl (.none rfl) rfl rfl (q_move rfl rfl) ?_
        refine d_q rfl rfl (.none rfl) rfl rfl (q_indexS (q := i) rfl Try.underlying73 sz72 rfl rfl (.own Sel.here) (outerL_len (by simp; omega)) rfl (by omega)) ?_
        refine d_q rfl rfl (.none rfl) rfl rfl (q_loadC rfl one72 rfl (.own Sel.here) hcur) ?_
        refine d_q rfl rfl (.none rfl) rfl rfl (q_move rfl rfl) ?_
        refine d_q rfl rfl (.none rfl) rfl rfl (q_move rfl rfl) ?_
        refine d_q rfl rfl (.none rfl) rfl rfl (q_len rfl Try.underlying22 rfl) ?_
        refine d_q rfl rfl (.none rfl) rfl rfl (q_move rfl rfl) ?_
        refine d_q rfl rfl (.none rfl) rfl rfl (q_sub rfl rfl rfl (by omega)) ?_
        refine d_q rfl rfl (.none rfl) rfl rfl (q_fieldB (d := 2) rfl Try.underlying26 rfl rfl sz3 rfl) ?_
        refine d_q rfl rfl (.none rfl) rfl rfl (q_loadB rfl one3 rfl (.there (.there (.there Sel.here))) rfl) ?_
        refine d_q rfl rfl (.none rfl) rfl rfl (q_mul rfl rfl rfl (by have := mul_sm (x := (b.length : Int) - k) (y := c.extra) (by omega) (by omega); omega)) ?_
        refine d_q rfl rfl (.none rfl) rfl rfl (q_indexS (q := k) rfl Try.underlying72 sz3 rfl rfl (.own (.there Sel.here)) (by simp [rowPart]) rfl (by omega)) ?_
        refine d_t rfl rfl (.none rfl) (h_storeE rfl rfl sz3 rfl rfl rfl rfl rfl (.there Sel.here) (by omega)) ?_
        rintro - -
        refine d_nil ?_
        refine run_sub (subMk (.cons (s := 0) rfl (.cons (s := 1) rfl (.cons (s := 5) rfl (.cons (s := 6) rfl (.cons (s := 7) rfl (.cons (s := 8) rfl (.cons (s := 9) rfl (.cons (s := 10) rfl .nil)))))))) .refl) ?_
        refine run_blk ?_
        refine run_blk ?_
        refine run_region ?_
        refine run_q (.none rfl) rfl rfl (q_move rfl rfl) ?_
        refine run_q (.none rfl) rfl rfl (q_sub rfl rfl rfl (by omega)) ?_
        refine run_q (.none rfl) rfl rfl (q_assign rfl rfl) ?_
        refine run_nil ?_
        exact run_again (s + 1) (by (try dsimp only); exact (by omega)) (by (try dsimp only); omega) (subMk (.cons' (s := 10) rfl (vint (by omega)) (.cons (s := 0) rfl (.cons (s := 1) rfl (.cons (s := 5) rfl (.cons (s := 6) rfl (.cons (s := 7) rfl (.cons (s := 8) rfl (.cons (s := 9) rfl .nil)))))))) (.cons (.there Sel.here) .refl (.cons Sel.here (.own rfl rfl rfl (rowPart_set (k := k) (by omega) (by omega) ((best_right (by omega) (by omega)).symm))) (.cons Sel.here .refl (.cons Sel.here .refl .nil)))))
      · have g87' := g87
        try simp only [decide_eq_true_eq, decide_eq_false_iff_not, beq_iff_eq, beq_eq_false_iff_ne, bne_iff_ne, bne_eq_false_iff_eq, Bool.not_eq_true', Bool.not_eq_false', ne_eq, Int.not_lt, Int.not_le, Decidable.not_not] at g87'
        refine run_seq ?_
        refine run_region ?_
        refine run_q (.none rfl) rfl rfl (q_move rfl rfl) ?_
        refine run_q (.none rfl) rfl rfl (q_move rfl rfl) ?_
        refine run_q (.none rfl) rfl rfl (q_len rfl Try.underlying22 rfl) ?_
        refine run_q (.none rfl) rfl rfl (q_eql rfl rfl rfl) ?_
        refine run_q (.none rfl) rfl rfl (q_assign rfl rfl) ?_
        refine run_nil ?_
        refine run_sub (subMk (.cons (s := 0) rfl (.cons (s := 1) rfl (.cons (s := 5) rfl (.cons (s := 6) rfl (.cons (s := 7) rfl (.cons (s := 8) rfl (.cons (s := 9) rfl (.cons (s := 10) rfl (.cons (s := 105) rfl .nil))))))))) .refl) ?_
        refine run_cond rfl (fun g105 => ?_) (fun g105 => ?_)
        · have g105' := g105
          try simp only [decide_eq_true_eq, decide_eq_false_iff_not, beq_iff_eq, beq_eq_false_iff_ne, bne_iff_ne, bne_eq_false_iff_eq, Bool.not_eq_true', Bool.not_eq_false', ne_eq, Int.not_lt, Int.not_le, Decidable.not_not] at g105'
          refine run_draw [(0, 0), (1, 0), (2, 0), (3, 0), (4, 0), (5, 0), (6, 0), (7, 0), (8, 0), (9, 0), (10, 0), (11, 0), (12, 0), (13, 2)] mixed (by kernel_rfl) .refl ?_
          refine d_q rfl rfl (.none rfl) rfl rfl (q_move rfl rfl) ?_
          refine d_q rfl rfl (.none rfl) rfl rfl (q_move rfl rfl) ?_
          refine d_q rfl rfl (.none rfl) rfl rfl (q_indexS (q := i) rfl Try.underlying73 sz72 rfl rfl (.own Sel.here) (outerL_len (by simp; omega)) rfl (by omega)) ?_
          refine d_q rfl rfl (.none rfl) rfl rfl (q_loadC rfl one72 rfl (.own Sel.here) hcur) ?_
          refine d_q rfl rfl (.none rfl) rfl rfl (q_move rfl rfl) ?_
          refine d_q rfl rfl (.none rfl) rfl rfl (q_move rfl rfl) ?_
          refine d_q rfl rfl (.none rfl) rfl rfl (q_len rfl Try.underlying22 rfl) ?_
          refine d_q rfl rfl (.none rfl) rfl rfl (q_move rfl rfl) ?_
          refine d_q rfl rfl (.none rfl) rfl rfl (q_sub rfl rfl rfl (by omega)) ?_
          refine d_q rfl rfl (.none rfl) rfl rfl (q_fieldB (d := 1) rfl Try.underlying26 rfl rfl sz3 rfl) ?_
          refine d_q rfl rfl (.none rfl) rfl rfl (q_loadB rfl one3 rfl (.there (.there (.there Sel.here))) rfl) ?_
          refine d_q rfl rfl (.none rfl) rfl rfl (q_mul rfl rfl rfl (by have := mul_sm (x := (a.length : Int) - i) (y := c.missing) (by omega) (by omega); omega)) ?_
          refine d_q rfl rfl (.none rfl) rfl rfl (q_indexS (q := k) rfl Try.underlying72 sz3 rfl rfl (.own (.there Sel.here)) (by simp [rowPart]) rfl (by omega)) ?_
          refine d_t rfl rfl (.none rfl) (h_storeE rfl rfl sz3 rfl rfl rfl rfl rfl (.there Sel.here) (by omega)) ?_
          rintro - -
          refine d_nil ?_
          refine run_sub (subMk (.cons (s := 0) rfl (.cons (s := 1) rfl (.cons (s := 5) rfl (.cons (s := 6) rfl (.cons (s := 7) rfl (.cons (s := 8) rfl (.cons (s := 9) rfl (.cons (s := 10) rfl .nil)))))))) .refl) ?_
          refine run_blk ?_
          refine run_blk ?_
          refine run_region ?_
          refine run_q (.none rfl) rfl rfl (q_move rfl rfl) ?_
          refine run_q (.none rfl) rfl rfl (q_sub rfl rfl rfl (by omega)) ?_
          refine run_q (.none rfl) rfl rfl (q_assign rfl rfl) ?_
          refine run_nil ?_
          exact run_again (s + 1) (by (try dsimp only); exact (by omega)) (by (try dsimp only); omega) (subMk (.cons' (s := 10) rfl (vint (by omega)) (.cons (s := 0) rfl (.cons (s := 1) rfl (.cons (s := 5) rfl (.cons (s := 6) rfl (.cons (s := 7) rfl (.cons (s := 8) rfl (.cons (s := 9) rfl .nil)))))))) (.cons (.there Sel.here) .refl (.cons Sel.here (.own rfl rfl rfl (rowPart_set (k := k) (by omega) (by omega) ((best_down (by omega) (by omega)).symm))) (.cons Sel.here .refl (.cons Sel.here .refl .nil)))))
        · have g105' := g105
          try simp only [decide_eq_true_eq, decide_eq_false_iff_not, beq_iff_eq, beq_eq_false_iff_ne, bne_iff_ne, bne_eq_false_iff_eq, Bool.not_eq_true', Bool.not_eq_false', ne_eq, Int.not_lt, Int.not_le, Decidable.not_not] at g105'
          refine run_draw [(0, 0), (1, 0), (2, 0), (3, 0), (4, 0), (5, 0), (6, 0), (7, 0), (8, 0), (9, 0), (10, 0), (11, 0), (12, 0), (13, 0), (14, 0), (15, 0), (16, 0), (17, 0), (18, 0), (19, 0), (20, 0), (21, 0), (22, 0), (23, 0), (24, 0), (25, 0), (26, 0), (27, 0), (28, 0), (29, 0), (30, 0), (31, 0), (32, 0), (33, 0), (34, 0), (35, 0), (36, 0), (37, 0), (38, 0), (39, 0), (40, 0), (41, 0), (42, 0), (43, 0), (44, 0), (45, 0), (46, 0), (47, 0), (48, 0), (49, 2)] mixed (by kernel_rfl) .refl ?_
          refine d_q rfl rfl (.none rfl) rfl rfl (q_move rfl rfl) ?_
          refine d_q rfl rfl (.none rfl) rfl rfl (q_move rfl rfl) ?_
          refine d_q rfl rfl (.none rfl) rfl rfl (q_indexS (q := i) rfl Try.underlying73 sz72 rfl rfl (.own Sel.here) (outerL_len (by simp; omega)) rfl (by omega)) ?_
          refine d_q rfl rfl (.none rfl) rfl rfl (q_loadC rfl one72 rfl (.own Sel.here) hcur) ?_
          refine d_q rfl rfl (.none rfl) rfl rfl (q_move rfl rfl) ?_
          refine d_q rfl rfl (.none rfl) rfl rfl (q_loadBN rfl agg26 rfl (.there (.there (.there Sel.here))) (.cons rfl (.cons rfl (.cons rfl (.cons rfl (.cons rfl CellsAt.nil))))) rfl) ?_
          refine d_q rfl rfl (.none rfl) rfl rfl (q_move rfl rfl) ?_
          refine d_q rfl rfl (.none rfl) rfl rfl (q_move rfl rfl) ?_
          refine d_q rfl rfl (.none rfl) rfl rfl (q_indexS (q := i) rfl Try.underlying22 sz47 rfl rfl (.inp hra .no) (by simp <;> omega) rfl (by omega)) ?_
          refine d_q rfl rfl (.none rfl) rfl rfl (q_loadE rfl agg47 rfl (.inp hra .no) (getmap (by omega)) rfl) ?_
          refine d_q rfl rfl (.none rfl) rfl rfl (q_move rfl rfl) ?_
          refine d_q rfl rfl (.none rfl) rfl rfl (q_move rfl rfl) ?_
          refine d_q rfl rfl (.none rfl) rfl rfl (q_indexS (q := k) rfl Try.underlying22 sz47 rfl rfl (.inp hrb .no) (by simp <;> omega) rfl (by omega)) ?_
          refine d_q rfl rfl (.none rfl) rfl rfl (q_loadE rfl agg47 rfl (.inp hrb .no) (getmap (by omega)) rfl) ?_
          refine d_q rfl rfl (.none rfl) rfl rfl (q_call rfl call41 (.cons rfl (.cons rfl (.cons rfl Evs.nil))) (fun w hk hm => join_just c (nth a i) (nth b k) w hc (noteOk_nth hna (by omega)) (noteOk_nth hnb (by omega)))) ?_
          refine d_q rfl rfl (.none rfl) rfl rfl (q_move rfl rfl) ?_
          refine d_q rfl rfl (.none rfl) rfl rfl (q_move rfl rfl) ?_
          refine d_q rfl rfl (.none rfl) rfl rfl (q_add rfl rfl rfl (by omega)) ?_
          refine d_q rfl rfl (.none rfl) rfl rfl (q_indexS (q := (i + 1)) rfl Try.underlying73 sz72 rfl rfl (.own Sel.here) (outerL_len (by simp; omega)) rfl (by omega)) ?_
          refine d_q rfl rfl (.none rfl) rfl rfl (q_loadC rfl one72 rfl (.own Sel.here) (hbel (by omega))) ?_
          refine d_q rfl rfl (.none rfl) rfl rfl (q_move rfl rfl) ?_
          refine d_q rfl rfl (.none rfl) rfl rfl (q_add rfl rfl rfl (by omega)) ?_
          refine d_q rfl rfl (.none rfl) rfl rfl (q_indexS (q := (k + 1)) rfl Try.underlying72 sz3 rfl rfl (.sepOwn (.there (.there Sel.here)) (hbelR (by omega))) (by simp [rowV]) rfl (by omega)) ?_
          refine d_q rfl rfl (.none rfl) rfl rfl (q_loadC rfl one3 rfl (.sepOwn (.there (.there Sel.here)) (hbelR (by omega))) (rowV_get (by omega))) ?_
          refine d_q rfl rfl (.none rfl) rfl rfl (q_add rfl rfl rfl (by omega)) ?_
          refine d_q rfl rfl (.none rfl) rfl rfl (q_fieldB (d := 1) rfl Try.underlying26 rfl rfl sz3 rfl) ?_
          refine d_q rfl rfl (.none rfl) rfl rfl (q_loadB rfl one3 rfl (.there (.there (.there Sel.here))) rfl) ?_
          refine d_q rfl rfl (.none rfl) rfl rfl (q_move rfl rfl) ?_
          refine d_q rfl rfl (.none rfl) rfl rfl (q_move rfl rfl) ?_
          refine d_q rfl rfl (.none rfl) rfl rfl (q_add rfl rfl rfl (by omega)) ?_
          refine d_q rfl rfl (.none rfl) rfl rfl (q_indexS (q := (i + 1)) rfl Try.underlying73 sz72 rfl rfl (.own Sel.here) (outerL_len (by simp; omega)) rfl (by omega)) ?_
          refine d_q rfl rfl (.none rfl) rfl rfl (q_loadC rfl one72 rfl (.own Sel.here) (hbel (by omega))) ?_
          refine d_q rfl rfl (.none rfl) rfl rfl (q_move rfl rfl) ?_
          refine d_q rfl rfl (.none rfl) rfl rfl (q_indexS (q := k) rfl Try.underlying72 sz3 rfl rfl (.sepOwn (.there (.there Sel.here)) (hbelR (by omega))) (by simp [rowV]) rfl (by omega)) ?_
          refine d_q rfl rfl (.none rfl) rfl rfl (q_loadC rfl one3 rfl (.sepOwn (.there (.there Sel.here)) (hbelR (by omega))) (rowV_get (by omega))) ?_
          refine d_q rfl rfl (.none rfl) rfl rfl (q_add rfl rfl rfl (by omega)) ?_
          refine d_q rfl rfl (.none rfl) rfl rfl (q_fieldB (d := 2) rfl Try.underlying26 rfl rfl sz3 rfl) ?_
          refine d_q rfl rfl (.none rfl) rfl rfl (q_loadB rfl one3 rfl (.there (.there (.there Sel.here))) rfl) ?_
          refine d_q rfl rfl (.none rfl) rfl rfl (q_move rfl rfl) ?_
          refine d_q rfl rfl (.none rfl) rfl rfl (q_move rfl rfl) ?_
          refine d_q rfl rfl (.none rfl) rfl rfl (q_indexS (q := i) rfl Try.underlying73 sz72 rfl rfl (.own Sel.here) (outerL_len (by simp; omega)) rfl (by omega)) ?_
          refine d_q rfl rfl (.none rfl) rfl rfl (q_loadC rfl one72 rfl (.own Sel.here) hcur) ?_
          refine d_q rfl rfl (.none rfl) rfl rfl (q_move rfl rfl) ?_
          refine d_q rfl rfl (.none rfl) rfl rfl (q_add rfl rfl rfl (by omega)) ?_
          refine d_q rfl rfl (.none rfl) rfl rfl (q_indexS (q := (k + 1)) rfl Try.underlying72 sz3 rfl rfl (.own (.there Sel.here)) (by simp [rowPart]) rfl (by omega)) ?_
          refine d_q rfl rfl (.none rfl) rfl rfl (q_loadC rfl one3 rfl (.own (.there Sel.here)) (rowPart_get (by omega) (by omega))) ?_
          refine d_q rfl rfl (.none rfl) rfl rfl (q_add rfl rfl rfl (by omega)) ?_
          refine d_q rfl rfl (.none rfl) rfl rfl (q_min3 rfl rfl rfl rfl) ?_
          refine d_q rfl rfl (.none rfl) rfl rfl (q_indexS (q := k) rfl Try.underlying72 sz3 rfl rfl (.own (.there Sel.here)) (by simp [rowPart]) rfl (by omega)) ?_
          refine d_t rfl rfl (.none rfl) (h_storeE rfl rfl sz3 rfl rfl rfl rfl rfl (.there Sel.here) (by omega)) ?_
          rintro - -
          refine d_nil ?_
          refine run_sub (subMk (.cons (s := 0) rfl (.cons (s := 1) rfl (.cons (s := 5) rfl (.cons (s := 6) rfl (.cons (s := 7) rfl (.cons (s := 8) rfl (.cons (s := 9) rfl (.cons (s := 10) rfl .nil)))))))) .refl) ?_
          refine run_blk ?_
          refine run_blk ?_
          refine run_region ?_
          refine run_q (.none rfl) rfl rfl (q_move rfl rfl) ?_
          refine run_q (.none rfl) rfl rfl (q_sub rfl rfl rfl (by omega)) ?_
          refine run_q (.none rfl) rfl rfl (q_assign rfl rfl) ?_
          refine run_nil ?_
          exact run_again (s + 1) (by (try dsimp only); exact (by omega)) (by (try dsimp only); omega) (subMk (.cons' (s := 10) rfl (vint (by omega)) (.cons (s := 0) rfl (.cons (s := 1) rfl (.cons (s := 5) rfl (.cons (s := 6) rfl (.cons (s := 7) rfl (.cons (s := 8) rfl (.cons (s := 9) rfl .nil)))))))) (.cons (.there Sel.here) .refl (.cons Sel.here (.own rfl rfl rfl (rowPart_set (k := k) (by omega) (by omega) ((best_both (by omega) (by omega)).symm))) (.cons Sel.here .refl (.cons Sel.here .refl .nil)))))
    · have g35' := g35
      try simp only [decide_eq_true_eq, decide_eq_false_iff_not, beq_iff_eq, beq_eq_false_iff_ne, bne_iff_ne, bne_eq_false_iff_eq, Bool.not_eq_true', Bool.not_eq_false', ne_eq, Int.not_lt, Int.not_le, Decidable.not_not] at g35'
      refine run_exit rfl ?_
      refine run_sub (subMk (.cons (s := 0) rfl (.cons (s := 1) rfl (.cons (s := 5) rfl (.cons (s := 6) rfl (.cons (s := 7) rfl (.cons (s := 8) rfl (.cons (s := 9) rfl .nil))))))) .refl) ?_
      refine run_blk ?_
      refine run_region ?_
      refine run_q (.none rfl) rfl rfl (q_move rfl rfl) ?_
      refine run_q (.none rfl) rfl rfl (q_sub rfl rfl rfl (by omega)) ?_
      refine run_q (.none rfl) rfl rfl (q_assign rfl rfl) ?_
      refine run_nil ?_
      refine run_sub (subMk .refl (.cons (.there Sel.here) .refl (.cons (.there Sel.here) .refl (.cons Sel.here .refl (.cons Sel.here .refl .nil))))) ?_
      refine run_sub (subMk .refl MemSub.into) ?_
      exact run_again (i, b30 :: gs) (by (try dsimp only); exact ⟨by omega, by simp; omega⟩) (by (try dsimp only); omega) (subMk (.cons' (s := 9) rfl rfl (.cons (s := 0) rfl (.cons (s := 1) rfl (.cons (s := 5) rfl (.cons (s := 6) rfl (.cons (s := 7) rfl (.cons (s := 8) rfl .nil))))))) (.cons (.there Sel.here) .refl (.cons Sel.here (rowsR_into (by omega) (by omega)) (.cons Sel.here .refl .nil))))
  · have g22' := g22
    try simp only [decide_eq_true_eq, decide_eq_false_iff_not, beq_iff_eq, beq_eq_false_iff_ne, bne_iff_ne, bne_eq_false_iff_eq, Bool.not_eq_true', Bool.not_eq_false', ne_eq, Int.not_lt, Int.not_le, Decidable.not_not] at g22'
    refine run_exit rfl ?_
    refine run_sub (subMk (.cons (s := 0) rfl (.cons (s := 1) rfl (.cons (s := 5) rfl (.cons (s := 6) rfl (.cons (s := 7) rfl (.cons (s := 8) rfl .nil)))))) .refl) ?_
    refine run_seq ?_
    refine run_region ?_
    refine run_q (.none rfl) rfl rfl (q_assign rfl rfl) ?_
    refine run_nil ?_
    refine run_seq ?_
    refine run_seq ?_
    refine run_region ?_
    refine run_q (.none rfl) rfl rfl (q_assign rfl rfl) ?_
    refine run_q (.none rfl) rfl rfl (q_assign rfl rfl) ?_
    refine run_nil ?_
    refine run_block ?_
    refine run_sub (subMk .refl (MemSub.nilOwn 40 3)) ?_
    refine run_sub (subMk (.cons (s := 12) rfl (.cons (s := 13) rfl (.cons (s := 11) rfl (.cons (s := 0) rfl (.cons (s := 1) rfl (.cons (s := 5) rfl (.cons (s := 6) rfl (.cons (s := 7) rfl (.cons (s := 8) rfl .nil))))))))) (.cons Sel.here .refl (.cons Sel.here .refl (.cons Sel.here .refl (.cons Sel.here .refl .nil))))) ?_
    obtain rfl : j = 0 := by omega
    replace hgs : gs.length = a.length + 1 := by omega
    have hrow := fun t ht => outerL_all (n := a.length) (m := b.length) (t := t) hgs ht
    refine run_loopC3M1 (ι := Nat × Nat × (Option Addr) × Nat × (List Pair)) (fun gg => gg.1 ≤ a.length ∧ gg.2.1 ≤ b.length ∧ path c a b 0 0 = gg.2.2.2.2 ++ path c (a.drop gg.1) (b.drop gg.2.1) gg.1 gg.2.1 ∧ gg.2.2.2.2.length ≤ gg.1 + gg.2.1) (fun gg => .int .i64 (gg.1 : Int)) (fun gg => .int .i64 (gg.2.1 : Int)) (fun gg => .slice gg.2.2.1 gg.2.2.2.2.length gg.2.2.2.1) (fun gg => .own 40 3 gg.2.2.1 gg.2.2.2.2.length gg.2.2.2.1 (gg.2.2.2.2.map Pair.enc)) (fun gg => (a.length - gg.1) + (b.length - gg.2.1)) (0, 0, none, 0, []) (by (try dsimp only); exact ⟨by omega, by omega, rfl, by simp⟩) rfl rfl rfl .refl ?_
    rintro ⟨i, k, A, cp, o⟩ hq
    (try dsimp only at hq)
    obtain ⟨hi, hk, hp, ho⟩ := hq
    show Run _ _ _ _ _ _ _ ⟨(12, .int .i64 (i : Int)) :: (13, .int .i64 (k : Int)) :: (11, .slice A o.length cp) :: _, .own 40 3 A o.length cp (o.map Pair.enc) :: _⟩
    have hb1 := best_drop_bd hc hla hlb (i + 1) (k + 1)
    have hb2 := best_drop_bd hc hla hlb (i + 1) k
    have hb3 := best_drop_bd hc hla hlb i (k + 1)
    have hb4 := best_drop_bd hc hla hlb i k
    have hj := joinV_bd hc (nth a i) (nth b k)
    have hm := hc.m
    have he := hc.e
    refine run_seq ?_
    refine run_seq ?_
    refine run_region ?_
    refine run_q (.none rfl) rfl rfl (q_move rfl rfl) ?_
    refine run_q (.none rfl) rfl rfl (q_move rfl rfl) ?_
    refine run_q (.none rfl) rfl rfl (q_len rfl Try.underlying22 rfl) ?_
    refine run_q (.none rfl) rfl rfl (q_lss rfl rfl rfl) ?_
    refine run_q (.none rfl) rfl rfl (q_move rfl rfl) ?_
    refine run_split 127 rfl (fun g127 => ?_) (fun g127 => ?_)
    · have g127' := g127
      try simp only [decide_eq_true_eq, decide_eq_false_iff_not, beq_iff_eq, beq_eq_false_iff_ne, bne_iff_ne, bne_eq_false_iff_eq, Bool.not_eq_true', Bool.not_eq_false', ne_eq, Int.not_lt, Int.not_le, Decidable.not_not] at g127'
      refine run_off (.no rfl rfl rfl g127) rfl rfl ?_
      refine run_off (.no rfl rfl rfl g127) rfl rfl ?_
      refine run_off (.no rfl rfl rfl g127) rfl rfl ?_
      refine run_off (.no rfl rfl rfl g127) rfl rfl ?_
      refine run_q (.none rfl) rfl rfl (q_pickT rfl rfl g127 rfl) ?_
      refine run_nil ?_
      refine run_sub (subMk (.cons (s := 0) rfl (.cons (s := 1) rfl (.cons (s := 5) rfl (.cons (s := 6) rfl (.cons (s := 7) rfl (.cons (s := 8) rfl (.cons (s := 11) rfl (.cons (s := 12) rfl (.cons (s := 13) rfl (.cons (s := 132) rfl .nil)))))))))) .refl) ?_
      refine run_condT rfl rfl ?_
      refine run_skip ?_
      refine run_block ?_
      refine run_seq ?_
      refine run_region ?_
      refine run_q (.none rfl) rfl rfl (q_move rfl rfl) ?_
      refine run_q (.none rfl) rfl rfl (q_move rfl rfl) ?_
      refine run_q (.none rfl) rfl rfl (q_indexS (q := i) rfl Try.underlying73 sz72 rfl rfl (.own (.there Sel.here)) (outerL_len (by omega)) rfl (by omega)) ?_
      refine run_q (.none rfl) rfl rfl (q_loadC rfl one72 rfl (.own (.there Sel.here)) (hrow i (by omega))) ?_
      refine run_q (.none rfl) rfl rfl (q_move rfl rfl) ?_
      refine run_q (.none rfl) rfl rfl (q_indexS (q := k) rfl Try.underlying72 sz3 rfl rfl (.sepOwn (.there (.there Sel.here)) (rowsR_all hgs (by omega))) (by simp [rowV]) rfl (by omega)) ?_
      refine run_q (.none rfl) rfl rfl (q_loadC rfl one3 rfl (.sepOwn (.there (.there Sel.here)) (rowsR_all hgs (by omega))) (rowV_get (by omega))) ?_
      refine run_q (.none rfl) rfl rfl (q_assign rfl rfl) ?_
      refine run_nil ?_
      refine run_sub (subMk (.cons (s := 0) rfl (.cons (s := 1) rfl (.cons (s := 5) rfl (.cons (s := 6) rfl (.cons (s := 7) rfl (.cons (s := 8) rfl (.cons (s := 11) rfl (.cons (s := 12) rfl (.cons (s := 13) rfl (.cons (s := 14) rfl .nil)))))))))) .refl) ?_
      refine run_block ?_
      refine run_seq ?_
      refine run_draw [(0, 0), (1, 0), (2, 0), (3, 0), (4, 0), (5, 0), (6, 0), (7, 0), (8, 0), (9, 0), (10, 0), (11, 0), (12, 0), (13, 0), (14, 0), (15, 0), (16, 0), (17, 0), (18, 0), (19, 0), (20, 0), (21, 0), (22, 0), (23, 0), (24, 0), (25, 0), (26, 0), (27, 0), (28, 0), (29, 0), (30, 0), (31, 0), (32, 0), (33, 0), (34, 0)] mixed (by kernel_rfl) .refl ?_
      refine d_q rfl rfl (.none rfl) rfl rfl (q_move rfl rfl) ?_
      refine d_q rfl rfl (.none rfl) rfl rfl (q_move rfl rfl) ?_
      refine d_q rfl rfl (.none rfl) rfl rfl (q_len rfl Try.underlying22 rfl) ?_
      refine d_q rfl rfl (.none rfl) rfl rfl (q_lss rfl rfl rfl) ?_
      refine d_q rfl rfl (.none rfl) rfl rfl (q_move rfl rfl) ?_
      refine d_q rfl rfl (.on rfl rfl rfl g127) rfl rfl (q_move rfl rfl) ?_
      refine d_q rfl rfl (.on rfl rfl rfl g127) rfl rfl (q_move rfl rfl) ?_
      refine d_q rfl rfl (.on rfl rfl rfl g127) rfl rfl (q_len rfl Try.underlying22 rfl) ?_
      refine d_q rfl rfl (.on rfl rfl rfl g127) rfl rfl (q_lss rfl rfl rfl) ?_
      refine d_q rfl rfl (.none rfl) rfl rfl (q_pickT rfl rfl g127 rfl) ?_
      refine d_q rfl rfl (.none rfl) rfl rfl (q_move rfl rfl) ?_
      refine d_split 158 rfl (fun g158 => ?_) (fun g158 => ?_)
      · have g158' := g158
        try simp only [decide_eq_true_eq, decide_eq_false_iff_not, beq_iff_eq, beq_eq_false_iff_ne, bne_iff_ne, bne_eq_false_iff_eq, Bool.not_eq_true', Bool.not_eq_false', ne_eq, Int.not_lt, Int.not_le, Decidable.not_not] at g158'
        refine d_q rfl rfl (.on rfl rfl rfl g158) rfl rfl (q_move rfl rfl) ?_
        refine d_q rfl rfl (.on rfl rfl rfl g158) rfl rfl (q_loadBN rfl agg26 rfl (.there (.there (.there Sel.here))) (.cons rfl (.cons rfl (.cons rfl (.cons rfl (.cons rfl CellsAt.nil))))) rfl) ?_
        refine d_q rfl rfl (.on rfl rfl rfl g158) rfl rfl (q_move rfl rfl) ?_
        refine d_q rfl rfl (.on rfl rfl rfl g158) rfl rfl (q_move rfl rfl) ?_
        refine d_q rfl rfl (.on rfl rfl rfl g158) rfl rfl (q_indexS (q := i) rfl Try.underlying22 sz47 rfl rfl (.inp hra .no) (by simp <;> omega) rfl (by omega)) ?_
        refine d_q rfl rfl (.on rfl rfl rfl g158) rfl rfl (q_loadE rfl agg47 rfl (.inp hra .no) (getmap (by omega)) rfl) ?_
        refine d_q rfl rfl (.on rfl rfl rfl g158) rfl rfl (q_move rfl rfl) ?_
        refine d_q rfl rfl (.on rfl rfl rfl g158) rfl rfl (q_move rfl rfl) ?_
        refine d_q rfl rfl (.on rfl rfl rfl g158) rfl rfl (q_indexS (q := k) rfl Try.underlying22 sz47 rfl rfl (.inp hrb .no) (by simp <;> omega) rfl (by omega)) ?_
        refine d_q rfl rfl (.on rfl rfl rfl g158) rfl rfl (q_loadE rfl agg47 rfl (.inp hrb .no) (getmap (by omega)) rfl) ?_
        refine d_q rfl rfl (.on rfl rfl rfl g158) rfl rfl (q_call rfl call41 (.cons rfl (.cons rfl (.cons rfl Evs.nil))) (fun w hk hm => join_just c (nth a i) (nth b k) w hc (noteOk_nth hna (by omega)) (noteOk_nth hnb (by omega)))) ?_
        refine d_q rfl rfl (.on rfl rfl rfl g158) rfl rfl (q_move rfl rfl) ?_
        refine d_q rfl rfl (.on rfl rfl rfl g158) rfl rfl (q_move rfl rfl) ?_
        refine d_q rfl rfl (.on rfl rfl rfl g158) rfl rfl (q_add rfl rfl rfl (by omega)) ?_
        refine d_q rfl rfl (.on rfl rfl rfl g158) rfl rfl (q_indexS (q := (i + 1)) rfl Try.underlying73 sz72 rfl rfl (.own (.there Sel.here)) (outerL_len (by omega)) rfl (by omega)) ?_
        refine d_q rfl rfl (.on rfl rfl rfl g158) rfl rfl (q_loadC rfl one72 rfl (.own (.there Sel.here)) (hrow (i + 1) (by omega))) ?_
        refine d_q rfl rfl (.on rfl rfl rfl g158) rfl rfl (q_move rfl rfl) ?_
        refine d_q rfl rfl (.on rfl rfl rfl g158) rfl rfl (q_add rfl rfl rfl (by omega)) ?_
        refine d_q rfl rfl (.on rfl rfl rfl g158) rfl rfl (q_indexS (q := (k + 1)) rfl Try.underlying72 sz3 rfl rfl (.sepOwn (.there (.there Sel.here)) (rowsR_all hgs (by omega))) (by simp [rowV]) rfl (by omega)) ?_
        refine d_q rfl rfl (.on rfl rfl rfl g158) rfl rfl (q_loadC rfl one3 rfl (.sepOwn (.there (.there Sel.here)) (rowsR_all hgs (by omega))) (rowV_get (by omega))) ?_
        refine d_q rfl rfl (.on rfl rfl rfl g158) rfl rfl (q_add rfl rfl rfl (by omega)) ?_
        refine d_q rfl rfl (.on rfl rfl rfl g158) rfl rfl (q_eql rfl rfl rfl) ?_
        refine d_q rfl rfl (.none rfl) rfl rfl (q_pickT rfl rfl g158 rfl) ?_
        refine d_q rfl rfl (.none rfl) rfl rfl (q_assign rfl rfl) ?_
        refine d_nil ?_
        refine run_sub (subMk (.cons (s := 0) rfl (.cons (s := 1) rfl (.cons (s := 5) rfl (.cons (s := 6) rfl (.cons (s := 7) rfl (.cons (s := 8) rfl (.cons (s := 11) rfl (.cons (s := 12) rfl (.cons (s := 13) rfl (.cons (s := 14) rfl (.cons (s := 147) rfl .nil))))))))))) .refl) ?_
        refine run_cond rfl (fun g147 => ?_) (fun g147 => ?_)
        · have g147' := g147
          try simp only [decide_eq_true_eq, decide_eq_false_iff_not, beq_iff_eq, beq_eq_false_iff_ne, bne_iff_ne, bne_eq_false_iff_eq, Bool.not_eq_true', Bool.not_eq_false', ne_eq, Int.not_lt, Int.not_le, Decidable.not_not] at g147'
          refine run_seq ?_
          refine run_draw [(0, 0), (1, 0), (2, 0), (3, 0), (4, 0), (5, 0), (6, 0), (7, 0), (8, 0), (9, 0), (10, 0), (11, 0), (12, 0), (13, 1), (14, 2), (15, 2)] mixed (by kernel_rfl) (Sel.rest Sel.here) ?_
          refine d_q rfl rfl (.none rfl) rfl rfl (q_move rfl rfl) ?_
          refine d_q rfl rfl (.none rfl) rfl rfl (q_move rfl rfl) ?_
          refine d_q rfl rfl (.none rfl) rfl rfl (q_move rfl rfl) ?_
          refine d_q rfl rfl (.none rfl) rfl rfl (q_indexS (q := i) rfl Try.underlying22 sz47 rfl rfl (.inp hra .no) (by simp <;> omega) rfl (by omega)) ?_
          refine d_q rfl rfl (.none rfl) rfl rfl (q_loadE rfl agg47 rfl (.inp hra .no) (getmap (by omega)) rfl) ?_
          refine d_q rfl rfl (.none rfl) rfl rfl (q_move rfl rfl) ?_
          refine d_q rfl rfl (.none rfl) rfl rfl (q_move rfl rfl) ?_
          refine d_q rfl rfl (.none rfl) rfl rfl (q_indexS (q := k) rfl Try.underlying22 sz47 rfl rfl (.inp hrb .no) (by simp <;> omega) rfl (by omega)) ?_
          refine d_q rfl rfl (.none rfl) rfl rfl (q_loadE rfl agg47 rfl (.inp hrb .no) (getmap (by omega)) rfl) ?_
          refine d_q rfl rfl (.none rfl) rfl rfl (q_call rfl call43 (.cons rfl (.cons rfl Evs.nil)) (fun w hk hm => kind_just _ _ _)) ?_
          refine d_q rfl rfl (.none rfl) rfl rfl (q_move rfl rfl) ?_
          refine d_q rfl rfl (.none rfl) rfl rfl (q_move rfl rfl) ?_
          refine d_q rfl rfl (.none rfl) rfl rfl (q_build rfl (.cons rfl (.cons rfl (.cons rfl PV.nil))) (built40p0p1p2 _ _ _)) ?_
          refine d_h rfl rfl (.none rfl) (h_buildSlice rfl rfl rfl Try.underlying28 info40 (.cons rfl rfl rfl rfl Parts.nil) rfl (by omega)) (fun _ _ => (.sub (by repeat (first | exact List.Sublist.refl _ | apply List.Sublist.cons)))) ?_
          rintro b195 -
          refine d_t rfl rfl (.none rfl) (h_append rfl rfl rfl Try.underlying28 info40 rfl rfl (.there Sel.here) rfl (.own Sel.here) rfl (all1 rfl) (all1 rfl) (by omega) (by omega)) ?_
          rintro ⟨A196, c196⟩ -
          refine d_t rfl rfl (.none rfl) (.of_q rfl rfl (q_assign rfl rfl)) ?_
          rintro - -
          refine d_nil ?_
          refine run_sub (subMk (.cons (s := 0) rfl (.cons (s := 1) rfl (.cons (s := 5) rfl (.cons (s := 6) rfl (.cons (s := 7) rfl (.cons (s := 8) rfl (.cons (s := 11) rfl (.cons (s := 12) rfl (.cons (s := 13) rfl .nil))))))))) .refl) ?_
          refine run_region ?_
          refine run_q (.none rfl) rfl rfl (q_move rfl rfl) ?_
          refine run_q (.none rfl) rfl rfl (q_add rfl rfl rfl (by omega)) ?_
          refine run_q (.none rfl) rfl rfl (q_move rfl rfl) ?_
          refine run_q (.none rfl) rfl rfl (q_add rfl rfl rfl (by omega)) ?_
          refine run_q (.none rfl) rfl rfl (q_assign rfl rfl) ?_
          refine run_q (.none rfl) rfl rfl (q_assign rfl rfl) ?_
          refine run_nil ?_
          refine run_sub (subMk (.cons (s := 0) rfl (.cons (s := 1) rfl (.cons (s := 5) rfl (.cons (s := 6) rfl (.cons (s := 7) rfl (.cons (s := 8) rfl (.cons (s := 11) rfl (.cons (s := 12) rfl (.cons (s := 13) rfl .nil))))))))) .refl) ?_
          refine run_blk ?_
          refine run_blk ?_
          exact run_again (i + 1, k + 1, A196, c196, o ++ [⟨kindV (nth a i) (nth b k), i, k⟩]) (by (try dsimp only); exact ⟨by omega, by omega, by rw [hp, path_both (by omega) (by omega), if_pos g147']; simp, by simp; omega⟩) (by (try dsimp only); omega) (subMk (.cons' (s := 12) rfl rfl (.cons' (s := 13) rfl rfl (.cons' (s := 11) rfl (by simp) (.cons (s := 0) rfl (.cons (s := 1) rfl (.cons (s := 5) rfl (.cons (s := 6) rfl (.cons (s := 7) rfl (.cons (s := 8) rfl .nil))))))))) (.cons Sel.here (.own rfl (by simp) rfl (by simp [Pair.enc, vlist, kindV])) (.cons (.there Sel.here) .refl (.cons (.there Sel.here) .refl (.cons (.there Sel.here) .refl .nil)))))
        · have g147' := g147
          try simp only [decide_eq_true_eq, decide_eq_false_iff_not, beq_iff_eq, beq_eq_false_iff_ne, bne_iff_ne, bne_eq_false_iff_eq, Bool.not_eq_true', Bool.not_eq_false', ne_eq, Int.not_lt, Int.not_le, Decidable.not_not] at g147'
          refine run_seq ?_
          refine run_draw [(0, 0), (1, 0), (2, 0), (3, 0), (4, 0), (5, 0), (6, 0), (7, 0), (8, 0), (9, 0), (10, 0), (11, 0), (12, 0), (13, 0), (14, 0), (15, 0), (16, 0), (17, 0), (18, 0), (19, 0)] mixed (by kernel_rfl) .refl ?_
          refine d_q rfl rfl (.none rfl) rfl rfl (q_move rfl rfl) ?_
          refine d_q rfl rfl (.none rfl) rfl rfl (q_move rfl rfl) ?_
          refine d_q rfl rfl (.none rfl) rfl rfl (q_len rfl Try.underlying22 rfl) ?_
          refine d_q rfl rfl (.none rfl) rfl rfl (q_lss rfl rfl rfl) ?_
          refine d_q rfl rfl (.none rfl) rfl rfl (q_move rfl rfl) ?_
          refine d_q rfl rfl (.on rfl rfl rfl g127) rfl rfl (q_move rfl rfl) ?_
          refine d_q rfl rfl (.on rfl rfl rfl g127) rfl rfl (q_fieldB (d := 1) rfl Try.underlying26 rfl rfl sz3 rfl) ?_
          refine d_q rfl rfl (.on rfl rfl rfl g127) rfl rfl (q_loadB rfl one3 rfl (.there (.there (.there Sel.here))) rfl) ?_
          refine d_q rfl rfl (.on rfl rfl rfl g127) rfl rfl (q_move rfl rfl) ?_
          refine d_q rfl rfl (.on rfl rfl rfl g127) rfl rfl (q_move rfl rfl) ?_
          refine d_q rfl rfl (.on rfl rfl rfl g127) rfl rfl (q_add rfl rfl rfl (by omega)) ?_
          refine d_q rfl rfl (.on rfl rfl rfl g127) rfl rfl (q_indexS (q := (i + 1)) rfl Try.underlying73 sz72 rfl rfl (.own (.there Sel.here)) (outerL_len (by omega)) rfl (by omega)) ?_
          refine d_q rfl rfl (.on rfl rfl rfl g127) rfl rfl (q_loadC rfl one72 rfl (.own (.there Sel.here)) (hrow (i + 1) (by omega))) ?_
          refine d_q rfl rfl (.on rfl rfl rfl g127) rfl rfl (q_move rfl rfl) ?_
          refine d_q rfl rfl (.on rfl rfl rfl g127) rfl rfl (q_indexS (q := k) rfl Try.underlying72 sz3 rfl rfl (.sepOwn (.there (.there Sel.here)) (rowsR_all hgs (by omega))) (by simp [rowV]) rfl (by omega)) ?_
          refine d_q rfl rfl (.on rfl rfl rfl g127) rfl rfl (q_loadC rfl one3 rfl (.sepOwn (.there (.there Sel.here)) (rowsR_all hgs (by omega))) (rowV_get (by omega))) ?_
          refine d_q rfl rfl (.on rfl rfl rfl g127) rfl rfl (q_add rfl rfl rfl (by omega)) ?_
          refine d_q rfl rfl (.on rfl rfl rfl g127) rfl rfl (q_eql rfl rfl rfl) ?_
          refine d_q rfl rfl (.none rfl) rfl rfl (q_pickT rfl rfl g127 rfl) ?_
          refine d_q rfl rfl (.none rfl) rfl rfl (q_assign rfl rfl) ?_
          refine d_nil ?_
          refine run_sub (subMk (.cons (s := 0) rfl (.cons (s := 1) rfl (.cons (s := 5) rfl (.cons (s := 6) rfl (.cons (s := 7) rfl (.cons (s := 8) rfl (.cons (s := 11) rfl (.cons (s := 12) rfl (.cons (s := 13) rfl (.cons (s := 201) rfl .nil)))))))))) .refl) ?_
          refine run_cond rfl (fun g201 => ?_) (fun g201 => ?_)
          · have g201' := g201
            try simp only [decide_eq_true_eq, decide_eq_false_iff_not, beq_iff_eq, beq_eq_false_iff_ne, bne_iff_ne, bne_eq_false_iff_eq, Bool.not_eq_true', Bool.not_eq_false', ne_eq, Int.not_lt, Int.not_le, Decidable.not_not] at g201'
            refine run_seq ?_
            refine run_region ?_
            refine run_q (.none rfl) rfl rfl (q_move rfl rfl) ?_
            refine run_q (.none rfl) rfl rfl (q_move rfl rfl) ?_
            refine run_q (.none rfl) rfl rfl (q_build rfl (.cons rfl (.cons rfl (.cons rfl PV.nil))) (built40p0p1p2 _ _ _)) ?_
            refine run_h (.none rfl) (h_buildSlice rfl rfl rfl Try.underlying28 info40 (.cons rfl rfl rfl rfl Parts.nil) rfl (by omega)) ?_
            rintro b224 -
            refine run_h (.none rfl) (h_append rfl rfl rfl Try.underlying28 info40 rfl rfl (.there Sel.here) rfl (.own Sel.here) rfl (all1 rfl) (all1 rfl) (by omega) (by omega)) ?_
            rintro ⟨A225, c225⟩ -
            refine run_q (.none rfl) rfl rfl (q_assign rfl rfl) ?_
            refine run_nil ?_
            refine run_sub (subMk (.cons (s := 0) rfl (.cons (s := 1) rfl (.cons (s := 5) rfl (.cons (s := 6) rfl (.cons (s := 7) rfl (.cons (s := 8) rfl (.cons (s := 11) rfl (.cons (s := 12) rfl (.cons (s := 13) rfl .nil))))))))) .refl) ?_
            refine run_region ?_
            refine run_q (.none rfl) rfl rfl (q_move rfl rfl) ?_
            refine run_q (.none rfl) rfl rfl (q_add rfl rfl rfl (by omega)) ?_
            refine run_q (.none rfl) rfl rfl (q_assign rfl rfl) ?_
            refine run_nil ?_
            refine run_blk ?_
            refine run_blk ?_
            exact run_again (i + 1, k, A225, c225, o ++ [⟨3, i, -1⟩]) (by (try dsimp only); exact ⟨by omega, by omega, by rw [hp, path_both (by omega) (by omega), if_neg g147', if_pos g201']; simp, by simp; omega⟩) (by (try dsimp only); omega) (subMk (.cons' (s := 12) rfl rfl (.cons' (s := 13) rfl rfl (.cons' (s := 11) rfl (by simp) (.cons (s := 0) rfl (.cons (s := 1) rfl (.cons (s := 5) rfl (.cons (s := 6) rfl (.cons (s := 7) rfl (.cons (s := 8) rfl .nil))))))))) (.cons Sel.here (.own rfl (by simp) rfl (by simp [Pair.enc, vlist, kindV])) (.cons (.there Sel.here) .refl (.cons (.there Sel.here) .refl (.cons (.there Sel.here) .refl .nil)))))
          · have g201' := g201
            try simp only [decide_eq_true_eq, decide_eq_false_iff_not, beq_iff_eq, beq_eq_false_iff_ne, bne_iff_ne, bne_eq_false_iff_eq, Bool.not_eq_true', Bool.not_eq_false', ne_eq, Int.not_lt, Int.not_le, Decidable.not_not] at g201'
            refine run_seq ?_
            refine run_region ?_
            refine run_q (.none rfl) rfl rfl (q_move rfl rfl) ?_
            refine run_q (.none rfl) rfl rfl (q_move rfl rfl) ?_
            refine run_q (.none rfl) rfl rfl (q_build rfl (.cons rfl (.cons rfl (.cons rfl PV.nil))) (built40p0p1p2 _ _ _)) ?_
            refine run_h (.none rfl) (h_buildSlice rfl rfl rfl Try.underlying28 info40 (.cons rfl rfl rfl rfl Parts.nil) rfl (by omega)) ?_
            rintro b143 -
            refine run_h (.none rfl) (h_append rfl rfl rfl Try.underlying28 info40 rfl rfl (.there Sel.here) rfl (.own Sel.here) rfl (all1 rfl) (all1 rfl) (by omega) (by omega)) ?_
            rintro ⟨A144, c144⟩ -
            refine run_q (.none rfl) rfl rfl (q_assign rfl rfl) ?_
            refine run_nil ?_
            refine run_sub (subMk (.cons (s := 0) rfl (.cons (s := 1) rfl (.cons (s := 5) rfl (.cons (s := 6) rfl (.cons (s := 7) rfl (.cons (s := 8) rfl (.cons (s := 11) rfl (.cons (s := 12) rfl (.cons (s := 13) rfl .nil))))))))) .refl) ?_
            refine run_region ?_
            refine run_q (.none rfl) rfl rfl (q_move rfl rfl) ?_
            refine run_q (.none rfl) rfl rfl (q_add rfl rfl rfl (by omega)) ?_
            refine run_q (.none rfl) rfl rfl (q_assign rfl rfl) ?_
            refine run_nil ?_
            refine run_blk ?_
            refine run_blk ?_
            exact run_again (i, k + 1, A144, c144, o ++ [⟨4, -1, k⟩]) (by (try dsimp only); exact ⟨by omega, by omega, by rw [hp, path_both (by omega) (by omega), if_neg g147', if_neg g201']; simp, by simp; omega⟩) (by (try dsimp only); omega) (subMk (.cons' (s := 12) rfl rfl (.cons' (s := 13) rfl rfl (.cons' (s := 11) rfl (by simp) (.cons (s := 0) rfl (.cons (s := 1) rfl (.cons (s := 5) rfl (.cons (s := 6) rfl (.cons (s := 7) rfl (.cons (s := 8) rfl .nil))))))))) (.cons Sel.here (.own rfl (by simp) rfl (by simp [Pair.enc, vlist, kindV])) (.cons (.there Sel.here) .refl (.cons (.there Sel.here) .refl (.cons (.there Sel.here) .refl .nil)))))
      · have g158' := g158
        try simp only [decide_eq_true_eq, decide_eq_false_iff_not, beq_iff_eq, beq_eq_false_iff_ne, bne_iff_ne, bne_eq_false_iff_eq, Bool.not_eq_true', Bool.not_eq_false', ne_eq, Int.not_lt, Int.not_le, Decidable.not_not] at g158'
        refine d_off rfl rfl (.no rfl rfl rfl g158) rfl rfl ?_
        refine d_off rfl rfl (.no rfl rfl rfl g158) rfl rfl ?_
        refine d_off rfl rfl (.no rfl rfl rfl g158) rfl rfl ?_
        refine d_off rfl rfl (.no rfl rfl rfl g158) rfl rfl ?_
        refine d_off rfl rfl (.no rfl rfl rfl g158) rfl rfl ?_
        refine d_off rfl rfl (.no rfl rfl rfl g158) rfl rfl ?_
        refine d_off rfl rfl (.no rfl rfl rfl g158) rfl rfl ?_
        refine d_off rfl rfl (.no rfl rfl rfl g158) rfl rfl ?_
        refine d_off rfl rfl (.no rfl rfl rfl g158) rfl rfl ?_
        refine d_off rfl rfl (.no rfl rfl rfl g158) rfl rfl ?_
        refine d_off rfl rfl (.no rfl rfl rfl g158) rfl rfl ?_
        refine d_off rfl rfl (.no rfl rfl rfl g158) rfl rfl ?_
        refine d_off rfl rfl (.no rfl rfl rfl g158) rfl rfl ?_
        refine d_off rfl rfl (.no rfl rfl rfl g158) rfl rfl ?_
        refine d_off rfl rfl (.no rfl rfl rfl g158) rfl rfl ?_
        refine d_off rfl rfl (.no rfl rfl rfl g158) rfl rfl ?_
        refine d_off rfl rfl (.no rfl rfl rfl g158) rfl rfl ?_
        refine d_off rfl rfl (.no rfl rfl rfl g158) rfl rfl ?_
        refine d_off rfl rfl (.no rfl rfl rfl g158) rfl rfl ?_
        refine d_off rfl rfl (.no rfl rfl rfl g158) rfl rfl ?_
        refine d_off rfl rfl (.no rfl rfl rfl g158) rfl rfl ?_
        refine d_off rfl rfl (.no rfl rfl rfl g158) rfl rfl ?_
        refine d_q rfl rfl (.none rfl) rfl rfl (q_pickF rfl rfl g158 rfl) ?_
        refine d_q rfl rfl (.none rfl) rfl rfl (q_assign rfl rfl) ?_
        refine d_nil ?_
        refine run_sub (subMk (.cons (s := 0) rfl (.cons (s := 1) rfl (.cons (s := 5) rfl (.cons (s := 6) rfl (.cons (s := 7) rfl (.cons (s := 8) rfl (.cons (s := 11) rfl (.cons (s := 12) rfl (.cons (s := 13) rfl (.cons (s := 14) rfl (.cons (s := 147) rfl .nil))))))))))) .refl) ?_
        refine run_condF rfl rfl ?_
        refine run_seq ?_
        refine run_draw [(0, 0), (1, 0), (2, 0), (3, 0), (4, 0), (5, 0), (6, 0), (7, 0), (8, 0), (9, 0), (10, 0), (11, 0), (12, 0), (13, 0), (14, 0), (15, 0), (16, 0), (17, 0), (18, 0), (19, 0)] mixed (by kernel_rfl) .refl ?_
        refine d_q rfl rfl (.none rfl) rfl rfl (q_move rfl rfl) ?_
        refine d_q rfl rfl (.none rfl) rfl rfl (q_move rfl rfl) ?_
        refine d_q rfl rfl (.none rfl) rfl rfl (q_len rfl Try.underlying22 rfl) ?_
        refine d_q rfl rfl (.none rfl) rfl rfl (q_lss rfl rfl rfl) ?_
        refine d_q rfl rfl (.none rfl) rfl rfl (q_move rfl rfl) ?_
        refine d_q rfl rfl (.on rfl rfl rfl g127) rfl rfl (q_move rfl rfl) ?_
        refine d_q rfl rfl (.on rfl rfl rfl g127) rfl rfl (q_fieldB (d := 1) rfl Try.underlying26 rfl rfl sz3 rfl) ?_
        refine d_q rfl rfl (.on rfl rfl rfl g127) rfl rfl (q_loadB rfl one3 rfl (.there (.there (.there Sel.here))) rfl) ?_
        refine d_q rfl rfl (.on rfl rfl rfl g127) rfl rfl (q_move rfl rfl) ?_
        refine d_q rfl rfl (.on rfl rfl rfl g127) rfl rfl (q_move rfl rfl) ?_
        refine d_q rfl rfl (.on rfl rfl rfl g127) rfl rfl (q_add rfl rfl rfl (by omega)) ?_
        refine d_q rfl rfl (.on rfl rfl rfl g127) rfl rfl (q_indexS (q := (i + 1)) rfl Try.underlying73 sz72 rfl rfl (.own (.there Sel.here)) (outerL_len (by omega)) rfl (by omega)) ?_
        refine d_q rfl rfl (.on rfl rfl rfl g127) rfl rfl (q_loadC rfl one72 rfl (.own (.there Sel.here)) (hrow (i + 1) (by omega))) ?_
        refine d_q rfl rfl (.on rfl rfl rfl g127) rfl rfl (q_move rfl rfl) ?_
        refine d_q rfl rfl (.on rfl rfl rfl g127) rfl rfl (q_indexS (q := k) rfl Try.underlying72 sz3 rfl rfl (.sepOwn (.there (.there Sel.here)) (rowsR_all hgs (by omega))) (by simp [rowV]) rfl (by omega)) ?_
        refine d_q rfl rfl (.on rfl rfl rfl g127) rfl rfl (q_loadC rfl one3 rfl (.sepOwn (.there (.there Sel.here)) (rowsR_all hgs (by omega))) (rowV_get (by omega))) ?_
        refine d_q rfl rfl (.on rfl rfl rfl g127) rfl rfl (q_add rfl rfl rfl (by omega)) ?_
        refine d_q rfl rfl (.on rfl rfl rfl g127) rfl rfl (q_eql rfl rfl rfl) ?_
        refine d_q rfl rfl (.none rfl) rfl rfl (q_pickT rfl rfl g127 rfl) ?_
        refine d_q rfl rfl (.none rfl) rfl rfl (q_assign rfl rfl) ?_
        refine d_nil ?_
        refine run_sub (subMk (.cons (s := 0) rfl (.cons (s := 1) rfl (.cons (s := 5) rfl (.cons (s := 6) rfl (.cons (s := 7) rfl (.cons (s := 8) rfl (.cons (s := 11) rfl (.cons (s := 12) rfl (.cons (s := 13) rfl (.cons (s := 201) rfl .nil)))))))))) .refl) ?_
        refine run_condT rfl (beq_iff_eq.2 (best_left (by omega) (by omega))) ?_
        refine run_seq ?_
        refine run_region ?_
        refine run_q (.none rfl) rfl rfl (q_move rfl rfl) ?_
        refine run_q (.none rfl) rfl rfl (q_move rfl rfl) ?_
        refine run_q (.none rfl) rfl rfl (q_build rfl (.cons rfl (.cons rfl (.cons rfl PV.nil))) (built40p0p1p2 _ _ _)) ?_
        refine run_h (.none rfl) (h_buildSlice rfl rfl rfl Try.underlying28 info40 (.cons rfl rfl rfl rfl Parts.nil) rfl (by omega)) ?_
        rintro b224 -
        refine run_h (.none rfl) (h_append rfl rfl rfl Try.underlying28 info40 rfl rfl (.there Sel.here) rfl (.own Sel.here) rfl (all1 rfl) (all1 rfl) (by omega) (by omega)) ?_
        rintro ⟨A225, c225⟩ -
        refine run_q (.none rfl) rfl rfl (q_assign rfl rfl) ?_
        refine run_nil ?_
        refine run_sub (subMk (.cons (s := 0) rfl (.cons (s := 1) rfl (.cons (s := 5) rfl (.cons (s := 6) rfl (.cons (s := 7) rfl (.cons (s := 8) rfl (.cons (s := 11) rfl (.cons (s := 12) rfl (.cons (s := 13) rfl .nil))))))))) .refl) ?_
        refine run_region ?_
        refine run_q (.none rfl) rfl rfl (q_move rfl rfl) ?_
        refine run_q (.none rfl) rfl rfl (q_add rfl rfl rfl (by omega)) ?_
        refine run_q (.none rfl) rfl rfl (q_assign rfl rfl) ?_
        refine run_nil ?_
        refine run_blk ?_
        refine run_blk ?_
        exact run_again (i + 1, k, A225, c225, o ++ [⟨3, i, -1⟩]) (by (try dsimp only); exact ⟨by omega, by omega, by rw [hp, path_left (by omega) (by omega)]; simp, by simp; omega⟩) (by (try dsimp only); omega) (subMk (.cons' (s := 12) rfl rfl (.cons' (s := 13) rfl rfl (.cons' (s := 11) rfl (by simp) (.cons (s := 0) rfl (.cons (s := 1) rfl (.cons (s := 5) rfl (.cons (s := 6) rfl (.cons (s := 7) rfl (.cons (s := 8) rfl .nil))))))))) (.cons Sel.here (.own rfl (by simp) rfl (by simp [Pair.enc, vlist, kindV])) (.cons (.there Sel.here) .refl (.cons (.there Sel.here) .refl (.cons (.there Sel.here) .refl .nil)))))
    · have g127' := g127
      try simp only [decide_eq_true_eq, decide_eq_false_iff_not, beq_iff_eq, beq_eq_false_iff_ne, bne_iff_ne, bne_eq_false_iff_eq, Bool.not_eq_true', Bool.not_eq_false', ne_eq, Int.not_lt, Int.not_le, Decidable.not_not] at g127'
      refine run_q (.on rfl rfl rfl g127) rfl rfl (q_move rfl rfl) ?_
      refine run_q (.on rfl rfl rfl g127) rfl rfl (q_move rfl rfl) ?_
      refine run_q (.on rfl rfl rfl g127) rfl rfl (q_len rfl Try.underlying22 rfl) ?_
      refine run_q (.on rfl rfl rfl g127) rfl rfl (q_lss rfl rfl rfl) ?_
      refine run_q (.none rfl) rfl rfl (q_pickF rfl rfl g127 rfl) ?_
      refine run_nil ?_
      refine run_sub (subMk (.cons (s := 0) rfl (.cons (s := 1) rfl (.cons (s := 5) rfl (.cons (s := 6) rfl (.cons (s := 7) rfl (.cons (s := 8) rfl (.cons (s := 11) rfl (.cons (s := 12) rfl (.cons (s := 13) rfl (.cons (s := 132) rfl .nil)))))))))) .refl) ?_
      refine run_cond rfl (fun g132 => ?_) (fun g132 => ?_)
      · have g132' := g132
        try simp only [decide_eq_true_eq, decide_eq_false_iff_not, beq_iff_eq, beq_eq_false_iff_ne, bne_iff_ne, bne_eq_false_iff_eq, Bool.not_eq_true', Bool.not_eq_false', ne_eq, Int.not_lt, Int.not_le, Decidable.not_not] at g132'
        refine run_skip ?_
        refine run_block ?_
        refine run_seq ?_
        refine run_region ?_
        refine run_q (.none rfl) rfl rfl (q_move rfl rfl) ?_
        refine run_q (.none rfl) rfl rfl (q_move rfl rfl) ?_
        refine run_q (.none rfl) rfl rfl (q_indexS (q := i) rfl Try.underlying73 sz72 rfl rfl (.own (.there Sel.here)) (outerL_len (by omega)) rfl (by omega)) ?_
        refine run_q (.none rfl) rfl rfl (q_loadC rfl one72 rfl (.own (.there Sel.here)) (hrow i (by omega))) ?_
        refine run_q (.none rfl) rfl rfl (q_move rfl rfl) ?_
        refine run_q (.none rfl) rfl rfl (q_indexS (q := k) rfl Try.underlying72 sz3 rfl rfl (.sepOwn (.there (.there Sel.here)) (rowsR_all hgs (by omega))) (by simp [rowV]) rfl (by omega)) ?_
        refine run_q (.none rfl) rfl rfl (q_loadC rfl one3 rfl (.sepOwn (.there (.there Sel.here)) (rowsR_all hgs (by omega))) (rowV_get (by omega))) ?_
        refine run_q (.none rfl) rfl rfl (q_assign rfl rfl) ?_
        refine run_nil ?_
        refine run_sub (subMk (.cons (s := 0) rfl (.cons (s := 1) rfl (.cons (s := 5) rfl (.cons (s := 6) rfl (.cons (s := 7) rfl (.cons (s := 8) rfl (.cons (s := 11) rfl (.cons (s := 12) rfl (.cons (s := 13) rfl (.cons (s := 14) rfl .nil)))))))))) .refl) ?_
        refine run_block ?_
        refine run_seq ?_
        refine run_draw [(0, 0), (1, 0), (2, 0), (3, 0), (4, 0), (5, 0), (6, 0), (7, 0), (8, 0), (9, 0), (10, 0), (11, 0), (12, 0), (13, 0), (14, 0), (15, 0), (16, 0), (17, 0), (18, 0), (19, 0), (20, 0), (21, 0), (22, 0), (23, 0), (24, 0), (25, 0), (26, 0), (27, 0), (28, 0), (29, 0), (30, 0), (31, 0), (32, 0), (33, 0), (34, 0)] mixed (by kernel_rfl) .refl ?_
        refine d_q rfl rfl (.none rfl) rfl rfl (q_move rfl rfl) ?_
        refine d_q rfl rfl (.none rfl) rfl rfl (q_move rfl rfl) ?_
        refine d_q rfl rfl (.none rfl) rfl rfl (q_len rfl Try.underlying22 rfl) ?_
        refine d_q rfl rfl (.none rfl) rfl rfl (q_lss rfl rfl rfl) ?_
        refine d_q rfl rfl (.none rfl) rfl rfl (q_move rfl rfl) ?_
        refine d_off rfl rfl (.no rfl rfl rfl g127) rfl rfl ?_
        refine d_off rfl rfl (.no rfl rfl rfl g127) rfl rfl ?_
        refine d_off rfl rfl (.no rfl rfl rfl g127) rfl rfl ?_
        refine d_off rfl rfl (.no rfl rfl rfl g127) rfl rfl ?_
        refine d_q rfl rfl (.none rfl) rfl rfl (q_pickF rfl rfl g127 rfl) ?_
        refine d_q rfl rfl (.none rfl) rfl rfl (q_move rfl rfl) ?_
        refine d_off rfl rfl (.no rfl rfl rfl rfl) rfl rfl ?_
        refine d_off rfl rfl (.no rfl rfl rfl rfl) rfl rfl ?_
        refine d_off rfl rfl (.no rfl rfl rfl rfl) rfl rfl ?_
        refine d_off rfl rfl (.no rfl rfl rfl rfl) rfl rfl ?_
        refine d_off rfl rfl (.no rfl rfl rfl rfl) rfl rfl ?_
        refine d_off rfl rfl (.no rfl rfl rfl rfl) rfl rfl ?_
        refine d_off rfl rfl (.no rfl rfl rfl rfl) rfl rfl ?_
        refine d_off rfl rfl (.no rfl rfl rfl rfl) rfl rfl ?_
        refine d_off rfl rfl (.no rfl rfl rfl rfl) rfl rfl ?_
        refine d_off rfl rfl (.no rfl rfl rfl rfl) rfl rfl ?_
        refine d_off rfl rfl (.no rfl rfl rfl rfl) rfl rfl ?_
        refine d_off rfl rfl (.no rfl rfl rfl rfl) rfl rfl ?_
        refine d_off rfl rfl (.no rfl rfl rfl rfl) rfl rfl ?_
        refine d_off rfl rfl (.no rfl rfl rfl rfl) rfl rfl ?_
        refine d_off rfl rfl (.no rfl rfl rfl rfl) rfl rfl ?_
        refine d_off rfl rfl (.no rfl rfl rfl rfl) rfl rfl ?_
        refine d_off rfl rfl (.no rfl rfl rfl rfl) rfl rfl ?_
        refine d_off rfl rfl (.no rfl rfl rfl rfl) rfl rfl ?_
        refine d_off rfl rfl (.no rfl rfl rfl rfl) rfl rfl ?_
        refine d_off rfl rfl (.no rfl rfl rfl rfl) rfl rfl ?_
        refine d_off rfl rfl (.no rfl rfl rfl rfl) rfl rfl ?_
        refine d_off rfl rfl (.no rfl rfl rfl rfl) rfl rfl ?_
        refine d_q rfl rfl (.none rfl) rfl rfl (q_pickF rfl rfl rfl rfl) ?_
        refine d_q rfl rfl (.none rfl) rfl rfl (q_assign rfl rfl) ?_
        refine d_nil ?_
        refine run_sub (subMk (.cons (s := 0) rfl (.cons (s := 1) rfl (.cons (s := 5) rfl (.cons (s := 6) rfl (.cons (s := 7) rfl (.cons (s := 8) rfl (.cons (s := 11) rfl (.cons (s := 12) rfl (.cons (s := 13) rfl (.cons (s := 14) rfl (.cons (s := 147) rfl .nil))))))))))) .refl) ?_
        refine run_condF rfl rfl ?_
        refine run_seq ?_
        refine run_draw [(0, 0), (1, 0), (2, 0), (3, 0), (4, 0), (5, 0), (6, 0), (7, 0), (8, 0), (9, 0), (10, 0), (11, 0), (12, 0), (13, 0), (14, 0), (15, 0), (16, 0), (17, 0), (18, 0), (19, 0)] mixed (by kernel_rfl) .refl ?_
        refine d_q rfl rfl (.none rfl) rfl rfl (q_move rfl rfl) ?_
        refine d_q rfl rfl (.none rfl) rfl rfl (q_move rfl rfl) ?_
        refine d_q rfl rfl (.none rfl) rfl rfl (q_len rfl Try.underlying22 rfl) ?_
        refine d_q rfl rfl (.none rfl) rfl rfl (q_lss rfl rfl rfl) ?_
        refine d_q rfl rfl (.none rfl) rfl rfl (q_move rfl rfl) ?_
        refine d_off rfl rfl (.no rfl rfl rfl g127) rfl rfl ?_
        refine d_off rfl rfl (.no rfl rfl rfl g127) rfl rfl ?_
        refine d_off rfl rfl (.no rfl rfl rfl g127) rfl rfl ?_
        refine d_off rfl rfl (.no rfl rfl rfl g127) rfl rfl ?_
        refine d_off rfl rfl (.no rfl rfl rfl g127) rfl rfl ?_
        refine d_off rfl rfl (.no rfl rfl rfl g127) rfl rfl ?_
        refine d_off rfl rfl (.no rfl rfl rfl g127) rfl rfl ?_
        refine d_off rfl rfl (.no rfl rfl rfl g127) rfl rfl ?_
        refine d_off rfl rfl (.no rfl rfl rfl g127) rfl rfl ?_
        refine d_off rfl rfl (.no rfl rfl rfl g127) rfl rfl ?_
        refine d_off rfl rfl (.no rfl rfl rfl g127) rfl rfl ?_
        refine d_off rfl rfl (.no rfl rfl rfl g127) rfl rfl ?_
        refine d_off rfl rfl (.no rfl rfl rfl g127) rfl rfl ?_
        refine d_q rfl rfl (.none rfl) rfl rfl (q_pickF rfl rfl g127 rfl) ?_
        refine d_q rfl rfl (.none rfl) rfl rfl (q_assign rfl rfl) ?_
        refine d_nil ?_
        refine run_sub (subMk (.cons (s := 0) rfl (.cons (s := 1) rfl (.cons (s := 5) rfl (.cons (s := 6) rfl (.cons (s := 7) rfl (.cons (s := 8) rfl (.cons (s := 11) rfl (.cons (s := 12) rfl (.cons (s := 13) rfl (.cons (s := 201) rfl .nil)))))))))) .refl) ?_
        refine run_condF rfl rfl ?_
        refine run_seq ?_
        refine run_region ?_
        refine run_q (.none rfl) rfl rfl (q_move rfl rfl) ?_
        refine run_q (.none rfl) rfl rfl (q_move rfl rfl) ?_
        refine run_q (.none rfl) rfl rfl (q_build rfl (.cons rfl (.cons rfl (.cons rfl PV.nil))) (built40p0p1p2 _ _ _)) ?_
        refine run_h (.none rfl) (h_buildSlice rfl rfl rfl Try.underlying28 info40 (.cons rfl rfl rfl rfl Parts.nil) rfl (by omega)) ?_
        rintro b143 -
        refine run_h (.none rfl) (h_append rfl rfl rfl Try.underlying28 info40 rfl rfl (.there Sel.here) rfl (.own Sel.here) rfl (all1 rfl) (all1 rfl) (by omega) (by omega)) ?_
        rintro ⟨A144, c144⟩ -
        refine run_q (.none rfl) rfl rfl (q_assign rfl rfl) ?_
        refine run_nil ?_
        refine run_sub (subMk (.cons (s := 0) rfl (.cons (s := 1) rfl (.cons (s := 5) rfl (.cons (s := 6) rfl (.cons (s := 7) rfl (.cons (s := 8) rfl (.cons (s := 11) rfl (.cons (s := 12) rfl (.cons (s := 13) rfl .nil))))))))) .refl) ?_
        refine run_region ?_
        refine run_q (.none rfl) rfl rfl (q_move rfl rfl) ?_
        refine run_q (.none rfl) rfl rfl (q_add rfl rfl rfl (by omega)) ?_
        refine run_q (.none rfl) rfl rfl (q_assign rfl rfl) ?_
        refine run_nil ?_
        refine run_blk ?_
        refine run_blk ?_
        exact run_again (i, k + 1, A144, c144, o ++ [⟨4, -1, k⟩]) (by (try dsimp only); exact ⟨by omega, by omega, by rw [hp, path_right (by omega) (by omega)]; simp, by simp; omega⟩) (by (try dsimp only); omega) (subMk (.cons' (s := 12) rfl rfl (.cons' (s := 13) rfl rfl (.cons' (s := 11) rfl (by simp) (.cons (s := 0) rfl (.cons (s := 1) rfl (.cons (s := 5) rfl (.cons (s := 6) rfl (.cons (s := 7) rfl (.cons (s := 8) rfl .nil))))))))) (.cons Sel.here (.own rfl (by simp) rfl (by simp [Pair.enc, vlist, kindV])) (.cons (.there Sel.here) .refl (.cons (.there Sel.here) .refl (.cons (.there Sel.here) .refl .nil)))))
      · have g132' := g132
        try simp only [decide_eq_true_eq, decide_eq_false_iff_not, beq_iff_eq, beq_eq_false_iff_ne, bne_iff_ne, bne_eq_false_iff_eq, Bool.not_eq_true', Bool.not_eq_false', ne_eq, Int.not_lt, Int.not_le, Decidable.not_not] at g132'
        refine run_exit rfl ?_
        refine run_sub (subMk (.cons (s := 6) rfl (.cons (s := 7) rfl (.cons (s := 8) rfl (.cons (s := 11) rfl .nil)))) .refl) ?_
        refine run_seq ?_
        refine run_draw [(0, 0), (1, 0), (2, 0), (3, 0), (4, 0), (5, 0), (6, 0), (7, 0)] mixed (by kernel_rfl) .refl ?_
        refine d_q rfl rfl (.none rfl) rfl rfl (q_move rfl rfl) ?_
        refine d_q rfl rfl (.none rfl) rfl rfl (q_move rfl rfl) ?_
        refine d_q rfl rfl (.none rfl) rfl rfl (q_indexS (q := 0) rfl Try.underlying73 sz72 rfl rfl (.own (.there Sel.here)) (outerL_len (by omega)) rfl (by omega)) ?_
        refine d_q rfl rfl (.none rfl) rfl rfl (q_loadC rfl one72 rfl (.own (.there Sel.here)) (hrow 0 (by omega))) ?_
        refine d_q rfl rfl (.none rfl) rfl rfl (q_indexS (q := 0) rfl Try.underlying72 sz3 rfl rfl (.sepOwn (.there (.there Sel.here)) (rowsR_all hgs (by omega))) (by simp [rowV]) rfl (by omega)) ?_
        refine d_q rfl rfl (.none rfl) rfl rfl (q_loadC rfl one3 rfl (.sepOwn (.there (.there Sel.here)) (rowsR_all hgs (by omega))) (rowV_get (by omega))) ?_
        refine d_q rfl rfl (.none rfl) rfl rfl (q_assign rfl rfl) ?_
        refine d_q rfl rfl (.none rfl) rfl rfl (q_assign rfl rfl) ?_
        refine d_nil ?_
        refine run_sub (subMk (.cons (s := 6) rfl (.cons (s := 7) rfl .nil)) .refl) ?_
        refine run_ret ?_
        refine run_sub (subMk .refl (.cons Sel.here .refl .nil)) ?_
        have hp' : path c a b 0 0 = o := by rw [hp, path_none (by omega) (by omega)]; simp
        exact end2 rfl rfl rfl ⟨A, cp, by simp [hp'], by rw [hp']⟩

end Go.Proofs.Ytbkmmjpklkallaa
