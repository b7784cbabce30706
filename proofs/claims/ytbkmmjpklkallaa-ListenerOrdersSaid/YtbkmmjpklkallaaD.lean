/- The reference's table. -/
import Derived.Test.YtbkmmjpklkallaaC
set_option linter.unusedSimpArgs false
set_option linter.unusedVariables false
namespace Go.Proofs.Ytbkmmjpklkallaa
open Go Go.RowKit Hr

theorem call40 : Hr.Callable Try.prog 40 := fun args w => by kernel_rfl

theorem table_ret (c : Cost) (a b : List Note) (A B : Option Addr) (ca cb : Nat) (W : World) (hra : Rd W A 7 (a.map Note.enc)) (hrb : Rd W B 7 (b.map Note.enc)) (hc : CostOk c) (hna : ∀ p ∈ a, NoteOk p) (hnb : ∀ p ∈ b, NoteOk p) (hla : a.length ≤ 1024) (hlb : b.length ≤ 1024) : Calls Try.prog 39 #[.slice A a.length ca, .slice B b.length cb, c.val] W (Ret W nX (fun v m => ∃ (g : Nat) (gs : List Nat), v = .slice (some ⟨g, 0, none⟩) (a.length + 1) (a.length + 1) ∧ gs.length = a.length + 1 ∧ m = [.own 72 1 (some ⟨g, 0, none⟩) (a.length + 1) (a.length + 1) (outerL a.length b.length gs), .sep (rowsR c a b gs)])) := by
  refine enterA (X := nX) (vs := [.slice A a.length ca, .slice B b.length cb, c.val]) Try.func39 Try.ntmps39 rfl rfl Mem.nil ?_
  refine run_seq ?_
  refine run_region ?_
  refine run_h (.none rfl) (h_box rfl rfl rfl rfl rfl) ?_
  rintro b5 -
  refine run_q (.none rfl) rfl rfl (q_assign rfl rfl) ?_
  refine run_nil ?_
  refine run_seq ?_
  refine run_region ?_
  refine run_q (.none rfl) rfl rfl (q_move rfl rfl) ?_
  refine run_q (.none rfl) rfl rfl (q_len rfl Try.underlying22 rfl) ?_
  refine run_q (.none rfl) rfl rfl (q_add rfl rfl rfl (by omega)) ?_
  refine run_h (.none rfl) (h_make (m := (a.length + 1)) (cap := (a.length + 1)) rfl rfl rfl Try.underlying73 info72 rfl rfl (by omega) (by omega) (by omega)) ?_
  rintro b14 -
  refine run_q (.none rfl) rfl rfl (q_assign rfl rfl) ?_
  refine run_nil ?_
  refine run_sub (subMk (.cons (s := 0) rfl (.cons (s := 1) rfl (.cons (s := 5) rfl (.cons (s := 6) rfl (.cons (s := 7) rfl .nil))))) .refl) ?_
  refine run_seq ?_
  refine run_seq ?_
  refine run_region ?_
  refine run_q (.none rfl) rfl rfl (q_move rfl rfl) ?_
  refine run_q (.none rfl) rfl rfl (q_len rfl Try.underlying22 rfl) ?_
  refine run_q (.none rfl) rfl rfl (q_assign rfl rfl) ?_
  refine run_nil ?_
  refine run_block ?_
  refine run_sub (subMk .refl MemSub.sepNil) ?_
  refine run_sub (subMk (.cons (s := 8) rfl (.cons (s := 0) rfl (.cons (s := 1) rfl (.cons (s := 5) rfl (.cons (s := 6) rfl (.cons (s := 7) rfl .nil)))))) (.cons (.there Sel.here) .refl (.cons Sel.here .refl (.cons Sel.here .refl .nil)))) ?_
  refine run_loopC1M2 (ι := Nat × (List Nat)) (fun gg => gg.1 ≤ a.length + 1 ∧ gg.2.length + gg.1 = a.length + 1) (fun gg => .int .i64 ((gg.1 : Int) - 1)) (fun gg => .own 72 1 (some ⟨b14, 0, none⟩) (a.length + 1) (a.length + 1) (outerL a.length b.length gg.2)) (fun gg => .sep (rowsR c a b gg.2)) (fun gg => gg.1) (a.length + 1, []) (by (try dsimp only); exact ⟨by omega, by simp⟩) (vint (by (try dsimp only); omega)) (.own rfl rfl rfl (outerL_nil _ _).symm) .refl ?_
  rintro ⟨j, gs⟩ hq
  (try dsimp only at hq)
  obtain ⟨hj1, hgs⟩ := hq
  show Run _ _ _ _ _ _ _ ⟨(8, .int .i64 ((j : Int) - 1)) :: _, .own 72 1 (some ⟨b14, 0, none⟩) (a.length + 1) (a.length + 1) (outerL a.length b.length gs) :: .sep (rowsR c a b gs) :: _⟩
  refine run_seq ?_
  refine run_seq ?_
  refine run_region ?_
  refine run_q (.none rfl) rfl rfl (q_move rfl rfl) ?_
  refine run_q (.none rfl) rfl rfl (q_geq rfl rfl rfl) ?_
  refine run_nil ?_
  refine run_cond rfl (fun g18 => ?_) (fun g18 => ?_)
  · have g18' := g18
    try simp only [decide_eq_true_eq, decide_eq_false_iff_not, beq_iff_eq, beq_eq_false_iff_ne, bne_iff_ne, bne_eq_false_iff_eq, Bool.not_eq_true', Bool.not_eq_false', ne_eq, Int.not_lt, Int.not_le, Decidable.not_not] at g18'
    obtain ⟨i, rfl⟩ : ∃ i, j = i + 1 := ⟨j - 1, by omega⟩
    refine run_skip ?_
    refine run_seq ?_
    refine run_block ?_
    refine run_seq ?_
    refine run_sub (subMk (.cons' (s := 8) (v' := .int .i64 (i : Int)) rfl (vint (by omega)) (.cons (s := 0) rfl (.cons (s := 1) rfl (.cons (s := 5) rfl (.cons (s := 6) rfl (.cons (s := 7) rfl (.cons (s := 17) rfl (.cons (s := 18) rfl .nil)))))))) .refl) ?_
    refine run_region ?_
    refine run_q (.none rfl) rfl rfl (q_move rfl rfl) ?_
    refine run_q (.none rfl) rfl rfl (q_move rfl rfl) ?_
    refine run_q (.none rfl) rfl rfl (q_move rfl rfl) ?_
    refine run_q (.none rfl) rfl rfl (q_len rfl Try.underlying22 rfl) ?_
    refine run_q (.none rfl) rfl rfl (q_add rfl rfl rfl (by omega)) ?_
    refine run_h (.none rfl) (h_make (m := (b.length + 1)) (cap := (b.length + 1)) rfl rfl rfl Try.underlying72 info3 rfl rfl (by omega) (by omega) (by omega)) ?_
    rintro b26 -
    refine run_q (.none rfl) rfl rfl (q_indexS (q := i) rfl Try.underlying73 sz72 rfl rfl (.own (.there Sel.here)) (outerL_len (by omega)) (by omega) (by omega)) ?_
    refine run_h (.none rfl) (h_storeE rfl rfl sz72 rfl rfl rfl rfl rfl (.there Sel.here) (by omega)) ?_
    rintro - -
    refine run_nil ?_
    refine run_sub (subMk (.cons (s := 0) rfl (.cons (s := 1) rfl (.cons (s := 5) rfl (.cons (s := 6) rfl (.cons (s := 7) rfl (.cons (s := 8) rfl .nil)))))) .refl) ?_
    refine run_seq ?_
    refine run_region ?_
    refine run_q (.none rfl) rfl rfl (q_move rfl rfl) ?_
    refine run_q (.none rfl) rfl rfl (q_len rfl Try.underlying22 rfl) ?_
    refine run_q (.none rfl) rfl rfl (q_assign rfl rfl) ?_
    refine run_nil ?_
    refine run_block ?_
    refine run_sub (subMk (.cons (s := 9) rfl (.cons (s := 0) rfl (.cons (s := 1) rfl (.cons (s := 5) rfl (.cons (s := 6) rfl (.cons (s := 7) rfl (.cons (s := 8) rfl .nil))))))) (.cons Sel.here .refl (.cons Sel.here .refl (.cons Sel.here .refl (.cons Sel.here .refl .nil))))) ?_
    refine run_loopC1M2 (ι := Nat) (fun s => s ≤ b.length + 1) (fun s => .int .i64 ((b.length : Int) - s)) (fun s => .own 72 1 (some ⟨b14, 0, none⟩) (a.length + 1) (a.length + 1) (outerL a.length b.length (b26 :: gs))) (fun s => .own 3 1 (some ⟨b26, 0, none⟩) (b.length + 1) (b.length + 1) ((rowPart c (a.drop i) b s).map encI)) (fun s => b.length + 1 - s) 0 (by (try dsimp only); exact (by omega)) (vint (by (try dsimp only); omega)) (.own rfl rfl rfl (outerL_set (by omega))) (.own rfl rfl rfl (rowPart_zero _ _ _).symm) ?_
    rintro s hs
    (try dsimp only at hs)
    show Run _ _ _ _ _ _ _ ⟨(9, .int .i64 ((b.length : Int) - s)) :: _, .own 72 1 (some ⟨b14, 0, none⟩) (a.length + 1) (a.length + 1) (outerL a.length b.length (b26 :: gs)) :: .own 3 1 (some ⟨b26, 0, none⟩) (b.length + 1) (b.length + 1) ((rowPart c (a.drop i) b s).map encI) :: _⟩
    refine run_seq ?_
    refine run_seq ?_
    refine run_region ?_
    refine run_q (.none rfl) rfl rfl (q_move rfl rfl) ?_
    refine run_q (.none rfl) rfl rfl (q_geq rfl rfl rfl) ?_
    refine run_nil ?_
    refine run_cond rfl (fun g31 => ?_) (fun g31 => ?_)
    · have g31' := g31
      try simp only [decide_eq_true_eq, decide_eq_false_iff_not, beq_iff_eq, beq_eq_false_iff_ne, bne_iff_ne, bne_eq_false_iff_eq, Bool.not_eq_true', Bool.not_eq_false', ne_eq, Int.not_lt, Int.not_le, Decidable.not_not] at g31'
      obtain ⟨k, hk⟩ : ∃ k, k + s = b.length := ⟨b.length - s, by omega⟩
      have hcur := outerL_cur (n := a.length) (m := b.length) (g := b26) hgs
      have hbel := fun h => outerL_bel (n := a.length) (m := b.length) (g := b26) hgs h
      have hbelR := fun h => rowsR_bel (c := c) (b := b) hgs h
      have hb1 := best_drop_bd hc hla hlb (i + 1) (k + 1)
      have hb2 := best_drop_bd hc hla hlb (i + 1) k
      have hb3 := best_drop_bd hc hla hlb i (k + 1)
      have hb4 := best_drop_bd hc hla hlb i k
      have hj := joinV_bd hc (nth a i) (nth b k)
      have hm := hc.m
      have he := hc.e
      refine run_skip ?_
      refine run_seq ?_
      refine run_block ?_
      refine run_seq ?_
      refine run_sub (subMk (.cons' (s := 9) (v' := .int .i64 (k : Int)) rfl (vint (by omega)) (.cons (s := 0) rfl (.cons (s := 1) rfl (.cons (s := 5) rfl (.cons (s := 6) rfl (.cons (s := 7) rfl (.cons (s := 8) rfl (.cons (s := 30) rfl (.cons (s := 31) rfl .nil))))))))) .refl) ?_
      refine run_region ?_
      refine run_q (.none rfl) rfl rfl (q_assign rfl rfl) ?_
      refine run_nil ?_
      refine run_seq ?_
      refine run_seq ?_
      refine run_region ?_
      refine run_q (.none rfl) rfl rfl (q_move rfl rfl) ?_
      refine run_q (.none rfl) rfl rfl (q_move rfl rfl) ?_
      refine run_q (.none rfl) rfl rfl (q_len rfl Try.underlying22 rfl) ?_
      refine run_q (.none rfl) rfl rfl (q_lss rfl rfl rfl) ?_
      refine run_q (.none rfl) rfl rfl (q_move rfl rfl) ?_
      refine run_split 38 rfl (fun g38 => ?_) (fun g38 => ?_)
      · have g38' := g38
        try simp only [decide_eq_true_eq, decide_eq_false_iff_not, beq_iff_eq, beq_eq_false_iff_ne, bne_iff_ne, bne_eq_false_iff_eq, Bool.not_eq_true', Bool.not_eq_false', ne_eq, Int.not_lt, Int.not_le, Decidable.not_not] at g38'
        refine run_q (.on rfl rfl rfl g38) rfl rfl (q_move rfl rfl) ?_
        refine run_q (.on rfl rfl rfl g38) rfl rfl (q_move rfl rfl) ?_
        refine run_q (.on rfl rfl rfl g38) rfl rfl (q_len rfl Try.underlying22 rfl) ?_
        refine run_q (.on rfl rfl rfl g38) rfl rfl (q_lss rfl rfl rfl) ?_
        refine run_q (.none rfl) rfl rfl (q_pickT rfl rfl g38 rfl) ?_
        refine run_nil ?_
        refine run_sub (subMk (.cons (s := 0) rfl (.cons (s := 1) rfl (.cons (s := 5) rfl (.cons (s := 6) rfl (.cons (s := 7) rfl (.cons (s := 8) rfl (.cons (s := 9) rfl (.cons (s := 10) rfl (.cons (s := 43) rfl .nil))))))))) .refl) ?_
        refine run_cond rfl (fun g43 => ?_) (fun g43 => ?_)
        · have g43' := g43
          try simp only [decide_eq_true_eq, decide_eq_false_iff_not, beq_iff_eq, beq_eq_false_iff_ne, bne_iff_ne, bne_eq_false_iff_eq, Bool.not_eq_true', Bool.not_eq_false', ne_eq, Int.not_lt, Int.not_le, Decidable.not_not] at g43'
          refine run_draw [(0, 0), (1, 0), (2, 0), (3, 0), (4, 0), (5, 0), (6, 0), (7, 0), (8, 0), (9, 0), (10, 0), (11, 0), (12, 0), (13, 0), (14, 0), (15, 0), (16, 0), (17, 0), (18, 0), (19, 0), (20, 0)] mixed (by kernel_rfl) .refl ?_
          refine d_q rfl rfl (.none rfl) rfl rfl (q_move rfl rfl) ?_
          refine d_q rfl rfl (.none rfl) rfl rfl (q_move rfl rfl) ?_
          refine d_q rfl rfl (.none rfl) rfl rfl (q_indexS (q := i) rfl Try.underlying22 sz47 rfl rfl (.inp hra .no) (by simp <;> omega) rfl (by omega)) ?_
          refine d_q rfl rfl (.none rfl) rfl rfl (q_loadE rfl agg47 rfl (.inp hra .no) (getmap (by omega)) rfl) ?_
          refine d_q rfl rfl (.none rfl) rfl rfl (q_move rfl rfl) ?_
          refine d_q rfl rfl (.none rfl) rfl rfl (q_move rfl rfl) ?_
          refine d_q rfl rfl (.none rfl) rfl rfl (q_indexS (q := k) rfl Try.underlying22 sz47 rfl rfl (.inp hrb .no) (by simp <;> omega) rfl (by omega)) ?_
          refine d_q rfl rfl (.none rfl) rfl rfl (q_loadE rfl agg47 rfl (.inp hrb .no) (getmap (by omega)) rfl) ?_
          refine d_q rfl rfl (.none rfl) rfl rfl (q_loadBN rfl agg26 rfl (.there (.there (.there Sel.here))) (.cons rfl (.cons rfl (.cons rfl (.cons rfl (.cons rfl CellsAt.nil))))) rfl) ?_
          refine d_q rfl rfl (.none rfl) rfl rfl (q_call rfl call40 (.cons rfl (.cons rfl (.cons rfl Evs.nil))) (fun w hk hm => joined_just (nth a i) (nth b k) c w hc (noteOk_nth hna (by omega)) (noteOk_nth hnb (by omega)))) ?_
          refine d_q rfl rfl (.none rfl) rfl rfl (q_move rfl rfl) ?_
          refine d_q rfl rfl (.none rfl) rfl rfl (q_move rfl rfl) ?_
          refine d_q rfl rfl (.none rfl) rfl rfl (q_add rfl rfl rfl (by omega)) ?_
          refine d_q rfl rfl (.none rfl) rfl rfl (q_indexS (q := (i + 1)) rfl Try.underlying73 sz72 rfl rfl (.own Sel.here) (outerL_len (by simp; omega)) rfl (by omega)) ?_
          refine d_q rfl rfl (.none rfl) rfl rfl (q_loadC rfl one72 rfl (.own Sel.here) (hbel (by omega))) ?_
          refine d_q rfl rfl (.none rfl) rfl rfl (q_move rfl rfl) ?_
          refine d_q rfl rfl (.none rfl) rfl rfl (q_add rfl rfl rfl (by omega)) ?_
          refine d_q rfl rfl (.none rfl) rfl rfl (q_indexS (q := (k + 1)) rfl Try.underlying72 sz3 rfl rfl (.sepOwn (.there (.there Sel.here)) (hbelR (by omega))) (by simp [rowV]) rfl (by omega)) ?_
          refine d_q rfl rfl (.none rfl) rfl rfl (q_loadC rfl one3 rfl (.sepOwn (.there (.there Sel.here)) (hbelR (by omega))) (rowV_get (by omega))) ?_
          refine d_q rfl rfl (.none rfl) rfl rfl (q_add rfl rfl rfl (by omega)) ?_
          refine d_q rfl rfl (.none rfl) rfl rfl (q_assign rfl rfl) ?_
          refine d_nil ?_
          refine run_sub (subMk (.cons (s := 0) rfl (.cons (s := 1) rfl (.cons (s := 5) rfl (.cons (s := 6) rfl (.cons (s := 7) rfl (.cons (s := 8) rfl (.cons (s := 9) rfl (.cons (s := 10) rfl .nil)))))))) .refl) ?_
          refine run_seq ?_
          refine run_seq ?_
          refine run_draw [(0, 0), (1, 0), (2, 0), (3, 0), (4, 0), (5, 0), (6, 0), (7, 0), (8, 0), (9, 0), (10, 0), (11, 0), (12, 0), (13, 0), (14, 0), (15, 0), (16, 0), (17, 0), (18, 0), (19, 0), (20, 0), (21, 0), (22, 0)] mixed (by kernel_rfl) .refl ?_
          refine d_q rfl rfl (.none rfl) rfl rfl (q_move rfl rfl) ?_
          refine d_q rfl rfl (.none rfl) rfl rfl (q_move rfl rfl) ?_
          refine d_q rfl rfl (.none rfl) rfl rfl (q_len rfl Try.underlying22 rfl) ?_
          refine d_q rfl rfl (.none rfl) rfl rfl (q_lss rfl rfl rfl) ?_
          refine d_q rfl rfl (.none rfl) rfl rfl (q_move rfl rfl) ?_
          refine d_q rfl rfl (.on rfl rfl rfl g38) rfl rfl (q_move rfl rfl) ?_
          refine d_q rfl rfl (.on rfl rfl rfl g38) rfl rfl (q_lss rfl rfl rfl) ?_
          refine d_q rfl rfl (.on rfl rfl rfl g38) rfl rfl (q_move rfl rfl) ?_
          refine d_q rfl rfl (.on rfl rfl rfl (decide_eq_false (by omega))) rfl rfl (q_fieldB (d := 1) rfl Try.underlying26 rfl rfl sz3 rfl) ?_
          refine d_q rfl rfl (.on rfl rfl rfl (decide_eq_false (by omega))) rfl rfl (q_loadB rfl one3 rfl (.there (.there (.there Sel.here))) rfl) ?_
          refine d_q rfl rfl (.on rfl rfl rfl (decide_eq_false (by omega))) rfl rfl (q_move rfl rfl) ?_
          refine d_q rfl rfl (.on rfl rfl rfl (decide_eq_false (by omega))) rfl rfl (q_move rfl rfl) ?_
          refine d_q rfl rfl (.on rfl rfl rfl (decide_eq_false (by omega))) rfl rfl (q_add rfl rfl rfl (by omega)) ?_
          refine d_q rfl rfl (.on rfl rfl rfl (decide_eq_false (by omega))) rfl rfl (q_indexS (q := (i + 1)) rfl Try.underlying73 sz72 rfl rfl (.own Sel.here) (outerL_len (by simp; omega)) rfl (by omega)) ?_
          refine d_q rfl rfl (.on rfl rfl rfl (decide_eq_false (by omega))) rfl rfl (q_loadC rfl one72 rfl (.own Sel.here) (hbel (by omega))) ?_
          refine d_q rfl rfl (.on rfl rfl rfl (decide_eq_false (by omega))) rfl rfl (q_move rfl rfl) ?_
          refine d_q rfl rfl (.on rfl rfl rfl (decide_eq_false (by omega))) rfl rfl (q_indexS (q := k) rfl Try.underlying72 sz3 rfl rfl (.sepOwn (.there (.there Sel.here)) (hbelR (by omega))) (by simp [rowV]) rfl (by omega)) ?_
          refine d_q rfl rfl (.on rfl rfl rfl (decide_eq_false (by omega))) rfl rfl (q_loadC rfl one3 rfl (.sepOwn (.there (.there Sel.here)) (hbelR (by omega))) (rowV_get (by omega))) ?_
          refine d_q rfl rfl (.on rfl rfl rfl (decide_eq_false (by omega))) rfl rfl (q_add rfl rfl rfl (by omega)) ?_
          refine d_q rfl rfl (.on rfl rfl rfl (decide_eq_false (by omega))) rfl rfl (q_move rfl rfl) ?_
          refine d_q rfl rfl (.on rfl rfl rfl (decide_eq_false (by omega))) rfl rfl (q_lss rfl rfl rfl) ?_
          refine d_q rfl rfl (.on rfl rfl rfl g38) rfl rfl (q_pickF rfl rfl (decide_eq_false (by omega)) rfl) ?_
          refine d_q rfl rfl (.none rfl) rfl rfl (q_pickT rfl rfl g38 rfl) ?_
          refine d_nil ?_
          refine run_sub (subMk (.cons (s := 0) rfl (.cons (s := 1) rfl (.cons (s := 5) rfl (.cons (s := 6) rfl (.cons (s := 7) rfl (.cons (s := 8) rfl (.cons (s := 9) rfl (.cons (s := 10) rfl (.cons (s := 86) rfl .nil))))))))) .refl) ?_
          refine run_cond rfl (fun g86 => ?_) (fun g86 => ?_)
          · have g86' := g86
            try simp only [decide_eq_true_eq, decide_eq_false_iff_not, beq_iff_eq, beq_eq_false_iff_ne, bne_iff_ne, bne_eq_false_iff_eq, Bool.not_eq_true', Bool.not_eq_false', ne_eq, Int.not_lt, Int.not_le, Decidable.not_not] at g86'
            refine run_draw [(0, 0), (1, 0), (2, 0), (3, 0), (4, 0), (5, 0), (6, 0), (7, 0), (8, 0), (9, 0), (10, 0), (11, 0)] mixed (by kernel_rfl) .refl ?_
            refine d_q rfl rfl (.none rfl) rfl rfl (q_fieldB (d := 1) rfl Try.underlying26 rfl rfl sz3 rfl) ?_
            refine d_q rfl rfl (.none rfl) rfl rfl (q_loadB rfl one3 rfl (.there (.there (.there Sel.here))) rfl) ?_
            refine d_q rfl rfl (.none rfl) rfl rfl (q_move rfl rfl) ?_
            refine d_q rfl rfl (.none rfl) rfl rfl (q_move rfl rfl) ?_
            refine d_q rfl rfl (.none rfl) rfl rfl (q_add rfl rfl rfl (by omega)) ?_
            refine d_q rfl rfl (.none rfl) rfl rfl (q_indexS (q := (i + 1)) rfl Try.underlying73 sz72 rfl rfl (.own Sel.here) (outerL_len (by simp; omega)) rfl (by omega)) ?_
            refine d_q rfl rfl (.none rfl) rfl rfl (q_loadC rfl one72 rfl (.own Sel.here) (hbel (by omega))) ?_
            refine d_q rfl rfl (.none rfl) rfl rfl (q_move rfl rfl) ?_
            refine d_q rfl rfl (.none rfl) rfl rfl (q_indexS (q := k) rfl Try.underlying72 sz3 rfl rfl (.sepOwn (.there (.there Sel.here)) (hbelR (by omega))) (by simp [rowV]) rfl (by omega)) ?_
            refine d_q rfl rfl (.none rfl) rfl rfl (q_loadC rfl one3 rfl (.sepOwn (.there (.there Sel.here)) (hbelR (by omega))) (rowV_get (by omega))) ?_
            refine d_q rfl rfl (.none rfl) rfl rfl (q_add rfl rfl rfl (by omega)) ?_
            refine d_q rfl rfl (.none rfl) rfl rfl (q_assign rfl rfl) ?_
            refine d_nil ?_
            refine run_sub (subMk (.cons (s := 0) rfl (.cons (s := 1) rfl (.cons (s := 5) rfl (.cons (s := 6) rfl (.cons (s := 7) rfl (.cons (s := 8) rfl (.cons (s := 9) rfl (.cons (s := 10) rfl .nil)))))))) .refl) ?_
            refine run_seq ?_
            refine run_seq ?_
            refine run_draw [(0, 0), (1, 0), (2, 0), (3, 0), (4, 0), (5, 0), (6, 0), (7, 0), (8, 0), (9, 0), (10, 0), (11, 0), (12, 0), (13, 0), (14, 0), (15, 0), (16, 0), (17, 0), (18, 0), (19, 0), (20, 0), (21, 0), (22, 0)] mixed (by kernel_rfl) .refl ?_
            refine d_q rfl rfl (.none rfl) rfl rfl (q_move rfl rfl) ?_
            refine d_q rfl rfl (.none rfl) rfl rfl (q_move rfl rfl) ?_
            refine d_q rfl rfl (.none rfl) rfl rfl (q_len rfl Try.underlying22 rfl) ?_
            refine d_q rfl rfl (.none rfl) rfl rfl (q_lss rfl rfl rfl) ?_
            refine d_q rfl rfl (.none rfl) rfl rfl (q_move rfl rfl) ?_
            refine d_q rfl rfl (.on rfl rfl rfl g43) rfl rfl (q_move rfl rfl) ?_
            refine d_q rfl rfl (.on rfl rfl rfl g43) rfl rfl (q_lss rfl rfl rfl) ?_
            refine d_q rfl rfl (.on rfl rfl rfl g43) rfl rfl (q_move rfl rfl) ?_
            refine d_q rfl rfl (.on rfl rfl rfl (decide_eq_false (by omega))) rfl rfl (q_fieldB (d := 2) rfl Try.underlying26 rfl rfl sz3 rfl) ?_
            refine d_q rfl rfl (.on rfl rfl rfl (decide_eq_false (by omega))) rfl rfl (q_loadB rfl one3 rfl (.there (.there (.there Sel.here))) rfl) ?_
            refine d_q rfl rfl (.on rfl rfl rfl (decide_eq_false (by omega))) rfl rfl (q_move rfl rfl) ?_
            refine d_q rfl rfl (.on rfl rfl rfl (decide_eq_false (by omega))) rfl rfl (q_move rfl rfl) ?_
            refine d_q rfl rfl (.on rfl rfl rfl (decide_eq_false (by omega))) rfl rfl (q_indexS (q := i) rfl Try.underlying73 sz72 rfl rfl (.own Sel.here) (outerL_len (by simp; omega)) rfl (by omega)) ?_
            refine d_q rfl rfl (.on rfl rfl rfl (decide_eq_false (by omega))) rfl rfl (q_loadC rfl one72 rfl (.own Sel.here) hcur) ?_
            refine d_q rfl rfl (.on rfl rfl rfl (decide_eq_false (by omega))) rfl rfl (q_move rfl rfl) ?_
            refine d_q rfl rfl (.on rfl rfl rfl (decide_eq_false (by omega))) rfl rfl (q_add rfl rfl rfl (by omega)) ?_
            refine d_q rfl rfl (.on rfl rfl rfl (decide_eq_false (by omega))) rfl rfl (q_indexS (q := (k + 1)) rfl Try.underlying72 sz3 rfl rfl (.own (.there Sel.here)) (by simp [rowPart]) rfl (by omega)) ?_
            refine d_q rfl rfl (.on rfl rfl rfl (decide_eq_false (by omega))) rfl rfl (q_loadC rfl one3 rfl (.own (.there Sel.here)) (rowPart_get (by omega) (by omega))) ?_
            refine d_q rfl rfl (.on rfl rfl rfl (decide_eq_false (by omega))) rfl rfl (q_add rfl rfl rfl (by omega)) ?_
            refine d_q rfl rfl (.on rfl rfl rfl (decide_eq_false (by omega))) rfl rfl (q_move rfl rfl) ?_
            refine d_q rfl rfl (.on rfl rfl rfl (decide_eq_false (by omega))) rfl rfl (q_lss rfl rfl rfl) ?_
            refine d_q rfl rfl (.on rfl rfl rfl g43) rfl rfl (q_pickF rfl rfl (decide_eq_false (by omega)) rfl) ?_
            refine d_q rfl rfl (.none rfl) rfl rfl (q_pickT rfl rfl g43 rfl) ?_
            refine d_nil ?_
            refine run_sub (subMk (.cons (s := 0) rfl (.cons (s := 1) rfl (.cons (s := 5) rfl (.cons (s := 6) rfl (.cons (s := 7) rfl (.cons (s := 8) rfl (.cons (s := 9) rfl (.cons (s := 10) rfl (.cons (s := 120) rfl .nil))))))))) .refl) ?_
            refine run_cond rfl (fun g120 => ?_) (fun g120 => ?_)
            · have g120' := g120
              try simp only [decide_eq_true_eq, decide_eq_false_iff_not, beq_iff_eq, beq_eq_false_iff_ne, bne_iff_ne, bne_eq_false_iff_eq, Bool.not_eq_true', Bool.not_eq_false', ne_eq, Int.not_lt, Int.not_le, Decidable.not_not] at g120'
              refine run_draw [(0, 0), (1, 0), (2, 0), (3, 0), (4, 0), (5, 0), (6, 0), (7, 0), (8, 0), (9, 0), (10, 0), (11, 0)] mixed (by kernel_rfl) .refl ?_
              refine d_q rfl rfl (.none rfl) rfl rfl (q_fieldB (d := 2) rfl Try.underlying26 rfl rfl sz3 rfl) ?_
              refine d_q rfl rfl (.none rfl) rfl rfl (q_loadB rfl one3 rfl (.there (.there (.there Sel.here))) rfl) ?_
              refine d_q rfl rfl (.none rfl) rfl rfl (q_move rfl rfl) ?_
              refine d_q rfl rfl (.none rfl) rfl rfl (q_move rfl rfl) ?_
              refine d_q rfl rfl (.none rfl) rfl rfl (q_indexS (q := i) rfl Try.underlying73 sz72 rfl rfl (.own Sel.here) (outerL_len (by simp; omega)) rfl (by omega)) ?_
              refine d_q rfl rfl (.none rfl) rfl rfl (q_loadC rfl one72 rfl (.own Sel.here) hcur) ?_
              refine d_q rfl rfl (.none rfl) rfl rfl (q_move rfl rfl) ?_
              refine d_q rfl rfl (.none rfl) rfl rfl (q_add rfl rfl rfl (by omega)) ?_
              refine d_q rfl rfl (.none rfl) rfl rfl (q_indexS (q := (k + 1)) rfl Try.underlying72 sz3 rfl rfl (.own (.there Sel.here)) (by simp [rowPart]) rfl (by omega)) ?_
              refine d_q rfl rfl (.none rfl) rfl rfl (q_loadC rfl one3 rfl (.own (.there Sel.here)) (rowPart_get (by omega) (by omega))) ?_
              refine d_q rfl rfl (.none rfl) rfl rfl (q_add rfl rfl rfl (by omega)) ?_
              refine d_q rfl rfl (.none rfl) rfl rfl (q_assign rfl rfl) ?_
              refine d_nil ?_
              refine run_sub (subMk (.cons (s := 0) rfl (.cons (s := 1) rfl (.cons (s := 5) rfl (.cons (s := 6) rfl (.cons (s := 7) rfl (.cons (s := 8) rfl (.cons (s := 9) rfl (.cons (s := 10) rfl .nil)))))))) .refl) ?_
              refine run_region ?_
              refine run_q (.none rfl) rfl rfl (q_move rfl rfl) ?_
              refine run_q (.none rfl) rfl rfl (q_move rfl rfl) ?_
              refine run_q (.none rfl) rfl rfl (q_indexS (q := i) rfl Try.underlying73 sz72 rfl rfl (.own Sel.here) (outerL_len (by simp; omega)) rfl (by omega)) ?_
              refine run_q (.none rfl) rfl rfl (q_loadC rfl one72 rfl (.own Sel.here) hcur) ?_
              refine run_q (.none rfl) rfl rfl (q_move rfl rfl) ?_
              refine run_q (.none rfl) rfl rfl (q_move rfl rfl) ?_
              refine run_q (.none rfl) rfl rfl (q_max2 rfl rfl rfl) ?_
              refine run_q (.none rfl) rfl rfl (q_indexS (q := k) rfl Try.underlying72 sz3 rfl rfl (.own (.there Sel.here)) (by simp [rowPart]) rfl (by omega)) ?_
              refine run_h (.none rfl) (h_storeE rfl rfl sz3 rfl rfl rfl rfl rfl (.there Sel.here) (by omega)) ?_
              rintro - -
              refine run_nil ?_
              refine run_sub (subMk (.cons (s := 0) rfl (.cons (s := 1) rfl (.cons (s := 5) rfl (.cons (s := 6) rfl (.cons (s := 7) rfl (.cons (s := 8) rfl (.cons (s := 9) rfl .nil))))))) .refl) ?_
              refine run_blk ?_
              refine run_region ?_
              refine run_q (.none rfl) rfl rfl (q_move rfl rfl) ?_
              refine run_q (.none rfl) rfl rfl (q_sub rfl rfl rfl (by omega)) ?_
              refine run_q (.none rfl) rfl rfl (q_assign rfl rfl) ?_
              refine run_nil ?_
              exact run_again (s + 1) (by (try dsimp only); exact (by omega)) (by (try dsimp only); omega) (subMk (.cons' (s := 9) rfl (vint (by omega)) (.cons (s := 0) rfl (.cons (s := 1) rfl (.cons (s := 5) rfl (.cons (s := 6) rfl (.cons (s := 7) rfl (.cons (s := 8) rfl .nil))))))) (.cons (.there Sel.here) .refl (.cons Sel.here (.own rfl rfl rfl (rowPart_set (k := k) (by omega) (by omega) (by have := best_both (c := c) (a := a) (b := b) (i := i) (k := k) (by omega) (by omega); omega))) (.cons Sel.here .refl (.cons Sel.here .refl .nil)))))
            · have g120' := g120
              try simp only [decide_eq_true_eq, decide_eq_false_iff_not, beq_iff_eq, beq_eq_false_iff_ne, bne_iff_ne, bne_eq_false_iff_eq, Bool.not_eq_true', Bool.not_eq_false', ne_eq, Int.not_lt, Int.not_le, Decidable.not_not] at g120'
              refine run_skip ?_
              refine run_region ?_
              refine run_q (.none rfl) rfl rfl (q_move rfl rfl) ?_
              refine run_q (.none rfl) rfl rfl (q_move rfl rfl) ?_
              refine run_q (.none rfl) rfl rfl (q_indexS (q := i) rfl Try.underlying73 sz72 rfl rfl (.own Sel.here) (outerL_len (by simp; omega)) rfl (by omega)) ?_
              refine run_q (.none rfl) rfl rfl (q_loadC rfl one72 rfl (.own Sel.here) hcur) ?_
              refine run_q (.none rfl) rfl rfl (q_move rfl rfl) ?_
              refine run_q (.none rfl) rfl rfl (q_move rfl rfl) ?_
              refine run_q (.none rfl) rfl rfl (q_max2 rfl rfl rfl) ?_
              refine run_q (.none rfl) rfl rfl (q_indexS (q := k) rfl Try.underlying72 sz3 rfl rfl (.own (.there Sel.here)) (by simp [rowPart]) rfl (by omega)) ?_
              refine run_h (.none rfl) (h_storeE rfl rfl sz3 rfl rfl rfl rfl rfl (.there Sel.here) (by omega)) ?_
              rintro - -
              refine run_nil ?_
              refine run_sub (subMk (.cons (s := 0) rfl (.cons (s := 1) rfl (.cons (s := 5) rfl (.cons (s := 6) rfl (.cons (s := 7) rfl (.cons (s := 8) rfl (.cons (s := 9) rfl .nil))))))) .refl) ?_
              refine run_blk ?_
              refine run_region ?_
              refine run_q (.none rfl) rfl rfl (q_move rfl rfl) ?_
              refine run_q (.none rfl) rfl rfl (q_sub rfl rfl rfl (by omega)) ?_
              refine run_q (.none rfl) rfl rfl (q_assign rfl rfl) ?_
              refine run_nil ?_
              exact run_again (s + 1) (by (try dsimp only); exact (by omega)) (by (try dsimp only); omega) (subMk (.cons' (s := 9) rfl (vint (by omega)) (.cons (s := 0) rfl (.cons (s := 1) rfl (.cons (s := 5) rfl (.cons (s := 6) rfl (.cons (s := 7) rfl (.cons (s := 8) rfl .nil))))))) (.cons (.there Sel.here) .refl (.cons Sel.here (.own rfl rfl rfl (rowPart_set (k := k) (by omega) (by omega) (by have := best_both (c := c) (a := a) (b := b) (i := i) (k := k) (by omega) (by omega); omega))) (.cons Sel.here .refl (.cons Sel.here .refl .nil)))))
          · have g86' := g86
            try simp only [decide_eq_true_eq, decide_eq_false_iff_not, beq_iff_eq, beq_eq_false_iff_ne, bne_iff_ne, bne_eq_false_iff_eq, Bool.not_eq_true', Bool.not_eq_false', ne_eq, Int.not_lt, Int.not_le, Decidable.not_not] at g86'
            refine run_skip ?_
            refine run_seq ?_
            refine run_seq ?_
            refine run_draw [(0, 0), (1, 0), (2, 0), (3, 0), (4, 0), (5, 0), (6, 0), (7, 0), (8, 0), (9, 0), (10, 0), (11, 0), (12, 0), (13, 0), (14, 0), (15, 0), (16, 0), (17, 0), (18, 0), (19, 0), (20, 0), (21, 0), (22, 0)] mixed (by kernel_rfl) .refl ?_
            refine d_q rfl rfl (.none rfl) rfl rfl (q_move rfl rfl) ?_
            refine d_q rfl rfl (.none rfl) rfl rfl (q_move rfl rfl) ?_
            refine d_q rfl rfl (.none rfl) rfl rfl (q_len rfl Try.underlying22 rfl) ?_
            refine d_q rfl rfl (.none rfl) rfl rfl (q_lss rfl rfl rfl) ?_
            refine d_q rfl rfl (.none rfl) rfl rfl (q_move rfl rfl) ?_
            refine d_q rfl rfl (.on rfl rfl rfl g43) rfl rfl (q_move rfl rfl) ?_
            refine d_q rfl rfl (.on rfl rfl rfl g43) rfl rfl (q_lss rfl rfl rfl) ?_
            refine d_q rfl rfl (.on rfl rfl rfl g43) rfl rfl (q_move rfl rfl) ?_
            refine d_q rfl rfl (.on rfl rfl rfl (decide_eq_false (by omega))) rfl rfl (q_fieldB (d := 2) rfl Try.underlying26 rfl rfl sz3 rfl) ?_
            refine d_q rfl rfl (.on rfl rfl rfl (decide_eq_false (by omega))) rfl rfl (q_loadB rfl one3 rfl (.there (.there (.there Sel.here))) rfl) ?_
            refine d_q rfl rfl (.on rfl rfl rfl (decide_eq_false (by omega))) rfl rfl (q_move rfl rfl) ?_
            refine d_q rfl rfl (.on rfl rfl rfl (decide_eq_false (by omega))) rfl rfl (q_move rfl rfl) ?_
            refine d_q rfl rfl (.on rfl rfl rfl (decide_eq_false (by omega))) rfl rfl (q_indexS (q := i) rfl Try.underlying73 sz72 rfl rfl (.own Sel.here) (outerL_len (by simp; omega)) rfl (by omega)) ?_
            refine d_q rfl rfl (.on rfl rfl rfl (decide_eq_false (by omega))) rfl rfl (q_loadC rfl one72 rfl (.own Sel.here) hcur) ?_
            refine d_q rfl rfl (.on rfl rfl rfl (decide_eq_false (by omega))) rfl rfl (q_move rfl rfl) ?_
            refine d_q rfl rfl (.on rfl rfl rfl (decide_eq_false (by omega))) rfl rfl (q_add rfl rfl rfl (by omega)) ?_
            refine d_q rfl rfl (.on rfl rfl rfl (decide_eq_false (by omega))) rfl rfl (q_indexS (q := (k + 1)) rfl Try.underlying72 sz3 rfl rfl (.own (.there Sel.here)) (by simp [rowPart]) rfl (by omega)) ?_
            refine d_q rfl rfl (.on rfl rfl rfl (decide_eq_false (by omega))) rfl rfl (q_loadC rfl one3 rfl (.own (.there Sel.here)) (rowPart_get (by omega) (by omega))) ?_
            refine d_q rfl rfl (.on rfl rfl rfl (decide_eq_false (by omega))) rfl rfl (q_add rfl rfl rfl (by omega)) ?_
            refine d_q rfl rfl (.on rfl rfl rfl (decide_eq_false (by omega))) rfl rfl (q_move rfl rfl) ?_
            refine d_q rfl rfl (.on rfl rfl rfl (decide_eq_false (by omega))) rfl rfl (q_lss rfl rfl rfl) ?_
            refine d_q rfl rfl (.on rfl rfl rfl g43) rfl rfl (q_pickF rfl rfl (decide_eq_false (by omega)) rfl) ?_
            refine d_q rfl rfl (.none rfl) rfl rfl (q_pickT rfl rfl g43 rfl) ?_
            refine d_nil ?_
            refine run_sub (subMk (.cons (s := 0) rfl (.cons (s := 1) rfl (.cons (s := 5) rfl (.cons (s := 6) rfl (.cons (s := 7) rfl (.cons (s := 8) rfl (.cons (s := 9) rfl (.cons (s := 10) rfl (.cons (s := 120) rfl .nil))))))))) .refl) ?_
            refine run_cond rfl (fun g120 => ?_) (fun g120 => ?_)
            · have g120' := g120
              try simp only [decide_eq_true_eq, decide_eq_false_iff_not, beq_iff_eq, beq_eq_false_iff_ne, bne_iff_ne, bne_eq_false_iff_eq, Bool.not_eq_true', Bool.not_eq_false', ne_eq, Int.not_lt, Int.not_le, Decidable.not_not] at g120'
              refine run_draw [(0, 0), (1, 0), (2, 0), (3, 0), (4, 0), (5, 0), (6, 0), (7, 0), (8, 0), (9, 0), (10, 0), (11, 0)] mixed (by kernel_rfl) .refl ?_
              refine d_q rfl rfl (.none rfl) rfl rfl (q_fieldB (d := 2) rfl Try.underlying26 rfl rfl sz3 rfl) ?_
              refine d_q rfl rfl (.none rfl) rfl rfl (q_loadB rfl one3 rfl (.there (.there (.there Sel.here))) rfl) ?_
              refine d_q rfl rfl (.none rfl) rfl rfl (q_move rfl rfl) ?_
              refine d_q rfl rfl (.none rfl) rfl rfl (q_move rfl rfl) ?_
              refine d_q rfl rfl (.none rfl) rfl rfl (q_indexS (q := i) rfl Try.underlying73 sz72 rfl rfl (.own Sel.here) (outerL_len (by simp; omega)) rfl (by omega)) ?_
              refine d_q rfl rfl (.none rfl) rfl rfl (q_loadC rfl one72 rfl (.own Sel.here) hcur) ?_
              refine d_q rfl rfl (.none rfl) rfl rfl (q_move rfl rfl) ?_
              refine d_q rfl rfl (.none rfl) rfl rfl (q_add rfl rfl rfl (by omega)) ?_
              refine d_q rfl rfl (.none rfl) rfl rfl (q_indexS (q := (k + 1)) rfl Try.underlying72 sz3 rfl rfl (.own (.there Sel.here)) (by simp [rowPart]) rfl (by omega)) ?_
              refine d_q rfl rfl (.none rfl) rfl rfl (q_loadC rfl one3 rfl (.own (.there Sel.here)) (rowPart_get (by omega) (by omega))) ?_
              refine d_q rfl rfl (.none rfl) rfl rfl (q_add rfl rfl rfl (by omega)) ?_
              refine d_q rfl rfl (.none rfl) rfl rfl (q_assign rfl rfl) ?_
              refine d_nil ?_
              refine run_sub (subMk (.cons (s := 0) rfl (.cons (s := 1) rfl (.cons (s := 5) rfl (.cons (s := 6) rfl (.cons (s := 7) rfl (.cons (s := 8) rfl (.cons (s := 9) rfl (.cons (s := 10) rfl .nil)))))))) .refl) ?_
              refine run_region ?_
              refine run_q (.none rfl) rfl rfl (q_move rfl rfl) ?_
              refine run_q (.none rfl) rfl rfl (q_move rfl rfl) ?_
              refine run_q (.none rfl) rfl rfl (q_indexS (q := i) rfl Try.underlying73 sz72 rfl rfl (.own Sel.here) (outerL_len (by simp; omega)) rfl (by omega)) ?_
              refine run_q (.none rfl) rfl rfl (q_loadC rfl one72 rfl (.own Sel.here) hcur) ?_
              refine run_q (.none rfl) rfl rfl (q_move rfl rfl) ?_
              refine run_q (.none rfl) rfl rfl (q_move rfl rfl) ?_
              refine run_q (.none rfl) rfl rfl (q_max2 rfl rfl rfl) ?_
              refine run_q (.none rfl) rfl rfl (q_indexS (q := k) rfl Try.underlying72 sz3 rfl rfl (.own (.there Sel.here)) (by simp [rowPart]) rfl (by omega)) ?_
              refine run_h (.none rfl) (h_storeE rfl rfl sz3 rfl rfl rfl rfl rfl (.there Sel.here) (by omega)) ?_
              rintro - -
              refine run_nil ?_
              refine run_sub (subMk (.cons (s := 0) rfl (.cons (s := 1) rfl (.cons (s := 5) rfl (.cons (s := 6) rfl (.cons (s := 7) rfl (.cons (s := 8) rfl (.cons (s := 9) rfl .nil))))))) .refl) ?_
              refine run_blk ?_
              refine run_region ?_
              refine run_q (.none rfl) rfl rfl (q_move rfl rfl) ?_
              refine run_q (.none rfl) rfl rfl (q_sub rfl rfl rfl (by omega)) ?_
              refine run_q (.none rfl) rfl rfl (q_assign rfl rfl) ?_
              refine run_nil ?_
              exact run_again (s + 1) (by (try dsimp only); exact (by omega)) (by (try dsimp only); omega) (subMk (.cons' (s := 9) rfl (vint (by omega)) (.cons (s := 0) rfl (.cons (s := 1) rfl (.cons (s := 5) rfl (.cons (s := 6) rfl (.cons (s := 7) rfl (.cons (s := 8) rfl .nil))))))) (.cons (.there Sel.here) .refl (.cons Sel.here (.own rfl rfl rfl (rowPart_set (k := k) (by omega) (by omega) (by have := best_both (c := c) (a := a) (b := b) (i := i) (k := k) (by omega) (by omega); omega))) (.cons Sel.here .refl (.cons Sel.here .refl .nil)))))
            · have g120' := g120
              try simp only [decide_eq_true_eq, decide_eq_false_iff_not, beq_iff_eq, beq_eq_false_iff_ne, bne_iff_ne, bne_eq_false_iff_eq, Bool.not_eq_true', Bool.not_eq_false', ne_eq, Int.not_lt, Int.not_le, Decidable.not_not] at g120'
              refine run_skip ?_
              refine run_region ?_
              refine run_q (.none rfl) rfl rfl (q_move rfl rfl) ?_
              refine run_q (.none rfl) rfl rfl (q_move rfl rfl) ?_
              refine run_q (.none rfl) rfl rfl (q_indexS (q := i) rfl Try.underlying73 sz72 rfl rfl (.own Sel.here) (outerL_len (by simp; omega)) rfl (by omega)) ?_
              refine run_q (.none rfl) rfl rfl (q_loadC rfl one72 rfl (.own Sel.here) hcur) ?_
              refine run_q (.none rfl) rfl rfl (q_move rfl rfl) ?_
              refine run_q (.none rfl) rfl rfl (q_move rfl rfl) ?_
              refine run_q (.none rfl) rfl rfl (q_max2 rfl rfl rfl) ?_
              refine run_q (.none rfl) rfl rfl (q_indexS (q := k) rfl Try.underlying72 sz3 rfl rfl (.own (.there Sel.here)) (by simp [rowPart]) rfl (by omega)) ?_
              refine run_h (.none rfl) (h_storeE rfl rfl sz3 rfl rfl rfl rfl rfl (.there Sel.here) (by omega)) ?_
              rintro - -
              refine run_nil ?_
              refine run_sub (subMk (.cons (s := 0) rfl (.cons (s := 1) rfl (.cons (s := 5) rfl (.cons (s := 6) rfl (.cons (s := 7) rfl (.cons (s := 8) rfl (.cons (s := 9) rfl .nil))))))) .refl) ?_
              refine run_blk ?_
              refine run_region ?_
              refine run_q (.none rfl) rfl rfl (q_move rfl rfl) ?_
              refine run_q (.none rfl) rfl rfl (q_sub rfl rfl rfl (by omega)) ?_
              refine run_q (.none rfl) rfl rfl (q_assign rfl rfl) ?_
              refine run_nil ?_
              exact run_again (s + 1) (by (try dsimp only); exact (by omega)) (by (try dsimp only); omega) (subMk (.cons' (s := 9) rfl (vint (by omega)) (.cons (s := 0) rfl (.cons (s := 1) rfl (.cons (s := 5) rfl (.cons (s := 6) rfl (.cons (s := 7) rfl (.cons (s := 8) rfl .nil))))))) (.cons (.there Sel.here) .refl (.cons Sel.here (.own rfl rfl rfl (rowPart_set (k := k) (by omega) (by omega) (by have := best_both (c := c) (a := a) (b := b) (i := i) (k := k) (by omega) (by omega); omega))) (.cons Sel.here .refl (.cons Sel.here .refl .nil)))))
        · have g43' := g43
          try simp only [decide_eq_true_eq, decide_eq_false_iff_not, beq_iff_eq, beq_eq_false_iff_ne, bne_iff_ne, bne_eq_false_iff_eq, Bool.not_eq_true', Bool.not_eq_false', ne_eq, Int.not_lt, Int.not_le, Decidable.not_not] at g43'
          refine run_skip ?_
          refine run_seq ?_
          refine run_seq ?_
          refine run_draw [(0, 0), (1, 0), (2, 0), (3, 0), (4, 0), (5, 0), (6, 0), (7, 0), (8, 0), (9, 0), (10, 0), (11, 0), (12, 0), (13, 0), (14, 0), (15, 0), (16, 0), (17, 0), (18, 0), (19, 0), (20, 0), (21, 0), (22, 0)] mixed (by kernel_rfl) .refl ?_
          refine d_q rfl rfl (.none rfl) rfl rfl (q_move rfl rfl) ?_
          refine d_q rfl rfl (.none rfl) rfl rfl (q_move rfl rfl) ?_
          refine d_q rfl rfl (.none rfl) rfl rfl (q_len rfl Try.underlying22 rfl) ?_
          refine d_q rfl rfl (.none rfl) rfl rfl (q_lss rfl rfl rfl) ?_
          refine d_q rfl rfl (.none rfl) rfl rfl (q_move rfl rfl) ?_
          refine d_q rfl rfl (.on rfl rfl rfl g38) rfl rfl (q_move rfl rfl) ?_
          refine d_q rfl rfl (.on rfl rfl rfl g38) rfl rfl (q_lss rfl rfl rfl) ?_
          refine d_q rfl rfl (.on rfl rfl rfl g38) rfl rfl (q_move rfl rfl) ?_
          refine d_off rfl rfl (.no rfl rfl rfl (by decide)) rfl rfl ?_
          refine d_off rfl rfl (.no rfl rfl rfl (by decide)) rfl rfl ?_
          refine d_off rfl rfl (.no rfl rfl rfl (by decide)) rfl rfl ?_
          refine d_off rfl rfl (.no rfl rfl rfl (by decide)) rfl rfl ?_
          refine d_off rfl rfl (.no rfl rfl rfl (by decide)) rfl rfl ?_
          refine d_off rfl rfl (.no rfl rfl rfl (by decide)) rfl rfl ?_
          refine d_off rfl rfl (.no rfl rfl rfl (by decide)) rfl rfl ?_
          refine d_off rfl rfl (.no rfl rfl rfl (by decide)) rfl rfl ?_
          refine d_off rfl rfl (.no rfl rfl rfl (by decide)) rfl rfl ?_
          refine d_off rfl rfl (.no rfl rfl rfl (by decide)) rfl rfl ?_
          refine d_off rfl rfl (.no rfl rfl rfl (by decide)) rfl rfl ?_
          refine d_off rfl rfl (.no rfl rfl rfl (by decide)) rfl rfl ?_
          refine d_off rfl rfl (.no rfl rfl rfl (by decide)) rfl rfl ?_
          refine d_q rfl rfl (.on rfl rfl rfl g38) rfl rfl (q_pickT rfl rfl (by decide) rfl) ?_
          refine d_q rfl rfl (.none rfl) rfl rfl (q_pickT rfl rfl g38 rfl) ?_
          refine d_nil ?_
          refine run_sub (subMk (.cons (s := 0) rfl (.cons (s := 1) rfl (.cons (s := 5) rfl (.cons (s := 6) rfl (.cons (s := 7) rfl (.cons (s := 8) rfl (.cons (s := 9) rfl (.cons (s := 10) rfl (.cons (s := 86) rfl .nil))))))))) .refl) ?_
          refine run_condT rfl rfl ?_
          refine run_draw [(0, 0), (1, 0), (2, 0), (3, 0), (4, 0), (5, 0), (6, 0), (7, 0), (8, 0), (9, 0), (10, 0), (11, 0)] mixed (by kernel_rfl) .refl ?_
          refine d_q rfl rfl (.none rfl) rfl rfl (q_fieldB (d := 1) rfl Try.underlying26 rfl rfl sz3 rfl) ?_
          refine d_q rfl rfl (.none rfl) rfl rfl (q_loadB rfl one3 rfl (.there (.there (.there Sel.here))) rfl) ?_
          refine d_q rfl rfl (.none rfl) rfl rfl (q_move rfl rfl) ?_
          refine d_q rfl rfl (.none rfl) rfl rfl (q_move rfl rfl) ?_
          refine d_q rfl rfl (.none rfl) rfl rfl (q_add rfl rfl rfl (by omega)) ?_
          refine d_q rfl rfl (.none rfl) rfl rfl (q_indexS (q := (i + 1)) rfl Try.underlying73 sz72 rfl rfl (.own Sel.here) (outerL_len (by simp; omega)) rfl (by omega)) ?_
          refine d_q rfl rfl (.none rfl) rfl rfl (q_loadC rfl one72 rfl (.own Sel.here) (hbel (by omega))) ?_
          refine d_q rfl rfl (.none rfl) rfl rfl (q_move rfl rfl) ?_
          refine d_q rfl rfl (.none rfl) rfl rfl (q_indexS (q := k) rfl Try.underlying72 sz3 rfl rfl (.sepOwn (.there (.there Sel.here)) (hbelR (by omega))) (by simp [rowV]) rfl (by omega)) ?_
          refine d_q rfl rfl (.none rfl) rfl rfl (q_loadC rfl one3 rfl (.sepOwn (.there (.there Sel.here)) (hbelR (by omega))) (rowV_get (by omega))) ?_
          refine d_q rfl rfl (.none rfl) rfl rfl (q_add rfl rfl rfl (by omega)) ?_
          refine d_q rfl rfl (.none rfl) rfl rfl (q_assign rfl rfl) ?_
          refine d_nil ?_
          refine run_sub (subMk (.cons (s := 0) rfl (.cons (s := 1) rfl (.cons (s := 5) rfl (.cons (s := 6) rfl (.cons (s := 7) rfl (.cons (s := 8) rfl (.cons (s := 9) rfl (.cons (s := 10) rfl .nil)))))))) .refl) ?_
          refine run_seq ?_
          refine run_seq ?_
          refine run_draw [(0, 0), (1, 0), (2, 0), (3, 0), (4, 0), (5, 0), (6, 0), (7, 0), (8, 0), (9, 0), (10, 0), (11, 0), (12, 0), (13, 0), (14, 0), (15, 0), (16, 0), (17, 0), (18, 0), (19, 0), (20, 0), (21, 0), (22, 0)] mixed (by kernel_rfl) .refl ?_
          refine d_q rfl rfl (.none rfl) rfl rfl (q_move rfl rfl) ?_
          refine d_q rfl rfl (.none rfl) rfl rfl (q_move rfl rfl) ?_
          refine d_q rfl rfl (.none rfl) rfl rfl (q_len rfl Try.underlying22 rfl) ?_
          refine d_q rfl rfl (.none rfl) rfl rfl (q_lss rfl rfl rfl) ?_
          refine d_q rfl rfl (.none rfl) rfl rfl (q_move rfl rfl) ?_
          refine d_off rfl rfl (.no rfl rfl rfl g43) rfl rfl ?_
          refine d_off rfl rfl (.no rfl rfl rfl g43) rfl rfl ?_
          refine d_off rfl rfl (.no rfl rfl rfl g43) rfl rfl ?_
          refine d_off rfl rfl (.off rfl rfl rfl) rfl rfl ?_
          refine d_off rfl rfl (.off rfl rfl rfl) rfl rfl ?_
          refine d_off rfl rfl (.off rfl rfl rfl) rfl rfl ?_
          refine d_off rfl rfl (.off rfl rfl rfl) rfl rfl ?_
          refine d_off rfl rfl (.off rfl rfl rfl) rfl rfl ?_
          refine d_off rfl rfl (.off rfl rfl rfl) rfl rfl ?_
          refine d_off rfl rfl (.off rfl rfl rfl) rfl rfl ?_
          refine d_off rfl rfl (.off rfl rfl rfl) rfl rfl ?_
          refine d_off rfl rfl (.off rfl rfl rfl) rfl rfl ?_
          refine d_off rfl rfl (.off rfl rfl rfl) rfl rfl ?_
          refine d_off rfl rfl (.off rfl rfl rfl) rfl rfl ?_
          refine d_off rfl rfl (.off rfl rfl rfl) rfl rfl ?_
          refine d_off rfl rfl (.off rfl rfl rfl) rfl rfl ?_
          refine d_off rfl rfl (.no rfl rfl rfl g43) rfl rfl ?_
          refine d_q rfl rfl (.none rfl) rfl rfl (q_pickF rfl rfl g43 rfl) ?_
          refine d_nil ?_
          refine run_sub (subMk (.cons (s := 0) rfl (.cons (s := 1) rfl (.cons (s := 5) rfl (.cons (s := 6) rfl (.cons (s := 7) rfl (.cons (s := 8) rfl (.cons (s := 9) rfl (.cons (s := 10) rfl (.cons (s := 120) rfl .nil))))))))) .refl) ?_
          refine run_condF rfl rfl ?_
          refine run_skip ?_
          refine run_region ?_
          refine run_q (.none rfl) rfl rfl (q_move rfl rfl) ?_
          refine run_q (.none rfl) rfl rfl (q_move rfl rfl) ?_
          refine run_q (.none rfl) rfl rfl (q_indexS (q := i) rfl Try.underlying73 sz72 rfl rfl (.own Sel.here) (outerL_len (by simp; omega)) rfl (by omega)) ?_
          refine run_q (.none rfl) rfl rfl (q_loadC rfl one72 rfl (.own Sel.here) hcur) ?_
          refine run_q (.none rfl) rfl rfl (q_move rfl rfl) ?_
          refine run_q (.none rfl) rfl rfl (q_move rfl rfl) ?_
          refine run_q (.none rfl) rfl rfl (q_max2 rfl rfl rfl) ?_
          refine run_q (.none rfl) rfl rfl (q_indexS (q := k) rfl Try.underlying72 sz3 rfl rfl (.own (.there Sel.here)) (by simp [rowPart]) rfl (by omega)) ?_
          refine run_h (.none rfl) (h_storeE rfl rfl sz3 rfl rfl rfl rfl rfl (.there Sel.here) (by omega)) ?_
          rintro - -
          refine run_nil ?_
          refine run_sub (subMk (.cons (s := 0) rfl (.cons (s := 1) rfl (.cons (s := 5) rfl (.cons (s := 6) rfl (.cons (s := 7) rfl (.cons (s := 8) rfl (.cons (s := 9) rfl .nil))))))) .refl) ?_
          refine run_blk ?_
          refine run_region ?_
          refine run_q (.none rfl) rfl rfl (q_move rfl rfl) ?_
          refine run_q (.none rfl) rfl rfl (q_sub rfl rfl rfl (by omega)) ?_
          refine run_q (.none rfl) rfl rfl (q_assign rfl rfl) ?_
          refine run_nil ?_
          exact run_again (s + 1) (by (try dsimp only); exact (by omega)) (by (try dsimp only); omega) (subMk (.cons' (s := 9) rfl (vint (by omega)) (.cons (s := 0) rfl (.cons (s := 1) rfl (.cons (s := 5) rfl (.cons (s := 6) rfl (.cons (s := 7) rfl (.cons (s := 8) rfl .nil))))))) (.cons (.there Sel.here) .refl (.cons Sel.here (.own rfl rfl rfl (rowPart_set (k := k) (by omega) (by omega) (by have := best_left (c := c) (a := a) (b := b) (i := i) (k := k) (by omega) (by omega); omega))) (.cons Sel.here .refl (.cons Sel.here .refl .nil)))))
      · have g38' := g38
        try simp only [decide_eq_true_eq, decide_eq_false_iff_not, beq_iff_eq, beq_eq_false_iff_ne, bne_iff_ne, bne_eq_false_iff_eq, Bool.not_eq_true', Bool.not_eq_false', ne_eq, Int.not_lt, Int.not_le, Decidable.not_not] at g38'
        refine run_off (.no rfl rfl rfl g38) rfl rfl ?_
        refine run_off (.no rfl rfl rfl g38) rfl rfl ?_
        refine run_off (.no rfl rfl rfl g38) rfl rfl ?_
        refine run_off (.no rfl rfl rfl g38) rfl rfl ?_
        refine run_q (.none rfl) rfl rfl (q_pickF rfl rfl g38 rfl) ?_
        refine run_nil ?_
        refine run_sub (subMk (.cons (s := 0) rfl (.cons (s := 1) rfl (.cons (s := 5) rfl (.cons (s := 6) rfl (.cons (s := 7) rfl (.cons (s := 8) rfl (.cons (s := 9) rfl (.cons (s := 10) rfl (.cons (s := 43) rfl .nil))))))))) .refl) ?_
        refine run_condF rfl rfl ?_
        refine run_skip ?_
        refine run_seq ?_
        refine run_seq ?_
        refine run_draw [(0, 0), (1, 0), (2, 0), (3, 0), (4, 0), (5, 0), (6, 0), (7, 0), (8, 0), (9, 0), (10, 0), (11, 0), (12, 0), (13, 0), (14, 0), (15, 0), (16, 0), (17, 0), (18, 0), (19, 0), (20, 0), (21, 0), (22, 0)] mixed (by kernel_rfl) .refl ?_
        refine d_q rfl rfl (.none rfl) rfl rfl (q_move rfl rfl) ?_
        refine d_q rfl rfl (.none rfl) rfl rfl (q_move rfl rfl) ?_
        refine d_q rfl rfl (.none rfl) rfl rfl (q_len rfl Try.underlying22 rfl) ?_
        refine d_q rfl rfl (.none rfl) rfl rfl (q_lss rfl rfl rfl) ?_
        refine d_q rfl rfl (.none rfl) rfl rfl (q_move rfl rfl) ?_
        refine d_off rfl rfl (.no rfl rfl rfl g38) rfl rfl ?_
        refine d_off rfl rfl (.no rfl rfl rfl g38) rfl rfl ?_
        refine d_off rfl rfl (.no rfl rfl rfl g38) rfl rfl ?_
        refine d_off rfl rfl (.off rfl rfl rfl) rfl rfl ?_
        refine d_off rfl rfl (.off rfl rfl rfl) rfl rfl ?_
        refine d_off rfl rfl (.off rfl rfl rfl) rfl rfl ?_
        refine d_off rfl rfl (.off rfl rfl rfl) rfl rfl ?_
        refine d_off rfl rfl (.off rfl rfl rfl) rfl rfl ?_
        refine d_off rfl rfl (.off rfl rfl rfl) rfl rfl ?_
        refine d_off rfl rfl (.off rfl rfl rfl) rfl rfl ?_
        refine d_off rfl rfl (.off rfl rfl rfl) rfl rfl ?_
        refine d_off rfl rfl (.off rfl rfl rfl) rfl rfl ?_
        refine d_off rfl rfl (.off rfl rfl rfl) rfl rfl ?_
        refine d_off rfl rfl (.off rfl rfl rfl) rfl rfl ?_
        refine d_off rfl rfl (.off rfl rfl rfl) rfl rfl ?_
        refine d_off rfl rfl (.off rfl rfl rfl) rfl rfl ?_
        refine d_off rfl rfl (.no rfl rfl rfl g38) rfl rfl ?_
        refine d_q rfl rfl (.none rfl) rfl rfl (q_pickF rfl rfl g38 rfl) ?_
        refine d_nil ?_
        refine run_sub (subMk (.cons (s := 0) rfl (.cons (s := 1) rfl (.cons (s := 5) rfl (.cons (s := 6) rfl (.cons (s := 7) rfl (.cons (s := 8) rfl (.cons (s := 9) rfl (.cons (s := 10) rfl (.cons (s := 86) rfl .nil))))))))) .refl) ?_
        refine run_condF rfl rfl ?_
        refine run_skip ?_
        refine run_seq ?_
        refine run_seq ?_
        refine run_draw [(0, 0), (1, 0), (2, 0), (3, 0), (4, 0), (5, 0), (6, 0), (7, 0), (8, 0), (9, 0), (10, 0), (11, 0), (12, 0), (13, 0), (14, 0), (15, 0), (16, 0), (17, 0), (18, 0), (19, 0), (20, 0), (21, 0), (22, 0)] mixed (by kernel_rfl) .refl ?_
        refine d_q rfl rfl (.none rfl) rfl rfl (q_move rfl rfl) ?_
        refine d_q rfl rfl (.none rfl) rfl rfl (q_move rfl rfl) ?_
        refine d_q rfl rfl (.none rfl) rfl rfl (q_len rfl Try.underlying22 rfl) ?_
        refine d_q rfl rfl (.none rfl) rfl rfl (q_lss rfl rfl rfl) ?_
        refine d_q rfl rfl (.none rfl) rfl rfl (q_move rfl rfl) ?_
        refine d_split 102 rfl (fun g102 => ?_) (fun g102 => ?_)
        · have g102' := g102
          try simp only [decide_eq_true_eq, decide_eq_false_iff_not, beq_iff_eq, beq_eq_false_iff_ne, bne_iff_ne, bne_eq_false_iff_eq, Bool.not_eq_true', Bool.not_eq_false', ne_eq, Int.not_lt, Int.not_le, Decidable.not_not] at g102'
          refine d_q rfl rfl (.on rfl rfl rfl g102) rfl rfl (q_move rfl rfl) ?_
          refine d_q rfl rfl (.on rfl rfl rfl g102) rfl rfl (q_lss rfl rfl rfl) ?_
          refine d_q rfl rfl (.on rfl rfl rfl g102) rfl rfl (q_move rfl rfl) ?_
          refine d_off rfl rfl (.no rfl rfl rfl (by decide)) rfl rfl ?_
          refine d_off rfl rfl (.no rfl rfl rfl (by decide)) rfl rfl ?_
          refine d_off rfl rfl (.no rfl rfl rfl (by decide)) rfl rfl ?_
          refine d_off rfl rfl (.no rfl rfl rfl (by decide)) rfl rfl ?_
          refine d_off rfl rfl (.no rfl rfl rfl (by decide)) rfl rfl ?_
          refine d_off rfl rfl (.no rfl rfl rfl (by decide)) rfl rfl ?_
          refine d_off rfl rfl (.no rfl rfl rfl (by decide)) rfl rfl ?_
          refine d_off rfl rfl (.no rfl rfl rfl (by decide)) rfl rfl ?_
          refine d_off rfl rfl (.no rfl rfl rfl (by decide)) rfl rfl ?_
          refine d_off rfl rfl (.no rfl rfl rfl (by decide)) rfl rfl ?_
          refine d_off rfl rfl (.no rfl rfl rfl (by decide)) rfl rfl ?_
          refine d_off rfl rfl (.no rfl rfl rfl (by decide)) rfl rfl ?_
          refine d_off rfl rfl (.no rfl rfl rfl (by decide)) rfl rfl ?_
          refine d_q rfl rfl (.on rfl rfl rfl g102) rfl rfl (q_pickT rfl rfl (by decide) rfl) ?_
          refine d_q rfl rfl (.none rfl) rfl rfl (q_pickT rfl rfl g102 rfl) ?_
          refine d_nil ?_
          refine run_sub (subMk (.cons (s := 0) rfl (.cons (s := 1) rfl (.cons (s := 5) rfl (.cons (s := 6) rfl (.cons (s := 7) rfl (.cons (s := 8) rfl (.cons (s := 9) rfl (.cons (s := 10) rfl (.cons (s := 120) rfl .nil))))))))) .refl) ?_
          refine run_condT rfl rfl ?_
          refine run_draw [(0, 0), (1, 0), (2, 0), (3, 0), (4, 0), (5, 0), (6, 0), (7, 0), (8, 0), (9, 0), (10, 0), (11, 0)] mixed (by kernel_rfl) .refl ?_
          refine d_q rfl rfl (.none rfl) rfl rfl (q_fieldB (d := 2) rfl Try.underlying26 rfl rfl sz3 rfl) ?_
          refine d_q rfl rfl (.none rfl) rfl rfl (q_loadB rfl one3 rfl (.there (.there (.there Sel.here))) rfl) ?_
          refine d_q rfl rfl (.none rfl) rfl rfl (q_move rfl rfl) ?_
          refine d_q rfl rfl (.none rfl) rfl rfl (q_move rfl rfl) ?_
          refine d_q rfl rfl (.none rfl) rfl rfl (q_indexS (q := i) rfl Try.underlying73 sz72 rfl rfl (.own Sel.here) (outerL_len (by simp; omega)) rfl (by omega)) ?_
          refine d_q rfl rfl (.none rfl) rfl rfl (q_loadC rfl one72 rfl (.own Sel.here) hcur) ?_
          refine d_q rfl rfl (.none rfl) rfl rfl (q_move rfl rfl) ?_
          refine d_q rfl rfl (.none rfl) rfl rfl (q_add rfl rfl rfl (by omega)) ?_
          refine d_q rfl rfl (.none rfl) rfl rfl (q_indexS (q := (k + 1)) rfl Try.underlying72 sz3 rfl rfl (.own (.there Sel.here)) (by simp [rowPart]) rfl (by omega)) ?_
          refine d_q rfl rfl (.none rfl) rfl rfl (q_loadC rfl one3 rfl (.own (.there Sel.here)) (rowPart_get (by omega) (by omega))) ?_
          refine d_q rfl rfl (.none rfl) rfl rfl (q_add rfl rfl rfl (by omega)) ?_
          refine d_q rfl rfl (.none rfl) rfl rfl (q_assign rfl rfl) ?_
          refine d_nil ?_
          refine run_sub (subMk (.cons (s := 0) rfl (.cons (s := 1) rfl (.cons (s := 5) rfl (.cons (s := 6) rfl (.cons (s := 7) rfl (.cons (s := 8) rfl (.cons (s := 9) rfl (.cons (s := 10) rfl .nil)))))))) .refl) ?_
          refine run_region ?_
          refine run_q (.none rfl) rfl rfl (q_move rfl rfl) ?_
          refine run_q (.none rfl) rfl rfl (q_move rfl rfl) ?_
          refine run_q (.none rfl) rfl rfl (q_indexS (q := i) rfl Try.underlying73 sz72 rfl rfl (.own Sel.here) (outerL_len (by simp; omega)) rfl (by omega)) ?_
          refine run_q (.none rfl) rfl rfl (q_loadC rfl one72 rfl (.own Sel.here) hcur) ?_
          refine run_q (.none rfl) rfl rfl (q_move rfl rfl) ?_
          refine run_q (.none rfl) rfl rfl (q_move rfl rfl) ?_
          refine run_q (.none rfl) rfl rfl (q_max2 rfl rfl rfl) ?_
          refine run_q (.none rfl) rfl rfl (q_indexS (q := k) rfl Try.underlying72 sz3 rfl rfl (.own (.there Sel.here)) (by simp [rowPart]) rfl (by omega)) ?_
          refine run_h (.none rfl) (h_storeE rfl rfl sz3 rfl rfl rfl rfl rfl (.there Sel.here) (by omega)) ?_
          rintro - -
          refine run_nil ?_
          refine run_sub (subMk (.cons (s := 0) rfl (.cons (s := 1) rfl (.cons (s := 5) rfl (.cons (s := 6) rfl (.cons (s := 7) rfl (.cons (s := 8) rfl (.cons (s := 9) rfl .nil))))))) .refl) ?_
          refine run_blk ?_
          refine run_region ?_
          refine run_q (.none rfl) rfl rfl (q_move rfl rfl) ?_
          refine run_q (.none rfl) rfl rfl (q_sub rfl rfl rfl (by omega)) ?_
          refine run_q (.none rfl) rfl rfl (q_assign rfl rfl) ?_
          refine run_nil ?_
          exact run_again (s + 1) (by (try dsimp only); exact (by omega)) (by (try dsimp only); omega) (subMk (.cons' (s := 9) rfl (vint (by omega)) (.cons (s := 0) rfl (.cons (s := 1) rfl (.cons (s := 5) rfl (.cons (s := 6) rfl (.cons (s := 7) rfl (.cons (s := 8) rfl .nil))))))) (.cons (.there Sel.here) .refl (.cons Sel.here (.own rfl rfl rfl (rowPart_set (k := k) (by omega) (by omega) (by have := best_rightS (c := c) (a := a) (b := b) (i := i) (k := k) (by omega) (by omega); omega))) (.cons Sel.here .refl (.cons Sel.here .refl .nil)))))
        · have g102' := g102
          try simp only [decide_eq_true_eq, decide_eq_false_iff_not, beq_iff_eq, beq_eq_false_iff_ne, bne_iff_ne, bne_eq_false_iff_eq, Bool.not_eq_true', Bool.not_eq_false', ne_eq, Int.not_lt, Int.not_le, Decidable.not_not] at g102'
          refine d_off rfl rfl (.no rfl rfl rfl g102) rfl rfl ?_
          refine d_off rfl rfl (.no rfl rfl rfl g102) rfl rfl ?_
          refine d_off rfl rfl (.no rfl rfl rfl g102) rfl rfl ?_
          refine d_off rfl rfl (.off rfl rfl rfl) rfl rfl ?_
          refine d_off rfl rfl (.off rfl rfl rfl) rfl rfl ?_
          refine d_off rfl rfl (.off rfl rfl rfl) rfl rfl ?_
          refine d_off rfl rfl (.off rfl rfl rfl) rfl rfl ?_
          refine d_off rfl rfl (.off rfl rfl rfl) rfl rfl ?_
          refine d_off rfl rfl (.off rfl rfl rfl) rfl rfl ?_
          refine d_off rfl rfl (.off rfl rfl rfl) rfl rfl ?_
          refine d_off rfl rfl (.off rfl rfl rfl) rfl rfl ?_
          refine d_off rfl rfl (.off rfl rfl rfl) rfl rfl ?_
          refine d_off rfl rfl (.off rfl rfl rfl) rfl rfl ?_
          refine d_off rfl rfl (.off rfl rfl rfl) rfl rfl ?_
          refine d_off rfl rfl (.off rfl rfl rfl) rfl rfl ?_
          refine d_off rfl rfl (.off rfl rfl rfl) rfl rfl ?_
          refine d_off rfl rfl (.no rfl rfl rfl g102) rfl rfl ?_
          refine d_q rfl rfl (.none rfl) rfl rfl (q_pickF rfl rfl g102 rfl) ?_
          refine d_nil ?_
          refine run_sub (subMk (.cons (s := 0) rfl (.cons (s := 1) rfl (.cons (s := 5) rfl (.cons (s := 6) rfl (.cons (s := 7) rfl (.cons (s := 8) rfl (.cons (s := 9) rfl (.cons (s := 10) rfl (.cons (s := 120) rfl .nil))))))))) .refl) ?_
          refine run_condF rfl rfl ?_
          refine run_skip ?_
          refine run_region ?_
          refine run_q (.none rfl) rfl rfl (q_move rfl rfl) ?_
          refine run_q (.none rfl) rfl rfl (q_move rfl rfl) ?_
          refine run_q (.none rfl) rfl rfl (q_indexS (q := i) rfl Try.underlying73 sz72 rfl rfl (.own Sel.here) (outerL_len (by simp; omega)) rfl (by omega)) ?_
          refine run_q (.none rfl) rfl rfl (q_loadC rfl one72 rfl (.own Sel.here) hcur) ?_
          refine run_q (.none rfl) rfl rfl (q_move rfl rfl) ?_
          refine run_q (.none rfl) rfl rfl (q_move rfl rfl) ?_
          refine run_q (.none rfl) rfl rfl (q_max2 rfl rfl rfl) ?_
          refine run_q (.none rfl) rfl rfl (q_indexS (q := k) rfl Try.underlying72 sz3 rfl rfl (.own (.there Sel.here)) (by simp [rowPart]) rfl (by omega)) ?_
          refine run_h (.none rfl) (h_storeE rfl rfl sz3 rfl rfl rfl rfl rfl (.there Sel.here) (by omega)) ?_
          rintro - -
          refine run_nil ?_
          refine run_sub (subMk (.cons (s := 0) rfl (.cons (s := 1) rfl (.cons (s := 5) rfl (.cons (s := 6) rfl (.cons (s := 7) rfl (.cons (s := 8) rfl (.cons (s := 9) rfl .nil))))))) .refl) ?_
          refine run_blk ?_
          refine run_region ?_
          refine run_q (.none rfl) rfl rfl (q_move rfl rfl) ?_
          refine run_q (.none rfl) rfl rfl (q_sub rfl rfl rfl (by omega)) ?_
          refine run_q (.none rfl) rfl rfl (q_assign rfl rfl) ?_
          refine run_nil ?_
          exact run_again (s + 1) (by (try dsimp only); exact (by omega)) (by (try dsimp only); omega) (subMk (.cons' (s := 9) rfl (vint (by omega)) (.cons (s := 0) rfl (.cons (s := 1) rfl (.cons (s := 5) rfl (.cons (s := 6) rfl (.cons (s := 7) rfl (.cons (s := 8) rfl .nil))))))) (.cons (.there Sel.here) .refl (.cons Sel.here (.own rfl rfl rfl (rowPart_set (k := k) (by omega) (by omega) (by have := best_end (c := c) (a := a) (b := b) (i := i) (k := k) (by omega) (by omega); omega))) (.cons Sel.here .refl (.cons Sel.here .refl .nil)))))
    · have g31' := g31
      try simp only [decide_eq_true_eq, decide_eq_false_iff_not, beq_iff_eq, beq_eq_false_iff_ne, bne_iff_ne, bne_eq_false_iff_eq, Bool.not_eq_true', Bool.not_eq_false', ne_eq, Int.not_lt, Int.not_le, Decidable.not_not] at g31'
      refine run_exit rfl ?_
      refine run_sub (subMk (.cons (s := 0) rfl (.cons (s := 1) rfl (.cons (s := 5) rfl (.cons (s := 6) rfl (.cons (s := 7) rfl (.cons (s := 8) rfl .nil)))))) .refl) ?_
      refine run_blk ?_
      refine run_region ?_
      refine run_q (.none rfl) rfl rfl (q_move rfl rfl) ?_
      refine run_q (.none rfl) rfl rfl (q_sub rfl rfl rfl (by omega)) ?_
      refine run_q (.none rfl) rfl rfl (q_assign rfl rfl) ?_
      refine run_nil ?_
      refine run_sub (subMk .refl (.cons (.there Sel.here) .refl (.cons (.there Sel.here) .refl (.cons Sel.here .refl (.cons Sel.here .refl .nil))))) ?_
      refine run_sub (subMk .refl MemSub.into) ?_
      exact run_again (i, b26 :: gs) (by (try dsimp only); exact ⟨by omega, by simp; omega⟩) (by (try dsimp only); omega) (subMk (.cons' (s := 8) rfl rfl (.cons (s := 0) rfl (.cons (s := 1) rfl (.cons (s := 5) rfl (.cons (s := 6) rfl (.cons (s := 7) rfl .nil)))))) (.cons (.there Sel.here) .refl (.cons Sel.here (rowsR_into (by omega) (by omega)) (.cons Sel.here .refl .nil))))
  · have g18' := g18
    try simp only [decide_eq_true_eq, decide_eq_false_iff_not, beq_iff_eq, beq_eq_false_iff_ne, bne_iff_ne, bne_eq_false_iff_eq, Bool.not_eq_true', Bool.not_eq_false', ne_eq, Int.not_lt, Int.not_le, Decidable.not_not] at g18'
    obtain rfl : j = 0 := by omega
    refine run_exit rfl ?_
    refine run_sub (subMk (.cons (s := 6) rfl (.cons (s := 7) rfl .nil)) .refl) ?_
    refine run_seq ?_
    refine run_region ?_
    refine run_q (.none rfl) rfl rfl (q_move rfl rfl) ?_
    refine run_q (.none rfl) rfl rfl (q_assign rfl rfl) ?_
    refine run_nil ?_
    refine run_ret ?_
    refine run_sub (subMk .refl (.cons Sel.here .refl (.cons Sel.here .refl .nil))) ?_
    exact end1 rfl rfl ⟨b14, gs, rfl, by omega, rfl⟩

end Go.Proofs.Ytbkmmjpklkallaa
