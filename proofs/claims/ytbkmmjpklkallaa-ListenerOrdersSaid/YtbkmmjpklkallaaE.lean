/- The reference's alignment. -/
import Derived.Test.YtbkmmjpklkallaaD
set_option linter.unusedSimpArgs false
set_option linter.unusedVariables false
namespace Go.Proofs.Ytbkmmjpklkallaa
open Go Go.RowKit Hr

theorem call39 : Hr.Callable Try.prog 39 := fun args w => by kernel_rfl

theorem alignM_ret (c : Cost) (a b : List Note) (A B : Option Addr) (ca cb : Nat) (W : World) (hra : Rd W A 7 (a.map Note.enc)) (hrb : Rd W B 7 (b.map Note.enc)) (hc : CostOk c) (hna : ∀ p ∈ a, NoteOk p) (hnb : ∀ p ∈ b, NoteOk p) (hla : a.length ≤ 1024) (hlb : b.length ≤ 1024) : Calls Try.prog 17 #[.slice A a.length ca, .slice B b.length cb, c.val] W (Ret W nX (fun v m => ∃ A' c', v = .tuple #[.slice A' (path c a b 0 0).length c', .int .i64 (best c a b)] ∧ m = [.own 40 3 A' (path c a b 0 0).length c' ((path c a b 0 0).map Pair.enc)])) := by
  refine enterA (X := nX) (vs := [.slice A a.length ca, .slice B b.length cb, c.val]) Try.func17 Try.ntmps17 rfl rfl Mem.nil ?_
  refine run_seq ?_
  refine run_region ?_
  refine run_h (.none rfl) (h_box rfl rfl rfl rfl rfl) ?_
  rintro b5 -
  refine run_q (.none rfl) rfl rfl (q_assign rfl rfl) ?_
  refine run_q (.none rfl) rfl rfl (q_assign rfl rfl) ?_
  refine run_nil ?_
  refine run_seq ?_
  refine run_region ?_
  refine run_q (.none rfl) rfl rfl (q_move rfl rfl) ?_
  refine run_q (.none rfl) rfl rfl (q_move rfl rfl) ?_
  refine run_q (.none rfl) rfl rfl (q_loadBN rfl agg26 rfl Sel.here (.cons rfl (.cons rfl (.cons rfl (.cons rfl (.cons rfl CellsAt.nil))))) rfl) ?_
  refine run_h (.none rfl) (h_call rfl rfl rfl call39 (.cons rfl (.cons rfl (.cons rfl Evs.nil))) (fun w hk hm => table_ret c a b A B ca cb w (hra.kept0 hk) (hrb.kept0 hk) hc hna hnb hla hlb)) ?_
  rintro ⟨v, m⟩ ⟨g, gs, rfl, hgs, rfl⟩
  show Run _ _ _ _ _ _ _ ⟨(16, .slice (some ⟨g, 0, none⟩) (a.length + 1) (a.length + 1)) :: _, _ :: _ :: _⟩
  refine run_q (.none rfl) rfl rfl (q_assign rfl rfl) ?_
  refine run_nil ?_
  refine run_sub (subMk (.cons (s := 0) rfl (.cons (s := 1) rfl (.cons (s := 5) rfl (.cons (s := 6) rfl (.cons (s := 7) rfl (.cons (s := 8) rfl .nil)))))) .refl) ?_
  refine run_seq ?_
  refine run_region ?_
  refine run_q (.none rfl) rfl rfl (q_assign rfl rfl) ?_
  refine run_nil ?_
  refine run_seq ?_
  refine run_region ?_
  refine run_q (.none rfl) rfl rfl (q_assign rfl rfl) ?_
  refine run_q (.none rfl) rfl rfl (q_assign rfl rfl) ?_
  refine run_nil ?_
  refine run_seq ?_
  refine run_block ?_
  refine run_sub (subMk .refl (MemSub.nilOwn 40 3)) ?_
  refine run_sub (subMk (.cons (s := 10) rfl (.cons (s := 11) rfl (.cons (s := 9) rfl (.cons (s := 0) rfl (.cons (s := 1) rfl (.cons (s := 5) rfl (.cons (s := 6) rfl (.cons (s := 7) rfl (.cons (s := 8) rfl .nil))))))))) (.cons Sel.here .refl (.cons Sel.here .refl (.cons Sel.here .refl (.cons Sel.here .refl .nil))))) ?_
  have hrow := fun t ht => outerL_all (n := a.length) (m := b.length) (t := t) hgs ht
  refine run_loopC3M1 (ι := Nat × Nat × (Option Addr) × Nat × (List Pair)) (fun gg => gg.1 ≤ a.length ∧ gg.2.1 ≤ b.length ∧ path c a b 0 0 = gg.2.2.2.2 ++ path c (a.drop gg.1) (b.drop gg.2.1) gg.1 gg.2.1 ∧ gg.2.2.2.2.length ≤ gg.1 + gg.2.1) (fun gg => .int .i64 (gg.1 : Int)) (fun gg => .int .i64 (gg.2.1 : Int)) (fun gg => .slice gg.2.2.1 gg.2.2.2.2.length gg.2.2.2.1) (fun gg => .own 40 3 gg.2.2.1 gg.2.2.2.2.length gg.2.2.2.1 (gg.2.2.2.2.map Pair.enc)) (fun gg => (a.length - gg.1) + (b.length - gg.2.1)) (0, 0, none, 0, []) (by (try dsimp only); exact ⟨by omega, by omega, rfl, by simp⟩) rfl rfl rfl .refl ?_
  rintro ⟨i, k, A, cp, o⟩ hq
  (try dsimp only at hq)
  obtain ⟨hi, hk, hp, ho⟩ := hq
  show Run _ _ _ _ _ _ _ ⟨(10, .int .i64 (i : Int)) :: (11, .int .i64 (k : Int)) :: (9, .slice A o.length cp) :: _, .own 40 3 A o.length cp (o.map Pair.enc) :: _⟩
  have hb1 := best_drop_bd hc hla hlb (i + 1) (k + 1)
  have hb2 := best_drop_bd hc hla hlb (i + 1) k
  have hb3 := best_drop_bd hc hla hlb i (k + 1)
  have hb4 := best_drop_bd hc hla hlb i k
  have hj := joinV_bd hc (nth a i) (nth b k)
  have hm := hc.m
  have he := hc.e
  have hjj := hj
  refine run_seq ?_
  refine run_seq ?_
  refine run_region ?_
  refine run_q (.none rfl) rfl rfl (q_move rfl rfl) ?_
  refine run_q (.none rfl) rfl rfl (q_move rfl rfl) ?_
  refine run_q (.none rfl) rfl rfl (q_len rfl Try.underlying22 rfl) ?_
  refine run_q (.none rfl) rfl rfl (q_lss rfl rfl rfl) ?_
  refine run_q (.none rfl) rfl rfl (q_move rfl rfl) ?_
  refine run_split 21 rfl (fun g21 => ?_) (fun g21 => ?_)
  · have g21' := g21
    try simp only [decide_eq_true_eq, decide_eq_false_iff_not, beq_iff_eq, beq_eq_false_iff_ne, bne_iff_ne, bne_eq_false_iff_eq, Bool.not_eq_true', Bool.not_eq_false', ne_eq, Int.not_lt, Int.not_le, Decidable.not_not] at g21'
    refine run_off (.no rfl rfl rfl g21) rfl rfl ?_
    refine run_off (.no rfl rfl rfl g21) rfl rfl ?_
    refine run_off (.no rfl rfl rfl g21) rfl rfl ?_
    refine run_off (.no rfl rfl rfl g21) rfl rfl ?_
    refine run_q (.none rfl) rfl rfl (q_pickT rfl rfl g21 rfl) ?_
    refine run_nil ?_
    refine run_sub (subMk (.cons (s := 0) rfl (.cons (s := 1) rfl (.cons (s := 5) rfl (.cons (s := 6) rfl (.cons (s := 7) rfl (.cons (s := 8) rfl (.cons (s := 9) rfl (.cons (s := 10) rfl (.cons (s := 11) rfl (.cons (s := 26) rfl .nil)))))))))) .refl) ?_
    refine run_condT rfl rfl ?_
    refine run_skip ?_
    refine run_block ?_
    refine run_block ?_
    refine run_seq ?_
    refine run_draw [(0, 0), (1, 0), (2, 0), (3, 0), (4, 0), (5, 0), (6, 0), (7, 0), (8, 0), (9, 0), (10, 0), (11, 0), (12, 0), (13, 0), (14, 0), (15, 0), (16, 0), (17, 0), (18, 0), (19, 0), (20, 0), (21, 0), (22, 0), (23, 0), (24, 0), (25, 0), (26, 0), (27, 0), (28, 0), (29, 0), (30, 0), (31, 0), (32, 0), (33, 0), (34, 0), (35, 0), (36, 0), (37, 0), (38, 0), (39, 0), (40, 0)] mixed (by kernel_rfl) .refl ?_
    refine d_q rfl rfl (.none rfl) rfl rfl (q_move rfl rfl) ?_
    refine d_q rfl rfl (.none rfl) rfl rfl (q_move rfl rfl) ?_
    refine d_q rfl rfl (.none rfl) rfl rfl (q_len rfl Try.underlying22 rfl) ?_
    refine d_q rfl rfl (.none rfl) rfl rfl (q_lss rfl rfl rfl) ?_
    refine d_q rfl rfl (.none rfl) rfl rfl (q_move rfl rfl) ?_
    refine d_q rfl rfl (.on rfl rfl rfl g21) rfl rfl (q_move rfl rfl) ?_
    refine d_q rfl rfl (.on rfl rfl rfl g21) rfl rfl (q_move rfl rfl) ?_
    refine d_q rfl rfl (.on rfl rfl rfl g21) rfl rfl (q_len rfl Try.underlying22 rfl) ?_
    refine d_q rfl rfl (.on rfl rfl rfl g21) rfl rfl (q_lss rfl rfl rfl) ?_
    refine d_q rfl rfl (.none rfl) rfl rfl (q_pickT rfl rfl g21 rfl) ?_
    refine d_q rfl rfl (.none rfl) rfl rfl (q_move rfl rfl) ?_
    refine d_split 45 rfl (fun g45 => ?_) (fun g45 => ?_)
    · have g45' := g45
      try simp only [decide_eq_true_eq, decide_eq_false_iff_not, beq_iff_eq, beq_eq_false_iff_ne, bne_iff_ne, bne_eq_false_iff_eq, Bool.not_eq_true', Bool.not_eq_false', ne_eq, Int.not_lt, Int.not_le, Decidable.not_not] at g45'
      refine d_q rfl rfl (.on rfl rfl rfl g45) rfl rfl (q_move rfl rfl) ?_
      refine d_q rfl rfl (.on rfl rfl rfl g45) rfl rfl (q_move rfl rfl) ?_
      refine d_q rfl rfl (.on rfl rfl rfl g45) rfl rfl (q_indexS (q := i) rfl Try.underlying73 sz72 rfl rfl (.own (.there Sel.here)) (outerL_len (by omega)) rfl (by omega)) ?_
      refine d_q rfl rfl (.on rfl rfl rfl g45) rfl rfl (q_loadC rfl one72 rfl (.own (.there Sel.here)) (hrow i (by omega))) ?_
      refine d_q rfl rfl (.on rfl rfl rfl g45) rfl rfl (q_move rfl rfl) ?_
      refine d_q rfl rfl (.on rfl rfl rfl g45) rfl rfl (q_indexS (q := k) rfl Try.underlying72 sz3 rfl rfl (.sepOwn (.there (.there Sel.here)) (rowsR_all hgs (by omega))) (by simp [rowV]) rfl (by omega)) ?_
      refine d_q rfl rfl (.on rfl rfl rfl g45) rfl rfl (q_loadC rfl one3 rfl (.sepOwn (.there (.there Sel.here)) (rowsR_all hgs (by omega))) (rowV_get (by omega))) ?_
      refine d_q rfl rfl (.on rfl rfl rfl g45) rfl rfl (q_move rfl rfl) ?_
      refine d_q rfl rfl (.on rfl rfl rfl g45) rfl rfl (q_move rfl rfl) ?_
      refine d_q rfl rfl (.on rfl rfl rfl g45) rfl rfl (q_indexS (q := i) rfl Try.underlying22 sz47 rfl rfl (.inp hra .no) (by simp <;> omega) rfl (by omega)) ?_
      refine d_q rfl rfl (.on rfl rfl rfl g45) rfl rfl (q_loadE rfl agg47 rfl (.inp hra .no) (getmap (by omega)) rfl) ?_
      refine d_q rfl rfl (.on rfl rfl rfl g45) rfl rfl (q_move rfl rfl) ?_
      refine d_q rfl rfl (.on rfl rfl rfl g45) rfl rfl (q_move rfl rfl) ?_
      refine d_q rfl rfl (.on rfl rfl rfl g45) rfl rfl (q_indexS (q := k) rfl Try.underlying22 sz47 rfl rfl (.inp hrb .no) (by simp <;> omega) rfl (by omega)) ?_
      refine d_q rfl rfl (.on rfl rfl rfl g45) rfl rfl (q_loadE rfl agg47 rfl (.inp hrb .no) (getmap (by omega)) rfl) ?_
      refine d_q rfl rfl (.on rfl rfl rfl g45) rfl rfl (q_loadBN rfl agg26 rfl (.there (.there (.there Sel.here))) (.cons rfl (.cons rfl (.cons rfl (.cons rfl (.cons rfl CellsAt.nil))))) rfl) ?_
      refine d_q rfl rfl (.on rfl rfl rfl g45) rfl rfl (q_call rfl call40 (.cons rfl (.cons rfl (.cons rfl Evs.nil))) (fun w hk hm => joined_just (nth a i) (nth b k) c w hc (noteOk_nth hna (by omega)) (noteOk_nth hnb (by omega)))) ?_
      refine d_q rfl rfl (.on rfl rfl rfl g45) rfl rfl (q_move rfl rfl) ?_
      refine d_q rfl rfl (.on rfl rfl rfl g45) rfl rfl (q_move rfl rfl) ?_
      refine d_q rfl rfl (.on rfl rfl rfl g45) rfl rfl (q_add rfl rfl rfl (by omega)) ?_
      refine d_q rfl rfl (.on rfl rfl rfl g45) rfl rfl (q_indexS (q := (i + 1)) rfl Try.underlying73 sz72 rfl rfl (.own (.there Sel.here)) (outerL_len (by omega)) rfl (by omega)) ?_
      refine d_q rfl rfl (.on rfl rfl rfl g45) rfl rfl (q_loadC rfl one72 rfl (.own (.there Sel.here)) (hrow (i + 1) (by omega))) ?_
      refine d_q rfl rfl (.on rfl rfl rfl g45) rfl rfl (q_move rfl rfl) ?_
      refine d_q rfl rfl (.on rfl rfl rfl g45) rfl rfl (q_add rfl rfl rfl (by omega)) ?_
      refine d_q rfl rfl (.on rfl rfl rfl g45) rfl rfl (q_indexS (q := (k + 1)) rfl Try.underlying72 sz3 rfl rfl (.sepOwn (.there (.there Sel.here)) (rowsR_all hgs (by omega))) (by simp [rowV]) rfl (by omega)) ?_
      refine d_q rfl rfl (.on rfl rfl rfl g45) rfl rfl (q_loadC rfl one3 rfl (.sepOwn (.there (.there Sel.here)) (rowsR_all hgs (by omega))) (rowV_get (by omega))) ?_
      refine d_q rfl rfl (.on rfl rfl rfl g45) rfl rfl (q_add rfl rfl rfl (by omega)) ?_
      refine d_q rfl rfl (.on rfl rfl rfl g45) rfl rfl (q_eql rfl rfl rfl) ?_
      refine d_q rfl rfl (.none rfl) rfl rfl (q_pickT rfl rfl g45 rfl) ?_
      refine d_q rfl rfl (.none rfl) rfl rfl (q_assign rfl rfl) ?_
      refine d_nil ?_
      refine run_sub (subMk (.cons (s := 0) rfl (.cons (s := 1) rfl (.cons (s := 5) rfl (.cons (s := 6) rfl (.cons (s := 7) rfl (.cons (s := 8) rfl (.cons (s := 9) rfl (.cons (s := 10) rfl (.cons (s := 11) rfl (.cons (s := 34) rfl .nil)))))))))) .refl) ?_
      refine run_cond rfl (fun g34 => ?_) (fun g34 => ?_)
      · have g34' := g34
        try simp only [decide_eq_true_eq, decide_eq_false_iff_not, beq_iff_eq, beq_eq_false_iff_ne, bne_iff_ne, bne_eq_false_iff_eq, Bool.not_eq_true', Bool.not_eq_false', ne_eq, Int.not_lt, Int.not_le, Decidable.not_not] at g34'
        refine run_seq ?_
        refine run_region ?_
        refine run_q (.none rfl) rfl rfl (q_assign rfl rfl) ?_
        refine run_nil ?_
        refine run_seq ?_
        refine run_seq ?_
        refine run_draw [(0, 0), (1, 0), (2, 0), (3, 0), (4, 0), (5, 0), (6, 0), (7, 0), (8, 0), (9, 0), (10, 0)] mixed (by kernel_rfl) .refl ?_
        refine d_q rfl rfl (.none rfl) rfl rfl (q_move rfl rfl) ?_
        refine d_q rfl rfl (.none rfl) rfl rfl (q_move rfl rfl) ?_
        refine d_q rfl rfl (.none rfl) rfl rfl (q_indexS (q := i) rfl Try.underlying22 sz47 rfl rfl (.inp hra .no) (by simp <;> omega) rfl (by omega)) ?_
        refine d_q rfl rfl (.none rfl) rfl rfl (q_fieldAddr (d := 2) rfl Try.underlying47 rfl rfl sz3 rfl) ?_
        refine d_q rfl rfl (.none rfl) rfl rfl (q_loadF rfl one3 rfl (.inp hra .no) (getmap (by omega)) rfl) ?_
        refine d_q rfl rfl (.none rfl) rfl rfl (q_move rfl rfl) ?_
        refine d_q rfl rfl (.none rfl) rfl rfl (q_move rfl rfl) ?_
        refine d_q rfl rfl (.none rfl) rfl rfl (q_indexS (q := k) rfl Try.underlying22 sz47 rfl rfl (.inp hrb .no) (by simp <;> omega) rfl (by omega)) ?_
        refine d_q rfl rfl (.none rfl) rfl rfl (q_fieldAddr (d := 2) rfl Try.underlying47 rfl rfl sz3 rfl) ?_
        refine d_q rfl rfl (.none rfl) rfl rfl (q_loadF rfl one3 rfl (.inp hrb .no) (getmap (by omega)) rfl) ?_
        refine d_q rfl rfl (.none rfl) rfl rfl (q_neq rfl rfl rfl) ?_
        refine d_nil ?_
        refine run_sub (subMk (.cons (s := 0) rfl (.cons (s := 1) rfl (.cons (s := 5) rfl (.cons (s := 6) rfl (.cons (s := 7) rfl (.cons (s := 8) rfl (.cons (s := 9) rfl (.cons (s := 10) rfl (.cons (s := 11) rfl (.cons (s := 12) rfl (.cons (s := 85) rfl .nil))))))))))) .refl) ?_
        refine run_cond rfl (fun g85 => ?_) (fun g85 => ?_)
        · have g85' := g85
          try simp only [decide_eq_true_eq, decide_eq_false_iff_not, beq_iff_eq, beq_eq_false_iff_ne, bne_iff_ne, bne_eq_false_iff_eq, Bool.not_eq_true', Bool.not_eq_false', ne_eq, Int.not_lt, Int.not_le, Decidable.not_not] at g85'
          refine run_region ?_
          refine run_q (.none rfl) rfl rfl (q_assign rfl rfl) ?_
          refine run_nil ?_
          refine run_seq ?_
          refine run_region ?_
          refine run_q (.none rfl) rfl rfl (q_move rfl rfl) ?_
          refine run_q (.none rfl) rfl rfl (q_move rfl rfl) ?_
          refine run_q (.none rfl) rfl rfl (q_move rfl rfl) ?_
          refine run_q (.none rfl) rfl rfl (q_move rfl rfl) ?_
          refine run_q (.none rfl) rfl rfl (q_build rfl (.cons rfl (.cons rfl (.cons rfl PV.nil))) (built40p0p1p2 _ _ _)) ?_
          refine run_h (.none rfl) (h_buildSlice rfl rfl rfl Try.underlying28 info40 (.cons rfl rfl rfl rfl Parts.nil) rfl (by omega)) ?_
          rintro b91 -
          refine run_h (.none rfl) (h_append rfl rfl rfl Try.underlying28 info40 rfl rfl (.there Sel.here) rfl (.own Sel.here) rfl (all1 rfl) (all1 rfl) (by omega) (by omega)) ?_
          rintro ⟨A92, c92⟩ -
          refine run_q (.none rfl) rfl rfl (q_assign rfl rfl) ?_
          refine run_nil ?_
          refine run_sub (subMk (.cons (s := 0) rfl (.cons (s := 1) rfl (.cons (s := 5) rfl (.cons (s := 6) rfl (.cons (s := 7) rfl (.cons (s := 8) rfl (.cons (s := 9) rfl (.cons (s := 10) rfl (.cons (s := 11) rfl .nil))))))))) .refl) ?_
          refine run_region ?_
          refine run_q (.none rfl) rfl rfl (q_move rfl rfl) ?_
          refine run_q (.none rfl) rfl rfl (q_add rfl rfl rfl (by omega)) ?_
          refine run_q (.none rfl) rfl rfl (q_move rfl rfl) ?_
          refine run_q (.none rfl) rfl rfl (q_add rfl rfl rfl (by omega)) ?_
          refine run_q (.none rfl) rfl rfl (q_assign rfl rfl) ?_
          refine run_q (.none rfl) rfl rfl (q_assign rfl rfl) ?_
          refine run_nil ?_
          refine run_sub (subMk (.cons (s := 0) rfl (.cons (s := 1) rfl (.cons (s := 5) rfl (.cons (s := 6) rfl (.cons (s := 7) rfl (.cons (s := 8) rfl (.cons (s := 9) rfl (.cons (s := 10) rfl (.cons (s := 11) rfl .nil))))))))) .refl) ?_
          refine run_blk ?_
          refine run_blk ?_
          exact run_again (i + 1, k + 1, A92, c92, o ++ [⟨2, i, k⟩]) (by (try dsimp only); exact ⟨by omega, by omega, by rw [hp, path_both (by omega) (by omega), if_pos g34', kindV, if_neg g85']; simp, by simp; omega⟩) (by (try dsimp only); omega) (subMk (.cons' (s := 10) rfl rfl (.cons' (s := 11) rfl rfl (.cons' (s := 9) rfl (by simp) (.cons (s := 0) rfl (.cons (s := 1) rfl (.cons (s := 5) rfl (.cons (s := 6) rfl (.cons (s := 7) rfl (.cons (s := 8) rfl .nil))))))))) (.cons Sel.here (.own rfl (by simp) rfl (by simp [Pair.enc, vlist])) (.cons (.there Sel.here) .refl (.cons (.there Sel.here) .refl (.cons (.there Sel.here) .refl .nil)))))
        · have g85' := g85
          try simp only [decide_eq_true_eq, decide_eq_false_iff_not, beq_iff_eq, beq_eq_false_iff_ne, bne_iff_ne, bne_eq_false_iff_eq, Bool.not_eq_true', Bool.not_eq_false', ne_eq, Int.not_lt, Int.not_le, Decidable.not_not] at g85'
          refine run_skip ?_
          refine run_seq ?_
          refine run_region ?_
          refine run_q (.none rfl) rfl rfl (q_move rfl rfl) ?_
          refine run_q (.none rfl) rfl rfl (q_move rfl rfl) ?_
          refine run_q (.none rfl) rfl rfl (q_move rfl rfl) ?_
          refine run_q (.none rfl) rfl rfl (q_move rfl rfl) ?_
          refine run_q (.none rfl) rfl rfl (q_build rfl (.cons rfl (.cons rfl (.cons rfl PV.nil))) (built40p0p1p2 _ _ _)) ?_
          refine run_h (.none rfl) (h_buildSlice rfl rfl rfl Try.underlying28 info40 (.cons rfl rfl rfl rfl Parts.nil) rfl (by omega)) ?_
          rintro b91 -
          refine run_h (.none rfl) (h_append rfl rfl rfl Try.underlying28 info40 rfl rfl (.there Sel.here) rfl (.own Sel.here) rfl (all1 rfl) (all1 rfl) (by omega) (by omega)) ?_
          rintro ⟨A92, c92⟩ -
          refine run_q (.none rfl) rfl rfl (q_assign rfl rfl) ?_
          refine run_nil ?_
          refine run_sub (subMk (.cons (s := 0) rfl (.cons (s := 1) rfl (.cons (s := 5) rfl (.cons (s := 6) rfl (.cons (s := 7) rfl (.cons (s := 8) rfl (.cons (s := 9) rfl (.cons (s := 10) rfl (.cons (s := 11) rfl .nil))))))))) .refl) ?_
          refine run_region ?_
          refine run_q (.none rfl) rfl rfl (q_move rfl rfl) ?_
          refine run_q (.none rfl) rfl rfl (q_add rfl rfl rfl (by omega)) ?_
          refine run_q (.none rfl) rfl rfl (q_move rfl rfl) ?_
          refine run_q (.none rfl) rfl rfl (q_add rfl rfl rfl (by omega)) ?_
          refine run_q (.none rfl) rfl rfl (q_assign rfl rfl) ?_
          refine run_q (.none rfl) rfl rfl (q_assign rfl rfl) ?_
          refine run_nil ?_
          refine run_sub (subMk (.cons (s := 0) rfl (.cons (s := 1) rfl (.cons (s := 5) rfl (.cons (s := 6) rfl (.cons (s := 7) rfl (.cons (s := 8) rfl (.cons (s := 9) rfl (.cons (s := 10) rfl (.cons (s := 11) rfl .nil))))))))) .refl) ?_
          refine run_blk ?_
          refine run_blk ?_
          exact run_again (i + 1, k + 1, A92, c92, o ++ [⟨1, i, k⟩]) (by (try dsimp only); exact ⟨by omega, by omega, by rw [hp, path_both (by omega) (by omega), if_pos g34', kindV, if_pos g85']; simp, by simp; omega⟩) (by (try dsimp only); omega) (subMk (.cons' (s := 10) rfl rfl (.cons' (s := 11) rfl rfl (.cons' (s := 9) rfl (by simp) (.cons (s := 0) rfl (.cons (s := 1) rfl (.cons (s := 5) rfl (.cons (s := 6) rfl (.cons (s := 7) rfl (.cons (s := 8) rfl .nil))))))))) (.cons Sel.here (.own rfl (by simp) rfl (by simp [Pair.enc, vlist])) (.cons (.there Sel.here) .refl (.cons (.there Sel.here) .refl (.cons (.there Sel.here) .refl .nil)))))
      · have g34' := g34
        try simp only [decide_eq_true_eq, decide_eq_false_iff_not, beq_iff_eq, beq_eq_false_iff_ne, bne_iff_ne, bne_eq_false_iff_eq, Bool.not_eq_true', Bool.not_eq_false', ne_eq, Int.not_lt, Int.not_le, Decidable.not_not] at g34'
        refine run_seq ?_
        refine run_draw [(0, 0), (1, 0), (2, 0), (3, 0), (4, 0), (5, 0), (6, 0), (7, 0), (8, 0), (9, 0), (10, 0), (11, 0), (12, 0), (13, 0), (14, 0), (15, 0), (16, 0), (17, 0), (18, 0), (19, 0), (20, 0), (21, 0), (22, 0), (23, 0), (24, 0), (25, 0)] mixed (by kernel_rfl) .refl ?_
        refine d_q rfl rfl (.none rfl) rfl rfl (q_move rfl rfl) ?_
        refine d_q rfl rfl (.none rfl) rfl rfl (q_move rfl rfl) ?_
        refine d_q rfl rfl (.none rfl) rfl rfl (q_len rfl Try.underlying22 rfl) ?_
        refine d_q rfl rfl (.none rfl) rfl rfl (q_lss rfl rfl rfl) ?_
        refine d_q rfl rfl (.none rfl) rfl rfl (q_move rfl rfl) ?_
        refine d_q rfl rfl (.on rfl rfl rfl g21) rfl rfl (q_move rfl rfl) ?_
        refine d_q rfl rfl (.on rfl rfl rfl g21) rfl rfl (q_move rfl rfl) ?_
        refine d_q rfl rfl (.on rfl rfl rfl g21) rfl rfl (q_indexS (q := i) rfl Try.underlying73 sz72 rfl rfl (.own (.there Sel.here)) (outerL_len (by omega)) rfl (by omega)) ?_
        refine d_q rfl rfl (.on rfl rfl rfl g21) rfl rfl (q_loadC rfl one72 rfl (.own (.there Sel.here)) (hrow i (by omega))) ?_
        refine d_q rfl rfl (.on rfl rfl rfl g21) rfl rfl (q_move rfl rfl) ?_
        refine d_q rfl rfl (.on rfl rfl rfl g21) rfl rfl (q_indexS (q := k) rfl Try.underlying72 sz3 rfl rfl (.sepOwn (.there (.there Sel.here)) (rowsR_all hgs (by omega))) (by simp [rowV]) rfl (by omega)) ?_
        refine d_q rfl rfl (.on rfl rfl rfl g21) rfl rfl (q_loadC rfl one3 rfl (.sepOwn (.there (.there Sel.here)) (rowsR_all hgs (by omega))) (rowV_get (by omega))) ?_
        refine d_q rfl rfl (.on rfl rfl rfl g21) rfl rfl (q_fieldB (d := 1) rfl Try.underlying26 rfl rfl sz3 rfl) ?_
        refine d_q rfl rfl (.on rfl rfl rfl g21) rfl rfl (q_loadB rfl one3 rfl (.there (.there (.there Sel.here))) rfl) ?_
        refine d_q rfl rfl (.on rfl rfl rfl g21) rfl rfl (q_move rfl rfl) ?_
        refine d_q rfl rfl (.on rfl rfl rfl g21) rfl rfl (q_move rfl rfl) ?_
        refine d_q rfl rfl (.on rfl rfl rfl g21) rfl rfl (q_add rfl rfl rfl (by omega)) ?_
        refine d_q rfl rfl (.on rfl rfl rfl g21) rfl rfl (q_indexS (q := (i + 1)) rfl Try.underlying73 sz72 rfl rfl (.own (.there Sel.here)) (outerL_len (by omega)) rfl (by omega)) ?_
        refine d_q rfl rfl (.on rfl rfl rfl g21) rfl rfl (q_loadC rfl one72 rfl (.own (.there Sel.here)) (hrow (i + 1) (by omega))) ?_
        refine d_q rfl rfl (.on rfl rfl rfl g21) rfl rfl (q_move rfl rfl) ?_
        refine d_q rfl rfl (.on rfl rfl rfl g21) rfl rfl (q_indexS (q := k) rfl Try.underlying72 sz3 rfl rfl (.sepOwn (.there (.there Sel.here)) (rowsR_all hgs (by omega))) (by simp [rowV]) rfl (by omega)) ?_
        refine d_q rfl rfl (.on rfl rfl rfl g21) rfl rfl (q_loadC rfl one3 rfl (.sepOwn (.there (.there Sel.here)) (rowsR_all hgs (by omega))) (rowV_get (by omega))) ?_
        refine d_q rfl rfl (.on rfl rfl rfl g21) rfl rfl (q_add rfl rfl rfl (by omega)) ?_
        refine d_q rfl rfl (.on rfl rfl rfl g21) rfl rfl (q_eql rfl rfl rfl) ?_
        refine d_q rfl rfl (.none rfl) rfl rfl (q_pickT rfl rfl g21 rfl) ?_
        refine d_q rfl rfl (.none rfl) rfl rfl (q_assign rfl rfl) ?_
        refine d_nil ?_
        refine run_sub (subMk (.cons (s := 0) rfl (.cons (s := 1) rfl (.cons (s := 5) rfl (.cons (s := 6) rfl (.cons (s := 7) rfl (.cons (s := 8) rfl (.cons (s := 9) rfl (.cons (s := 10) rfl (.cons (s := 11) rfl (.cons (s := 97) rfl .nil)))))))))) .refl) ?_
        refine run_cond rfl (fun g97 => ?_) (fun g97 => ?_)
        · have g97' := g97
          try simp only [decide_eq_true_eq, decide_eq_false_iff_not, beq_iff_eq, beq_eq_false_iff_ne, bne_iff_ne, bne_eq_false_iff_eq, Bool.not_eq_true', Bool.not_eq_false', ne_eq, Int.not_lt, Int.not_le, Decidable.not_not] at g97'
          refine run_seq ?_
          refine run_region ?_
          refine run_q (.none rfl) rfl rfl (q_move rfl rfl) ?_
          refine run_q (.none rfl) rfl rfl (q_move rfl rfl) ?_
          refine run_q (.none rfl) rfl rfl (q_build rfl (.cons rfl (.cons rfl (.cons rfl PV.nil))) (built40p0p1p2 _ _ _)) ?_
          refine run_h (.none rfl) (h_buildSlice rfl rfl rfl Try.underlying28 info40 (.cons rfl rfl rfl rfl Parts.nil) rfl (by omega)) ?_
          rintro b126 -
          refine run_h (.none rfl) (h_append rfl rfl rfl Try.underlying28 info40 rfl rfl (.there Sel.here) rfl (.own Sel.here) rfl (all1 rfl) (all1 rfl) (by omega) (by omega)) ?_
          rintro ⟨A127, c127⟩ -
          refine run_q (.none rfl) rfl rfl (q_assign rfl rfl) ?_
          refine run_nil ?_
          refine run_sub (subMk (.cons (s := 0) rfl (.cons (s := 1) rfl (.cons (s := 5) rfl (.cons (s := 6) rfl (.cons (s := 7) rfl (.cons (s := 8) rfl (.cons (s := 9) rfl (.cons (s := 10) rfl (.cons (s := 11) rfl .nil))))))))) .refl) ?_
          refine run_region ?_
          refine run_q (.none rfl) rfl rfl (q_move rfl rfl) ?_
          refine run_q (.none rfl) rfl rfl (q_add rfl rfl rfl (by omega)) ?_
          refine run_q (.none rfl) rfl rfl (q_assign rfl rfl) ?_
          refine run_nil ?_
          refine run_blk ?_
          refine run_blk ?_
          exact run_again (i + 1, k, A127, c127, o ++ [⟨3, i, -1⟩]) (by (try dsimp only); exact ⟨by omega, by omega, by rw [hp, path_both (by omega) (by omega), if_neg g34', if_pos g97']; simp, by simp; omega⟩) (by (try dsimp only); omega) (subMk (.cons' (s := 10) rfl rfl (.cons' (s := 11) rfl rfl (.cons' (s := 9) rfl (by simp) (.cons (s := 0) rfl (.cons (s := 1) rfl (.cons (s := 5) rfl (.cons (s := 6) rfl (.cons (s := 7) rfl (.cons (s := 8) rfl .nil))))))))) (.cons Sel.here (.own rfl (by simp) rfl (by simp [Pair.enc, vlist])) (.cons (.there Sel.here) .refl (.cons (.there Sel.here) .refl (.cons (.there Sel.here) .refl .nil)))))
        · have g97' := g97
          try simp only [decide_eq_true_eq, decide_eq_false_iff_not, beq_iff_eq, beq_eq_false_iff_ne, bne_iff_ne, bne_eq_false_iff_eq, Bool.not_eq_true', Bool.not_eq_false', ne_eq, Int.not_lt, Int.not_le, Decidable.not_not] at g97'
          refine run_seq ?_
          refine run_region ?_
          refine run_q (.none rfl) rfl rfl (q_move rfl rfl) ?_
          refine run_q (.none rfl) rfl rfl (q_move rfl rfl) ?_
          refine run_q (.none rfl) rfl rfl (q_build rfl (.cons rfl (.cons rfl (.cons rfl PV.nil))) (built40p0p1p2 _ _ _)) ?_
          refine run_h (.none rfl) (h_buildSlice rfl rfl rfl Try.underlying28 info40 (.cons rfl rfl rfl rfl Parts.nil) rfl (by omega)) ?_
          rintro b30 -
          refine run_h (.none rfl) (h_append rfl rfl rfl Try.underlying28 info40 rfl rfl (.there Sel.here) rfl (.own Sel.here) rfl (all1 rfl) (all1 rfl) (by omega) (by omega)) ?_
          rintro ⟨A31, c31⟩ -
          refine run_q (.none rfl) rfl rfl (q_assign rfl rfl) ?_
          refine run_nil ?_
          refine run_sub (subMk (.cons (s := 0) rfl (.cons (s := 1) rfl (.cons (s := 5) rfl (.cons (s := 6) rfl (.cons (s := 7) rfl (.cons (s := 8) rfl (.cons (s := 9) rfl (.cons (s := 10) rfl (.cons (s := 11) rfl .nil))))))))) .refl) ?_
          refine run_region ?_
          refine run_q (.none rfl) rfl rfl (q_move rfl rfl) ?_
          refine run_q (.none rfl) rfl rfl (q_add rfl rfl rfl (by omega)) ?_
          refine run_q (.none rfl) rfl rfl (q_assign rfl rfl) ?_
          refine run_nil ?_
          refine run_blk ?_
          refine run_blk ?_
          exact run_again (i, k + 1, A31, c31, o ++ [⟨4, -1, k⟩]) (by (try dsimp only); exact ⟨by omega, by omega, by rw [hp, path_both (by omega) (by omega), if_neg g34', if_neg g97']; simp, by simp; omega⟩) (by (try dsimp only); omega) (subMk (.cons' (s := 10) rfl rfl (.cons' (s := 11) rfl rfl (.cons' (s := 9) rfl (by simp) (.cons (s := 0) rfl (.cons (s := 1) rfl (.cons (s := 5) rfl (.cons (s := 6) rfl (.cons (s := 7) rfl (.cons (s := 8) rfl .nil))))))))) (.cons Sel.here (.own rfl (by simp) rfl (by simp [Pair.enc, vlist])) (.cons (.there Sel.here) .refl (.cons (.there Sel.here) .refl (.cons (.there Sel.here) .refl .nil)))))
    · have g45' := g45
      try simp only [decide_eq_true_eq, decide_eq_false_iff_not, beq_iff_eq, beq_eq_false_iff_ne, bne_iff_ne, bne_eq_false_iff_eq, Bool.not_eq_true', Bool.not_eq_false', ne_eq, Int.not_lt, Int.not_le, Decidable.not_not] at g45'
      refine d_off rfl rfl (.no rfl rfl rfl g45) rfl rfl ?_
      refine d_off rfl rfl (.no rfl rfl rfl g45) rfl rfl ?_
      refine d_off rfl rfl (.no rfl rfl rfl g45) rfl rfl ?_
      refine d_off rfl rfl (.no rfl rfl rfl g45) rfl rfl ?_
      refine d_off rfl rfl (.no rfl rfl rfl g45) rfl rfl ?_
      refine d_off rfl rfl (.no rfl rfl rfl g45) rfl rfl ?_
      refine d_off rfl rfl (.no rfl rfl rfl g45) rfl rfl ?_
      refine d_off rfl rfl (.no rfl rfl rfl g45) rfl rfl ?_
      refine d_off rfl rfl (.no rfl rfl rfl g45) rfl rfl ?_
      refine d_off rfl rfl (.no rfl rfl rfl g45) rfl rfl ?_
      refine d_off rfl rfl (.no rfl rfl rfl g45) rfl rfl ?_
      refine d_off rfl rfl (.no rfl rfl rfl g45) rfl rfl ?_
      refine d_off rfl rfl (.no rfl rfl rfl g45) rfl rfl ?_
      refine d_off rfl rfl (.no rfl rfl rfl g45) rfl rfl ?_
      refine d_off rfl rfl (.no rfl rfl rfl g45) rfl rfl ?_
      refine d_off rfl rfl (.no rfl rfl rfl g45) rfl rfl ?_
      refine d_off rfl rfl (.no rfl rfl rfl g45) rfl rfl ?_
      refine d_off rfl rfl (.no rfl rfl rfl g45) rfl rfl ?_
      refine d_off rfl rfl (.no rfl rfl rfl g45) rfl rfl ?_
      refine d_off rfl rfl (.no rfl rfl rfl g45) rfl rfl ?_
      refine d_off rfl rfl (.no rfl rfl rfl g45) rfl rfl ?_
      refine d_off rfl rfl (.no rfl rfl rfl g45) rfl rfl ?_
      refine d_off rfl rfl (.no rfl rfl rfl g45) rfl rfl ?_
      refine d_off rfl rfl (.no rfl rfl rfl g45) rfl rfl ?_
      refine d_off rfl rfl (.no rfl rfl rfl g45) rfl rfl ?_
      refine d_off rfl rfl (.no rfl rfl rfl g45) rfl rfl ?_
      refine d_off rfl rfl (.no rfl rfl rfl g45) rfl rfl ?_
      refine d_off rfl rfl (.no rfl rfl rfl g45) rfl rfl ?_
      refine d_q rfl rfl (.none rfl) rfl rfl (q_pickF rfl rfl g45 rfl) ?_
      refine d_q rfl rfl (.none rfl) rfl rfl (q_assign rfl rfl) ?_
      refine d_nil ?_
      refine run_sub (subMk (.cons (s := 0) rfl (.cons (s := 1) rfl (.cons (s := 5) rfl (.cons (s := 6) rfl (.cons (s := 7) rfl (.cons (s := 8) rfl (.cons (s := 9) rfl (.cons (s := 10) rfl (.cons (s := 11) rfl (.cons (s := 34) rfl .nil)))))))))) .refl) ?_
      refine run_condF rfl rfl ?_
      refine run_seq ?_
      refine run_draw [(0, 0), (1, 0), (2, 0), (3, 0), (4, 0), (5, 0), (6, 0), (7, 0), (8, 0), (9, 0), (10, 0), (11, 0), (12, 0), (13, 0), (14, 0), (15, 0), (16, 0), (17, 0), (18, 0), (19, 0), (20, 0), (21, 0), (22, 0), (23, 0), (24, 0), (25, 0)] mixed (by kernel_rfl) .refl ?_
      refine d_q rfl rfl (.none rfl) rfl rfl (q_move rfl rfl) ?_
      refine d_q rfl rfl (.none rfl) rfl rfl (q_move rfl rfl) ?_
      refine d_q rfl rfl (.none rfl) rfl rfl (q_len rfl Try.underlying22 rfl) ?_
      refine d_q rfl rfl (.none rfl) rfl rfl (q_lss rfl rfl rfl) ?_
      refine d_q rfl rfl (.none rfl) rfl rfl (q_move rfl rfl) ?_
      refine d_q rfl rfl (.on rfl rfl rfl g21) rfl rfl (q_move rfl rfl) ?_
      refine d_q rfl rfl (.on rfl rfl rfl g21) rfl rfl (q_move rfl rfl) ?_
      refine d_q rfl rfl (.on rfl rfl rfl g21) rfl rfl (q_indexS (q := i) rfl Try.underlying73 sz72 rfl rfl (.own (.there Sel.here)) (outerL_len (by omega)) rfl (by omega)) ?_
      refine d_q rfl rfl (.on rfl rfl rfl g21) rfl rfl (q_loadC rfl one72 rfl (.own (.there Sel.here)) (hrow i (by omega))) ?_
      refine d_q rfl rfl (.on rfl rfl rfl g21) rfl rfl (q_move rfl rfl) ?_
      refine d_q rfl rfl (.on rfl rfl rfl g21) rfl rfl (q_indexS (q := k) rfl Try.underlying72 sz3 rfl rfl (.sepOwn (.there (.there Sel.here)) (rowsR_all hgs (by omega))) (by simp [rowV]) rfl (by omega)) ?_
      refine d_q rfl rfl (.on rfl rfl rfl g21) rfl rfl (q_loadC rfl one3 rfl (.sepOwn (.there (.there Sel.here)) (rowsR_all hgs (by omega))) (rowV_get (by omega))) ?_
      refine d_q rfl rfl (.on rfl rfl rfl g21) rfl rfl (q_fieldB (d := 1) rfl Try.underlying26 rfl rfl sz3 rfl) ?_
      refine d_q rfl rfl (.on rfl rfl rfl g21) rfl rfl (q_loadB rfl one3 rfl (.there (.there (.there Sel.here))) rfl) ?_
      refine d_q rfl rfl (.on rfl rfl rfl g21) rfl rfl (q_move rfl rfl) ?_
      refine d_q rfl rfl (.on rfl rfl rfl g21) rfl rfl (q_move rfl rfl) ?_
      refine d_q rfl rfl (.on rfl rfl rfl g21) rfl rfl (q_add rfl rfl rfl (by omega)) ?_
      refine d_q rfl rfl (.on rfl rfl rfl g21) rfl rfl (q_indexS (q := (i + 1)) rfl Try.underlying73 sz72 rfl rfl (.own (.there Sel.here)) (outerL_len (by omega)) rfl (by omega)) ?_
      refine d_q rfl rfl (.on rfl rfl rfl g21) rfl rfl (q_loadC rfl one72 rfl (.own (.there Sel.here)) (hrow (i + 1) (by omega))) ?_
      refine d_q rfl rfl (.on rfl rfl rfl g21) rfl rfl (q_move rfl rfl) ?_
      refine d_q rfl rfl (.on rfl rfl rfl g21) rfl rfl (q_indexS (q := k) rfl Try.underlying72 sz3 rfl rfl (.sepOwn (.there (.there Sel.here)) (rowsR_all hgs (by omega))) (by simp [rowV]) rfl (by omega)) ?_
      refine d_q rfl rfl (.on rfl rfl rfl g21) rfl rfl (q_loadC rfl one3 rfl (.sepOwn (.there (.there Sel.here)) (rowsR_all hgs (by omega))) (rowV_get (by omega))) ?_
      refine d_q rfl rfl (.on rfl rfl rfl g21) rfl rfl (q_add rfl rfl rfl (by omega)) ?_
      refine d_q rfl rfl (.on rfl rfl rfl g21) rfl rfl (q_eql rfl rfl rfl) ?_
      refine d_q rfl rfl (.none rfl) rfl rfl (q_pickT rfl rfl g21 rfl) ?_
      refine d_q rfl rfl (.none rfl) rfl rfl (q_assign rfl rfl) ?_
      refine d_nil ?_
      refine run_sub (subMk (.cons (s := 0) rfl (.cons (s := 1) rfl (.cons (s := 5) rfl (.cons (s := 6) rfl (.cons (s := 7) rfl (.cons (s := 8) rfl (.cons (s := 9) rfl (.cons (s := 10) rfl (.cons (s := 11) rfl (.cons (s := 97) rfl .nil)))))))))) .refl) ?_
      refine run_condT rfl (beq_iff_eq.2 (best_left (by omega) (by omega))) ?_
      refine run_seq ?_
      refine run_region ?_
      refine run_q (.none rfl) rfl rfl (q_move rfl rfl) ?_
      refine run_q (.none rfl) rfl rfl (q_move rfl rfl) ?_
      refine run_q (.none rfl) rfl rfl (q_build rfl (.cons rfl (.cons rfl (.cons rfl PV.nil))) (built40p0p1p2 _ _ _)) ?_
      refine run_h (.none rfl) (h_buildSlice rfl rfl rfl Try.underlying28 info40 (.cons rfl rfl rfl rfl Parts.nil) rfl (by omega)) ?_
      rintro b126 -
      refine run_h (.none rfl) (h_append rfl rfl rfl Try.underlying28 info40 rfl rfl (.there Sel.here) rfl (.own Sel.here) rfl (all1 rfl) (all1 rfl) (by omega) (by omega)) ?_
      rintro ⟨A127, c127⟩ -
      refine run_q (.none rfl) rfl rfl (q_assign rfl rfl) ?_
      refine run_nil ?_
      refine run_sub (subMk (.cons (s := 0) rfl (.cons (s := 1) rfl (.cons (s := 5) rfl (.cons (s := 6) rfl (.cons (s := 7) rfl (.cons (s := 8) rfl (.cons (s := 9) rfl (.cons (s := 10) rfl (.cons (s := 11) rfl .nil))))))))) .refl) ?_
      refine run_region ?_
      refine run_q (.none rfl) rfl rfl (q_move rfl rfl) ?_
      refine run_q (.none rfl) rfl rfl (q_add rfl rfl rfl (by omega)) ?_
      refine run_q (.none rfl) rfl rfl (q_assign rfl rfl) ?_
      refine run_nil ?_
      refine run_blk ?_
      refine run_blk ?_
      exact run_again (i + 1, k, A127, c127, o ++ [⟨3, i, -1⟩]) (by (try dsimp only); exact ⟨by omega, by omega, by rw [hp, path_left (by omega) (by omega)]; simp, by simp; omega⟩) (by (try dsimp only); omega) (subMk (.cons' (s := 10) rfl rfl (.cons' (s := 11) rfl rfl (.cons' (s := 9) rfl (by simp) (.cons (s := 0) rfl (.cons (s := 1) rfl (.cons (s := 5) rfl (.cons (s := 6) rfl (.cons (s := 7) rfl (.cons (s := 8) rfl .nil))))))))) (.cons Sel.here (.own rfl (by simp) rfl (by simp [Pair.enc, vlist])) (.cons (.there Sel.here) .refl (.cons (.there Sel.here) .refl (.cons (.there Sel.here) .refl .nil)))))
  · have g21' := g21
    try simp only [decide_eq_true_eq, decide_eq_false_iff_not, beq_iff_eq, beq_eq_false_iff_ne, bne_iff_ne, bne_eq_false_iff_eq, Bool.not_eq_true', Bool.not_eq_false', ne_eq, Int.not_lt, Int.not_le, Decidable.not_not] at g21'
    refine run_q (.on rfl rfl rfl g21) rfl rfl (q_move rfl rfl) ?_
    refine run_q (.on rfl rfl rfl g21) rfl rfl (q_move rfl rfl) ?_
    refine run_q (.on rfl rfl rfl g21) rfl rfl (q_len rfl Try.underlying22 rfl) ?_
    refine run_q (.on rfl rfl rfl g21) rfl rfl (q_lss rfl rfl rfl) ?_
    refine run_q (.none rfl) rfl rfl (q_pickF rfl rfl g21 rfl) ?_
    refine run_nil ?_
    refine run_sub (subMk (.cons (s := 0) rfl (.cons (s := 1) rfl (.cons (s := 5) rfl (.cons (s := 6) rfl (.cons (s := 7) rfl (.cons (s := 8) rfl (.cons (s := 9) rfl (.cons (s := 10) rfl (.cons (s := 11) rfl (.cons (s := 26) rfl .nil)))))))))) .refl) ?_
    refine run_cond rfl (fun g26 => ?_) (fun g26 => ?_)
    · have g26' := g26
      try simp only [decide_eq_true_eq, decide_eq_false_iff_not, beq_iff_eq, beq_eq_false_iff_ne, bne_iff_ne, bne_eq_false_iff_eq, Bool.not_eq_true', Bool.not_eq_false', ne_eq, Int.not_lt, Int.not_le, Decidable.not_not] at g26'
      refine run_skip ?_
      refine run_block ?_
      refine run_block ?_
      refine run_seq ?_
      refine run_draw [(0, 0), (1, 0), (2, 0), (3, 0), (4, 0), (5, 0), (6, 0), (7, 0), (8, 0), (9, 0), (10, 0), (11, 0), (12, 0), (13, 0), (14, 0), (15, 0), (16, 0), (17, 0), (18, 0), (19, 0), (20, 0), (21, 0), (22, 0), (23, 0), (24, 0), (25, 0), (26, 0), (27, 0), (28, 0), (29, 0), (30, 0), (31, 0), (32, 0), (33, 0), (34, 0), (35, 0), (36, 0), (37, 0), (38, 0), (39, 0), (40, 0)] mixed (by kernel_rfl) .refl ?_
      refine d_q rfl rfl (.none rfl) rfl rfl (q_move rfl rfl) ?_
      refine d_q rfl rfl (.none rfl) rfl rfl (q_move rfl rfl) ?_
      refine d_q rfl rfl (.none rfl) rfl rfl (q_len rfl Try.underlying22 rfl) ?_
      refine d_q rfl rfl (.none rfl) rfl rfl (q_lss rfl rfl rfl) ?_
      refine d_q rfl rfl (.none rfl) rfl rfl (q_move rfl rfl) ?_
      refine d_off rfl rfl (.no rfl rfl rfl g21) rfl rfl ?_
      refine d_off rfl rfl (.no rfl rfl rfl g21) rfl rfl ?_
      refine d_off rfl rfl (.no rfl rfl rfl g21) rfl rfl ?_
      refine d_off rfl rfl (.no rfl rfl rfl g21) rfl rfl ?_
      refine d_q rfl rfl (.none rfl) rfl rfl (q_pickF rfl rfl g21 rfl) ?_
      refine d_q rfl rfl (.none rfl) rfl rfl (q_move rfl rfl) ?_
      refine d_off rfl rfl (.no rfl rfl rfl rfl) rfl rfl ?_
      refine d_off rfl rfl (.no rfl rfl rfl rfl) rfl rfl ?_
      refine d_off rfl rfl (.no rfl rfl rfl rfl) rfl rfl ?_
      refine d_off rfl rfl (.no rfl rfl rfl rfl) rfl rfl ?_
      refine d_off rfl rfl (.no rfl rfl rfl rfl) rfl rfl ?_
      refine d_off rfl rfl (.no rfl rfl rfl rfl) rfl rfl ?_
      refine d_off rfl rfl (.no rfl rfl rfl rfl) rfl rfl ?_
      refine d_off rfl rfl (.no rfl rfl rfl rfl) rfl rfl ?_
      refine d_off rfl rfl (.no rfl rfl rfl rfl) rfl rfl ?_
      refine d_off rfl rfl (.no rfl rfl rfl rfl) rfl rfl ?_
      refine d_off rfl rfl (.no rfl rfl rfl rfl) rfl rfl ?_
      refine d_off rfl rfl (.no rfl rfl rfl rfl) rfl rfl ?_
      refine d_off rfl rfl (.no rfl rfl rfl rfl) rfl rfl ?_
      refine d_off rfl rfl (.no rfl rfl rfl rfl) rfl rfl ?_
      refine d_off rfl rfl (.no rfl rfl rfl rfl) rfl rfl ?_
      refine d_off rfl rfl (.no rfl rfl rfl rfl) rfl rfl ?_
      refine d_off rfl rfl (.no rfl rfl rfl rfl) rfl rfl ?_
      refine d_off rfl rfl (.no rfl rfl rfl rfl) rfl rfl ?_
      refine d_off rfl rfl (.no rfl rfl rfl rfl) rfl rfl ?_
      refine d_off rfl rfl (.no rfl rfl rfl rfl) rfl rfl ?_
      refine d_off rfl rfl (.no rfl rfl rfl rfl) rfl rfl ?_
      refine d_off rfl rfl (.no rfl rfl rfl rfl) rfl rfl ?_
      refine d_off rfl rfl (.no rfl rfl rfl rfl) rfl rfl ?_
      refine d_off rfl rfl (.no rfl rfl rfl rfl) rfl rfl ?_
      refine d_off rfl rfl (.no rfl rfl rfl rfl) rfl rfl ?_
      refine d_off rfl rfl (.no rfl rfl rfl rfl) rfl rfl ?_
      refine d_off rfl rfl (.no rfl rfl rfl rfl) rfl rfl ?_
      refine d_off rfl rfl (.no rfl rfl rfl rfl) rfl rfl ?_
      refine d_q rfl rfl (.none rfl) rfl rfl (q_pickF rfl rfl rfl rfl) ?_
      refine d_q rfl rfl (.none rfl) rfl rfl (q_assign rfl rfl) ?_
      refine d_nil ?_
      refine run_sub (subMk (.cons (s := 0) rfl (.cons (s := 1) rfl (.cons (s := 5) rfl (.cons (s := 6) rfl (.cons (s := 7) rfl (.cons (s := 8) rfl (.cons (s := 9) rfl (.cons (s := 10) rfl (.cons (s := 11) rfl (.cons (s := 34) rfl .nil)))))))))) .refl) ?_
      refine run_condF rfl rfl ?_
      refine run_seq ?_
      refine run_draw [(0, 0), (1, 0), (2, 0), (3, 0), (4, 0), (5, 0), (6, 0), (7, 0), (8, 0), (9, 0), (10, 0), (11, 0), (12, 0), (13, 0), (14, 0), (15, 0), (16, 0), (17, 0), (18, 0), (19, 0), (20, 0), (21, 0), (22, 0), (23, 0), (24, 0), (25, 0)] mixed (by kernel_rfl) .refl ?_
      refine d_q rfl rfl (.none rfl) rfl rfl (q_move rfl rfl) ?_
      refine d_q rfl rfl (.none rfl) rfl rfl (q_move rfl rfl) ?_
      refine d_q rfl rfl (.none rfl) rfl rfl (q_len rfl Try.underlying22 rfl) ?_
      refine d_q rfl rfl (.none rfl) rfl rfl (q_lss rfl rfl rfl) ?_
      refine d_q rfl rfl (.none rfl) rfl rfl (q_move rfl rfl) ?_
      refine d_off rfl rfl (.no rfl rfl rfl g21) rfl rfl ?_
      refine d_off rfl rfl (.no rfl rfl rfl g21) rfl rfl ?_
      refine d_off rfl rfl (.no rfl rfl rfl g21) rfl rfl ?_
      refine d_off rfl rfl (.no rfl rfl rfl g21) rfl rfl ?_
      refine d_off rfl rfl (.no rfl rfl rfl g21) rfl rfl ?_
      refine d_off rfl rfl (.no rfl rfl rfl g21) rfl rfl ?_
      refine d_off rfl rfl (.no rfl rfl rfl g21) rfl rfl ?_
      refine d_off rfl rfl (.no rfl rfl rfl g21) rfl rfl ?_
      refine d_off rfl rfl (.no rfl rfl rfl g21) rfl rfl ?_
      refine d_off rfl rfl (.no rfl rfl rfl g21) rfl rfl ?_
      refine d_off rfl rfl (.no rfl rfl rfl g21) rfl rfl ?_
      refine d_off rfl rfl (.no rfl rfl rfl g21) rfl rfl ?_
      refine d_off rfl rfl (.no rfl rfl rfl g21) rfl rfl ?_
      refine d_off rfl rfl (.no rfl rfl rfl g21) rfl rfl ?_
      refine d_off rfl rfl (.no rfl rfl rfl g21) rfl rfl ?_
      refine d_off rfl rfl (.no rfl rfl rfl g21) rfl rfl ?_
      refine d_off rfl rfl (.no rfl rfl rfl g21) rfl rfl ?_
      refine d_off rfl rfl (.no rfl rfl rfl g21) rfl rfl ?_
      refine d_off rfl rfl (.no rfl rfl rfl g21) rfl rfl ?_
      refine d_q rfl rfl (.none rfl) rfl rfl (q_pickF rfl rfl g21 rfl) ?_
      refine d_q rfl rfl (.none rfl) rfl rfl (q_assign rfl rfl) ?_
      refine d_nil ?_
      refine run_sub (subMk (.cons (s := 0) rfl (.cons (s := 1) rfl (.cons (s := 5) rfl (.cons (s := 6) rfl (.cons (s := 7) rfl (.cons (s := 8) rfl (.cons (s := 9) rfl (.cons (s := 10) rfl (.cons (s := 11) rfl (.cons (s := 97) rfl .nil)))))))))) .refl) ?_
      refine run_condF rfl rfl ?_
      refine run_seq ?_
      refine run_region ?_
      refine run_q (.none rfl) rfl rfl (q_move rfl rfl) ?_
      refine run_q (.none rfl) rfl rfl (q_move rfl rfl) ?_
      refine run_q (.none rfl) rfl rfl (q_build rfl (.cons rfl (.cons rfl (.cons rfl PV.nil))) (built40p0p1p2 _ _ _)) ?_
      refine run_h (.none rfl) (h_buildSlice rfl rfl rfl Try.underlying28 info40 (.cons rfl rfl rfl rfl Parts.nil) rfl (by omega)) ?_
      rintro b30 -
      refine run_h (.none rfl) (h_append rfl rfl rfl Try.underlying28 info40 rfl rfl (.there Sel.here) rfl (.own Sel.here) rfl (all1 rfl) (all1 rfl) (by omega) (by omega)) ?_
      rintro ⟨A31, c31⟩ -
      refine run_q (.none rfl) rfl rfl (q_assign rfl rfl) ?_
      refine run_nil ?_
      refine run_sub (subMk (.cons (s := 0) rfl (.cons (s := 1) rfl (.cons (s := 5) rfl (.cons (s := 6) rfl (.cons (s := 7) rfl (.cons (s := 8) rfl (.cons (s := 9) rfl (.cons (s := 10) rfl (.cons (s := 11) rfl .nil))))))))) .refl) ?_
      refine run_region ?_
      refine run_q (.none rfl) rfl rfl (q_move rfl rfl) ?_
      refine run_q (.none rfl) rfl rfl (q_add rfl rfl rfl (by omega)) ?_
      refine run_q (.none rfl) rfl rfl (q_assign rfl rfl) ?_
      refine run_nil ?_
      refine run_blk ?_
      refine run_blk ?_
      exact run_again (i, k + 1, A31, c31, o ++ [⟨4, -1, k⟩]) (by (try dsimp only); exact ⟨by omega, by omega, by rw [hp, path_right (by omega) (by omega)]; simp, by simp; omega⟩) (by (try dsimp only); omega) (subMk (.cons' (s := 10) rfl rfl (.cons' (s := 11) rfl rfl (.cons' (s := 9) rfl (by simp) (.cons (s := 0) rfl (.cons (s := 1) rfl (.cons (s := 5) rfl (.cons (s := 6) rfl (.cons (s := 7) rfl (.cons (s := 8) rfl .nil))))))))) (.cons Sel.here (.own rfl (by simp) rfl (by simp [Pair.enc, vlist])) (.cons (.there Sel.here) .refl (.cons (.there Sel.here) .refl (.cons (.there Sel.here) .refl .nil)))))
    · have g26' := g26
      try simp only [decide_eq_true_eq, decide_eq_false_iff_not, beq_iff_eq, beq_eq_false_iff_ne, bne_iff_ne, bne_eq_false_iff_eq, Bool.not_eq_true', Bool.not_eq_false', ne_eq, Int.not_lt, Int.not_le, Decidable.not_not] at g26'
      refine run_exit rfl ?_
      refine run_sub (subMk (.cons (s := 6) rfl (.cons (s := 7) rfl (.cons (s := 8) rfl (.cons (s := 9) rfl .nil)))) .refl) ?_
      refine run_seq ?_
      refine run_draw [(0, 0), (1, 0), (2, 0), (3, 0), (4, 0), (5, 0), (6, 0), (7, 0)] mixed (by kernel_rfl) .refl ?_
      refine d_q rfl rfl (.none rfl) rfl rfl (q_move rfl rfl) ?_
      refine d_q rfl rfl (.none rfl) rfl rfl (q_move rfl rfl) ?_
      refine d_q rfl rfl (.none rfl) rfl rfl (q_indexS (q := 0) rfl Try.underlying73 sz72 rfl rfl (.own (.there Sel.here)) (outerL_len (by omega)) rfl (by omega)) ?_
      refine d_q rfl rfl (.none rfl) rfl rfl (q_loadC rfl one72 rfl (.own (.there Sel.here)) (hrow 0 (by omega))) ?_
      refine d_q rfl rfl (.none rfl) rfl rfl (q_indexS (q := 0) rfl Try.underlying72 sz3 rfl rfl (.sepOwn (.there (.there Sel.here)) (rowsR_all hgs (by omega))) (by simp [rowV]) rfl (by omega)) ?_
      refine d_q rfl rfl (.none rfl) rfl rfl (q_loadC rfl one3 rfl (.sepOwn (.there (.there Sel.here)) (rowsR_all hgs (by omega))) (rowV_get (by omega))) ?_
      refine d_q rfl rfl (.none rfl) rfl rfl (q_assign rfl rfl) ?_
      refine d_q rfl rfl (.none rfl) rfl rfl (q_assign rfl rfl) ?_
      refine d_nil ?_
      refine run_sub (subMk (.cons (s := 6) rfl (.cons (s := 7) rfl .nil)) .refl) ?_
      refine run_ret ?_
      refine run_sub (subMk .refl (.cons Sel.here .refl .nil)) ?_
      have hp' : path c a b 0 0 = o := by rw [hp, path_none (by omega) (by omega)]; simp
      exact end2 rfl rfl rfl ⟨A, cp, by simp [hp'], by rw [hp']⟩

end Go.Proofs.Ytbkmmjpklkallaa
