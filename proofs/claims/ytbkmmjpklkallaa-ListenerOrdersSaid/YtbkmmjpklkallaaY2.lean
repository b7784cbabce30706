/- A run merged with one element. -/
import Derived.Test.YtbkmmjpklkallaaY1
set_option linter.unusedSimpArgs false
set_option linter.unusedVariables false
namespace Go.Proofs.Ytbkmmjpklkallaa
open Go Go.RowKit Hr



set_option maxHeartbeats 1000000 in
set_option maxRecDepth 100000 in
theorem sN_sym1 (p : List Note) (a : Note) (y s : List Note) (A : Option Addr) (n ca : Nat) (i0 j0 c0 : Int) (W : World) (hm : Mem (atAny [.own 47 7 A n ca ((p ++ ([a] ++ (y ++ s))).map Note.enc)]) W [.own 47 7 A n ca ((p ++ ([a] ++ (y ++ s))).map Note.enc)] W) (hi : i0 = (p.length : Int)) (hj : j0 = (p.length : Int) + 1) (hc : c0 = (p.length : Int) + 1 + y.length) (hn : p.length + (1 + (y.length + s.length)) = n) (hl : n ≤ 1000000) (hsy : Srt.Sorted (Ky.ltK keyN) y) : Calls Try.prog 60 #[.slice A n ca, .int .i64 i0, .int .i64 j0, .int .i64 c0, .func (.func 53) #[] #[]] W (Ret W (atAny [.own 47 7 A n ca ((p ++ ([a] ++ (y ++ s))).map Note.enc)]) (fun v m => ∃ d, Srt.Mrg (Ky.ltK keyN) p [a] y s d ∧ v = .tuple #[] ∧ m = [.own 47 7 A n ca ((d).map Note.enc)])) := by
  refine enterA (X := _) (vs := [.slice A n ca, .int .i64 i0, .int .i64 j0, .int .i64 c0, .func (.func 53) #[] #[]]) Try.func60 Try.ntmps60 rfl rfl hm ?_
  refine run_seq ?_
  refine run_seq ?_
  refine run_region ?_
  refine run_q (.none rfl) rfl rfl (q_move rfl rfl) ?_
  refine run_q (.none rfl) rfl rfl (q_move rfl rfl) ?_
  refine run_q (.none rfl) rfl rfl (q_sub rfl rfl rfl (by omega)) ?_
  refine run_q (.none rfl) rfl rfl (q_eql rfl rfl rfl) ?_
  refine run_nil ?_
  refine run_sub (subMk (.cons (s := 0) rfl (.cons (s := 1) rfl (.cons (s := 2) rfl (.cons (s := 3) rfl (.cons (s := 4) rfl (.cons (s := 28) rfl .nil)))))) .refl) ?_
  refine run_condT rfl (beq_iff_eq.2 (by omega)) ?_
  refine run_seq ?_
  refine run_region ?_
  refine run_q (.none rfl) rfl rfl (q_move rfl rfl) ?_
  refine run_q (.none rfl) rfl rfl (q_assign rfl rfl) ?_
  refine run_nil ?_
  refine run_seq ?_
  refine run_region ?_
  refine run_q (.none rfl) rfl rfl (q_move rfl rfl) ?_
  refine run_q (.none rfl) rfl rfl (q_assign rfl rfl) ?_
  refine run_nil ?_
  refine run_sub (subMk (.cons (s := 0) rfl (.cons (s := 1) rfl (.cons (s := 2) rfl (.cons (s := 3) rfl (.cons (s := 4) rfl (.cons (s := 10) rfl (.cons (s := 11) rfl .nil))))))) .refl) ?_
  refine run_seq ?_
  refine run_block ?_
  refine run_sub (subMk (.cons (s := 10) rfl (.cons (s := 11) rfl (.cons (s := 0) rfl (.cons (s := 1) rfl (.cons (s := 2) rfl (.cons (s := 3) rfl (.cons (s := 4) rfl .nil))))))) (.cons Sel.here .refl .nil)) ?_
  refine run_loopC2M0 (ι := Nat × Nat) (fun gg => gg.1 ≤ gg.2 ∧ gg.2 ≤ y.length ∧ (gg.1 = 0 ∨ (Ky.ltK keyN) (nth y (gg.1 - 1)) a = true) ∧ (gg.2 = y.length ∨ (Ky.ltK keyN) (nth y gg.2) a = false)) (fun gg => .int .i64 ((p.length + 1 + gg.1 : Nat) : Int)) (fun gg => .int .i64 ((p.length + 1 + gg.2 : Nat) : Int))  (fun gg => gg.2 - gg.1) (0, y.length) (by (try dsimp only); exact ⟨by omega, Nat.le_refl _, .inl rfl, .inl rfl⟩) (vint (by (try dsimp only) <;> omega)) (vint (by (try dsimp only) <;> omega))  ?_
  rintro ⟨i, j⟩ hq
  (try dsimp only at hq)
  obtain ⟨hij, hjy, hA, hB⟩ := hq
  show Run _ _ _ _ _ _ _ ⟨(10, .int .i64 ((p.length + 1 + i : Nat) : Int)) :: (11, .int .i64 ((p.length + 1 + j : Nat) : Int)) :: _, _⟩
  refine run_seq ?_
  refine run_seq ?_
  refine run_region ?_
  refine run_q (.none rfl) rfl rfl (q_move rfl rfl) ?_
  refine run_q (.none rfl) rfl rfl (q_move rfl rfl) ?_
  refine run_q (.none rfl) rfl rfl (q_lss rfl rfl rfl) ?_
  refine run_nil ?_
  refine run_cond rfl (fun g33 => ?_) (fun g33 => ?_)
  · have g33' := g33
    try simp only [decide_eq_true_eq, decide_eq_false_iff_not, beq_iff_eq, beq_eq_false_iff_ne, bne_iff_ne, bne_eq_false_iff_eq, Bool.not_eq_true', Bool.not_eq_false', ne_eq, Int.not_lt, Int.not_le, Decidable.not_not] at g33'
    refine run_skip ?_
    refine run_block ?_
    refine run_seq ?_
    refine run_region ?_
    refine run_q (.none rfl) rfl rfl (q_move rfl rfl) ?_
    refine run_q (.none rfl) rfl rfl (q_move rfl rfl) ?_
    refine run_q (.none rfl) rfl rfl (q_add rfl rfl rfl (by omega)) ?_
    refine run_q (.none rfl) rfl rfl (q_convert' rfl rfl Try.underlying3 Try.underlying96 (Srt.uw (by omega))) ?_
    refine run_q (.none rfl) rfl rfl (q_shr rfl rfl rfl (by omega)) ?_
    refine run_q (.none rfl) rfl rfl (q_convert' rfl rfl Try.underlying96 Try.underlying3 (by rw [Srt.shr1, IntKind.wrap_i64]; omega)) ?_
    refine run_q (.none rfl) rfl rfl (q_assign rfl rfl) ?_
    refine run_nil ?_
    refine run_sub (subMk (.cons (s := 0) rfl (.cons (s := 1) rfl (.cons (s := 2) rfl (.cons (s := 3) rfl (.cons (s := 4) rfl (.cons (s := 10) rfl (.cons (s := 11) rfl (.cons (s := 12) rfl .nil)))))))) .refl) ?_
    refine run_seq ?_
    obtain ⟨h, hh⟩ : ∃ h, h = (i + j) / 2 := ⟨_, rfl⟩
    refine run_sub (subMk (.cons (s := 0) rfl (.cons (s := 1) rfl (.cons (s := 2) rfl (.cons (s := 3) rfl (.cons (s := 4) rfl (.cons (s := 10) rfl (.cons (s := 11) rfl (.cons' (s := 12) (v' := .int .i64 ((p.length + 1 + h : Nat) : Int)) rfl (vint (by rw [Srt.shr1]; omega)) .nil)))))))) .refl) ?_
    refine run_draw [(0, 0), (1, 0), (2, 0), (3, 0), (4, 0), (5, 0), (6, 0), (7, 0), (8, 0), (9, 0), (10, 0)] mixed (by kernel_rfl) .refl ?_
    refine d_q rfl rfl (.none rfl) rfl rfl (q_move rfl rfl) ?_
    refine d_q rfl rfl (.none rfl) rfl rfl (q_move rfl rfl) ?_
    refine d_q rfl rfl (.none rfl) rfl rfl (q_move rfl rfl) ?_
    refine d_q rfl rfl (.none rfl) rfl rfl (q_indexS (q := (p.length + 1 + h)) rfl Try.underlying22 sz47 rfl rfl (.own Sel.here) (by rw [List.length_map]; simp only [List.length_append, List.length_cons, List.length_nil]; omega) rfl (by omega)) ?_
    refine d_q rfl rfl (.none rfl) rfl rfl (q_loadE rfl agg47 rfl (.own Sel.here) (by rw [getmap (by simp only [List.length_append, List.length_cons, List.length_nil]; omega), Srt.row_y (i := p.length + 1 + h) (x := [a]) (k := h) rfl (by omega)]) rfl) ?_
    refine d_q rfl rfl (.none rfl) rfl rfl (q_move rfl rfl) ?_
    refine d_q rfl rfl (.none rfl) rfl rfl (q_move rfl rfl) ?_
    refine d_q rfl rfl (.none rfl) rfl rfl (q_indexS (q := p.length) rfl Try.underlying22 sz47 rfl rfl (.own Sel.here) (by rw [List.length_map]; simp only [List.length_append, List.length_cons, List.length_nil]; omega) (by omega) (by omega)) ?_
    refine d_q rfl rfl (.none rfl) rfl rfl (q_loadE rfl agg47 rfl (.own Sel.here) (by rw [getmap (by simp only [List.length_append, List.length_cons, List.length_nil]; omega), Srt.row_x (i := p.length) (x := [a]) (k := 0) rfl (by simp)] <;> rfl) rfl) ?_
    refine d_q rfl rfl (.none rfl) rfl rfl (q_callv rfl rfl call53 (.cons rfl (.cons rfl Evs.nil)) (fun w hk hm => ord_just (nth y h) a w)) ?_
    refine d_q rfl rfl (.none rfl) rfl rfl (q_lss rfl rfl rfl) ?_
    refine d_nil ?_
    refine run_sub (subMk (.cons (s := 0) rfl (.cons (s := 1) rfl (.cons (s := 2) rfl (.cons (s := 3) rfl (.cons (s := 4) rfl (.cons (s := 10) rfl (.cons (s := 11) rfl (.cons (s := 12) rfl (.cons (s := 50) rfl .nil))))))))) .refl) ?_
    refine run_cond rfl (fun g50 => ?_) (fun g50 => ?_)
    · have g50' := g50
      try simp only [decide_eq_true_eq, decide_eq_false_iff_not, beq_iff_eq, beq_eq_false_iff_ne, bne_iff_ne, bne_eq_false_iff_eq, Bool.not_eq_true', Bool.not_eq_false', ne_eq, Int.not_lt, Int.not_le, Decidable.not_not] at g50'
      refine run_region ?_
      refine run_q (.none rfl) rfl rfl (q_move rfl rfl) ?_
      refine run_q (.none rfl) rfl rfl (q_add rfl rfl rfl (by omega)) ?_
      refine run_q (.none rfl) rfl rfl (q_assign rfl rfl) ?_
      refine run_nil ?_
      refine run_sub (subMk (.cons (s := 0) rfl (.cons (s := 1) rfl (.cons (s := 2) rfl (.cons (s := 3) rfl (.cons (s := 4) rfl (.cons (s := 10) rfl (.cons (s := 11) rfl .nil))))))) .refl) ?_
      refine run_blk ?_
      exact run_again (h + 1, j) (by (try dsimp only); exact ⟨by omega, by omega, .inr (by simpa [Ky.ltK] using g50), hB⟩) (by (try dsimp only); omega) (subMk (.cons' (s := 10) rfl (vint (by omega)) (.cons' (s := 11) rfl (vint (by omega)) (.cons (s := 0) rfl (.cons (s := 1) rfl (.cons (s := 2) rfl (.cons (s := 3) rfl (.cons (s := 4) rfl .nil))))))) (.cons Sel.here .refl .nil))
    · have g50' := g50
      try simp only [decide_eq_true_eq, decide_eq_false_iff_not, beq_iff_eq, beq_eq_false_iff_ne, bne_iff_ne, bne_eq_false_iff_eq, Bool.not_eq_true', Bool.not_eq_false', ne_eq, Int.not_lt, Int.not_le, Decidable.not_not] at g50'
      refine run_region ?_
      refine run_q (.none rfl) rfl rfl (q_move rfl rfl) ?_
      refine run_q (.none rfl) rfl rfl (q_assign rfl rfl) ?_
      refine run_nil ?_
      refine run_sub (subMk (.cons (s := 0) rfl (.cons (s := 1) rfl (.cons (s := 2) rfl (.cons (s := 3) rfl (.cons (s := 4) rfl (.cons (s := 10) rfl (.cons (s := 11) rfl .nil))))))) .refl) ?_
      refine run_blk ?_
      exact run_again (i, h) (by (try dsimp only); exact ⟨by omega, by omega, hA, .inr (by simpa [Ky.ltK] using g50)⟩) (by (try dsimp only); omega) (subMk (.cons' (s := 10) rfl (vint (by omega)) (.cons' (s := 11) rfl (vint (by omega)) (.cons (s := 0) rfl (.cons (s := 1) rfl (.cons (s := 2) rfl (.cons (s := 3) rfl (.cons (s := 4) rfl .nil))))))) (.cons Sel.here .refl .nil))
  · have g33' := g33
    try simp only [decide_eq_true_eq, decide_eq_false_iff_not, beq_iff_eq, beq_eq_false_iff_ne, bne_iff_ne, bne_eq_false_iff_eq, Bool.not_eq_true', Bool.not_eq_false', ne_eq, Int.not_lt, Int.not_le, Decidable.not_not] at g33'
    refine run_exit rfl ?_
    refine run_sub (subMk (.cons (s := 0) rfl (.cons (s := 1) rfl (.cons (s := 2) rfl (.cons (s := 3) rfl (.cons (s := 4) rfl (.cons (s := 10) rfl .nil)))))) .refl) ?_
    refine run_seq ?_
    refine run_seq ?_
    refine run_region ?_
    refine run_q (.none rfl) rfl rfl (q_move rfl rfl) ?_
    refine run_q (.none rfl) rfl rfl (q_assign rfl rfl) ?_
    refine run_nil ?_
    refine run_block ?_
    refine run_sub (subMk (.cons (s := 13) rfl (.cons (s := 0) rfl (.cons (s := 1) rfl (.cons (s := 2) rfl (.cons (s := 3) rfl (.cons (s := 4) rfl (.cons (s := 10) rfl .nil))))))) (.cons Sel.here .refl .nil)) ?_
    refine run_loopC1M1 (ι := Nat) (fun k => k ≤ i) (fun k => .int .i64 ((p.length + k : Nat) : Int)) (fun k => .own 47 7 A n ca ((p ++ Srt.mid y a s k).map Note.enc)) (fun k => i - k) 0 (by (try dsimp only); exact (by omega)) (vint (by (try dsimp only) <;> omega)) (.own rfl rfl rfl rfl) ?_
    rintro k hk
    (try dsimp only at hk)
    show Run _ _ _ _ _ _ _ ⟨(13, .int .i64 ((p.length + k : Nat) : Int)) :: _, .own 47 7 A n ca ((p ++ Srt.mid y a s k).map Note.enc) :: _⟩
    refine run_seq ?_
    refine run_seq ?_
    refine run_region ?_
    refine run_q (.none rfl) rfl rfl (q_move rfl rfl) ?_
    refine run_q (.none rfl) rfl rfl (q_move rfl rfl) ?_
    refine run_q (.none rfl) rfl rfl (q_sub rfl rfl rfl (by omega)) ?_
    refine run_q (.none rfl) rfl rfl (q_lss rfl rfl rfl) ?_
    refine run_nil ?_
    refine run_sub (subMk (.cons (s := 0) rfl (.cons (s := 1) rfl (.cons (s := 2) rfl (.cons (s := 3) rfl (.cons (s := 4) rfl (.cons (s := 10) rfl (.cons (s := 13) rfl (.cons (s := 58) rfl .nil)))))))) .refl) ?_
    refine run_cond rfl (fun g58 => ?_) (fun g58 => ?_)
    · have g58' := g58
      try simp only [decide_eq_true_eq, decide_eq_false_iff_not, beq_iff_eq, beq_eq_false_iff_ne, bne_iff_ne, bne_eq_false_iff_eq, Bool.not_eq_true', Bool.not_eq_false', ne_eq, Int.not_lt, Int.not_le, Decidable.not_not] at g58'
      refine run_skip ?_
      refine run_seq ?_
      refine run_block ?_
      refine run_pure [(0, 0), (1, 0), (2, 3), (3, 3), (4, 3), (5, 0), (6, 0), (7, 0), (8, 0), (9, 0), (10, 0), (11, 0), (12, 0), (13, 0), (14, 0), (15, 2), (16, 2), (17, 2)] mixed (by kernel_rfl) .refl ?_
      refine p_q rfl rfl (.none rfl) rfl rfl (q_move rfl rfl) ?_
      refine p_q rfl rfl (.none rfl) rfl rfl (q_move rfl rfl) ?_
      refine p_p rfl rfl (.none rfl) rfl rfl (q_move rfl rfl) ?_
      refine p_p rfl rfl (.none rfl) rfl rfl (q_move rfl rfl) ?_
      refine p_p rfl rfl (.none rfl) rfl rfl (q_add rfl rfl rfl (by omega)) ?_
      refine p_q rfl rfl (.none rfl) rfl rfl (q_move rfl rfl) ?_
      refine p_q rfl rfl (.none rfl) rfl rfl (q_move rfl rfl) ?_
      refine p_q rfl rfl (.none rfl) rfl rfl (q_add rfl rfl rfl (by omega)) ?_
      refine p_q rfl rfl (.none rfl) rfl rfl (q_indexS (q := (p.length + (k + 1))) rfl Try.underlying22 sz47 rfl rfl (.own Sel.here) (by rw [List.length_map, Srt.pmid_len (by omega)]; omega) (by omega) (by omega)) ?_
      refine p_q rfl rfl (.none rfl) rfl rfl (q_loadE rfl agg47 rfl (.own Sel.here) (by rw [getmap (by rw [Srt.pmid_len (by omega)]; omega), Srt.pmid_next (by omega) rfl]) rfl) ?_
      refine p_q rfl rfl (.none rfl) rfl rfl (q_move rfl rfl) ?_
      refine p_q rfl rfl (.none rfl) rfl rfl (q_move rfl rfl) ?_
      refine p_q rfl rfl (.none rfl) rfl rfl (q_indexS (q := (p.length + k)) rfl Try.underlying22 sz47 rfl rfl (.own Sel.here) (by rw [List.length_map, Srt.pmid_len (by omega)]; omega) (by omega) (by omega)) ?_
      refine p_q rfl rfl (.none rfl) rfl rfl (q_loadE rfl agg47 rfl (.own Sel.here) (by rw [getmap (by rw [Srt.pmid_len (by omega)]; omega), Srt.pmid_at (by omega) rfl]) rfl) ?_
      refine p_q rfl rfl (.none rfl) rfl rfl (q_indexS (q := (p.length + k)) rfl Try.underlying22 sz47 rfl rfl (.own Sel.here) (by rw [List.length_map, Srt.pmid_len (by omega)]; omega) (by omega) (by omega)) ?_
      refine p_t rfl rfl (.none rfl) (h_storeE rfl rfl sz47 rfl rfl rfl rfl rfl Sel.here (by omega)) ?_
      rintro - -
      refine p_t rfl rfl (.none rfl) (.of_q rfl rfl (q_indexS (q := (p.length + (k + 1))) rfl Try.underlying22 sz47 rfl rfl (.own Sel.here) (by rw [List.length_set, List.length_map, Srt.pmid_len (by omega)]; omega) (by omega) (by omega))) ?_
      rintro - -
      refine p_t rfl rfl (.none rfl) (h_storeE rfl rfl sz47 rfl rfl rfl rfl rfl Sel.here (by omega)) ?_
      rintro - -
      refine p_nil ?_
      refine run_sub (subMk (.cons (s := 0) rfl (.cons (s := 1) rfl (.cons (s := 2) rfl (.cons (s := 3) rfl (.cons (s := 4) rfl (.cons (s := 10) rfl (.cons (s := 13) rfl .nil))))))) .refl) ?_
      refine run_blk ?_
      refine run_region ?_
      refine run_q (.none rfl) rfl rfl (q_move rfl rfl) ?_
      refine run_q (.none rfl) rfl rfl (q_add rfl rfl rfl (by omega)) ?_
      refine run_q (.none rfl) rfl rfl (q_assign rfl rfl) ?_
      refine run_nil ?_
      exact run_again (k + 1) (by (try dsimp only); exact (by omega)) (by (try dsimp only); omega) (subMk (.cons' (s := 13) rfl (vint (by omega)) (.cons (s := 0) rfl (.cons (s := 1) rfl (.cons (s := 2) rfl (.cons (s := 3) rfl (.cons (s := 4) rfl (.cons (s := 10) rfl .nil))))))) (.cons Sel.here (.own rfl rfl rfl (by rw [← Srt.pmid_up (j := k) (by omega) rfl rfl, List.map_set, List.map_set]; rfl)) .nil))
    · have g58' := g58
      try simp only [decide_eq_true_eq, decide_eq_false_iff_not, beq_iff_eq, beq_eq_false_iff_ne, bne_iff_ne, bne_eq_false_iff_eq, Bool.not_eq_true', Bool.not_eq_false', ne_eq, Int.not_lt, Int.not_le, Decidable.not_not] at g58'
      refine run_exit rfl ?_
      refine run_sub (subMk (.cons (s := 0) rfl (.cons (s := 1) rfl (.cons (s := 2) rfl (.cons (s := 3) rfl (.cons (s := 4) rfl .nil))))) .refl) ?_
      refine run_ret ?_
      refine run_sub (subMk .refl (.cons Sel.here .refl .nil)) ?_
      exact end0 rfl ⟨_, Srt.mrg_1 weakN hsy (show k ≤ y.length by omega) (show k = 0 ∨ _ by rw [show k = i from by omega]; exact hA) (by rw [show k = j from by omega]; exact hB), rfl, rfl⟩

set_option maxHeartbeats 1000000 in
set_option maxRecDepth 100000 in
theorem sN_sym2 (p x : List Note) (b : Note) (s : List Note) (A : Option Addr) (n ca : Nat) (i0 j0 c0 : Int) (W : World) (hm : Mem (atAny [.own 47 7 A n ca ((p ++ (x ++ ([b] ++ s))).map Note.enc)]) W [.own 47 7 A n ca ((p ++ (x ++ ([b] ++ s))).map Note.enc)] W) (hi : i0 = (p.length : Int)) (hj : j0 = (p.length : Int) + x.length) (hc : c0 = (p.length : Int) + x.length + 1) (hx1 : 1 < x.length) (hn : p.length + (x.length + (1 + s.length)) = n) (hl : n ≤ 1000000) (hsx : Srt.Sorted (Ky.ltK keyN) x) : Calls Try.prog 60 #[.slice A n ca, .int .i64 i0, .int .i64 j0, .int .i64 c0, .func (.func 53) #[] #[]] W (Ret W (atAny [.own 47 7 A n ca ((p ++ (x ++ ([b] ++ s))).map Note.enc)]) (fun v m => ∃ d, Srt.Mrg (Ky.ltK keyN) p x [b] s d ∧ v = .tuple #[] ∧ m = [.own 47 7 A n ca ((d).map Note.enc)])) := by
  refine enterA (X := _) (vs := [.slice A n ca, .int .i64 i0, .int .i64 j0, .int .i64 c0, .func (.func 53) #[] #[]]) Try.func60 Try.ntmps60 rfl rfl hm ?_
  refine run_seq ?_
  refine run_seq ?_
  refine run_region ?_
  refine run_q (.none rfl) rfl rfl (q_move rfl rfl) ?_
  refine run_q (.none rfl) rfl rfl (q_move rfl rfl) ?_
  refine run_q (.none rfl) rfl rfl (q_sub rfl rfl rfl (by omega)) ?_
  refine run_q (.none rfl) rfl rfl (q_eql rfl rfl rfl) ?_
  refine run_nil ?_
  refine run_sub (subMk (.cons (s := 0) rfl (.cons (s := 1) rfl (.cons (s := 2) rfl (.cons (s := 3) rfl (.cons (s := 4) rfl (.cons (s := 28) rfl .nil)))))) .refl) ?_
  refine run_condF rfl (beq_eq_false_iff_ne.2 (by omega)) ?_
  refine run_skip ?_
  refine run_seq ?_
  refine run_seq ?_
  refine run_region ?_
  refine run_q (.none rfl) rfl rfl (q_move rfl rfl) ?_
  refine run_q (.none rfl) rfl rfl (q_move rfl rfl) ?_
  refine run_q (.none rfl) rfl rfl (q_sub rfl rfl rfl (by omega)) ?_
  refine run_q (.none rfl) rfl rfl (q_eql rfl rfl rfl) ?_
  refine run_nil ?_
  refine run_sub (subMk (.cons (s := 0) rfl (.cons (s := 1) rfl (.cons (s := 2) rfl (.cons (s := 3) rfl (.cons (s := 4) rfl (.cons (s := 80) rfl .nil)))))) .refl) ?_
  refine run_condT rfl (beq_iff_eq.2 (by omega)) ?_
  refine run_seq ?_
  refine run_region ?_
  refine run_q (.none rfl) rfl rfl (q_move rfl rfl) ?_
  refine run_q (.none rfl) rfl rfl (q_assign rfl rfl) ?_
  refine run_nil ?_
  refine run_seq ?_
  refine run_region ?_
  refine run_q (.none rfl) rfl rfl (q_move rfl rfl) ?_
  refine run_q (.none rfl) rfl rfl (q_assign rfl rfl) ?_
  refine run_nil ?_
  refine run_sub (subMk (.cons (s := 0) rfl (.cons (s := 1) rfl (.cons (s := 2) rfl (.cons (s := 3) rfl (.cons (s := 4) rfl (.cons (s := 14) rfl (.cons (s := 15) rfl .nil))))))) .refl) ?_
  refine run_seq ?_
  refine run_block ?_
  refine run_sub (subMk (.cons (s := 14) rfl (.cons (s := 15) rfl (.cons (s := 0) rfl (.cons (s := 1) rfl (.cons (s := 2) rfl (.cons (s := 3) rfl (.cons (s := 4) rfl .nil))))))) (.cons Sel.here .refl .nil)) ?_
  refine run_loopC2M0 (ι := Nat × Nat) (fun gg => gg.1 ≤ gg.2 ∧ gg.2 ≤ x.length ∧ (gg.1 = 0 ∨ (Ky.ltK keyN) b (nth x (gg.1 - 1)) = false) ∧ (gg.2 = x.length ∨ (Ky.ltK keyN) b (nth x gg.2) = true)) (fun gg => .int .i64 ((p.length + gg.1 : Nat) : Int)) (fun gg => .int .i64 ((p.length + gg.2 : Nat) : Int))  (fun gg => gg.2 - gg.1) (0, x.length) (by (try dsimp only); exact ⟨by omega, Nat.le_refl _, .inl rfl, .inl rfl⟩) (vint (by (try dsimp only) <;> omega)) (vint (by (try dsimp only) <;> omega))  ?_
  rintro ⟨i, j⟩ hq
  (try dsimp only at hq)
  obtain ⟨hij, hjx, hA, hB⟩ := hq
  show Run _ _ _ _ _ _ _ ⟨(14, .int .i64 ((p.length + i : Nat) : Int)) :: (15, .int .i64 ((p.length + j : Nat) : Int)) :: _, _⟩
  refine run_seq ?_
  refine run_seq ?_
  refine run_region ?_
  refine run_q (.none rfl) rfl rfl (q_move rfl rfl) ?_
  refine run_q (.none rfl) rfl rfl (q_move rfl rfl) ?_
  refine run_q (.none rfl) rfl rfl (q_lss rfl rfl rfl) ?_
  refine run_nil ?_
  refine run_cond rfl (fun g85 => ?_) (fun g85 => ?_)
  · have g85' := g85
    try simp only [decide_eq_true_eq, decide_eq_false_iff_not, beq_iff_eq, beq_eq_false_iff_ne, bne_iff_ne, bne_eq_false_iff_eq, Bool.not_eq_true', Bool.not_eq_false', ne_eq, Int.not_lt, Int.not_le, Decidable.not_not] at g85'
    refine run_skip ?_
    refine run_block ?_
    refine run_seq ?_
    refine run_region ?_
    refine run_q (.none rfl) rfl rfl (q_move rfl rfl) ?_
    refine run_q (.none rfl) rfl rfl (q_move rfl rfl) ?_
    refine run_q (.none rfl) rfl rfl (q_add rfl rfl rfl (by omega)) ?_
    refine run_q (.none rfl) rfl rfl (q_convert' rfl rfl Try.underlying3 Try.underlying96 (Srt.uw (by omega))) ?_
    refine run_q (.none rfl) rfl rfl (q_shr rfl rfl rfl (by omega)) ?_
    refine run_q (.none rfl) rfl rfl (q_convert' rfl rfl Try.underlying96 Try.underlying3 (by rw [Srt.shr1, IntKind.wrap_i64]; omega)) ?_
    refine run_q (.none rfl) rfl rfl (q_assign rfl rfl) ?_
    refine run_nil ?_
    refine run_sub (subMk (.cons (s := 0) rfl (.cons (s := 1) rfl (.cons (s := 2) rfl (.cons (s := 3) rfl (.cons (s := 4) rfl (.cons (s := 14) rfl (.cons (s := 15) rfl (.cons (s := 16) rfl .nil)))))))) .refl) ?_
    refine run_seq ?_
    obtain ⟨h, hh⟩ : ∃ h, h = (2 * p.length + i + j) / 2 - p.length := ⟨_, rfl⟩
    refine run_sub (subMk (.cons (s := 0) rfl (.cons (s := 1) rfl (.cons (s := 2) rfl (.cons (s := 3) rfl (.cons (s := 4) rfl (.cons (s := 14) rfl (.cons (s := 15) rfl (.cons' (s := 16) (v' := .int .i64 ((p.length + h : Nat) : Int)) rfl (vint (by rw [Srt.shr1]; omega)) .nil)))))))) .refl) ?_
    refine run_draw [(0, 0), (1, 0), (2, 0), (3, 0), (4, 0), (5, 0), (6, 0), (7, 0), (8, 0), (9, 0), (10, 0), (11, 0)] mixed (by kernel_rfl) .refl ?_
    refine d_q rfl rfl (.none rfl) rfl rfl (q_move rfl rfl) ?_
    refine d_q rfl rfl (.none rfl) rfl rfl (q_move rfl rfl) ?_
    refine d_q rfl rfl (.none rfl) rfl rfl (q_move rfl rfl) ?_
    refine d_q rfl rfl (.none rfl) rfl rfl (q_indexS (q := (p.length + x.length)) rfl Try.underlying22 sz47 rfl rfl (.own Sel.here) (by rw [List.length_map]; simp only [List.length_append, List.length_cons, List.length_nil]; omega) (by omega) (by omega)) ?_
    refine d_q rfl rfl (.none rfl) rfl rfl (q_loadE rfl agg47 rfl (.own Sel.here) (by rw [getmap (by simp only [List.length_append, List.length_cons, List.length_nil]; omega), Srt.row_y (i := p.length + x.length) (y := [b]) (k := 0) rfl (by simp)] <;> rfl) rfl) ?_
    refine d_q rfl rfl (.none rfl) rfl rfl (q_move rfl rfl) ?_
    refine d_q rfl rfl (.none rfl) rfl rfl (q_move rfl rfl) ?_
    refine d_q rfl rfl (.none rfl) rfl rfl (q_indexS (q := (p.length + h)) rfl Try.underlying22 sz47 rfl rfl (.own Sel.here) (by rw [List.length_map]; simp only [List.length_append, List.length_cons, List.length_nil]; omega) rfl (by omega)) ?_
    refine d_q rfl rfl (.none rfl) rfl rfl (q_loadE rfl agg47 rfl (.own Sel.here) (by rw [getmap (by simp only [List.length_append, List.length_cons, List.length_nil]; omega), Srt.row_x (k := h) rfl (by omega)]) rfl) ?_
    refine d_q rfl rfl (.none rfl) rfl rfl (q_callv rfl rfl call53 (.cons rfl (.cons rfl Evs.nil)) (fun w hk hm => ord_just b (nth x h) w)) ?_
    refine d_q rfl rfl (.none rfl) rfl rfl (q_lss rfl rfl rfl) ?_
    refine d_q rfl rfl (.none rfl) rfl rfl (q_not rfl rfl) ?_
    refine d_nil ?_
    refine run_sub (subMk (.cons (s := 0) rfl (.cons (s := 1) rfl (.cons (s := 2) rfl (.cons (s := 3) rfl (.cons (s := 4) rfl (.cons (s := 14) rfl (.cons (s := 15) rfl (.cons (s := 16) rfl (.cons (s := 103) rfl .nil))))))))) .refl) ?_
    refine run_cond rfl (fun g103 => ?_) (fun g103 => ?_)
    · have g103' := g103
      try simp only [decide_eq_true_eq, decide_eq_false_iff_not, beq_iff_eq, beq_eq_false_iff_ne, bne_iff_ne, bne_eq_false_iff_eq, Bool.not_eq_true', Bool.not_eq_false', ne_eq, Int.not_lt, Int.not_le, Decidable.not_not] at g103'
      refine run_region ?_
      refine run_q (.none rfl) rfl rfl (q_move rfl rfl) ?_
      refine run_q (.none rfl) rfl rfl (q_add rfl rfl rfl (by omega)) ?_
      refine run_q (.none rfl) rfl rfl (q_assign rfl rfl) ?_
      refine run_nil ?_
      refine run_sub (subMk (.cons (s := 0) rfl (.cons (s := 1) rfl (.cons (s := 2) rfl (.cons (s := 3) rfl (.cons (s := 4) rfl (.cons (s := 14) rfl (.cons (s := 15) rfl .nil))))))) .refl) ?_
      refine run_blk ?_
      exact run_again (h + 1, j) (by (try dsimp only); exact ⟨by omega, by omega, .inr (by simpa [Ky.ltK] using g103), hB⟩) (by (try dsimp only); omega) (subMk (.cons' (s := 14) rfl (vint (by omega)) (.cons' (s := 15) rfl (vint (by omega)) (.cons (s := 0) rfl (.cons (s := 1) rfl (.cons (s := 2) rfl (.cons (s := 3) rfl (.cons (s := 4) rfl .nil))))))) (.cons Sel.here .refl .nil))
    · have g103' := g103
      try simp only [decide_eq_true_eq, decide_eq_false_iff_not, beq_iff_eq, beq_eq_false_iff_ne, bne_iff_ne, bne_eq_false_iff_eq, Bool.not_eq_true', Bool.not_eq_false', ne_eq, Int.not_lt, Int.not_le, Decidable.not_not] at g103'
      refine run_region ?_
      refine run_q (.none rfl) rfl rfl (q_move rfl rfl) ?_
      refine run_q (.none rfl) rfl rfl (q_assign rfl rfl) ?_
      refine run_nil ?_
      refine run_sub (subMk (.cons (s := 0) rfl (.cons (s := 1) rfl (.cons (s := 2) rfl (.cons (s := 3) rfl (.cons (s := 4) rfl (.cons (s := 14) rfl (.cons (s := 15) rfl .nil))))))) .refl) ?_
      refine run_blk ?_
      exact run_again (i, h) (by (try dsimp only); exact ⟨by omega, by omega, hA, .inr (by simpa [Ky.ltK] using g103)⟩) (by (try dsimp only); omega) (subMk (.cons' (s := 14) rfl (vint (by omega)) (.cons' (s := 15) rfl (vint (by omega)) (.cons (s := 0) rfl (.cons (s := 1) rfl (.cons (s := 2) rfl (.cons (s := 3) rfl (.cons (s := 4) rfl .nil))))))) (.cons Sel.here .refl .nil))
  · have g85' := g85
    try simp only [decide_eq_true_eq, decide_eq_false_iff_not, beq_iff_eq, beq_eq_false_iff_ne, bne_iff_ne, bne_eq_false_iff_eq, Bool.not_eq_true', Bool.not_eq_false', ne_eq, Int.not_lt, Int.not_le, Decidable.not_not] at g85'
    refine run_exit rfl ?_
    refine run_sub (subMk (.cons (s := 0) rfl (.cons (s := 1) rfl (.cons (s := 2) rfl (.cons (s := 3) rfl (.cons (s := 4) rfl (.cons (s := 14) rfl .nil)))))) .refl) ?_
    refine run_seq ?_
    refine run_seq ?_
    refine run_region ?_
    refine run_q (.none rfl) rfl rfl (q_move rfl rfl) ?_
    refine run_q (.none rfl) rfl rfl (q_assign rfl rfl) ?_
    refine run_nil ?_
    refine run_block ?_
    refine run_sub (subMk (.cons (s := 17) rfl (.cons (s := 0) rfl (.cons (s := 1) rfl (.cons (s := 2) rfl (.cons (s := 3) rfl (.cons (s := 4) rfl (.cons (s := 14) rfl .nil))))))) (.cons Sel.here .refl .nil)) ?_
    refine run_loopC1M1 (ι := Nat) (fun k => i ≤ k ∧ k ≤ x.length) (fun k => .int .i64 ((p.length + k : Nat) : Int)) (fun k => .own 47 7 A n ca ((p ++ Srt.mid x b s k).map Note.enc)) (fun k => k - i) x.length (by (try dsimp only); exact ⟨by omega, Nat.le_refl _⟩) (vint (by (try dsimp only) <;> omega)) (.own rfl rfl rfl (by rw [Srt.mid_end]; rfl)) ?_
    rintro k hq
    (try dsimp only at hq)
    obtain ⟨hk, hkx⟩ := hq
    show Run _ _ _ _ _ _ _ ⟨(17, .int .i64 ((p.length + k : Nat) : Int)) :: _, .own 47 7 A n ca ((p ++ Srt.mid x b s k).map Note.enc) :: _⟩
    refine run_seq ?_
    refine run_seq ?_
    refine run_region ?_
    refine run_q (.none rfl) rfl rfl (q_move rfl rfl) ?_
    refine run_q (.none rfl) rfl rfl (q_move rfl rfl) ?_
    refine run_q (.none rfl) rfl rfl (q_gtr rfl rfl rfl) ?_
    refine run_nil ?_
    refine run_cond rfl (fun g110 => ?_) (fun g110 => ?_)
    · have g110' := g110
      try simp only [decide_eq_true_eq, decide_eq_false_iff_not, beq_iff_eq, beq_eq_false_iff_ne, bne_iff_ne, bne_eq_false_iff_eq, Bool.not_eq_true', Bool.not_eq_false', ne_eq, Int.not_lt, Int.not_le, Decidable.not_not] at g110'
      obtain ⟨k, rfl⟩ : ∃ q, k = q + 1 := ⟨k - 1, by omega⟩
      refine run_skip ?_
      refine run_seq ?_
      refine run_block ?_
      refine run_pure [(0, 0), (1, 0), (2, 3), (3, 3), (4, 3), (5, 0), (6, 0), (7, 0), (8, 0), (9, 0), (10, 0), (11, 0), (12, 0), (13, 0), (14, 0), (15, 2), (16, 2), (17, 2)] mixed (by kernel_rfl) .refl ?_
      refine p_q rfl rfl (.none rfl) rfl rfl (q_move rfl rfl) ?_
      refine p_q rfl rfl (.none rfl) rfl rfl (q_move rfl rfl) ?_
      refine p_p rfl rfl (.none rfl) rfl rfl (q_move rfl rfl) ?_
      refine p_p rfl rfl (.none rfl) rfl rfl (q_move rfl rfl) ?_
      refine p_p rfl rfl (.none rfl) rfl rfl (q_sub rfl rfl rfl (by omega)) ?_
      refine p_q rfl rfl (.none rfl) rfl rfl (q_move rfl rfl) ?_
      refine p_q rfl rfl (.none rfl) rfl rfl (q_move rfl rfl) ?_
      refine p_q rfl rfl (.none rfl) rfl rfl (q_sub rfl rfl rfl (by omega)) ?_
      refine p_q rfl rfl (.none rfl) rfl rfl (q_indexS (q := (p.length + k)) rfl Try.underlying22 sz47 rfl rfl (.own Sel.here) (by rw [List.length_map, Srt.pmid_len (by omega)]; omega) (by omega) (by omega)) ?_
      refine p_q rfl rfl (.none rfl) rfl rfl (q_loadE rfl agg47 rfl (.own Sel.here) (by rw [getmap (by rw [Srt.pmid_len (by omega)]; omega), Srt.pmid_below (by omega) rfl]) rfl) ?_
      refine p_q rfl rfl (.none rfl) rfl rfl (q_move rfl rfl) ?_
      refine p_q rfl rfl (.none rfl) rfl rfl (q_move rfl rfl) ?_
      refine p_q rfl rfl (.none rfl) rfl rfl (q_indexS (q := (p.length + (k + 1))) rfl Try.underlying22 sz47 rfl rfl (.own Sel.here) (by rw [List.length_map, Srt.pmid_len (by omega)]; omega) (by omega) (by omega)) ?_
      refine p_q rfl rfl (.none rfl) rfl rfl (q_loadE rfl agg47 rfl (.own Sel.here) (by rw [getmap (by rw [Srt.pmid_len (by omega)]; omega), Srt.pmid_at (by omega) rfl]) rfl) ?_
      refine p_q rfl rfl (.none rfl) rfl rfl (q_indexS (q := (p.length + (k + 1))) rfl Try.underlying22 sz47 rfl rfl (.own Sel.here) (by rw [List.length_map, Srt.pmid_len (by omega)]; omega) (by omega) (by omega)) ?_
      refine p_t rfl rfl (.none rfl) (h_storeE rfl rfl sz47 rfl rfl rfl rfl rfl Sel.here (by omega)) ?_
      rintro - -
      refine p_t rfl rfl (.none rfl) (.of_q rfl rfl (q_indexS (q := (p.length + k)) rfl Try.underlying22 sz47 rfl rfl (.own Sel.here) (by rw [List.length_set, List.length_map, Srt.pmid_len (by omega)]; omega) (by omega) (by omega))) ?_
      rintro - -
      refine p_t rfl rfl (.none rfl) (h_storeE rfl rfl sz47 rfl rfl rfl rfl rfl Sel.here (by omega)) ?_
      rintro - -
      refine p_nil ?_
      refine run_sub (subMk (.cons (s := 0) rfl (.cons (s := 1) rfl (.cons (s := 2) rfl (.cons (s := 3) rfl (.cons (s := 4) rfl (.cons (s := 14) rfl (.cons (s := 17) rfl .nil))))))) .refl) ?_
      refine run_blk ?_
      refine run_region ?_
      refine run_q (.none rfl) rfl rfl (q_move rfl rfl) ?_
      refine run_q (.none rfl) rfl rfl (q_sub rfl rfl rfl (by omega)) ?_
      refine run_q (.none rfl) rfl rfl (q_assign rfl rfl) ?_
      refine run_nil ?_
      exact run_again k (by (try dsimp only); exact ⟨by omega, by omega⟩) (by (try dsimp only); omega) (subMk (.cons' (s := 17) rfl (vint (by omega)) (.cons (s := 0) rfl (.cons (s := 1) rfl (.cons (s := 2) rfl (.cons (s := 3) rfl (.cons (s := 4) rfl (.cons (s := 14) rfl .nil))))))) (.cons Sel.here (.own rfl rfl rfl (by rw [← Srt.pmid_dn (j := k) (by omega) rfl rfl, List.map_set, List.map_set]; rfl)) .nil))
    · have g110' := g110
      try simp only [decide_eq_true_eq, decide_eq_false_iff_not, beq_iff_eq, beq_eq_false_iff_ne, bne_iff_ne, bne_eq_false_iff_eq, Bool.not_eq_true', Bool.not_eq_false', ne_eq, Int.not_lt, Int.not_le, Decidable.not_not] at g110'
      refine run_exit rfl ?_
      refine run_sub (subMk (.cons (s := 0) rfl (.cons (s := 1) rfl (.cons (s := 2) rfl (.cons (s := 3) rfl (.cons (s := 4) rfl .nil))))) .refl) ?_
      refine run_ret ?_
      refine run_sub (subMk .refl (.cons Sel.here .refl .nil)) ?_
      exact end0 rfl ⟨_, Srt.mrg_2 weakN hsx (show k ≤ x.length by omega) (by rw [show k = i from by omega]; exact hA) (by rw [show k = j from by omega]; exact hB), rfl, rfl⟩

end Go.Proofs.Ytbkmmjpklkallaa
