/- Notes sorted. -/
import Derived.Test.YtbkmmjpklkallaaY3
set_option linter.unusedSimpArgs false
set_option linter.unusedVariables false
namespace Go.Proofs.Ytbkmmjpklkallaa
open Go Go.RowKit Hr



set_option maxRecDepth 100000 in
theorem sN_insr (p l s : List Note) (A : Option Addr) (n ca : Nat) (i0 j0 : Int) (W : World) (hm : Mem (atAny [.own 47 7 A n ca ((p ++ (l ++ s)).map Note.enc)]) W [.own 47 7 A n ca ((p ++ (l ++ s)).map Note.enc)] W) (hi0 : i0 = (p.length : Int)) (hj0 : j0 = (p.length : Int) + l.length) (hn : p.length + (l.length + s.length) = n) (hl : n ≤ 1000000) : Calls Try.prog 59 #[.slice A n ca, .int .i64 i0, .int .i64 j0, .func (.func 53) #[] #[]] W (Ret W (atAny [.own 47 7 A n ca ((p ++ (l ++ s)).map Note.enc)]) (fun v m => v = .tuple #[] ∧ m = [.own 47 7 A n ca ((p ++ ((Srt.sort (Ky.ltK keyN) l l.length) ++ s)).map Note.enc)])) := by
  refine enterA (X := _) (vs := [.slice A n ca, .int .i64 i0, .int .i64 j0, .func (.func 53) #[] #[]]) Try.func59 Try.ntmps59 rfl rfl hm ?_
  refine run_seq ?_
  refine run_region ?_
  refine run_q (.none rfl) rfl rfl (q_move rfl rfl) ?_
  refine run_q (.none rfl) rfl rfl (q_add rfl rfl rfl (by omega)) ?_
  refine run_q (.none rfl) rfl rfl (q_assign rfl rfl) ?_
  refine run_nil ?_
  refine run_block ?_
  refine run_sub (subMk (.cons (s := 8) rfl (.cons (s := 0) rfl (.cons (s := 1) rfl (.cons (s := 2) rfl (.cons (s := 3) rfl .nil))))) (.cons Sel.here .refl .nil)) ?_
  refine run_loopC1M1 (ι := Nat) (fun i => i = 0 ∨ i + 1 ≤ l.length) (fun i => .int .i64 ((p.length + (i + 1) : Nat) : Int)) (fun i => .own 47 7 A n ca ((p ++ (Srt.steps (Ky.ltK keyN) l i ++ s)).map Note.enc)) (fun i => l.length - i) 0 (by (try dsimp only); exact (.inl rfl)) (vint (by (try dsimp only) <;> omega)) (.own rfl rfl rfl (by rw [Srt.steps_zero])) ?_
  rintro i hi
  (try dsimp only at hi)
  show Run _ _ _ _ _ _ _ ⟨(8, .int .i64 ((p.length + (i + 1) : Nat) : Int)) :: _, .own 47 7 A n ca ((p ++ (Srt.steps (Ky.ltK keyN) l i ++ s)).map Note.enc) :: _⟩
  refine run_seq ?_
  refine run_seq ?_
  refine run_region ?_
  refine run_q (.none rfl) rfl rfl (q_move rfl rfl) ?_
  refine run_q (.none rfl) rfl rfl (q_move rfl rfl) ?_
  refine run_q (.none rfl) rfl rfl (q_lss rfl rfl rfl) ?_
  refine run_nil ?_
  refine run_cond rfl (fun g14 => ?_) (fun g14 => ?_)
  · have g14' := g14
    try simp only [decide_eq_true_eq, decide_eq_false_iff_not, beq_iff_eq, beq_eq_false_iff_ne, bne_iff_ne, bne_eq_false_iff_eq, Bool.not_eq_true', Bool.not_eq_false', ne_eq, Int.not_lt, Int.not_le, Decidable.not_not] at g14'
    refine run_skip ?_
    refine run_seq ?_
    refine run_block ?_
    refine run_seq ?_
    refine run_region ?_
    refine run_q (.none rfl) rfl rfl (q_move rfl rfl) ?_
    refine run_q (.none rfl) rfl rfl (q_assign rfl rfl) ?_
    refine run_nil ?_
    refine run_sub (subMk (.cons (s := 0) rfl (.cons (s := 1) rfl (.cons (s := 2) rfl (.cons (s := 3) rfl (.cons (s := 8) rfl (.cons (s := 9) rfl .nil)))))) .refl) ?_
    refine run_block ?_
    refine run_sub (subMk (.cons (s := 9) rfl (.cons (s := 0) rfl (.cons (s := 1) rfl (.cons (s := 2) rfl (.cons (s := 3) rfl (.cons (s := 8) rfl .nil)))))) (.cons Sel.here .refl .nil)) ?_
    refine run_loopC1M1 (ι := Nat) (fun j => j ≤ i + 1 ∧ Srt.pos (Ky.ltK keyN) (Srt.sort (Ky.ltK keyN) l (i + 1)) (nth l (i + 1)) (i + 1) = Srt.pos (Ky.ltK keyN) (Srt.sort (Ky.ltK keyN) l (i + 1)) (nth l (i + 1)) j) (fun j => .int .i64 ((p.length + j : Nat) : Int)) (fun j => .own 47 7 A n ca ((p ++ ((Srt.mid (Srt.sort (Ky.ltK keyN) l (i + 1)) (nth l (i + 1)) (l.drop (i + 2)) j) ++ s)).map Note.enc)) (fun j => j) (i + 1) (by (try dsimp only); exact ⟨by omega, rfl⟩) (vint (by (try dsimp only) <;> omega)) (.own rfl rfl rfl (by rw [Srt.steps_mid (by omega)])) ?_
    rintro j hq
    (try dsimp only at hq)
    obtain ⟨hj, hpos⟩ := hq
    show Run _ _ _ _ _ _ _ ⟨(9, .int .i64 ((p.length + j : Nat) : Int)) :: _, .own 47 7 A n ca ((p ++ ((Srt.mid (Srt.sort (Ky.ltK keyN) l (i + 1)) (nth l (i + 1)) (l.drop (i + 2)) j) ++ s)).map Note.enc) :: _⟩
    refine run_seq ?_
    refine run_seq ?_
    refine run_draw [(0, 0), (1, 0), (2, 0), (3, 0), (4, 0), (5, 0), (6, 0), (7, 0), (8, 0), (9, 0), (10, 0), (11, 0), (12, 0), (13, 0), (14, 0), (15, 0), (16, 0)] mixed (by kernel_rfl) .refl ?_
    refine d_q rfl rfl (.none rfl) rfl rfl (q_move rfl rfl) ?_
    refine d_q rfl rfl (.none rfl) rfl rfl (q_move rfl rfl) ?_
    refine d_q rfl rfl (.none rfl) rfl rfl (q_gtr rfl rfl rfl) ?_
    refine d_q rfl rfl (.none rfl) rfl rfl (q_move rfl rfl) ?_
    refine d_split 21 rfl (fun g21 => ?_) (fun g21 => ?_)
    · have g21' := g21
      try simp only [decide_eq_true_eq, decide_eq_false_iff_not, beq_iff_eq, beq_eq_false_iff_ne, bne_iff_ne, bne_eq_false_iff_eq, Bool.not_eq_true', Bool.not_eq_false', ne_eq, Int.not_lt, Int.not_le, Decidable.not_not] at g21'
      obtain ⟨j, rfl⟩ : ∃ q, j = q + 1 := ⟨j - 1, by omega⟩
      have hsl := Srt.sort_len (lt := (Ky.ltK keyN)) l (i + 1)
      have hml : (Srt.mid (Srt.sort (Ky.ltK keyN) l (i + 1)) (nth l (i + 1)) (l.drop (i + 2)) (j + 1)).length = l.length := by rw [Srt.mid_len (by omega), hsl, List.length_drop]; omega
      refine d_q rfl rfl (.on rfl rfl rfl g21) rfl rfl (q_move rfl rfl) ?_
      refine d_q rfl rfl (.on rfl rfl rfl g21) rfl rfl (q_move rfl rfl) ?_
      refine d_q rfl rfl (.on rfl rfl rfl g21) rfl rfl (q_move rfl rfl) ?_
      refine d_q rfl rfl (.on rfl rfl rfl g21) rfl rfl (q_indexS (q := (p.length + (j + 1))) rfl Try.underlying22 sz47 rfl rfl (.own Sel.here) (by rw [List.length_map, List.length_append, List.length_append, hml]; omega) rfl (by omega)) ?_
      refine d_q rfl rfl (.on rfl rfl rfl g21) rfl rfl (q_loadE rfl agg47 rfl (.own Sel.here) (by rw [getmap (by rw [List.length_append, List.length_append, hml] <;> omega), Srt.row_x (k := j + 1) rfl (by omega), Srt.mid_at (by omega)]) rfl) ?_
      refine d_q rfl rfl (.on rfl rfl rfl g21) rfl rfl (q_move rfl rfl) ?_
      refine d_q rfl rfl (.on rfl rfl rfl g21) rfl rfl (q_move rfl rfl) ?_
      refine d_q rfl rfl (.on rfl rfl rfl g21) rfl rfl (q_sub rfl rfl rfl (by omega)) ?_
      refine d_q rfl rfl (.on rfl rfl rfl g21) rfl rfl (q_indexS (q := (p.length + j)) rfl Try.underlying22 sz47 rfl rfl (.own Sel.here) (by rw [List.length_map, List.length_append, List.length_append, hml]; omega) (by omega) (by omega)) ?_
      refine d_q rfl rfl (.on rfl rfl rfl g21) rfl rfl (q_loadE rfl agg47 rfl (.own Sel.here) (by rw [getmap (by rw [List.length_append, List.length_append, hml] <;> omega), Srt.row_x (k := j) rfl (by omega), Srt.mid_below (by omega)]) rfl) ?_
      refine d_q rfl rfl (.on rfl rfl rfl g21) rfl rfl (q_callv rfl rfl call53 (.cons rfl (.cons rfl Evs.nil)) (fun w hk hm => ord_just (nth l (i + 1)) (nth (Srt.sort (Ky.ltK keyN) l (i + 1)) j) w)) ?_
      refine d_q rfl rfl (.on rfl rfl rfl g21) rfl rfl (q_lss rfl rfl rfl) ?_
      refine d_q rfl rfl (.none rfl) rfl rfl (q_pickT rfl rfl g21 rfl) ?_
      refine d_nil ?_
      refine run_sub (subMk (.cons (s := 0) rfl (.cons (s := 1) rfl (.cons (s := 2) rfl (.cons (s := 3) rfl (.cons (s := 8) rfl (.cons (s := 9) rfl (.cons (s := 34) rfl .nil))))))) .refl) ?_
      refine run_cond rfl (fun g34 => ?_) (fun g34 => ?_)
      · have g34' := g34
        try simp only [decide_eq_true_eq, decide_eq_false_iff_not, beq_iff_eq, beq_eq_false_iff_ne, bne_iff_ne, bne_eq_false_iff_eq, Bool.not_eq_true', Bool.not_eq_false', ne_eq, Int.not_lt, Int.not_le, Decidable.not_not] at g34'
        refine run_skip ?_
        refine run_seq ?_
        refine run_block ?_
        refine run_pure [(0, 0), (1, 0), (2, 3), (3, 3), (4, 3), (5, 0), (6, 0), (7, 0), (8, 0), (9, 0), (10, 0), (11, 0), (12, 0), (13, 0), (14, 0), (15, 2), (16, 2), (17, 2)] mixed (by kernel_rfl) .refl ?_
        refine p_q rfl rfl (.none rfl) rfl rfl (q_move rfl rfl) ?_
        refine p_q rfl rfl (.none rfl) rfl rfl (q_move rfl rfl) ?_
        refine p_p rfl rfl (.none rfl) rfl rfl (q_move rfl rfl) ?_
        refine p_p rfl rfl (.none rfl) rfl rfl (q_move rfl rfl) ?_
        refine p_p rfl rfl (.none rfl) rfl rfl (q_sub rfl rfl rfl (by omega)) ?_
        refine p_q rfl rfl (.none rfl) rfl rfl (q_move rfl rfl) ?_
        refine p_q rfl rfl (.none rfl) rfl rfl (q_move rfl rfl) ?_
        refine p_q rfl rfl (.none rfl) rfl rfl (q_sub rfl rfl rfl (by omega)) ?_
        refine p_q rfl rfl (.none rfl) rfl rfl (q_indexS (q := (p.length + j)) rfl Try.underlying22 sz47 rfl rfl (.own Sel.here) (by rw [List.length_map, List.length_append, List.length_append, hml]; omega) (by omega) (by omega)) ?_
        refine p_q rfl rfl (.none rfl) rfl rfl (q_loadE rfl agg47 rfl (.own Sel.here) (by rw [getmap (by rw [List.length_append, List.length_append, hml] <;> omega), Srt.row_x (k := j) rfl (by omega), Srt.mid_below (by omega)]) rfl) ?_
        refine p_q rfl rfl (.none rfl) rfl rfl (q_move rfl rfl) ?_
        refine p_q rfl rfl (.none rfl) rfl rfl (q_move rfl rfl) ?_
        refine p_q rfl rfl (.none rfl) rfl rfl (q_indexS (q := (p.length + (j + 1))) rfl Try.underlying22 sz47 rfl rfl (.own Sel.here) (by rw [List.length_map, List.length_append, List.length_append, hml]; omega) rfl (by omega)) ?_
        refine p_q rfl rfl (.none rfl) rfl rfl (q_loadE rfl agg47 rfl (.own Sel.here) (by rw [getmap (by rw [List.length_append, List.length_append, hml] <;> omega), Srt.row_x (k := j + 1) rfl (by omega), Srt.mid_at (by omega)]) rfl) ?_
        refine p_q rfl rfl (.none rfl) rfl rfl (q_indexS (q := (p.length + (j + 1))) rfl Try.underlying22 sz47 rfl rfl (.own Sel.here) (by rw [List.length_map, List.length_append, List.length_append, hml]; omega) rfl (by omega)) ?_
        refine p_t rfl rfl (.none rfl) (h_storeE rfl rfl sz47 rfl rfl rfl rfl rfl Sel.here (by omega)) ?_
        rintro - -
        refine p_t rfl rfl (.none rfl) (.of_q rfl rfl (q_indexS (q := (p.length + j)) rfl Try.underlying22 sz47 rfl rfl (.own Sel.here) (by rw [List.length_set, List.length_map, List.length_append, List.length_append, hml]; omega) (by omega) (by omega))) ?_
        rintro - -
        refine p_t rfl rfl (.none rfl) (h_storeE rfl rfl sz47 rfl rfl rfl rfl rfl Sel.here (by omega)) ?_
        rintro - -
        refine p_nil ?_
        refine run_sub (subMk (.cons (s := 0) rfl (.cons (s := 1) rfl (.cons (s := 2) rfl (.cons (s := 3) rfl (.cons (s := 8) rfl (.cons (s := 9) rfl .nil)))))) .refl) ?_
        refine run_blk ?_
        refine run_region ?_
        refine run_q (.none rfl) rfl rfl (q_move rfl rfl) ?_
        refine run_q (.none rfl) rfl rfl (q_sub rfl rfl rfl (by omega)) ?_
        refine run_q (.none rfl) rfl rfl (q_assign rfl rfl) ?_
        refine run_nil ?_
        exact run_again j (by (try dsimp only); exact ⟨by omega, by rw [hpos, Srt.pos_skip (by simpa [Ky.ltK] using g34)]⟩) (by (try dsimp only); omega) (subMk (.cons' (s := 9) rfl (vint (by omega)) (.cons (s := 0) rfl (.cons (s := 1) rfl (.cons (s := 2) rfl (.cons (s := 3) rfl (.cons (s := 8) rfl .nil)))))) (.cons Sel.here (.own rfl rfl rfl (by rw [← Srt.pmq_dn (j := j) (by omega) rfl rfl, List.map_set, List.map_set]; rfl)) .nil))
      · have g34' := g34
        try simp only [decide_eq_true_eq, decide_eq_false_iff_not, beq_iff_eq, beq_eq_false_iff_ne, bne_iff_ne, bne_eq_false_iff_eq, Bool.not_eq_true', Bool.not_eq_false', ne_eq, Int.not_lt, Int.not_le, Decidable.not_not] at g34'
        have hpe : Srt.pos (Ky.ltK keyN) (Srt.sort (Ky.ltK keyN) l (i + 1)) (nth l (i + 1)) (i + 1) = j + 1 := by rw [hpos, Srt.pos_stop (by simpa [Ky.ltK] using g34)]
        refine run_exit rfl ?_
        refine run_blk ?_
        refine run_region ?_
        refine run_q (.none rfl) rfl rfl (q_move rfl rfl) ?_
        refine run_q (.none rfl) rfl rfl (q_add rfl rfl rfl (by omega)) ?_
        refine run_q (.none rfl) rfl rfl (q_assign rfl rfl) ?_
        refine run_nil ?_
        refine run_sub (subMk (.cons (s := 0) rfl (.cons (s := 1) rfl (.cons (s := 2) rfl (.cons (s := 3) rfl (.cons (s := 8) rfl .nil))))) .refl) ?_
        exact run_again (i + 1) (by (try dsimp only); exact (.inr (by omega))) (by (try dsimp only); omega) (subMk (.cons' (s := 8) rfl (vint (by omega)) (.cons (s := 0) rfl (.cons (s := 1) rfl (.cons (s := 2) rfl (.cons (s := 3) rfl .nil))))) (.cons Sel.here (.own rfl rfl rfl (by rw [Srt.steps_next (by omega) hpe])) .nil))
    · have g21' := g21
      try simp only [decide_eq_true_eq, decide_eq_false_iff_not, beq_iff_eq, beq_eq_false_iff_ne, bne_iff_ne, bne_eq_false_iff_eq, Bool.not_eq_true', Bool.not_eq_false', ne_eq, Int.not_lt, Int.not_le, Decidable.not_not] at g21'
      obtain rfl : j = 0 := by omega
      have hpe : Srt.pos (Ky.ltK keyN) (Srt.sort (Ky.ltK keyN) l (i + 1)) (nth l (i + 1)) (i + 1) = 0 := by rw [hpos]; rfl
      refine d_off rfl rfl (.no rfl rfl rfl g21) rfl rfl ?_
      refine d_off rfl rfl (.no rfl rfl rfl g21) rfl rfl ?_
      refine d_off rfl rfl (.no rfl rfl rfl g21) rfl rfl ?_
      refine d_off rfl rfl (.no rfl rfl rfl g21) rfl rfl ?_
      refine d_off rfl rfl (.no rfl rfl rfl g21) rfl rfl ?_
      refine d_off rfl rfl (.no rfl rfl rfl g21) rfl rfl ?_
      refine d_off rfl rfl (.no rfl rfl rfl g21) rfl rfl ?_
      refine d_off rfl rfl (.no rfl rfl rfl g21) rfl rfl ?_
      refine d_off rfl rfl (.no rfl rfl rfl g21) rfl rfl ?_
      refine d_off rfl rfl (.no rfl rfl rfl g21) rfl rfl ?_
      refine d_off rfl rfl (.no rfl rfl rfl g21) rfl rfl ?_
      refine d_off rfl rfl (.no rfl rfl rfl g21) rfl rfl ?_
      refine d_q rfl rfl (.none rfl) rfl rfl (q_pickF rfl rfl g21 rfl) ?_
      refine d_nil ?_
      refine run_sub (subMk (.cons (s := 0) rfl (.cons (s := 1) rfl (.cons (s := 2) rfl (.cons (s := 3) rfl (.cons (s := 8) rfl (.cons (s := 9) rfl (.cons (s := 34) rfl .nil))))))) .refl) ?_
      refine run_condF rfl rfl ?_
      refine run_exit rfl ?_
      refine run_blk ?_
      refine run_region ?_
      refine run_q (.none rfl) rfl rfl (q_move rfl rfl) ?_
      refine run_q (.none rfl) rfl rfl (q_add rfl rfl rfl (by omega)) ?_
      refine run_q (.none rfl) rfl rfl (q_assign rfl rfl) ?_
      refine run_nil ?_
      refine run_sub (subMk (.cons (s := 0) rfl (.cons (s := 1) rfl (.cons (s := 2) rfl (.cons (s := 3) rfl (.cons (s := 8) rfl .nil))))) .refl) ?_
      exact run_again (i + 1) (by (try dsimp only); exact (.inr (by omega))) (by (try dsimp only); omega) (subMk (.cons' (s := 8) rfl (vint (by omega)) (.cons (s := 0) rfl (.cons (s := 1) rfl (.cons (s := 2) rfl (.cons (s := 3) rfl .nil))))) (.cons Sel.here (.own rfl rfl rfl (by rw [Srt.steps_next (by omega) hpe])) .nil))
  · have g14' := g14
    try simp only [decide_eq_true_eq, decide_eq_false_iff_not, beq_iff_eq, beq_eq_false_iff_ne, bne_iff_ne, bne_eq_false_iff_eq, Bool.not_eq_true', Bool.not_eq_false', ne_eq, Int.not_lt, Int.not_le, Decidable.not_not] at g14'
    refine run_exit rfl ?_
    refine run_sub (subMk .nil .refl) ?_
    refine run_sub (subMk .refl (.cons Sel.here .refl .nil)) ?_
    exact end0 rfl ⟨rfl, by rw [Srt.steps_last (by omega)]⟩

set_option maxRecDepth 100000 in
theorem sN_stab2 (x y : List Note) (A : Option Addr) (n ca : Nat) (W : World) (hm : Mem (atAny [.own 47 7 A n ca ((x ++ y).map Note.enc)]) W [.own 47 7 A n ca ((x ++ y).map Note.enc)] W) (hx : x.length = 20) (hy : 0 < y.length ∧ y.length < 20) (hn : x.length + y.length = n) (hl : n ≤ 1000000) : Calls Try.prog 57 #[.slice A n ca, .int .i64 (n : Int), .func (.func 53) #[] #[]] W (Ret W (atAny [.own 47 7 A n ca ((x ++ y).map Note.enc)]) (fun v m => ∃ d, d.Perm (x ++ y) ∧ Srt.Sorted (Ky.ltK keyN) d ∧ v = .tuple #[] ∧ m = [.own 47 7 A n ca ((d).map Note.enc)])) := by
  refine enterA (X := _) (vs := [.slice A n ca, .int .i64 (n : Int), .func (.func 53) #[] #[]]) Try.func57 Try.ntmps57 rfl rfl hm ?_
  refine run_seq ?_
  refine run_region ?_
  refine run_q (.none rfl) rfl rfl (q_assign rfl rfl) ?_
  refine run_nil ?_
  refine run_seq ?_
  refine run_region ?_
  refine run_q (.none rfl) rfl rfl (q_move rfl rfl) ?_
  refine run_q (.none rfl) rfl rfl (q_assign rfl rfl) ?_
  refine run_q (.none rfl) rfl rfl (q_assign rfl rfl) ?_
  refine run_nil ?_
  refine run_seq ?_
  refine run_block ?_
  refine run_rounds 2 ?_
  refine run_round ?_
  refine run_seq ?_
  refine run_seq ?_
  refine run_region ?_
  refine run_q (.none rfl) rfl rfl (q_move rfl rfl) ?_
  refine run_q (.none rfl) rfl rfl (q_move rfl rfl) ?_
  refine run_q (.none rfl) rfl rfl (q_leq rfl rfl rfl) ?_
  refine run_nil ?_
  refine run_condT rfl (decide_eq_true (by omega)) ?_
  refine run_skip ?_
  refine run_block ?_
  refine run_seq ?_
  refine run_region ?_
  refine run_q (.none rfl) rfl rfl (q_move rfl rfl) ?_
  refine run_q (.none rfl) rfl rfl (q_move rfl rfl) ?_
  refine run_q (.none rfl) rfl rfl (q_move rfl rfl) ?_
  refine run_q (.none rfl) rfl rfl (q_move rfl rfl) ?_
  refine run_h (.none rfl) (h_callX [_] _ rfl rfl rfl call59 (.cons rfl (.cons rfl (.cons rfl (.cons rfl Evs.nil)))) (Sel.perm Sel.here) (Y := fun _ => atAny [_]) (fun _ _ h => h) (fun w hk hm => sN_insr [] x y A n ca _ _ w ((hm.perm (Sel.perm Sel.here)).give (rs := [_])) rfl (by simp only [List.length_nil] <;> omega) (by simp only [List.length_nil] <;> omega) hl)) ?_
  rintro ⟨v, m⟩ ⟨rfl, rfl⟩
  show Run _ _ _ _ _ _ _ ⟨(18, .tuple #[]) :: _, _ :: _⟩
  refine run_nil ?_
  refine run_seq ?_
  refine run_region ?_
  refine run_q (.none rfl) rfl rfl (q_move rfl rfl) ?_
  refine run_q (.none rfl) rfl rfl (q_assign rfl rfl) ?_
  refine run_nil ?_
  refine run_region ?_
  refine run_q (.none rfl) rfl rfl (q_move rfl rfl) ?_
  refine run_q (.none rfl) rfl rfl (q_move rfl rfl) ?_
  refine run_q (.none rfl) rfl rfl (q_add rfl rfl rfl (by omega)) ?_
  refine run_q (.none rfl) rfl rfl (q_assign rfl rfl) ?_
  refine run_nil ?_
  refine run_blk ?_
  refine run_round ?_
  refine run_seq ?_
  refine run_seq ?_
  refine run_region ?_
  refine run_q (.none rfl) rfl rfl (q_move rfl rfl) ?_
  refine run_q (.none rfl) rfl rfl (q_move rfl rfl) ?_
  refine run_q (.none rfl) rfl rfl (q_leq rfl rfl rfl) ?_
  refine run_nil ?_
  refine run_condF rfl (decide_eq_false (by omega)) ?_
  refine run_exit rfl ?_
  refine run_sub (subMk (.cons (s := 0) rfl (.cons (s := 1) rfl (.cons (s := 2) rfl (.cons (s := 6) rfl (.cons (s := 7) rfl (.cons (s := 8) rfl .nil)))))) .refl) ?_
  refine run_seq ?_
  refine run_sub (subMk .refl (.cons Sel.here (.own (xs' := ((Srt.sort (Ky.ltK keyN) x x.length) ++ (y ++ [])).map Note.enc) rfl rfl rfl (by rw [List.append_nil]; rfl)) .nil)) ?_
  refine run_region ?_
  refine run_q (.none rfl) rfl rfl (q_move rfl rfl) ?_
  refine run_q (.none rfl) rfl rfl (q_move rfl rfl) ?_
  refine run_q (.none rfl) rfl rfl (q_move rfl rfl) ?_
  refine run_q (.none rfl) rfl rfl (q_move rfl rfl) ?_
  refine run_h (.none rfl) (h_callX [_] _ rfl rfl rfl call59 (.cons rfl (.cons rfl (.cons rfl (.cons rfl Evs.nil)))) (Sel.perm Sel.here) (Y := fun _ => atAny [_]) (fun _ _ h => h) (fun w hk hm => sN_insr (Srt.sort (Ky.ltK keyN) x x.length) y [] A n ca _ _ w ((hm.perm (Sel.perm Sel.here)).give (rs := [_])) (by rw [Srt.sort_len]; omega) (by rw [Srt.sort_len]; omega) (by rw [Srt.sort_len] <;> simp only [List.length_nil] <;> omega) hl)) ?_
  rintro ⟨v, m⟩ ⟨rfl, rfl⟩
  show Run _ _ _ _ _ _ _ ⟨(27, .tuple #[]) :: _, _ :: _⟩
  refine run_nil ?_
  refine run_sub (subMk (.cons (s := 0) rfl (.cons (s := 1) rfl (.cons (s := 2) rfl (.cons (s := 6) rfl (.cons (s := 7) rfl (.cons (s := 8) rfl .nil)))))) .refl) ?_
  refine run_block ?_
  refine run_rounds 2 ?_
  refine run_round ?_
  refine run_seq ?_
  refine run_seq ?_
  refine run_region ?_
  refine run_q (.none rfl) rfl rfl (q_move rfl rfl) ?_
  refine run_q (.none rfl) rfl rfl (q_move rfl rfl) ?_
  refine run_q (.none rfl) rfl rfl (q_lss rfl rfl rfl) ?_
  refine run_nil ?_
  refine run_condT rfl (decide_eq_true (by omega)) ?_
  refine run_skip ?_
  refine run_block ?_
  refine run_seq ?_
  refine run_region ?_
  refine run_q (.none rfl) rfl rfl (q_move rfl rfl) ?_
  refine run_q (.none rfl) rfl rfl (q_mul rfl rfl rfl (by omega)) ?_
  refine run_q (.none rfl) rfl rfl (q_assign rfl rfl) ?_
  refine run_q (.none rfl) rfl rfl (q_assign rfl rfl) ?_
  refine run_nil ?_
  refine run_seq ?_
  refine run_block ?_
  refine run_rounds 1 ?_
  refine run_round ?_
  refine run_seq ?_
  refine run_seq ?_
  refine run_region ?_
  refine run_q (.none rfl) rfl rfl (q_move rfl rfl) ?_
  refine run_q (.none rfl) rfl rfl (q_move rfl rfl) ?_
  refine run_q (.none rfl) rfl rfl (q_leq rfl rfl rfl) ?_
  refine run_nil ?_
  refine run_condF rfl (decide_eq_false (by omega)) ?_
  refine run_exit rfl ?_
  refine run_seq ?_
  refine run_seq ?_
  refine run_region ?_
  refine run_q (.none rfl) rfl rfl (q_move rfl rfl) ?_
  refine run_q (.none rfl) rfl rfl (q_move rfl rfl) ?_
  refine run_q (.none rfl) rfl rfl (q_add rfl rfl rfl (by omega)) ?_
  refine run_q (.none rfl) rfl rfl (q_assign rfl rfl) ?_
  refine run_nil ?_
  refine run_seq ?_
  refine run_region ?_
  refine run_q (.none rfl) rfl rfl (q_move rfl rfl) ?_
  refine run_q (.none rfl) rfl rfl (q_move rfl rfl) ?_
  refine run_q (.none rfl) rfl rfl (q_lss rfl rfl rfl) ?_
  refine run_nil ?_
  refine run_condT rfl (decide_eq_true (by omega)) ?_
  refine run_region ?_
  refine run_q (.none rfl) rfl rfl (q_move rfl rfl) ?_
  refine run_q (.none rfl) rfl rfl (q_move rfl rfl) ?_
  refine run_q (.none rfl) rfl rfl (q_move rfl rfl) ?_
  refine run_q (.none rfl) rfl rfl (q_move rfl rfl) ?_
  refine run_q (.none rfl) rfl rfl (q_move rfl rfl) ?_
  refine run_h (.none rfl) (h_callX [_] _ rfl rfl rfl call60 (.cons rfl (.cons rfl (.cons rfl (.cons rfl (.cons rfl Evs.nil))))) (Sel.perm Sel.here) (Y := fun _ => atAny [_]) (fun _ _ h => h) (fun w hk hm => sN_symN A n ca hl _ [] (Srt.sort (Ky.ltK keyN) x x.length) (Srt.sort (Ky.ltK keyN) y y.length) [] _ _ _ w (Nat.le_refl _) ((hm.perm (Sel.perm Sel.here)).give (rs := [_])) rfl (by rw [Srt.sort_len] <;> simp only [List.length_nil] <;> omega) (by rw [Srt.sort_len, Srt.sort_len] <;> simp only [List.length_nil] <;> omega) (by rw [Srt.sort_len]; omega) (by rw [Srt.sort_len]; omega) (by rw [Srt.sort_len, Srt.sort_len] <;> simp only [List.length_nil] <;> omega) (Srt.sort_sorted weakN x _) (Srt.sort_sorted weakN y _))) ?_
  rintro ⟨v, m⟩ ⟨d, ⟨z, hz, hs, rfl⟩, rfl, rfl⟩
  show Run _ _ _ _ _ _ _ ⟨(60, .tuple #[]) :: _, _ :: _⟩
  refine run_nil ?_
  refine run_region ?_
  refine run_q (.none rfl) rfl rfl (q_move rfl rfl) ?_
  refine run_q (.none rfl) rfl rfl (q_mul rfl rfl rfl (by omega)) ?_
  refine run_q (.none rfl) rfl rfl (q_assign rfl rfl) ?_
  refine run_nil ?_
  refine run_blk ?_
  refine run_round ?_
  refine run_seq ?_
  refine run_seq ?_
  refine run_region ?_
  refine run_q (.none rfl) rfl rfl (q_move rfl rfl) ?_
  refine run_q (.none rfl) rfl rfl (q_move rfl rfl) ?_
  refine run_q (.none rfl) rfl rfl (q_lss rfl rfl rfl) ?_
  refine run_nil ?_
  refine run_condF rfl (decide_eq_false (by omega)) ?_
  refine run_exit rfl ?_
  refine run_sub (subMk .nil .refl) ?_
  refine run_sub (subMk .refl (.cons Sel.here .refl .nil)) ?_
  exact end0 rfl ⟨_, (List.append_nil z).symm ▸ (hz.trans ((Srt.sort_all x).append (Srt.sort_all y))), (List.append_nil z).symm ▸ hs, rfl, rfl⟩

theorem sN_stabP (l : List Note) (A : Option Addr) (ca : Nat) (W : World) (hm : Mem (atAny [.own 47 7 A l.length ca ((l).map Note.enc)]) W [.own 47 7 A l.length ca ((l).map Note.enc)] W) (hl : l.length < 40) : Calls Try.prog 57 #[.slice A l.length ca, .int .i64 (l.length : Int), .func (.func 53) #[] #[]] W (Ret W (atAny [.own 47 7 A l.length ca ((l).map Note.enc)]) (fun v m => ∃ d, d.Perm l ∧ Srt.Sorted (Ky.ltK keyN) d ∧ v = .tuple #[] ∧ m = [.own 47 7 A l.length ca ((d).map Note.enc)])) := by
  by_cases h : l.length ≤ 20
  · exact (sN_stable l A ca W hm h).mono fun e w' ⟨v, m, ⟨h1, h2⟩, h3⟩ => ⟨v, m, ⟨_, Srt.sort_all l, Srt.sort_sorted weakN l _, h1, h2⟩, h3⟩
  · obtain ⟨x, y, rfl, hx⟩ : ∃ x y, l = x ++ y ∧ x.length = 20 := ⟨l.take 20, l.drop 20, (List.take_append_drop _ _).symm, by rw [List.length_take]; omega⟩
    exact sN_stab2 x y A _ ca W hm hx (by rw [List.length_append] at h hl; omega) List.length_append.symm (by omega)

theorem sN_sortP (l : List Note) (A : Option Addr) (ca : Nat) (W : World) (hm : Mem (atAny [.own 47 7 A l.length ca ((l).map Note.enc)]) W [.own 47 7 A l.length ca ((l).map Note.enc)] W) (hl : l.length < 40) : Calls Try.prog 52 #[.slice A l.length ca, .func (.func 53) #[] #[]] W (Ret W (atAny [.own 47 7 A l.length ca ((l).map Note.enc)]) (fun v m => ∃ d, d.Perm l ∧ Srt.Sorted (Ky.ltK keyN) d ∧ v = .tuple #[] ∧ m = [.own 47 7 A l.length ca ((d).map Note.enc)])) := by
  refine enterA (X := _) (vs := [.slice A l.length ca, .func (.func 53) #[] #[]]) Try.func52 Try.ntmps52 rfl rfl hm ?_
  refine run_region ?_
  refine run_q (.none rfl) rfl rfl (q_move rfl rfl) ?_
  refine run_q (.none rfl) rfl rfl (q_move rfl rfl) ?_
  refine run_q (.none rfl) rfl rfl (q_len rfl Try.underlying22 rfl) ?_
  refine run_q (.none rfl) rfl rfl (q_move rfl rfl) ?_
  refine run_h (.none rfl) (h_callX [_] _ rfl rfl rfl call57 (.cons rfl (.cons rfl (.cons rfl Evs.nil))) (Sel.perm Sel.here) (Y := fun _ => atAny [_]) (fun _ _ h => h) (fun w hk hm => sN_stabP l A ca w ((hm.perm (Sel.perm Sel.here)).give (rs := [_])) hl)) ?_
  rintro ⟨v, m⟩ ⟨d, hd, hds, rfl, rfl⟩
  show Run _ _ _ _ _ _ _ ⟨(8, .tuple #[]) :: _, _ :: _⟩
  refine run_nil ?_
  refine run_sub (subMk .nil .refl) ?_
  refine run_sub (subMk .refl (.cons Sel.here .refl .nil)) ?_
  exact end0 rfl ⟨d, hd, hds, rfl, rfl⟩

end Go.Proofs.Ytbkmmjpklkallaa
