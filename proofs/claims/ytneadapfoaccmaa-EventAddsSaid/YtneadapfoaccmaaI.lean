/- Heads sorted, and one of each number kept. -/
import Derived.Test.YtneadapfoaccmaaH
set_option linter.unusedSimpArgs false
set_option linter.unusedVariables false
namespace Go.Proofs.Ytneadapfoaccmaa
open Go Go.RowKit Hr

theorem call60 : Hr.Callable Try.prog 60 := fun args w => by kernel_rfl
theorem call82 : Hr.Callable Try.prog 82 := fun args w => by kernel_rfl
theorem call78 : Hr.Callable Try.prog 78 := fun args w => by kernel_rfl
theorem call62 : Hr.Callable Try.prog 62 := fun args w => by kernel_rfl

theorem sH_ins (l : List Hd) (A : Option Addr) (ca : Nat) (W : World) (hm : Mem (atAny [.own 53 5 A l.length ca ((l).map Hd.enc)]) W [.own 53 5 A l.length ca ((l).map Hd.enc)] W) (hl : l.length ≤ 1000000) : Calls Try.prog 82 #[.slice A l.length ca, .int .i64 0, .int .i64 (l.length : Int), .func (.func 60) #[] #[]] W (Ret W (atAny [.own 53 5 A l.length ca ((l).map Hd.enc)]) (fun v m => v = .tuple #[] ∧ m = [.own 53 5 A l.length ca (((Srt.sort (ltN nm) l l.length)).map Hd.enc)])) := by
  refine enterA (X := _) (vs := [.slice A l.length ca, .int .i64 0, .int .i64 (l.length : Int), .func (.func 60) #[] #[]]) Try.func82 Try.ntmps82 rfl rfl hm ?_
  refine run_seq ?_
  refine run_region ?_
  refine run_q (.none rfl) rfl rfl (q_move rfl rfl) ?_
  refine run_q (.none rfl) rfl rfl (q_add rfl rfl rfl (by omega)) ?_
  refine run_q (.none rfl) rfl rfl (q_assign rfl rfl) ?_
  refine run_nil ?_
  refine run_block ?_
  refine run_sub (subMk (.cons (s := 8) rfl (.cons (s := 0) rfl (.cons (s := 1) rfl (.cons (s := 2) rfl (.cons (s := 3) rfl .nil))))) (.cons Sel.here .refl .nil)) ?_
  refine run_loopC1M1 (ι := Nat) (fun i => i = 0 ∨ i + 1 ≤ l.length) (fun i => .int .i64 ((i : Int) + 1)) (fun i => .own 53 5 A l.length ca ((Srt.steps (ltN nm) l i).map Hd.enc)) (fun i => l.length - i) 0 (by (try dsimp only); exact (.inl rfl)) (vint (by (try dsimp only); omega)) (.own rfl rfl rfl (by rw [Srt.steps_zero])) ?_
  rintro i hi
  (try dsimp only at hi)
  show Run _ _ _ _ _ _ _ ⟨(8, .int .i64 ((i : Int) + 1)) :: _, .own 53 5 A l.length ca ((Srt.steps (ltN nm) l i).map Hd.enc) :: _⟩
  refine run_seq ?_
  refine run_seq ?_
  refine run_region ?_
  refine run_q (.none rfl) rfl rfl (q_move rfl rfl) ?_
  refine run_q (.none rfl) rfl rfl (q_move rfl rfl) ?_
  refine run_q (.none rfl) rfl rfl (q_lss rfl rfl rfl) ?_
  refine run_nil ?_
  refine run_cond rfl (fun g14 => ?_) (fun g14 => ?_)
  · have g14' := g14
    try simp only [decide_eq_true_eq, decide_eq_false_iff_not, beq_iff_eq, beq_eq_false_iff_ne, bne_iff_ne, bne_eq_false_iff_eq, Bool.not_eq_true', Bool.not_eq_false', ne_eq, Int.not_lt, Int.not_le, Decidable.not_not] at g14'
    refine run_skip ?_
    refine run_seq ?_
    refine run_block ?_
    refine run_seq ?_
    refine run_region ?_
    refine run_q (.none rfl) rfl rfl (q_move rfl rfl) ?_
    refine run_q (.none rfl) rfl rfl (q_assign rfl rfl) ?_
    refine run_nil ?_
    refine run_sub (subMk (.cons (s := 0) rfl (.cons (s := 1) rfl (.cons (s := 2) rfl (.cons (s := 3) rfl (.cons (s := 8) rfl (.cons (s := 9) rfl .nil)))))) .refl) ?_
    refine run_block ?_
    refine run_sub (subMk (.cons (s := 9) rfl (.cons (s := 0) rfl (.cons (s := 1) rfl (.cons (s := 2) rfl (.cons (s := 3) rfl (.cons (s := 8) rfl .nil)))))) (.cons Sel.here .refl .nil)) ?_
    refine run_loopC1M1 (ι := Nat) (fun j => j ≤ i + 1 ∧ Srt.pos (ltN nm) (Srt.sort (ltN nm) l (i + 1)) (nth l (i + 1)) (i + 1) = Srt.pos (ltN nm) (Srt.sort (ltN nm) l (i + 1)) (nth l (i + 1)) j) (fun j => .int .i64 (j : Int)) (fun j => .own 53 5 A l.length ca ((Srt.mid (Srt.sort (ltN nm) l (i + 1)) (nth l (i + 1)) (l.drop (i + 2)) j).map Hd.enc)) (fun j => j) (i + 1) (by (try dsimp only); exact ⟨by omega, rfl⟩) (vint (by (try dsimp only); omega)) (.own rfl rfl rfl (by rw [Srt.steps_mid (by omega)])) ?_
    rintro j hq
    (try dsimp only at hq)
    obtain ⟨hj, hpos⟩ := hq
    show Run _ _ _ _ _ _ _ ⟨(9, .int .i64 (j : Int)) :: _, .own 53 5 A l.length ca ((Srt.mid (Srt.sort (ltN nm) l (i + 1)) (nth l (i + 1)) (l.drop (i + 2)) j).map Hd.enc) :: _⟩
    refine run_seq ?_
    refine run_seq ?_
    refine run_draw [(0, 0), (1, 0), (2, 0), (3, 0), (4, 0), (5, 0), (6, 0), (7, 0), (8, 0), (9, 0), (10, 0), (11, 0), (12, 0), (13, 0), (14, 0), (15, 0), (16, 0)] mixed (by kernel_rfl) .refl ?_
    refine d_q rfl rfl (.none rfl) rfl rfl (q_move rfl rfl) ?_
    refine d_q rfl rfl (.none rfl) rfl rfl (q_move rfl rfl) ?_
    refine d_q rfl rfl (.none rfl) rfl rfl (q_gtr rfl rfl rfl) ?_
    refine d_q rfl rfl (.none rfl) rfl rfl (q_move rfl rfl) ?_
    refine d_split 21 rfl (fun g21 => ?_) (fun g21 => ?_)
    · have g21' := g21
      try simp only [decide_eq_true_eq, decide_eq_false_iff_not, beq_iff_eq, beq_eq_false_iff_ne, bne_iff_ne, bne_eq_false_iff_eq, Bool.not_eq_true', Bool.not_eq_false', ne_eq, Int.not_lt, Int.not_le, Decidable.not_not] at g21'
      obtain ⟨j, rfl⟩ : ∃ q, j = q + 1 := ⟨j - 1, by omega⟩
      have hsl := Srt.sort_len (lt := (ltN nm)) l (i + 1)
      have hml : (Srt.mid (Srt.sort (ltN nm) l (i + 1)) (nth l (i + 1)) (l.drop (i + 2)) (j + 1)).length = l.length := by rw [Srt.mid_len (by omega), hsl, List.length_drop]; omega
      refine d_q rfl rfl (.on rfl rfl rfl g21) rfl rfl (q_move rfl rfl) ?_
      refine d_q rfl rfl (.on rfl rfl rfl g21) rfl rfl (q_move rfl rfl) ?_
      refine d_q rfl rfl (.on rfl rfl rfl g21) rfl rfl (q_move rfl rfl) ?_
      refine d_q rfl rfl (.on rfl rfl rfl g21) rfl rfl (q_indexS (q := (j + 1)) rfl Try.underlying26 sz53 rfl rfl (.own Sel.here) (by rw [List.length_map]; exact hml) rfl (by omega)) ?_
      refine d_q rfl rfl (.on rfl rfl rfl g21) rfl rfl (q_loadE rfl agg53 rfl (.own Sel.here) (by rw [getmap (by omega), Srt.mid_at (by omega)]) rfl) ?_
      refine d_q rfl rfl (.on rfl rfl rfl g21) rfl rfl (q_move rfl rfl) ?_
      refine d_q rfl rfl (.on rfl rfl rfl g21) rfl rfl (q_move rfl rfl) ?_
      refine d_q rfl rfl (.on rfl rfl rfl g21) rfl rfl (q_sub rfl rfl rfl (by omega)) ?_
      refine d_q rfl rfl (.on rfl rfl rfl g21) rfl rfl (q_indexS (q := j) rfl Try.underlying26 sz53 rfl rfl (.own Sel.here) (by rw [List.length_map]; exact hml) (by omega) (by omega)) ?_
      refine d_q rfl rfl (.on rfl rfl rfl g21) rfl rfl (q_loadE rfl agg53 rfl (.own Sel.here) (by rw [getmap (by omega), Srt.mid_below (by omega)]) rfl) ?_
      refine d_q rfl rfl (.on rfl rfl rfl g21) rfl rfl (q_callv rfl rfl call60 (.cons rfl (.cons rfl Evs.nil)) (fun w hk hm => cmpH_just (nth l (i + 1)) (nth (Srt.sort (ltN nm) l (i + 1)) j) w)) ?_
      refine d_q rfl rfl (.on rfl rfl rfl g21) rfl rfl (q_lss rfl rfl rfl) ?_
      refine d_q rfl rfl (.none rfl) rfl rfl (q_pickT rfl rfl g21 rfl) ?_
      refine d_nil ?_
      refine run_sub (subMk (.cons (s := 0) rfl (.cons (s := 1) rfl (.cons (s := 2) rfl (.cons (s := 3) rfl (.cons (s := 8) rfl (.cons (s := 9) rfl (.cons (s := 34) rfl .nil))))))) .refl) ?_
      refine run_cond rfl (fun g34 => ?_) (fun g34 => ?_)
      · have g34' := g34
        try simp only [decide_eq_true_eq, decide_eq_false_iff_not, beq_iff_eq, beq_eq_false_iff_ne, bne_iff_ne, bne_eq_false_iff_eq, Bool.not_eq_true', Bool.not_eq_false', ne_eq, Int.not_lt, Int.not_le, Decidable.not_not] at g34'
        refine run_skip ?_
        refine run_seq ?_
        refine run_block ?_
        refine run_pure [(0, 0), (1, 0), (2, 3), (3, 3), (4, 3), (5, 0), (6, 0), (7, 0), (8, 0), (9, 0), (10, 0), (11, 0), (12, 0), (13, 0), (14, 0), (15, 2), (16, 2), (17, 2)] mixed (by kernel_rfl) .refl ?_
        refine p_q rfl rfl (.none rfl) rfl rfl (q_move rfl rfl) ?_
        refine p_q rfl rfl (.none rfl) rfl rfl (q_move rfl rfl) ?_
        refine p_p rfl rfl (.none rfl) rfl rfl (q_move rfl rfl) ?_
        refine p_p rfl rfl (.none rfl) rfl rfl (q_move rfl rfl) ?_
        refine p_p rfl rfl (.none rfl) rfl rfl (q_sub rfl rfl rfl (by omega)) ?_
        refine p_q rfl rfl (.none rfl) rfl rfl (q_move rfl rfl) ?_
        refine p_q rfl rfl (.none rfl) rfl rfl (q_move rfl rfl) ?_
        refine p_q rfl rfl (.none rfl) rfl rfl (q_sub rfl rfl rfl (by omega)) ?_
        refine p_q rfl rfl (.none rfl) rfl rfl (q_indexS (q := j) rfl Try.underlying26 sz53 rfl rfl (.own Sel.here) (by rw [List.length_map]; exact hml) (by omega) (by omega)) ?_
        refine p_q rfl rfl (.none rfl) rfl rfl (q_loadE rfl agg53 rfl (.own Sel.here) (by rw [getmap (by omega), Srt.mid_below (by omega)]) rfl) ?_
        refine p_q rfl rfl (.none rfl) rfl rfl (q_move rfl rfl) ?_
        refine p_q rfl rfl (.none rfl) rfl rfl (q_move rfl rfl) ?_
        refine p_q rfl rfl (.none rfl) rfl rfl (q_indexS (q := (j + 1)) rfl Try.underlying26 sz53 rfl rfl (.own Sel.here) (by rw [List.length_map]; exact hml) rfl (by omega)) ?_
        refine p_q rfl rfl (.none rfl) rfl rfl (q_loadE rfl agg53 rfl (.own Sel.here) (by rw [getmap (by omega), Srt.mid_at (by omega)]) rfl) ?_
        refine p_q rfl rfl (.none rfl) rfl rfl (q_indexS (q := (j + 1)) rfl Try.underlying26 sz53 rfl rfl (.own Sel.here) (by rw [List.length_map]; exact hml) rfl (by omega)) ?_
        refine p_t rfl rfl (.none rfl) (h_storeE rfl rfl sz53 rfl rfl rfl rfl rfl Sel.here (by omega)) ?_
        rintro - -
        refine p_t rfl rfl (.none rfl) (.of_q rfl rfl (q_indexS (q := j) rfl Try.underlying26 sz53 rfl rfl (.own Sel.here) (by rw [List.length_set, List.length_map]; exact hml) (by omega) (by omega))) ?_
        rintro - -
        refine p_t rfl rfl (.none rfl) (h_storeE rfl rfl sz53 rfl rfl rfl rfl rfl Sel.here (by omega)) ?_
        rintro - -
        refine p_nil ?_
        refine run_sub (subMk (.cons (s := 0) rfl (.cons (s := 1) rfl (.cons (s := 2) rfl (.cons (s := 3) rfl (.cons (s := 8) rfl (.cons (s := 9) rfl .nil)))))) .refl) ?_
        refine run_blk ?_
        refine run_region ?_
        refine run_q (.none rfl) rfl rfl (q_move rfl rfl) ?_
        refine run_q (.none rfl) rfl rfl (q_sub rfl rfl rfl (by omega)) ?_
        refine run_q (.none rfl) rfl rfl (q_assign rfl rfl) ?_
        refine run_nil ?_
        exact run_again j (by (try dsimp only); exact ⟨by omega, by rw [hpos, Srt.pos_skip (by simpa [ltN] using g34)]⟩) (by (try dsimp only); omega) (subMk (.cons' (s := 9) rfl (vint (by omega)) (.cons (s := 0) rfl (.cons (s := 1) rfl (.cons (s := 2) rfl (.cons (s := 3) rfl (.cons (s := 8) rfl .nil)))))) (.cons Sel.here (.own rfl rfl rfl (by rw [← Srt.mid_swap (j := j) (by omega), List.map_set, List.map_set]; rfl)) .nil))
      · have g34' := g34
        try simp only [decide_eq_true_eq, decide_eq_false_iff_not, beq_iff_eq, beq_eq_false_iff_ne, bne_iff_ne, bne_eq_false_iff_eq, Bool.not_eq_true', Bool.not_eq_false', ne_eq, Int.not_lt, Int.not_le, Decidable.not_not] at g34'
        have hpe : Srt.pos (ltN nm) (Srt.sort (ltN nm) l (i + 1)) (nth l (i + 1)) (i + 1) = j + 1 := by rw [hpos, Srt.pos_stop (by simpa [ltN] using g34)]
        refine run_exit rfl ?_
        refine run_blk ?_
        refine run_region ?_
        refine run_q (.none rfl) rfl rfl (q_move rfl rfl) ?_
        refine run_q (.none rfl) rfl rfl (q_add rfl rfl rfl (by omega)) ?_
        refine run_q (.none rfl) rfl rfl (q_assign rfl rfl) ?_
        refine run_nil ?_
        refine run_sub (subMk (.cons (s := 0) rfl (.cons (s := 1) rfl (.cons (s := 2) rfl (.cons (s := 3) rfl (.cons (s := 8) rfl .nil))))) .refl) ?_
        exact run_again (i + 1) (by (try dsimp only); exact (.inr (by omega))) (by (try dsimp only); omega) (subMk (.cons' (s := 8) rfl (vint (by omega)) (.cons (s := 0) rfl (.cons (s := 1) rfl (.cons (s := 2) rfl (.cons (s := 3) rfl .nil))))) (.cons Sel.here (.own rfl rfl rfl (by rw [Srt.steps_next (by omega) hpe])) .nil))
    · have g21' := g21
      try simp only [decide_eq_true_eq, decide_eq_false_iff_not, beq_iff_eq, beq_eq_false_iff_ne, bne_iff_ne, bne_eq_false_iff_eq, Bool.not_eq_true', Bool.not_eq_false', ne_eq, Int.not_lt, Int.not_le, Decidable.not_not] at g21'
      obtain rfl : j = 0 := by omega
      have hpe : Srt.pos (ltN nm) (Srt.sort (ltN nm) l (i + 1)) (nth l (i + 1)) (i + 1) = 0 := by rw [hpos]; rfl
      refine d_off rfl rfl (.no rfl rfl rfl g21) rfl rfl ?_
      refine d_off rfl rfl (.no rfl rfl rfl g21) rfl rfl ?_
      refine d_off rfl rfl (.no rfl rfl rfl g21) rfl rfl ?_
      refine d_off rfl rfl (.no rfl rfl rfl g21) rfl rfl ?_
      refine d_off rfl rfl (.no rfl rfl rfl g21) rfl rfl ?_
      refine d_off rfl rfl (.no rfl rfl rfl g21) rfl rfl ?_
      refine d_off rfl rfl (.no rfl rfl rfl g21) rfl rfl ?_
      refine d_off rfl rfl (.no rfl rfl rfl g21) rfl rfl ?_
      refine d_off rfl rfl (.no rfl rfl rfl g21) rfl rfl ?_
      refine d_off rfl rfl (.no rfl rfl rfl g21) rfl rfl ?_
      refine d_off rfl rfl (.no rfl rfl rfl g21) rfl rfl ?_
      refine d_off rfl rfl (.no rfl rfl rfl g21) rfl rfl ?_
      refine d_q rfl rfl (.none rfl) rfl rfl (q_pickF rfl rfl g21 rfl) ?_
      refine d_nil ?_
      refine run_sub (subMk (.cons (s := 0) rfl (.cons (s := 1) rfl (.cons (s := 2) rfl (.cons (s := 3) rfl (.cons (s := 8) rfl (.cons (s := 9) rfl (.cons (s := 34) rfl .nil))))))) .refl) ?_
      refine run_condF rfl rfl ?_
      refine run_exit rfl ?_
      refine run_blk ?_
      refine run_region ?_
      refine run_q (.none rfl) rfl rfl (q_move rfl rfl) ?_
      refine run_q (.none rfl) rfl rfl (q_add rfl rfl rfl (by omega)) ?_
      refine run_q (.none rfl) rfl rfl (q_assign rfl rfl) ?_
      refine run_nil ?_
      refine run_sub (subMk (.cons (s := 0) rfl (.cons (s := 1) rfl (.cons (s := 2) rfl (.cons (s := 3) rfl (.cons (s := 8) rfl .nil))))) .refl) ?_
      exact run_again (i + 1) (by (try dsimp only); exact (.inr (by omega))) (by (try dsimp only); omega) (subMk (.cons' (s := 8) rfl (vint (by omega)) (.cons (s := 0) rfl (.cons (s := 1) rfl (.cons (s := 2) rfl (.cons (s := 3) rfl .nil))))) (.cons Sel.here (.own rfl rfl rfl (by rw [Srt.steps_next (by omega) hpe])) .nil))
  · have g14' := g14
    try simp only [decide_eq_true_eq, decide_eq_false_iff_not, beq_iff_eq, beq_eq_false_iff_ne, bne_iff_ne, bne_eq_false_iff_eq, Bool.not_eq_true', Bool.not_eq_false', ne_eq, Int.not_lt, Int.not_le, Decidable.not_not] at g14'
    refine run_exit rfl ?_
    refine run_sub (subMk .nil .refl) ?_
    refine run_sub (subMk .refl (.cons Sel.here .refl .nil)) ?_
    exact end0 rfl ⟨rfl, by rw [Srt.steps_last (by omega)]⟩

theorem sH_none (l : List Hd) (A : Option Addr) (ca : Nat) (W : World) (hm : Mem (atAny [.own 53 5 A l.length ca ((l).map Hd.enc)]) W [.own 53 5 A l.length ca ((l).map Hd.enc)] W) (hl : l.length ≤ 1000000) : Calls Try.prog 82 #[.slice A l.length ca, .int .i64 (l.length : Int), .int .i64 (l.length : Int), .func (.func 60) #[] #[]] W (Ret W (atAny [.own 53 5 A l.length ca ((l).map Hd.enc)]) (fun v m => v = .tuple #[] ∧ m = [.own 53 5 A l.length ca ((l).map Hd.enc)])) := by
  refine enterA (X := _) (vs := [.slice A l.length ca, .int .i64 (l.length : Int), .int .i64 (l.length : Int), .func (.func 60) #[] #[]]) Try.func82 Try.ntmps82 rfl rfl hm ?_
  refine run_seq ?_
  refine run_region ?_
  refine run_q (.none rfl) rfl rfl (q_move rfl rfl) ?_
  refine run_q (.none rfl) rfl rfl (q_add rfl rfl rfl (by omega)) ?_
  refine run_q (.none rfl) rfl rfl (q_assign rfl rfl) ?_
  refine run_nil ?_
  refine run_block ?_
  refine run_sub (subMk (.cons (s := 0) rfl (.cons (s := 1) rfl (.cons (s := 2) rfl (.cons (s := 3) rfl (.cons (s := 8) rfl .nil))))) (.cons Sel.here .refl .nil)) ?_
  refine run_loopC0M0 (ι := Unit) (fun _ => True ∧ True)   (fun _ => 0) () (by (try dsimp only); exact ⟨trivial, trivial⟩)   ?_
  rintro - -
  show Run _ _ _ _ _ _ _ ⟨_, _⟩
  refine run_seq ?_
  refine run_seq ?_
  refine run_region ?_
  refine run_q (.none rfl) rfl rfl (q_move rfl rfl) ?_
  refine run_q (.none rfl) rfl rfl (q_move rfl rfl) ?_
  refine run_q (.none rfl) rfl rfl (q_lss rfl rfl rfl) ?_
  refine run_nil ?_
  refine run_condF rfl (decide_eq_false (by omega)) ?_
  refine run_exit rfl ?_
  refine run_sub (subMk .nil .refl) ?_
  refine run_sub (subMk .refl (.cons Sel.here .refl .nil)) ?_
  exact end0 rfl ⟨rfl, rfl⟩

theorem sH_nones (l : List Hd) (A : Option Addr) (ca : Nat) (W : World) (hm : Mem (atAny [.own 53 5 A l.length ca (((Srt.sort (ltN nm) l l.length)).map Hd.enc)]) W [.own 53 5 A l.length ca (((Srt.sort (ltN nm) l l.length)).map Hd.enc)] W) (hl : l.length ≤ 1000000) :
    Calls Try.prog 82 #[.slice A l.length ca, .int .i64 (l.length : Int), .int .i64 (l.length : Int), .func (.func 60) #[] #[]] W (Ret W (atAny [.own 53 5 A l.length ca (((Srt.sort (ltN nm) l l.length)).map Hd.enc)]) (fun v m => v = .tuple #[] ∧ m = [.own 53 5 A l.length ca (((Srt.sort (ltN nm) l l.length)).map Hd.enc)])) := by
  have h := sH_none (Srt.sort (ltN nm) l l.length) A ca W (by rw [Srt.sort_len]; exact hm) (by rw [Srt.sort_len]; exact hl)
  rw [Srt.sort_len] at h
  exact h

theorem sH_lt (l : List Hd) (A : Option Addr) (ca : Nat) (W : World) (hm : Mem (atAny [.own 53 5 A l.length ca ((l).map Hd.enc)]) W [.own 53 5 A l.length ca ((l).map Hd.enc)] W) (hl : l.length < 20) : Calls Try.prog 78 #[.slice A l.length ca, .int .i64 (l.length : Int), .func (.func 60) #[] #[]] W (Ret W (atAny [.own 53 5 A l.length ca ((l).map Hd.enc)]) (fun v m => v = .tuple #[] ∧ m = [.own 53 5 A l.length ca (((Srt.sort (ltN nm) l l.length)).map Hd.enc)])) := by
  refine enterA (X := _) (vs := [.slice A l.length ca, .int .i64 (l.length : Int), .func (.func 60) #[] #[]]) Try.func78 Try.ntmps78 rfl rfl hm ?_
  refine run_seq ?_
  refine run_region ?_
  refine run_q (.none rfl) rfl rfl (q_assign rfl rfl) ?_
  refine run_nil ?_
  refine run_seq ?_
  refine run_region ?_
  refine run_q (.none rfl) rfl rfl (q_move rfl rfl) ?_
  refine run_q (.none rfl) rfl rfl (q_assign rfl rfl) ?_
  refine run_q (.none rfl) rfl rfl (q_assign rfl rfl) ?_
  refine run_nil ?_
  refine run_seq ?_
  refine run_block ?_
  refine run_sub (subMk (.cons (s := 0) rfl (.cons (s := 1) rfl (.cons (s := 2) rfl (.cons (s := 6) rfl (.cons (s := 7) rfl (.cons (s := 8) rfl .nil)))))) (.cons Sel.here .refl .nil)) ?_
  refine run_loopC0M0 (ι := Unit) (fun _ => True ∧ True)   (fun _ => 0) () (by (try dsimp only); exact ⟨trivial, trivial⟩)   ?_
  rintro - -
  show Run _ _ _ _ _ _ _ ⟨_, _⟩
  refine run_seq ?_
  refine run_seq ?_
  refine run_region ?_
  refine run_q (.none rfl) rfl rfl (q_move rfl rfl) ?_
  refine run_q (.none rfl) rfl rfl (q_move rfl rfl) ?_
  refine run_q (.none rfl) rfl rfl (q_leq rfl rfl rfl) ?_
  refine run_nil ?_
  refine run_condF rfl (decide_eq_false (by omega)) ?_
  refine run_exit rfl ?_
  refine run_sub (subMk (.cons (s := 0) rfl (.cons (s := 1) rfl (.cons (s := 2) rfl (.cons (s := 6) rfl (.cons (s := 7) rfl (.cons (s := 8) rfl .nil)))))) .refl) ?_
  refine run_seq ?_
  refine run_region ?_
  refine run_q (.none rfl) rfl rfl (q_move rfl rfl) ?_
  refine run_q (.none rfl) rfl rfl (q_move rfl rfl) ?_
  refine run_q (.none rfl) rfl rfl (q_move rfl rfl) ?_
  refine run_q (.none rfl) rfl rfl (q_move rfl rfl) ?_
  refine run_h (.none rfl) (h_callX [_] _ rfl rfl rfl call82 (.cons rfl (.cons rfl (.cons rfl (.cons rfl Evs.nil)))) (Sel.perm Sel.here) (Y := fun _ => atAny [_]) (fun _ _ h => h) (fun w hk hm => sH_ins l A ca w ((hm.perm (Sel.perm Sel.here)).give (rs := [_])) (by omega))) ?_
  rintro ⟨v, m⟩ ⟨rfl, rfl⟩
  show Run _ _ _ _ _ _ _ ⟨(27, .tuple #[]) :: _, _ :: _⟩
  refine run_nil ?_
  refine run_sub (subMk (.cons (s := 0) rfl (.cons (s := 1) rfl (.cons (s := 2) rfl (.cons (s := 6) rfl (.cons (s := 7) rfl (.cons (s := 8) rfl .nil)))))) .refl) ?_
  refine run_block ?_
  refine run_sub (subMk (.cons (s := 0) rfl (.cons (s := 1) rfl (.cons (s := 2) rfl (.cons (s := 6) rfl (.cons (s := 7) rfl (.cons (s := 8) rfl .nil)))))) (.cons Sel.here .refl .nil)) ?_
  refine run_loopC0M0 (ι := Unit) (fun _ => True ∧ True)   (fun _ => 0) () (by (try dsimp only); exact ⟨trivial, trivial⟩)   ?_
  rintro - -
  show Run _ _ _ _ _ _ _ ⟨_, _⟩
  refine run_seq ?_
  refine run_seq ?_
  refine run_region ?_
  refine run_q (.none rfl) rfl rfl (q_move rfl rfl) ?_
  refine run_q (.none rfl) rfl rfl (q_move rfl rfl) ?_
  refine run_q (.none rfl) rfl rfl (q_lss rfl rfl rfl) ?_
  refine run_nil ?_
  refine run_condF rfl (decide_eq_false (by omega)) ?_
  refine run_exit rfl ?_
  refine run_sub (subMk .nil .refl) ?_
  refine run_sub (subMk .refl (.cons Sel.here .refl .nil)) ?_
  exact end0 rfl ⟨rfl, rfl⟩

theorem sH_20 (l : List Hd) (A : Option Addr) (ca : Nat) (W : World) (hm : Mem (atAny [.own 53 5 A l.length ca ((l).map Hd.enc)]) W [.own 53 5 A l.length ca ((l).map Hd.enc)] W) (hl : l.length = 20) : Calls Try.prog 78 #[.slice A l.length ca, .int .i64 (l.length : Int), .func (.func 60) #[] #[]] W (Ret W (atAny [.own 53 5 A l.length ca ((l).map Hd.enc)]) (fun v m => v = .tuple #[] ∧ m = [.own 53 5 A l.length ca (((Srt.sort (ltN nm) l l.length)).map Hd.enc)])) := by
  refine enterA (X := _) (vs := [.slice A l.length ca, .int .i64 (l.length : Int), .func (.func 60) #[] #[]]) Try.func78 Try.ntmps78 rfl rfl hm ?_
  refine run_seq ?_
  refine run_region ?_
  refine run_q (.none rfl) rfl rfl (q_assign rfl rfl) ?_
  refine run_nil ?_
  refine run_seq ?_
  refine run_region ?_
  refine run_q (.none rfl) rfl rfl (q_move rfl rfl) ?_
  refine run_q (.none rfl) rfl rfl (q_assign rfl rfl) ?_
  refine run_q (.none rfl) rfl rfl (q_assign rfl rfl) ?_
  refine run_nil ?_
  refine run_seq ?_
  refine run_block ?_
  refine run_sub (subMk (.cons (s := 7) rfl (.cons (s := 8) rfl (.cons (s := 0) rfl (.cons (s := 1) rfl (.cons (s := 2) rfl (.cons (s := 6) rfl .nil)))))) (.cons Sel.here .refl .nil)) ?_
  refine run_loopC2M1 (ι := Nat) (fun i => i ≤ 1) (fun i => .int .i64 ((i : Int) * 20)) (fun i => .int .i64 ((i : Int) * 20 + 20)) (fun i => .own 53 5 A l.length ca ((if i = 0 then l else (Srt.sort (ltN nm) l l.length)).map Hd.enc)) (fun i => 2 - i) 0 (by (try dsimp only); exact (by omega)) (vint (by (try dsimp only); omega)) (vint (by (try dsimp only); omega)) .refl ?_
  rintro i hi
  (try dsimp only at hi)
  show Run _ _ _ _ _ _ _ ⟨(7, .int .i64 ((i : Int) * 20)) :: (8, .int .i64 ((i : Int) * 20 + 20)) :: _, .own 53 5 A l.length ca ((if i = 0 then l else (Srt.sort (ltN nm) l l.length)).map Hd.enc) :: _⟩
  refine run_seq ?_
  refine run_seq ?_
  refine run_region ?_
  refine run_q (.none rfl) rfl rfl (q_move rfl rfl) ?_
  refine run_q (.none rfl) rfl rfl (q_move rfl rfl) ?_
  refine run_q (.none rfl) rfl rfl (q_leq rfl rfl rfl) ?_
  refine run_nil ?_
  refine run_cond rfl (fun g13 => ?_) (fun g13 => ?_)
  · have g13' := g13
    try simp only [decide_eq_true_eq, decide_eq_false_iff_not, beq_iff_eq, beq_eq_false_iff_ne, bne_iff_ne, bne_eq_false_iff_eq, Bool.not_eq_true', Bool.not_eq_false', ne_eq, Int.not_lt, Int.not_le, Decidable.not_not] at g13'
    obtain rfl : i = 0 := by omega
    refine run_skip ?_
    refine run_block ?_
    refine run_seq ?_
    refine run_sub (subMk (.cons' (s := 7) (v' := .int .i64 0) rfl (vint (by omega)) (.cons' (s := 8) (v' := .int .i64 (l.length : Int)) rfl (vint (by omega)) (.cons (s := 0) rfl (.cons (s := 1) rfl (.cons (s := 2) rfl (.cons (s := 6) rfl (.cons (s := 11) rfl (.cons (s := 12) rfl (.cons (s := 13) rfl .nil))))))))) .refl) ?_
    refine run_region ?_
    refine run_q (.none rfl) rfl rfl (q_move rfl rfl) ?_
    refine run_q (.none rfl) rfl rfl (q_move rfl rfl) ?_
    refine run_q (.none rfl) rfl rfl (q_move rfl rfl) ?_
    refine run_q (.none rfl) rfl rfl (q_move rfl rfl) ?_
    refine run_h (.none rfl) (h_callX [_] _ rfl rfl rfl call82 (.cons rfl (.cons rfl (.cons rfl (.cons rfl Evs.nil)))) (Sel.perm Sel.here) (Y := fun _ => atAny [_]) (fun _ _ h => h) (fun w hk hm => sH_ins l A ca w ((hm.perm (Sel.perm Sel.here)).give (rs := [_])) (by omega))) ?_
    rintro ⟨v, m⟩ ⟨rfl, rfl⟩
    show Run _ _ _ _ _ _ _ ⟨(18, .tuple #[]) :: _, _ :: _⟩
    refine run_nil ?_
    refine run_sub (subMk (.cons (s := 0) rfl (.cons (s := 1) rfl (.cons (s := 2) rfl (.cons (s := 6) rfl (.cons (s := 7) rfl (.cons (s := 8) rfl .nil)))))) .refl) ?_
    refine run_seq ?_
    refine run_region ?_
    refine run_q (.none rfl) rfl rfl (q_move rfl rfl) ?_
    refine run_q (.none rfl) rfl rfl (q_assign rfl rfl) ?_
    refine run_nil ?_
    refine run_region ?_
    refine run_q (.none rfl) rfl rfl (q_move rfl rfl) ?_
    refine run_q (.none rfl) rfl rfl (q_move rfl rfl) ?_
    refine run_q (.none rfl) rfl rfl (q_add rfl rfl rfl (by omega)) ?_
    refine run_q (.none rfl) rfl rfl (q_assign rfl rfl) ?_
    refine run_nil ?_
    refine run_sub (subMk (.cons (s := 0) rfl (.cons (s := 1) rfl (.cons (s := 2) rfl (.cons (s := 6) rfl (.cons (s := 7) rfl (.cons (s := 8) rfl .nil)))))) .refl) ?_
    refine run_blk ?_
    exact run_again 1 (by (try dsimp only); exact (by omega)) (by (try dsimp only); omega) (subMk (.cons' (s := 7) rfl (vint (by omega)) (.cons' (s := 8) rfl (vint (by omega)) (.cons (s := 0) rfl (.cons (s := 1) rfl (.cons (s := 2) rfl (.cons (s := 6) rfl .nil)))))) (.cons Sel.here .refl .nil))
  · have g13' := g13
    try simp only [decide_eq_true_eq, decide_eq_false_iff_not, beq_iff_eq, beq_eq_false_iff_ne, bne_iff_ne, bne_eq_false_iff_eq, Bool.not_eq_true', Bool.not_eq_false', ne_eq, Int.not_lt, Int.not_le, Decidable.not_not] at g13'
    obtain rfl : i = 1 := by omega
    refine run_exit rfl ?_
    refine run_sub (subMk (.cons (s := 0) rfl (.cons (s := 1) rfl (.cons (s := 2) rfl (.cons (s := 6) rfl (.cons (s := 7) rfl (.cons (s := 8) rfl .nil)))))) .refl) ?_
    refine run_seq ?_
    refine run_sub (subMk (.cons (s := 0) rfl (.cons (s := 1) rfl (.cons (s := 2) rfl (.cons (s := 6) rfl (.cons' (s := 7) (v' := .int .i64 (l.length : Int)) rfl (vint (by omega)) (.cons (s := 8) rfl .nil)))))) .refl) ?_
    refine run_region ?_
    refine run_q (.none rfl) rfl rfl (q_move rfl rfl) ?_
    refine run_q (.none rfl) rfl rfl (q_move rfl rfl) ?_
    refine run_q (.none rfl) rfl rfl (q_move rfl rfl) ?_
    refine run_q (.none rfl) rfl rfl (q_move rfl rfl) ?_
    refine run_h (.none rfl) (h_callX [_] _ rfl rfl rfl call82 (.cons rfl (.cons rfl (.cons rfl (.cons rfl Evs.nil)))) (Sel.perm Sel.here) (Y := fun _ => atAny [_]) (fun _ _ h => h) (fun w hk hm => sH_nones l A ca w ((hm.perm (Sel.perm Sel.here)).give (rs := [_])) (by omega))) ?_
    rintro ⟨v, m⟩ ⟨rfl, rfl⟩
    show Run _ _ _ _ _ _ _ ⟨(27, .tuple #[]) :: _, _ :: _⟩
    refine run_nil ?_
    refine run_sub (subMk (.cons (s := 0) rfl (.cons (s := 1) rfl (.cons (s := 2) rfl (.cons (s := 6) rfl (.cons (s := 7) rfl (.cons (s := 8) rfl .nil)))))) .refl) ?_
    refine run_block ?_
    refine run_sub (subMk (.cons (s := 0) rfl (.cons (s := 1) rfl (.cons (s := 2) rfl (.cons (s := 6) rfl (.cons (s := 7) rfl (.cons (s := 8) rfl .nil)))))) (.cons Sel.here .refl .nil)) ?_
    refine run_loopC0M0 (ι := Unit) (fun _ => True ∧ True)   (fun _ => 0) () (by (try dsimp only); exact ⟨trivial, trivial⟩)   ?_
    rintro - -
    show Run _ _ _ _ _ _ _ ⟨_, _⟩
    refine run_seq ?_
    refine run_seq ?_
    refine run_region ?_
    refine run_q (.none rfl) rfl rfl (q_move rfl rfl) ?_
    refine run_q (.none rfl) rfl rfl (q_move rfl rfl) ?_
    refine run_q (.none rfl) rfl rfl (q_lss rfl rfl rfl) ?_
    refine run_nil ?_
    refine run_condF rfl (decide_eq_false (by omega)) ?_
    refine run_exit rfl ?_
    refine run_sub (subMk .nil .refl) ?_
    refine run_sub (subMk .refl (.cons Sel.here .refl .nil)) ?_
    exact end0 rfl ⟨rfl, rfl⟩

theorem sH_stable (l : List Hd) (A : Option Addr) (ca : Nat) (W : World) (hm : Mem (atAny [.own 53 5 A l.length ca ((l).map Hd.enc)]) W [.own 53 5 A l.length ca ((l).map Hd.enc)] W) (hl : l.length ≤ 20) : Calls Try.prog 78 #[.slice A l.length ca, .int .i64 (l.length : Int), .func (.func 60) #[] #[]] W (Ret W (atAny [.own 53 5 A l.length ca ((l).map Hd.enc)]) (fun v m => v = .tuple #[] ∧ m = [.own 53 5 A l.length ca (((Srt.sort (ltN nm) l l.length)).map Hd.enc)])) := by
  by_cases h : l.length = 20
  · exact sH_20 l A ca W hm h
  · exact sH_lt l A ca W hm (by omega)

theorem sH_sort (l : List Hd) (A : Option Addr) (ca : Nat) (W : World) (hm : Mem (atAny [.own 53 5 A l.length ca ((l).map Hd.enc)]) W [.own 53 5 A l.length ca ((l).map Hd.enc)] W) (hl : l.length ≤ 20) : Calls Try.prog 59 #[.slice A l.length ca, .func (.func 60) #[] #[]] W (Ret W (atAny [.own 53 5 A l.length ca ((l).map Hd.enc)]) (fun v m => v = .tuple #[] ∧ m = [.own 53 5 A l.length ca (((Srt.sort (ltN nm) l l.length)).map Hd.enc)])) := by
  refine enterA (X := _) (vs := [.slice A l.length ca, .func (.func 60) #[] #[]]) Try.func59 Try.ntmps59 rfl rfl hm ?_
  refine run_region ?_
  refine run_q (.none rfl) rfl rfl (q_move rfl rfl) ?_
  refine run_q (.none rfl) rfl rfl (q_move rfl rfl) ?_
  refine run_q (.none rfl) rfl rfl (q_len rfl Try.underlying26 rfl) ?_
  refine run_q (.none rfl) rfl rfl (q_move rfl rfl) ?_
  refine run_h (.none rfl) (h_callX [_] _ rfl rfl rfl call78 (.cons rfl (.cons rfl (.cons rfl Evs.nil))) (Sel.perm Sel.here) (Y := fun _ => atAny [_]) (fun _ _ h => h) (fun w hk hm => sH_stable l A ca w ((hm.perm (Sel.perm Sel.here)).give (rs := [_])) hl)) ?_
  rintro ⟨v, m⟩ ⟨rfl, rfl⟩
  show Run _ _ _ _ _ _ _ ⟨(8, .tuple #[]) :: _, _ :: _⟩
  refine run_nil ?_
  refine run_sub (subMk .nil .refl) ?_
  refine run_sub (subMk .refl (.cons Sel.here .refl .nil)) ?_
  exact end0 rfl ⟨rfl, rfl⟩

set_option maxHeartbeats 1000000 in
set_option maxRecDepth 100000 in
theorem cptH (l : List Hd) (A : Option Addr) (ca : Nat) (W : World) (hm : Mem (atAny [.own 53 5 A l.length ca ((l).map Hd.enc)]) W [.own 53 5 A l.length ca ((l).map Hd.enc)] W) (hl : l.length ≤ 1000000) : Calls Try.prog 61 #[.slice A l.length ca, .func (.func 62) #[] #[]] W (Ret W (atAny [.own 53 5 A l.length ca ((l).map Hd.enc)]) (fun v m => v = .slice A (cpt likeH l l.length).length ca ∧ m = [.own 53 5 A (cpt likeH l l.length).length ca (((cpt likeH l l.length)).map Hd.enc)])) := by
  refine enterA (X := _) (vs := [.slice A l.length ca, .func (.func 62) #[] #[]]) Try.func61 Try.ntmps61 rfl rfl hm ?_
  refine run_seq ?_
  refine run_region ?_
  refine run_q (.none rfl) rfl rfl (q_assign rfl rfl) ?_
  refine run_nil ?_
  refine run_seq ?_
  refine run_seq ?_
  refine run_region ?_
  refine run_q (.none rfl) rfl rfl (q_move rfl rfl) ?_
  refine run_q (.none rfl) rfl rfl (q_len rfl Try.underlying26 rfl) ?_
  refine run_q (.none rfl) rfl rfl (q_lss rfl rfl rfl) ?_
  refine run_nil ?_
  refine run_cond rfl (fun g10 => ?_) (fun g10 => ?_)
  · have g10' := g10
    try simp only [decide_eq_true_eq, decide_eq_false_iff_not, beq_iff_eq, beq_eq_false_iff_ne, bne_iff_ne, bne_eq_false_iff_eq, Bool.not_eq_true', Bool.not_eq_false', ne_eq, Int.not_lt, Int.not_le, Decidable.not_not] at g10'
    refine run_seq ?_
    refine run_region ?_
    refine run_q (.none rfl) rfl rfl (q_move rfl rfl) ?_
    refine run_q (.none rfl) rfl rfl (q_assign rfl rfl) ?_
    refine run_nil ?_
    refine run_sub (subMk (.cons (s := 0) rfl (.cons (s := 1) rfl (.cons (s := 4) rfl .nil))) .refl) ?_
    refine run_ret ?_
    refine run_sub (subMk .refl (.cons Sel.here .refl .nil)) ?_
    exact end1 rfl rfl ⟨by rw [cpt_small (by omega)], by rw [cpt_small (by omega)]⟩
  · have g10' := g10
    try simp only [decide_eq_true_eq, decide_eq_false_iff_not, beq_iff_eq, beq_eq_false_iff_ne, bne_iff_ne, bne_eq_false_iff_eq, Bool.not_eq_true', Bool.not_eq_false', ne_eq, Int.not_lt, Int.not_le, Decidable.not_not] at g10'
    refine run_skip ?_
    refine run_seq ?_
    refine run_seq ?_
    refine run_ownLe Sel.here (fun hle => ?_)
    refine run_region ?_
    refine run_q (.none rfl) rfl rfl (q_assign rfl rfl) ?_
    refine run_nil ?_
    refine run_sub (subMk (.cons (s := 0) rfl (.cons (s := 1) rfl (.cons (s := 4) rfl (.cons (s := 5) rfl .nil)))) .refl) ?_
    refine run_block ?_
    refine run_sub (subMk (.cons (s := 5) rfl (.cons (s := 0) rfl (.cons (s := 1) rfl (.cons (s := 4) rfl .nil)))) (.cons Sel.here .refl .nil)) ?_
    refine run_loopC1M0 (ι := Nat) (fun k => (1 ≤ k ∧ k ≤ l.length) ∧ (cpt likeH l k) = l.take k) (fun k => .int .i64 (k : Int))  (fun k => l.length - k) 1 (by (try dsimp only); exact ⟨by omega, by rw [cpt_in (.inl rfl), take_nth (by omega)]; rfl⟩) rfl  ?_
    rintro k hq
    (try dsimp only at hq)
    obtain ⟨hk, hC⟩ := hq
    show Run _ _ _ _ _ _ _ ⟨(5, .int .i64 (k : Int)) :: _, _⟩
    refine run_seq ?_
    refine run_seq ?_
    refine run_region ?_
    refine run_q (.none rfl) rfl rfl (q_move rfl rfl) ?_
    refine run_q (.none rfl) rfl rfl (q_move rfl rfl) ?_
    refine run_q (.none rfl) rfl rfl (q_len rfl Try.underlying26 rfl) ?_
    refine run_q (.none rfl) rfl rfl (q_lss rfl rfl rfl) ?_
    refine run_nil ?_
    refine run_sub (subMk (.cons (s := 0) rfl (.cons (s := 1) rfl (.cons (s := 4) rfl (.cons (s := 5) rfl (.cons (s := 15) rfl .nil))))) .refl) ?_
    refine run_cond rfl (fun g15 => ?_) (fun g15 => ?_)
    · have g15' := g15
      try simp only [decide_eq_true_eq, decide_eq_false_iff_not, beq_iff_eq, beq_eq_false_iff_ne, bne_iff_ne, bne_eq_false_iff_eq, Bool.not_eq_true', Bool.not_eq_false', ne_eq, Int.not_lt, Int.not_le, Decidable.not_not] at g15'
      refine run_skip ?_
      refine run_seq ?_
      refine run_block ?_
      refine run_seq ?_
      refine run_draw [(0, 0), (1, 0), (2, 0), (3, 0), (4, 0), (5, 0), (6, 0), (7, 0), (8, 0), (9, 0), (10, 0)] mixed (by kernel_rfl) .refl ?_
      refine d_q rfl rfl (.none rfl) rfl rfl (q_move rfl rfl) ?_
      refine d_q rfl rfl (.none rfl) rfl rfl (q_move rfl rfl) ?_
      refine d_q rfl rfl (.none rfl) rfl rfl (q_move rfl rfl) ?_
      refine d_q rfl rfl (.none rfl) rfl rfl (q_indexS (q := k) rfl Try.underlying26 sz53 rfl rfl (.own Sel.here) (by simp <;> omega) rfl (by omega)) ?_
      refine d_q rfl rfl (.none rfl) rfl rfl (q_loadE rfl agg53 rfl (.own Sel.here) (getmap (by omega)) rfl) ?_
      refine d_q rfl rfl (.none rfl) rfl rfl (q_move rfl rfl) ?_
      refine d_q rfl rfl (.none rfl) rfl rfl (q_move rfl rfl) ?_
      refine d_q rfl rfl (.none rfl) rfl rfl (q_sub rfl rfl rfl (by omega)) ?_
      refine d_q rfl rfl (.none rfl) rfl rfl (q_indexS (q := (k - 1)) rfl Try.underlying26 sz53 rfl rfl (.own Sel.here) (by simp <;> omega) (by omega) (by omega)) ?_
      refine d_q rfl rfl (.none rfl) rfl rfl (q_loadE rfl agg53 rfl (.own Sel.here) (getmap (by omega)) rfl) ?_
      refine d_q rfl rfl (.none rfl) rfl rfl (q_callv rfl rfl call62 (.cons rfl (.cons rfl Evs.nil)) (fun w hk hm => likeH_just (nth l k) (nth l (k - 1)) w)) ?_
      refine d_nil ?_
      refine run_sub (subMk (.cons (s := 0) rfl (.cons (s := 1) rfl (.cons (s := 4) rfl (.cons (s := 5) rfl (.cons (s := 28) rfl .nil))))) .refl) ?_
      refine run_cond rfl (fun g28 => ?_) (fun g28 => ?_)
      · have g28' := g28
        try simp only [decide_eq_true_eq, decide_eq_false_iff_not, beq_iff_eq, beq_eq_false_iff_ne, bne_iff_ne, bne_eq_false_iff_eq, Bool.not_eq_true', Bool.not_eq_false', ne_eq, Int.not_lt, Int.not_le, Decidable.not_not] at g28'
        have hrk : likeH (nth l k) (nth l (k - 1)) = true := g28
        refine run_seq ?_
        refine run_region ?_
        refine run_q (.none rfl) rfl rfl (q_move rfl rfl) ?_
        refine run_q (.none rfl) rfl rfl (q_move rfl rfl) ?_
        refine run_q (.none rfl) rfl rfl (q_sliceL rfl Try.underlying26 sz53 rfl rfl (by omega)) ?_
        refine run_q (.none rfl) rfl rfl (q_assign rfl rfl) ?_
        refine run_nil ?_
        refine run_sub (subMk (.cons (s := 0) rfl (.cons (s := 1) rfl (.cons (s := 4) rfl (.cons (s := 5) rfl (.cons (s := 6) rfl .nil))))) .refl) ?_
        refine run_seq ?_
        refine run_seq ?_
        refine run_sub (subMk (.cons (s := 0) rfl (.cons (s := 1) rfl (.cons (s := 4) rfl (.cons (s := 5) rfl (.cons' (s := 6) (v' := .slice (cutA A k ca 5) (l.length - k) (ca - k)) rfl (by rw [Int.toNat_natCast]) .nil))))) .refl) ?_
        refine run_region ?_
        refine run_q (.none rfl) rfl rfl (q_assign rfl rfl) ?_
        refine run_nil ?_
        refine run_block ?_
        refine run_sub (subMk (.cons (s := 7) rfl (.cons (s := 5) rfl (.cons (s := 0) rfl (.cons (s := 1) rfl (.cons (s := 4) rfl (.cons (s := 6) rfl .nil)))))) (.cons Sel.here .refl .nil)) ?_
        refine run_loopC2M1 (ι := Nat × (List Hd)) (fun gg => 1 ≤ gg.1 ∧ k + gg.1 ≤ l.length ∧ (cpt likeH l (k + gg.1)).length + gg.2.length = k + gg.1 - 1) (fun gg => .int .i64 (gg.1 : Int)) (fun gg => .int .i64 ((cpt likeH l (k + gg.1)).length : Int)) (fun gg => .own 53 5 A l.length ca ((rowC likeH l gg.2 (k + gg.1)).map Hd.enc)) (fun gg => l.length - gg.1) (1, []) (by (try dsimp only); exact ⟨by omega, by omega, by rw [cpt_out (by omega) hrk, hC]; simp; omega⟩) rfl (vint (by rw [cpt_out (by omega) hrk, hC]; simp; omega)) (.own rfl rfl rfl (by rw [rowC_zero hC (by omega) hrk])) ?_
        rintro ⟨j, M⟩ hq
        (try dsimp only at hq)
        obtain ⟨hj1, hj, hM⟩ := hq
        show Run _ _ _ _ _ _ _ ⟨(7, .int .i64 (j : Int)) :: (5, .int .i64 ((cpt likeH l (k + j)).length : Int)) :: _, .own 53 5 A l.length ca ((rowC likeH l M (k + j)).map Hd.enc) :: _⟩
        refine run_seq ?_
        refine run_seq ?_
        refine run_region ?_
        refine run_q (.none rfl) rfl rfl (q_move rfl rfl) ?_
        refine run_q (.none rfl) rfl rfl (q_move rfl rfl) ?_
        refine run_q (.none rfl) rfl rfl (q_len rfl Try.underlying26 rfl) ?_
        refine run_q (.none rfl) rfl rfl (q_lss rfl rfl rfl) ?_
        refine run_nil ?_
        refine run_sub (subMk (.cons (s := 0) rfl (.cons (s := 1) rfl (.cons (s := 4) rfl (.cons (s := 5) rfl (.cons (s := 6) rfl (.cons (s := 7) rfl (.cons (s := 35) rfl .nil))))))) .refl) ?_
        refine run_cond rfl (fun g35 => ?_) (fun g35 => ?_)
        · have g35' := g35
          try simp only [decide_eq_true_eq, decide_eq_false_iff_not, beq_iff_eq, beq_eq_false_iff_ne, bne_iff_ne, bne_eq_false_iff_eq, Bool.not_eq_true', Bool.not_eq_false', ne_eq, Int.not_lt, Int.not_le, Decidable.not_not] at g35'
          refine run_skip ?_
          refine run_seq ?_
          refine run_block ?_
          refine run_seq ?_
          refine run_draw [(0, 0), (1, 0), (2, 0), (3, 0), (4, 0), (5, 0), (6, 0), (7, 0), (8, 0), (9, 0), (10, 0), (11, 0)] mixed (by kernel_rfl) .refl ?_
          refine d_q rfl rfl (.none rfl) rfl rfl (q_move rfl rfl) ?_
          refine d_q rfl rfl (.none rfl) rfl rfl (q_move rfl rfl) ?_
          refine d_q rfl rfl (.none rfl) rfl rfl (q_move rfl rfl) ?_
          refine d_q rfl rfl (.none rfl) rfl rfl (q_indexS (q := j) rfl Try.underlying26 sz53 rfl rfl ((RdS.own Sel.here).cut (by rw [List.length_map, rowC_len (by omega) (by omega) hM]; exact hle)) (by rw [List.length_drop, List.length_map, rowC_len (by omega) (by omega) hM]) rfl (by omega)) ?_
          refine d_q rfl rfl (.none rfl) rfl rfl (q_loadE rfl agg53 rfl ((RdS.own Sel.here).cut (by rw [List.length_map, rowC_len (by omega) (by omega) hM]; exact hle)) (by rw [drop_get (by rw [rowC_len (by omega) (by omega) hM]; omega), rowC_nth (by omega) hM (by omega)]) rfl) ?_
          refine d_q rfl rfl (.none rfl) rfl rfl (q_move rfl rfl) ?_
          refine d_q rfl rfl (.none rfl) rfl rfl (q_move rfl rfl) ?_
          refine d_q rfl rfl (.none rfl) rfl rfl (q_sub rfl rfl rfl (by omega)) ?_
          refine d_q rfl rfl (.none rfl) rfl rfl (q_indexS (q := (j - 1)) rfl Try.underlying26 sz53 rfl rfl ((RdS.own Sel.here).cut (by rw [List.length_map, rowC_len (by omega) (by omega) hM]; exact hle)) (by rw [List.length_drop, List.length_map, rowC_len (by omega) (by omega) hM]) (by omega) (by omega)) ?_
          refine d_q rfl rfl (.none rfl) rfl rfl (q_loadE rfl agg53 rfl ((RdS.own Sel.here).cut (by rw [List.length_map, rowC_len (by omega) (by omega) hM]; exact hle)) (by rw [drop_get (by rw [rowC_len (by omega) (by omega) hM]; omega), rowC_nth (by omega) hM (by omega), show k + (j - 1) = k + j - 1 from by omega]) rfl) ?_
          refine d_q rfl rfl (.none rfl) rfl rfl (q_callv rfl rfl call62 (.cons rfl (.cons rfl Evs.nil)) (fun w hk hm => likeH_just (nth l (k + j)) (nth l (k + j - 1)) w)) ?_
          refine d_q rfl rfl (.none rfl) rfl rfl (q_not rfl rfl) ?_
          refine d_nil ?_
          refine run_sub (subMk (.cons (s := 0) rfl (.cons (s := 1) rfl (.cons (s := 4) rfl (.cons (s := 5) rfl (.cons (s := 6) rfl (.cons (s := 7) rfl (.cons (s := 49) rfl .nil))))))) .refl) ?_
          refine run_cond rfl (fun g49 => ?_) (fun g49 => ?_)
          · have g49' := g49
            try simp only [decide_eq_true_eq, decide_eq_false_iff_not, beq_iff_eq, beq_eq_false_iff_ne, bne_iff_ne, bne_eq_false_iff_eq, Bool.not_eq_true', Bool.not_eq_false', ne_eq, Int.not_lt, Int.not_le, Decidable.not_not] at g49'
            have hrj : likeH (nth l (k + j)) (nth l (k + j - 1)) = false := not_t g49
            refine run_seq ?_
            refine run_region ?_
            refine run_q (.none rfl) rfl rfl (q_move rfl rfl) ?_
            refine run_q (.none rfl) rfl rfl (q_move rfl rfl) ?_
            refine run_q (.none rfl) rfl rfl (q_move rfl rfl) ?_
            refine run_q (.none rfl) rfl rfl (q_move rfl rfl) ?_
            refine run_q (.none rfl) rfl rfl (q_indexS (q := j) rfl Try.underlying26 sz53 rfl rfl ((RdS.own Sel.here).cut (by rw [List.length_map, rowC_len (by omega) (by omega) hM]; exact hle)) (by rw [List.length_drop, List.length_map, rowC_len (by omega) (by omega) hM]) rfl (by omega)) ?_
            refine run_q (.none rfl) rfl rfl (q_loadE rfl agg53 rfl ((RdS.own Sel.here).cut (by rw [List.length_map, rowC_len (by omega) (by omega) hM]; exact hle)) (by rw [drop_get (by rw [rowC_len (by omega) (by omega) hM]; omega), rowC_nth (by omega) hM (by omega)]) rfl) ?_
            refine run_q (.none rfl) rfl rfl (q_indexS (q := (cpt likeH l (k + j)).length) rfl Try.underlying26 sz53 rfl rfl (.own Sel.here) (by rw [List.length_map, rowC_len (by omega) (by omega) hM]) rfl (by omega)) ?_
            refine run_h (.none rfl) (h_storeE rfl rfl sz53 rfl rfl rfl rfl rfl Sel.here (by omega)) ?_
            rintro - -
            refine run_nil ?_
            refine run_sub (subMk (.cons (s := 0) rfl (.cons (s := 1) rfl (.cons (s := 4) rfl (.cons (s := 5) rfl (.cons (s := 6) rfl (.cons (s := 7) rfl .nil)))))) .refl) ?_
            refine run_region ?_
            refine run_q (.none rfl) rfl rfl (q_move rfl rfl) ?_
            refine run_q (.none rfl) rfl rfl (q_add rfl rfl rfl (by omega)) ?_
            refine run_q (.none rfl) rfl rfl (q_assign rfl rfl) ?_
            refine run_nil ?_
            refine run_blk ?_
            refine run_region ?_
            refine run_q (.none rfl) rfl rfl (q_move rfl rfl) ?_
            refine run_q (.none rfl) rfl rfl (q_add rfl rfl rfl (by omega)) ?_
            refine run_q (.none rfl) rfl rfl (q_assign rfl rfl) ?_
            refine run_nil ?_
            refine run_sub (subMk (.cons (s := 0) rfl (.cons (s := 1) rfl (.cons (s := 4) rfl (.cons (s := 5) rfl (.cons (s := 6) rfl (.cons (s := 7) rfl .nil)))))) .refl) ?_
            exact run_again (j + 1, (M ++ [nth l (k + j - 1)]).tail) (by (try dsimp only); exact ⟨by omega, by omega, by rw [← Nat.add_assoc, cpt_in (.inr hrj)]; simp; omega⟩) (by (try dsimp only); omega) (subMk (.cons' (s := 7) rfl (vint (by omega)) (.cons' (s := 5) rfl (vint (by rw [← Nat.add_assoc, cpt_in (.inr hrj)]; simp)) (.cons (s := 0) rfl (.cons (s := 1) rfl (.cons (s := 4) rfl (.cons (s := 6) rfl .nil)))))) (.cons Sel.here (.own rfl rfl rfl (by rw [← Nat.add_assoc, ← rowC_in (by omega) (by omega) hrj, List.map_set]; rfl)) .nil))
          · have g49' := g49
            try simp only [decide_eq_true_eq, decide_eq_false_iff_not, beq_iff_eq, beq_eq_false_iff_ne, bne_iff_ne, bne_eq_false_iff_eq, Bool.not_eq_true', Bool.not_eq_false', ne_eq, Int.not_lt, Int.not_le, Decidable.not_not] at g49'
            have hrj : likeH (nth l (k + j)) (nth l (k + j - 1)) = true := not_f g49
            refine run_skip ?_
            refine run_blk ?_
            refine run_region ?_
            refine run_q (.none rfl) rfl rfl (q_move rfl rfl) ?_
            refine run_q (.none rfl) rfl rfl (q_add rfl rfl rfl (by omega)) ?_
            refine run_q (.none rfl) rfl rfl (q_assign rfl rfl) ?_
            refine run_nil ?_
            refine run_sub (subMk (.cons (s := 0) rfl (.cons (s := 1) rfl (.cons (s := 4) rfl (.cons (s := 5) rfl (.cons (s := 6) rfl (.cons (s := 7) rfl .nil)))))) .refl) ?_
            exact run_again (j + 1, M ++ [nth l (k + j - 1)]) (by (try dsimp only); exact ⟨by omega, by omega, by rw [← Nat.add_assoc, cpt_out (by omega) hrj]; simp; omega⟩) (by (try dsimp only); omega) (subMk (.cons' (s := 7) rfl (vint (by omega)) (.cons' (s := 5) rfl (vint (by rw [← Nat.add_assoc, cpt_out (by omega) hrj])) (.cons (s := 0) rfl (.cons (s := 1) rfl (.cons (s := 4) rfl (.cons (s := 6) rfl .nil)))))) (.cons Sel.here (.own rfl rfl rfl (by rw [← Nat.add_assoc, ← rowC_out (by omega) (by omega) hrj])) .nil))
        · have g35' := g35
          try simp only [decide_eq_true_eq, decide_eq_false_iff_not, beq_iff_eq, beq_eq_false_iff_ne, bne_iff_ne, bne_eq_false_iff_eq, Bool.not_eq_true', Bool.not_eq_false', ne_eq, Int.not_lt, Int.not_le, Decidable.not_not] at g35'
          refine run_exit rfl ?_
          refine run_sub (subMk (.cons (s := 0) rfl (.cons (s := 1) rfl (.cons (s := 4) rfl (.cons (s := 5) rfl .nil)))) .refl) ?_
          refine run_seq ?_
          refine run_region ?_
          refine run_q (.none rfl) rfl rfl (q_move rfl rfl) ?_
          refine run_q (.none rfl) rfl rfl (q_move rfl rfl) ?_
          refine run_q (.none rfl) rfl rfl (q_sliceL rfl Try.underlying26 sz53 rfl rfl (by omega)) ?_
          refine run_h (.none rfl) (h_clear (i := (cpt likeH l (k + j)).length) rfl rfl Try.underlying26 info53 rfl rfl rfl rfl (by omega) Sel.here) ?_
          rintro - -
          refine run_nil ?_
          refine run_sub (subMk (.cons (s := 0) rfl (.cons (s := 1) rfl (.cons (s := 4) rfl (.cons (s := 5) rfl .nil)))) .refl) ?_
          refine run_seq ?_
          refine run_region ?_
          refine run_q (.none rfl) rfl rfl (q_move rfl rfl) ?_
          refine run_q (.none rfl) rfl rfl (q_move rfl rfl) ?_
          refine run_q (.none rfl) rfl rfl (q_sliceH rfl Try.underlying26 sz53 rfl rfl (by omega)) ?_
          refine run_q (.none rfl) rfl rfl (q_assign rfl rfl) ?_
          refine run_nil ?_
          refine run_sub (subMk (.cons (s := 0) rfl (.cons (s := 1) rfl (.cons (s := 4) rfl (.cons (s := 5) rfl .nil)))) .refl) ?_
          refine run_ret ?_
          refine run_sub (subMk .refl (.cons Sel.here (.ownTake (n' := (cpt likeH l l.length).length) (m' := (cpt likeH l l.length).length) (ls' := (cpt likeH l l.length).map Hd.enc) rfl rfl (cpt_len _ _ _) (rowC_row (by omega)).symm) .nil)) ?_
          exact end1 rfl rfl ⟨by rw [show k + j = l.length from by omega]; rfl, rfl⟩
      · have g28' := g28
        try simp only [decide_eq_true_eq, decide_eq_false_iff_not, beq_iff_eq, beq_eq_false_iff_ne, bne_iff_ne, bne_eq_false_iff_eq, Bool.not_eq_true', Bool.not_eq_false', ne_eq, Int.not_lt, Int.not_le, Decidable.not_not] at g28'
        have hrk : likeH (nth l k) (nth l (k - 1)) = false := g28
        refine run_skip ?_
        refine run_blk ?_
        refine run_region ?_
        refine run_q (.none rfl) rfl rfl (q_move rfl rfl) ?_
        refine run_q (.none rfl) rfl rfl (q_add rfl rfl rfl (by omega)) ?_
        refine run_q (.none rfl) rfl rfl (q_assign rfl rfl) ?_
        refine run_nil ?_
        refine run_sub (subMk (.cons (s := 0) rfl (.cons (s := 1) rfl (.cons (s := 4) rfl (.cons (s := 5) rfl .nil)))) .refl) ?_
        exact run_again (k + 1) (by (try dsimp only); exact ⟨by omega, by rw [cpt_in (.inr hrk), hC, take_nth (by omega)]⟩) (by (try dsimp only); omega) (subMk (.cons' (s := 5) rfl (vint (by omega)) (.cons (s := 0) rfl (.cons (s := 1) rfl (.cons (s := 4) rfl .nil)))) (.cons Sel.here .refl .nil))
    · have g15' := g15
      try simp only [decide_eq_true_eq, decide_eq_false_iff_not, beq_iff_eq, beq_eq_false_iff_ne, bne_iff_ne, bne_eq_false_iff_eq, Bool.not_eq_true', Bool.not_eq_false', ne_eq, Int.not_lt, Int.not_le, Decidable.not_not] at g15'
      refine run_exit rfl ?_
      refine run_sub (subMk (.cons (s := 0) rfl (.cons (s := 4) rfl .nil)) .refl) ?_
      refine run_seq ?_
      refine run_region ?_
      refine run_q (.none rfl) rfl rfl (q_move rfl rfl) ?_
      refine run_q (.none rfl) rfl rfl (q_assign rfl rfl) ?_
      refine run_nil ?_
      refine run_ret ?_
      refine run_sub (subMk .refl (.cons Sel.here .refl .nil)) ?_
      exact end1 rfl rfl (by have he : (cpt likeH l l.length) = l := (by rw [show l.length = k from by omega, hC, List.take_of_length_le (by omega)]); exact ⟨by rw [he], by rw [he]⟩)

end Go.Proofs.Ytneadapfoaccmaa
