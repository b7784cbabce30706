/- Requests sorted. -/
import Derived.Test.YtgphmbipakdggaaRQA
set_option linter.unusedSimpArgs false
set_option linter.unusedVariables false
namespace Go.Proofs.YtgphmbipakdggaaR
open Go Go.RowKit Hr

theorem agg25 : Hr.Agg Try.prog 25 13 := ⟨fun w => by simp [isAgg, run_underlying Try.underlying25], Hr.Sz.of (by kernel_rfl)⟩
theorem sz25 : Hr.Sz Try.prog 25 13 := Hr.Sz.of (by kernel_rfl)
theorem call53 : Hr.Callable Try.prog 53 := fun args w => by kernel_rfl
theorem call93 : Hr.Callable Try.prog 93 := fun args w => by kernel_rfl
theorem call89 : Hr.Callable Try.prog 89 := fun args w => by kernel_rfl

theorem Req_len {l : List Req} {z : List Value} (h : z ∈ l.map Req.enc) : z.length = 13 := by
  obtain ⟨p, _, rfl⟩ := List.mem_map.1 h; rfl
theorem Req_all {l : List Req} {z : List Value} (h : z ∈ l.map Req.enc) : allCells z = true := by
  obtain ⟨p, _, rfl⟩ := List.mem_map.1 h; rfl

set_option maxRecDepth 100000 in
theorem sM_ins (l : List Req) (A : Option Addr) (ca : Nat) (W : World) (hm : Mem (atAny [.own 25 13 A l.length ca ((l).map Req.enc)]) W [.own 25 13 A l.length ca ((l).map Req.enc)] W) (hl : l.length ≤ 1000000) : Calls Try.prog 93 #[.slice A l.length ca, .int .i64 0, .int .i64 (l.length : Int), .func (.func 53) #[] #[]] W (Ret W (atAny [.own 25 13 A l.length ca ((l).map Req.enc)]) (fun v m => v = .tuple #[] ∧ m = [.own 25 13 A l.length ca (((Srt.sort (Ky.ltK keyM) l l.length)).map Req.enc)])) := by
  refine enterA (X := _) (vs := [.slice A l.length ca, .int .i64 0, .int .i64 (l.length : Int), .func (.func 53) #[] #[]]) Try.func93 Try.ntmps93 rfl rfl hm ?_
  refine run_seq ?_
  refine run_region ?_
  refine run_q (.none rfl) rfl rfl (q_move rfl rfl) ?_
  refine run_q (.none rfl) rfl rfl (q_add rfl rfl rfl (by omega)) ?_
  refine run_q (.none rfl) rfl rfl (q_assign rfl rfl) ?_
  refine run_nil ?_
  refine run_block ?_
  refine run_sub (subMk (.cons (s := 8) rfl (.cons (s := 0) rfl (.cons (s := 1) rfl (.cons (s := 2) rfl (.cons (s := 3) rfl .nil))))) (.cons Sel.here .refl .nil)) ?_
  refine run_loopC1M1 (ι := Nat) (fun i => i = 0 ∨ i + 1 ≤ l.length) (fun i => .int .i64 ((i : Int) + 1)) (fun i => .own 25 13 A l.length ca ((Srt.steps (Ky.ltK keyM) l i).map Req.enc)) (fun i => l.length - i) 0 (by (try dsimp only); exact (.inl rfl)) (vint (by (try dsimp only); omega)) (.own rfl rfl rfl (by rw [Srt.steps_zero])) ?_
  rintro i hi
  (try dsimp only at hi)
  show Run _ _ _ _ _ _ _ ⟨(8, .int .i64 ((i : Int) + 1)) :: _, .own 25 13 A l.length ca ((Srt.steps (Ky.ltK keyM) l i).map Req.enc) :: _⟩
  refine run_seq ?_
  refine run_seq ?_
  refine run_region ?_
  refine run_q (.none rfl) rfl rfl (q_move rfl rfl) ?_
  refine run_q (.none rfl) rfl rfl (q_move rfl rfl) ?_
  refine run_q (.none rfl) rfl rfl (q_lss rfl rfl rfl) ?_
  refine run_nil ?_
  refine run_cond rfl (fun g14 => ?_) (fun g14 => ?_)
  · have g14' := g14
    try simp only [decide_eq_true_eq, decide_eq_false_iff_not, beq_iff_eq, beq_eq_false_iff_ne, bne_iff_ne, bne_eq_false_iff_eq, Bool.not_eq_true', Bool.not_eq_false', ne_eq, Int.not_lt, Int.not_le, Decidable.not_not] at g14'
    refine run_skip ?_
    refine run_seq ?_
    refine run_block ?_
    refine run_seq ?_
    refine run_region ?_
    refine run_q (.none rfl) rfl rfl (q_move rfl rfl) ?_
    refine run_q (.none rfl) rfl rfl (q_assign rfl rfl) ?_
    refine run_nil ?_
    refine run_sub (subMk (.cons (s := 0) rfl (.cons (s := 1) rfl (.cons (s := 2) rfl (.cons (s := 3) rfl (.cons (s := 8) rfl (.cons (s := 9) rfl .nil)))))) .refl) ?_
    refine run_block ?_
    refine run_sub (subMk (.cons (s := 9) rfl (.cons (s := 0) rfl (.cons (s := 1) rfl (.cons (s := 2) rfl (.cons (s := 3) rfl (.cons (s := 8) rfl .nil)))))) (.cons Sel.here .refl .nil)) ?_
    refine run_loopC1M1 (ι := Nat) (fun j => j ≤ i + 1 ∧ Srt.pos (Ky.ltK keyM) (Srt.sort (Ky.ltK keyM) l (i + 1)) (nth l (i + 1)) (i + 1) = Srt.pos (Ky.ltK keyM) (Srt.sort (Ky.ltK keyM) l (i + 1)) (nth l (i + 1)) j) (fun j => .int .i64 (j : Int)) (fun j => .own 25 13 A l.length ca ((Srt.mid (Srt.sort (Ky.ltK keyM) l (i + 1)) (nth l (i + 1)) (l.drop (i + 2)) j).map Req.enc)) (fun j => j) (i + 1) (by (try dsimp only); exact ⟨by omega, rfl⟩) (vint (by (try dsimp only); omega)) (.own rfl rfl rfl (by rw [Srt.steps_mid (by omega)])) ?_
    rintro j hq
    (try dsimp only at hq)
    obtain ⟨hj, hpos⟩ := hq
    show Run _ _ _ _ _ _ _ ⟨(9, .int .i64 (j : Int)) :: _, .own 25 13 A l.length ca ((Srt.mid (Srt.sort (Ky.ltK keyM) l (i + 1)) (nth l (i + 1)) (l.drop (i + 2)) j).map Req.enc) :: _⟩
    refine run_seq ?_
    refine run_seq ?_
    refine run_draw [(0, 0), (1, 0), (2, 0), (3, 0), (4, 0), (5, 0), (6, 0), (7, 0), (8, 0), (9, 0), (10, 0), (11, 0), (12, 0), (13, 0), (14, 0), (15, 0), (16, 0)] mixed (by kernel_rfl) .refl ?_
    refine d_q rfl rfl (.none rfl) rfl rfl (q_move rfl rfl) ?_
    refine d_q rfl rfl (.none rfl) rfl rfl (q_move rfl rfl) ?_
    refine d_q rfl rfl (.none rfl) rfl rfl (q_gtr rfl rfl rfl) ?_
    refine d_q rfl rfl (.none rfl) rfl rfl (q_move rfl rfl) ?_
    refine d_split 21 rfl (fun g21 => ?_) (fun g21 => ?_)
    · have g21' := g21
      try simp only [decide_eq_true_eq, decide_eq_false_iff_not, beq_iff_eq, beq_eq_false_iff_ne, bne_iff_ne, bne_eq_false_iff_eq, Bool.not_eq_true', Bool.not_eq_false', ne_eq, Int.not_lt, Int.not_le, Decidable.not_not] at g21'
      obtain ⟨j, rfl⟩ : ∃ q, j = q + 1 := ⟨j - 1, by omega⟩
      have hsl := Srt.sort_len (lt := (Ky.ltK keyM)) l (i + 1)
      have hml : (Srt.mid (Srt.sort (Ky.ltK keyM) l (i + 1)) (nth l (i + 1)) (l.drop (i + 2)) (j + 1)).length = l.length := by rw [Srt.mid_len (by omega), hsl, List.length_drop]; omega
      refine d_q rfl rfl (.on rfl rfl rfl g21) rfl rfl (q_move rfl rfl) ?_
      refine d_q rfl rfl (.on rfl rfl rfl g21) rfl rfl (q_move rfl rfl) ?_
      refine d_q rfl rfl (.on rfl rfl rfl g21) rfl rfl (q_move rfl rfl) ?_
      refine d_q rfl rfl (.on rfl rfl rfl g21) rfl rfl (q_indexS (q := (j + 1)) rfl Try.underlying37 sz25 rfl rfl (.own Sel.here) (by rw [List.length_map]; exact hml) rfl (by omega)) ?_
      refine d_q rfl rfl (.on rfl rfl rfl g21) rfl rfl (q_loadE rfl agg25 rfl (.own Sel.here) (by rw [getmap (by omega), Srt.mid_at (by omega)]) rfl) ?_
      refine d_q rfl rfl (.on rfl rfl rfl g21) rfl rfl (q_move rfl rfl) ?_
      refine d_q rfl rfl (.on rfl rfl rfl g21) rfl rfl (q_move rfl rfl) ?_
      refine d_q rfl rfl (.on rfl rfl rfl g21) rfl rfl (q_sub rfl rfl rfl (by omega)) ?_
      refine d_q rfl rfl (.on rfl rfl rfl g21) rfl rfl (q_indexS (q := j) rfl Try.underlying37 sz25 rfl rfl (.own Sel.here) (by rw [List.length_map]; exact hml) (by omega) (by omega)) ?_
      refine d_q rfl rfl (.on rfl rfl rfl g21) rfl rfl (q_loadE rfl agg25 rfl (.own Sel.here) (by rw [getmap (by omega), Srt.mid_below (by omega)]) rfl) ?_
      refine d_q rfl rfl (.on rfl rfl rfl g21) rfl rfl (q_callv rfl rfl call53 (.cons rfl (.cons rfl Evs.nil)) (fun w hk hm => comp_just (nth l (i + 1)) (nth (Srt.sort (Ky.ltK keyM) l (i + 1)) j) w)) ?_
      refine d_q rfl rfl (.on rfl rfl rfl g21) rfl rfl (q_lss rfl rfl rfl) ?_
      refine d_q rfl rfl (.none rfl) rfl rfl (q_pickT rfl rfl g21 rfl) ?_
      refine d_nil ?_
      refine run_sub (subMk (.cons (s := 0) rfl (.cons (s := 1) rfl (.cons (s := 2) rfl (.cons (s := 3) rfl (.cons (s := 8) rfl (.cons (s := 9) rfl (.cons (s := 34) rfl .nil))))))) .refl) ?_
      refine run_cond rfl (fun g34 => ?_) (fun g34 => ?_)
      · have g34' := g34
        try simp only [decide_eq_true_eq, decide_eq_false_iff_not, beq_iff_eq, beq_eq_false_iff_ne, bne_iff_ne, bne_eq_false_iff_eq, Bool.not_eq_true', Bool.not_eq_false', ne_eq, Int.not_lt, Int.not_le, Decidable.not_not] at g34'
        refine run_skip ?_
        refine run_seq ?_
        refine run_block ?_
        refine run_pure [(0, 0), (1, 0), (2, 3), (3, 3), (4, 3), (5, 0), (6, 0), (7, 0), (8, 0), (9, 0), (10, 0), (11, 0), (12, 0), (13, 0), (14, 0), (15, 2), (16, 2), (17, 2)] mixed (by kernel_rfl) .refl ?_
        refine p_q rfl rfl (.none rfl) rfl rfl (q_move rfl rfl) ?_
        refine p_q rfl rfl (.none rfl) rfl rfl (q_move rfl rfl) ?_
        refine p_p rfl rfl (.none rfl) rfl rfl (q_move rfl rfl) ?_
        refine p_p rfl rfl (.none rfl) rfl rfl (q_move rfl rfl) ?_
        refine p_p rfl rfl (.none rfl) rfl rfl (q_sub rfl rfl rfl (by omega)) ?_
        refine p_q rfl rfl (.none rfl) rfl rfl (q_move rfl rfl) ?_
        refine p_q rfl rfl (.none rfl) rfl rfl (q_move rfl rfl) ?_
        refine p_q rfl rfl (.none rfl) rfl rfl (q_sub rfl rfl rfl (by omega)) ?_
        refine p_q rfl rfl (.none rfl) rfl rfl (q_indexS (q := j) rfl Try.underlying37 sz25 rfl rfl (.own Sel.here) (by rw [List.length_map]; exact hml) (by omega) (by omega)) ?_
        refine p_q rfl rfl (.none rfl) rfl rfl (q_loadE rfl agg25 rfl (.own Sel.here) (by rw [getmap (by omega), Srt.mid_below (by omega)]) rfl) ?_
        refine p_q rfl rfl (.none rfl) rfl rfl (q_move rfl rfl) ?_
        refine p_q rfl rfl (.none rfl) rfl rfl (q_move rfl rfl) ?_
        refine p_q rfl rfl (.none rfl) rfl rfl (q_indexS (q := (j + 1)) rfl Try.underlying37 sz25 rfl rfl (.own Sel.here) (by rw [List.length_map]; exact hml) rfl (by omega)) ?_
        refine p_q rfl rfl (.none rfl) rfl rfl (q_loadE rfl agg25 rfl (.own Sel.here) (by rw [getmap (by omega), Srt.mid_at (by omega)]) rfl) ?_
        refine p_q rfl rfl (.none rfl) rfl rfl (q_indexS (q := (j + 1)) rfl Try.underlying37 sz25 rfl rfl (.own Sel.here) (by rw [List.length_map]; exact hml) rfl (by omega)) ?_
        refine p_t rfl rfl (.none rfl) (h_storeE rfl rfl sz25 rfl rfl rfl rfl rfl Sel.here (by omega)) ?_
        rintro - -
        refine p_t rfl rfl (.none rfl) (.of_q rfl rfl (q_indexS (q := j) rfl Try.underlying37 sz25 rfl rfl (.own Sel.here) (by rw [List.length_set, List.length_map]; exact hml) (by omega) (by omega))) ?_
        rintro - -
        refine p_t rfl rfl (.none rfl) (h_storeE rfl rfl sz25 rfl rfl rfl rfl rfl Sel.here (by omega)) ?_
        rintro - -
        refine p_nil ?_
        refine run_sub (subMk (.cons (s := 0) rfl (.cons (s := 1) rfl (.cons (s := 2) rfl (.cons (s := 3) rfl (.cons (s := 8) rfl (.cons (s := 9) rfl .nil)))))) .refl) ?_
        refine run_blk ?_
        refine run_region ?_
        refine run_q (.none rfl) rfl rfl (q_move rfl rfl) ?_
        refine run_q (.none rfl) rfl rfl (q_sub rfl rfl rfl (by omega)) ?_
        refine run_q (.none rfl) rfl rfl (q_assign rfl rfl) ?_
        refine run_nil ?_
        exact run_again j (by (try dsimp only); exact ⟨by omega, by rw [hpos, Srt.pos_skip (by simpa [Ky.ltK] using g34)]⟩) (by (try dsimp only); omega) (subMk (.cons' (s := 9) rfl (vint (by omega)) (.cons (s := 0) rfl (.cons (s := 1) rfl (.cons (s := 2) rfl (.cons (s := 3) rfl (.cons (s := 8) rfl .nil)))))) (.cons Sel.here (.own rfl rfl rfl (by rw [← Srt.mid_swap (j := j) (by omega), List.map_set, List.map_set]; rfl)) .nil))
      · have g34' := g34
        try simp only [decide_eq_true_eq, decide_eq_false_iff_not, beq_iff_eq, beq_eq_false_iff_ne, bne_iff_ne, bne_eq_false_iff_eq, Bool.not_eq_true', Bool.not_eq_false', ne_eq, Int.not_lt, Int.not_le, Decidable.not_not] at g34'
        have hpe : Srt.pos (Ky.ltK keyM) (Srt.sort (Ky.ltK keyM) l (i + 1)) (nth l (i + 1)) (i + 1) = j + 1 := by rw [hpos, Srt.pos_stop (by simpa [Ky.ltK] using g34)]
        refine run_exit rfl ?_
        refine run_blk ?_
        refine run_region ?_
        refine run_q (.none rfl) rfl rfl (q_move rfl rfl) ?_
        refine run_q (.none rfl) rfl rfl (q_add rfl rfl rfl (by omega)) ?_
        refine run_q (.none rfl) rfl rfl (q_assign rfl rfl) ?_
        refine run_nil ?_
        refine run_sub (subMk (.cons (s := 0) rfl (.cons (s := 1) rfl (.cons (s := 2) rfl (.cons (s := 3) rfl (.cons (s := 8) rfl .nil))))) .refl) ?_
        exact run_again (i + 1) (by (try dsimp only); exact (.inr (by omega))) (by (try dsimp only); omega) (subMk (.cons' (s := 8) rfl (vint (by omega)) (.cons (s := 0) rfl (.cons (s := 1) rfl (.cons (s := 2) rfl (.cons (s := 3) rfl .nil))))) (.cons Sel.here (.own rfl rfl rfl (by rw [Srt.steps_next (by omega) hpe])) .nil))
    · have g21' := g21
      try simp only [decide_eq_true_eq, decide_eq_false_iff_not, beq_iff_eq, beq_eq_false_iff_ne, bne_iff_ne, bne_eq_false_iff_eq, Bool.not_eq_true', Bool.not_eq_false', ne_eq, Int.not_lt, Int.not_le, Decidable.not_not] at g21'
      obtain rfl : j = 0 := by omega
      have hpe : Srt.pos (Ky.ltK keyM) (Srt.sort (Ky.ltK keyM) l (i + 1)) (nth l (i + 1)) (i + 1) = 0 := by rw [hpos]; rfl
      refine d_off rfl rfl (.no rfl rfl rfl g21) rfl rfl ?_
      refine d_off rfl rfl (.no rfl rfl rfl g21) rfl rfl ?_
      refine d_off rfl rfl (.no rfl rfl rfl g21) rfl rfl ?_
      refine d_off rfl rfl (.no rfl rfl rfl g21) rfl rfl ?_
      refine d_off rfl rfl (.no rfl rfl rfl g21) rfl rfl ?_
      refine d_off rfl rfl (.no rfl rfl rfl g21) rfl rfl ?_
      refine d_off rfl rfl (.no rfl rfl rfl g21) rfl rfl ?_
      refine d_off rfl rfl (.no rfl rfl rfl g21) rfl rfl ?_
      refine d_off rfl rfl (.no rfl rfl rfl g21) rfl rfl ?_
      refine d_off rfl rfl (.no rfl rfl rfl g21) rfl rfl ?_
      refine d_off rfl rfl (.no rfl rfl rfl g21) rfl rfl ?_
      refine d_off rfl rfl (.no rfl rfl rfl g21) rfl rfl ?_
      refine d_q rfl rfl (.none rfl) rfl rfl (q_pickF rfl rfl g21 rfl) ?_
      refine d_nil ?_
      refine run_sub (subMk (.cons (s := 0) rfl (.cons (s := 1) rfl (.cons (s := 2) rfl (.cons (s := 3) rfl (.cons (s := 8) rfl (.cons (s := 9) rfl (.cons (s := 34) rfl .nil))))))) .refl) ?_
      refine run_condF rfl rfl ?_
      refine run_exit rfl ?_
      refine run_blk ?_
      refine run_region ?_
      refine run_q (.none rfl) rfl rfl (q_move rfl rfl) ?_
      refine run_q (.none rfl) rfl rfl (q_add rfl rfl rfl (by omega)) ?_
      refine run_q (.none rfl) rfl rfl (q_assign rfl rfl) ?_
      refine run_nil ?_
      refine run_sub (subMk (.cons (s := 0) rfl (.cons (s := 1) rfl (.cons (s := 2) rfl (.cons (s := 3) rfl (.cons (s := 8) rfl .nil))))) .refl) ?_
      exact run_again (i + 1) (by (try dsimp only); exact (.inr (by omega))) (by (try dsimp only); omega) (subMk (.cons' (s := 8) rfl (vint (by omega)) (.cons (s := 0) rfl (.cons (s := 1) rfl (.cons (s := 2) rfl (.cons (s := 3) rfl .nil))))) (.cons Sel.here (.own rfl rfl rfl (by rw [Srt.steps_next (by omega) hpe])) .nil))
  · have g14' := g14
    try simp only [decide_eq_true_eq, decide_eq_false_iff_not, beq_iff_eq, beq_eq_false_iff_ne, bne_iff_ne, bne_eq_false_iff_eq, Bool.not_eq_true', Bool.not_eq_false', ne_eq, Int.not_lt, Int.not_le, Decidable.not_not] at g14'
    refine run_exit rfl ?_
    refine run_sub (subMk .nil .refl) ?_
    refine run_sub (subMk .refl (.cons Sel.here .refl .nil)) ?_
    exact end0 rfl ⟨rfl, by rw [Srt.steps_last (by omega)]⟩

set_option maxRecDepth 100000 in
theorem sM_none (l : List Req) (A : Option Addr) (ca : Nat) (W : World) (hm : Mem (atAny [.own 25 13 A l.length ca ((l).map Req.enc)]) W [.own 25 13 A l.length ca ((l).map Req.enc)] W) (hl : l.length ≤ 1000000) : Calls Try.prog 93 #[.slice A l.length ca, .int .i64 (l.length : Int), .int .i64 (l.length : Int), .func (.func 53) #[] #[]] W (Ret W (atAny [.own 25 13 A l.length ca ((l).map Req.enc)]) (fun v m => v = .tuple #[] ∧ m = [.own 25 13 A l.length ca ((l).map Req.enc)])) := by
  refine enterA (X := _) (vs := [.slice A l.length ca, .int .i64 (l.length : Int), .int .i64 (l.length : Int), .func (.func 53) #[] #[]]) Try.func93 Try.ntmps93 rfl rfl hm ?_
  refine run_seq ?_
  refine run_region ?_
  refine run_q (.none rfl) rfl rfl (q_move rfl rfl) ?_
  refine run_q (.none rfl) rfl rfl (q_add rfl rfl rfl (by omega)) ?_
  refine run_q (.none rfl) rfl rfl (q_assign rfl rfl) ?_
  refine run_nil ?_
  refine run_block ?_
  refine run_sub (subMk (.cons (s := 0) rfl (.cons (s := 1) rfl (.cons (s := 2) rfl (.cons (s := 3) rfl (.cons (s := 8) rfl .nil))))) (.cons Sel.here .refl .nil)) ?_
  refine run_loopC0M0 (ι := Unit) (fun _ => True ∧ True)   (fun _ => 0) () (by (try dsimp only); exact ⟨trivial, trivial⟩)   ?_
  rintro - -
  show Run _ _ _ _ _ _ _ ⟨_, _⟩
  refine run_seq ?_
  refine run_seq ?_
  refine run_region ?_
  refine run_q (.none rfl) rfl rfl (q_move rfl rfl) ?_
  refine run_q (.none rfl) rfl rfl (q_move rfl rfl) ?_
  refine run_q (.none rfl) rfl rfl (q_lss rfl rfl rfl) ?_
  refine run_nil ?_
  refine run_condF rfl (decide_eq_false (by omega)) ?_
  refine run_exit rfl ?_
  refine run_sub (subMk .nil .refl) ?_
  refine run_sub (subMk .refl (.cons Sel.here .refl .nil)) ?_
  exact end0 rfl ⟨rfl, rfl⟩

theorem sM_nones (l : List Req) (A : Option Addr) (ca : Nat) (W : World) (hm : Mem (atAny [.own 25 13 A l.length ca (((Srt.sort (Ky.ltK keyM) l l.length)).map Req.enc)]) W [.own 25 13 A l.length ca (((Srt.sort (Ky.ltK keyM) l l.length)).map Req.enc)] W) (hl : l.length ≤ 1000000) :
    Calls Try.prog 93 #[.slice A l.length ca, .int .i64 (l.length : Int), .int .i64 (l.length : Int), .func (.func 53) #[] #[]] W (Ret W (atAny [.own 25 13 A l.length ca (((Srt.sort (Ky.ltK keyM) l l.length)).map Req.enc)]) (fun v m => v = .tuple #[] ∧ m = [.own 25 13 A l.length ca (((Srt.sort (Ky.ltK keyM) l l.length)).map Req.enc)])) := by
  have h := sM_none (Srt.sort (Ky.ltK keyM) l l.length) A ca W (by rw [Srt.sort_len]; exact hm) (by rw [Srt.sort_len]; exact hl)
  rw [Srt.sort_len] at h
  exact h

set_option maxRecDepth 100000 in
theorem sM_lt (l : List Req) (A : Option Addr) (ca : Nat) (W : World) (hm : Mem (atAny [.own 25 13 A l.length ca ((l).map Req.enc)]) W [.own 25 13 A l.length ca ((l).map Req.enc)] W) (hl : l.length < 20) : Calls Try.prog 89 #[.slice A l.length ca, .int .i64 (l.length : Int), .func (.func 53) #[] #[]] W (Ret W (atAny [.own 25 13 A l.length ca ((l).map Req.enc)]) (fun v m => v = .tuple #[] ∧ m = [.own 25 13 A l.length ca (((Srt.sort (Ky.ltK keyM) l l.length)).map Req.enc)])) := by
  refine enterA (X := _) (vs := [.slice A l.length ca, .int .i64 (l.length : Int), .func (.func 53) #[] #[]]) Try.func89 Try.ntmps89 rfl rfl hm ?_
  refine run_seq ?_
  refine run_region ?_
  refine run_q (.none rfl) rfl rfl (q_assign rfl rfl) ?_
  refine run_nil ?_
  refine run_seq ?_
  refine run_region ?_
  refine run_q (.none rfl) rfl rfl (q_move rfl rfl) ?_
  refine run_q (.none rfl) rfl rfl (q_assign rfl rfl) ?_
  refine run_q (.none rfl) rfl rfl (q_assign rfl rfl) ?_
  refine run_nil ?_
  refine run_seq ?_
  refine run_block ?_
  refine run_sub (subMk (.cons (s := 0) rfl (.cons (s := 1) rfl (.cons (s := 2) rfl (.cons (s := 6) rfl (.cons (s := 7) rfl (.cons (s := 8) rfl .nil)))))) (.cons Sel.here .refl .nil)) ?_
  refine run_loopC0M0 (ι := Unit) (fun _ => True ∧ True)   (fun _ => 0) () (by (try dsimp only); exact ⟨trivial, trivial⟩)   ?_
  rintro - -
  show Run _ _ _ _ _ _ _ ⟨_, _⟩
  refine run_seq ?_
  refine run_seq ?_
  refine run_region ?_
  refine run_q (.none rfl) rfl rfl (q_move rfl rfl) ?_
  refine run_q (.none rfl) rfl rfl (q_move rfl rfl) ?_
  refine run_q (.none rfl) rfl rfl (q_leq rfl rfl rfl) ?_
  refine run_nil ?_
  refine run_condF rfl (decide_eq_false (by omega)) ?_
  refine run_exit rfl ?_
  refine run_sub (subMk (.cons (s := 0) rfl (.cons (s := 1) rfl (.cons (s := 2) rfl (.cons (s := 6) rfl (.cons (s := 7) rfl (.cons (s := 8) rfl .nil)))))) .refl) ?_
  refine run_seq ?_
  refine run_region ?_
  refine run_q (.none rfl) rfl rfl (q_move rfl rfl) ?_
  refine run_q (.none rfl) rfl rfl (q_move rfl rfl) ?_
  refine run_q (.none rfl) rfl rfl (q_move rfl rfl) ?_
  refine run_q (.none rfl) rfl rfl (q_move rfl rfl) ?_
  refine run_h (.none rfl) (h_callX [_] _ rfl rfl rfl call93 (.cons rfl (.cons rfl (.cons rfl (.cons rfl Evs.nil)))) (Sel.perm Sel.here) (Y := fun _ => atAny [_]) (fun _ _ h => h) (fun w hk hm => sM_ins l A ca w ((hm.perm (Sel.perm Sel.here)).give (rs := [_])) (by omega))) ?_
  rintro ⟨v, m⟩ ⟨rfl, rfl⟩
  show Run _ _ _ _ _ _ _ ⟨(27, .tuple #[]) :: _, _ :: _⟩
  refine run_nil ?_
  refine run_sub (subMk (.cons (s := 0) rfl (.cons (s := 1) rfl (.cons (s := 2) rfl (.cons (s := 6) rfl (.cons (s := 7) rfl (.cons (s := 8) rfl .nil)))))) .refl) ?_
  refine run_block ?_
  refine run_sub (subMk (.cons (s := 0) rfl (.cons (s := 1) rfl (.cons (s := 2) rfl (.cons (s := 6) rfl (.cons (s := 7) rfl (.cons (s := 8) rfl .nil)))))) (.cons Sel.here .refl .nil)) ?_
  refine run_loopC0M0 (ι := Unit) (fun _ => True ∧ True)   (fun _ => 0) () (by (try dsimp only); exact ⟨trivial, trivial⟩)   ?_
  rintro - -
  show Run _ _ _ _ _ _ _ ⟨_, _⟩
  refine run_seq ?_
  refine run_seq ?_
  refine run_region ?_
  refine run_q (.none rfl) rfl rfl (q_move rfl rfl) ?_
  refine run_q (.none rfl) rfl rfl (q_move rfl rfl) ?_
  refine run_q (.none rfl) rfl rfl (q_lss rfl rfl rfl) ?_
  refine run_nil ?_
  refine run_condF rfl (decide_eq_false (by omega)) ?_
  refine run_exit rfl ?_
  refine run_sub (subMk .nil .refl) ?_
  refine run_sub (subMk .refl (.cons Sel.here .refl .nil)) ?_
  exact end0 rfl ⟨rfl, rfl⟩

set_option maxRecDepth 100000 in
theorem sM_20 (l : List Req) (A : Option Addr) (ca : Nat) (W : World) (hm : Mem (atAny [.own 25 13 A l.length ca ((l).map Req.enc)]) W [.own 25 13 A l.length ca ((l).map Req.enc)] W) (hl : l.length = 20) : Calls Try.prog 89 #[.slice A l.length ca, .int .i64 (l.length : Int), .func (.func 53) #[] #[]] W (Ret W (atAny [.own 25 13 A l.length ca ((l).map Req.enc)]) (fun v m => v = .tuple #[] ∧ m = [.own 25 13 A l.length ca (((Srt.sort (Ky.ltK keyM) l l.length)).map Req.enc)])) := by
  refine enterA (X := _) (vs := [.slice A l.length ca, .int .i64 (l.length : Int), .func (.func 53) #[] #[]]) Try.func89 Try.ntmps89 rfl rfl hm ?_
  refine run_seq ?_
  refine run_region ?_
  refine run_q (.none rfl) rfl rfl (q_assign rfl rfl) ?_
  refine run_nil ?_
  refine run_seq ?_
  refine run_region ?_
  refine run_q (.none rfl) rfl rfl (q_move rfl rfl) ?_
  refine run_q (.none rfl) rfl rfl (q_assign rfl rfl) ?_
  refine run_q (.none rfl) rfl rfl (q_assign rfl rfl) ?_
  refine run_nil ?_
  refine run_seq ?_
  refine run_block ?_
  refine run_sub (subMk (.cons (s := 7) rfl (.cons (s := 8) rfl (.cons (s := 0) rfl (.cons (s := 1) rfl (.cons (s := 2) rfl (.cons (s := 6) rfl .nil)))))) (.cons Sel.here .refl .nil)) ?_
  refine run_loopC2M1 (ι := Nat) (fun i => i ≤ 1) (fun i => .int .i64 ((i : Int) * 20)) (fun i => .int .i64 ((i : Int) * 20 + 20)) (fun i => .own 25 13 A l.length ca ((if i = 0 then l else (Srt.sort (Ky.ltK keyM) l l.length)).map Req.enc)) (fun i => 2 - i) 0 (by (try dsimp only); exact (by omega)) (vint (by (try dsimp only); omega)) (vint (by (try dsimp only); omega)) .refl ?_
  rintro i hi
  (try dsimp only at hi)
  show Run _ _ _ _ _ _ _ ⟨(7, .int .i64 ((i : Int) * 20)) :: (8, .int .i64 ((i : Int) * 20 + 20)) :: _, .own 25 13 A l.length ca ((if i = 0 then l else (Srt.sort (Ky.ltK keyM) l l.length)).map Req.enc) :: _⟩
  refine run_seq ?_
  refine run_seq ?_
  refine run_region ?_
  refine run_q (.none rfl) rfl rfl (q_move rfl rfl) ?_
  refine run_q (.none rfl) rfl rfl (q_move rfl rfl) ?_
  refine run_q (.none rfl) rfl rfl (q_leq rfl rfl rfl) ?_
  refine run_nil ?_
  refine run_cond rfl (fun g13 => ?_) (fun g13 => ?_)
  · have g13' := g13
    try simp only [decide_eq_true_eq, decide_eq_false_iff_not, beq_iff_eq, beq_eq_false_iff_ne, bne_iff_ne, bne_eq_false_iff_eq, Bool.not_eq_true', Bool.not_eq_false', ne_eq, Int.not_lt, Int.not_le, Decidable.not_not] at g13'
    obtain rfl : i = 0 := by omega
    refine run_skip ?_
    refine run_block ?_
    refine run_seq ?_
    refine run_sub (subMk (.cons' (s := 7) (v' := .int .i64 0) rfl (vint (by omega)) (.cons' (s := 8) (v' := .int .i64 (l.length : Int)) rfl (vint (by omega)) (.cons (s := 0) rfl (.cons (s := 1) rfl (.cons (s := 2) rfl (.cons (s := 6) rfl (.cons (s := 11) rfl (.cons (s := 12) rfl (.cons (s := 13) rfl .nil))))))))) .refl) ?_
    refine run_region ?_
    refine run_q (.none rfl) rfl rfl (q_move rfl rfl) ?_
    refine run_q (.none rfl) rfl rfl (q_move rfl rfl) ?_
    refine run_q (.none rfl) rfl rfl (q_move rfl rfl) ?_
    refine run_q (.none rfl) rfl rfl (q_move rfl rfl) ?_
    refine run_h (.none rfl) (h_callX [_] _ rfl rfl rfl call93 (.cons rfl (.cons rfl (.cons rfl (.cons rfl Evs.nil)))) (Sel.perm Sel.here) (Y := fun _ => atAny [_]) (fun _ _ h => h) (fun w hk hm => sM_ins l A ca w ((hm.perm (Sel.perm Sel.here)).give (rs := [_])) (by omega))) ?_
    rintro ⟨v, m⟩ ⟨rfl, rfl⟩
    show Run _ _ _ _ _ _ _ ⟨(18, .tuple #[]) :: _, _ :: _⟩
    refine run_nil ?_
    refine run_sub (subMk (.cons (s := 0) rfl (.cons (s := 1) rfl (.cons (s := 2) rfl (.cons (s := 6) rfl (.cons (s := 7) rfl (.cons (s := 8) rfl .nil)))))) .refl) ?_
    refine run_seq ?_
    refine run_region ?_
    refine run_q (.none rfl) rfl rfl (q_move rfl rfl) ?_
    refine run_q (.none rfl) rfl rfl (q_assign rfl rfl) ?_
    refine run_nil ?_
    refine run_region ?_
    refine run_q (.none rfl) rfl rfl (q_move rfl rfl) ?_
    refine run_q (.none rfl) rfl rfl (q_move rfl rfl) ?_
    refine run_q (.none rfl) rfl rfl (q_add rfl rfl rfl (by omega)) ?_
    refine run_q (.none rfl) rfl rfl (q_assign rfl rfl) ?_
    refine run_nil ?_
    refine run_sub (subMk (.cons (s := 0) rfl (.cons (s := 1) rfl (.cons (s := 2) rfl (.cons (s := 6) rfl (.cons (s := 7) rfl (.cons (s := 8) rfl .nil)))))) .refl) ?_
    refine run_blk ?_
    exact run_again 1 (by (try dsimp only); exact (by omega)) (by (try dsimp only); omega) (subMk (.cons' (s := 7) rfl (vint (by omega)) (.cons' (s := 8) rfl (vint (by omega)) (.cons (s := 0) rfl (.cons (s := 1) rfl (.cons (s := 2) rfl (.cons (s := 6) rfl .nil)))))) (.cons Sel.here .refl .nil))
  · have g13' := g13
    try simp only [decide_eq_true_eq, decide_eq_false_iff_not, beq_iff_eq, beq_eq_false_iff_ne, bne_iff_ne, bne_eq_false_iff_eq, Bool.not_eq_true', Bool.not_eq_false', ne_eq, Int.not_lt, Int.not_le, Decidable.not_not] at g13'
    obtain rfl : i = 1 := by omega
    refine run_exit rfl ?_
    refine run_sub (subMk (.cons (s := 0) rfl (.cons (s := 1) rfl (.cons (s := 2) rfl (.cons (s := 6) rfl (.cons (s := 7) rfl (.cons (s := 8) rfl .nil)))))) .refl) ?_
    refine run_seq ?_
    refine run_sub (subMk (.cons (s := 0) rfl (.cons (s := 1) rfl (.cons (s := 2) rfl (.cons (s := 6) rfl (.cons' (s := 7) (v' := .int .i64 (l.length : Int)) rfl (vint (by omega)) (.cons (s := 8) rfl .nil)))))) .refl) ?_
    refine run_region ?_
    refine run_q (.none rfl) rfl rfl (q_move rfl rfl) ?_
    refine run_q (.none rfl) rfl rfl (q_move rfl rfl) ?_
    refine run_q (.none rfl) rfl rfl (q_move rfl rfl) ?_
    refine run_q (.none rfl) rfl rfl (q_move rfl rfl) ?_
    refine run_h (.none rfl) (h_callX [_] _ rfl rfl rfl call93 (.cons rfl (.cons rfl (.cons rfl (.cons rfl Evs.nil)))) (Sel.perm Sel.here) (Y := fun _ => atAny [_]) (fun _ _ h => h) (fun w hk hm => sM_nones l A ca w ((hm.perm (Sel.perm Sel.here)).give (rs := [_])) (by omega))) ?_
    rintro ⟨v, m⟩ ⟨rfl, rfl⟩
    show Run _ _ _ _ _ _ _ ⟨(27, .tuple #[]) :: _, _ :: _⟩
    refine run_nil ?_
    refine run_sub (subMk (.cons (s := 0) rfl (.cons (s := 1) rfl (.cons (s := 2) rfl (.cons (s := 6) rfl (.cons (s := 7) rfl (.cons (s := 8) rfl .nil)))))) .refl) ?_
    refine run_block ?_
    refine run_sub (subMk (.cons (s := 0) rfl (.cons (s := 1) rfl (.cons (s := 2) rfl (.cons (s := 6) rfl (.cons (s := 7) rfl (.cons (s := 8) rfl .nil)))))) (.cons Sel.here .refl .nil)) ?_
    refine run_loopC0M0 (ι := Unit) (fun _ => True ∧ True)   (fun _ => 0) () (by (try dsimp only); exact ⟨trivial, trivial⟩)   ?_
    rintro - -
    show Run _ _ _ _ _ _ _ ⟨_, _⟩
    refine run_seq ?_
    refine run_seq ?_
    refine run_region ?_
    refine run_q (.none rfl) rfl rfl (q_move rfl rfl) ?_
    refine run_q (.none rfl) rfl rfl (q_move rfl rfl) ?_
    refine run_q (.none rfl) rfl rfl (q_lss rfl rfl rfl) ?_
    refine run_nil ?_
    refine run_condF rfl (decide_eq_false (by omega)) ?_
    refine run_exit rfl ?_
    refine run_sub (subMk .nil .refl) ?_
    refine run_sub (subMk .refl (.cons Sel.here .refl .nil)) ?_
    exact end0 rfl ⟨rfl, rfl⟩

theorem sM_stable (l : List Req) (A : Option Addr) (ca : Nat) (W : World) (hm : Mem (atAny [.own 25 13 A l.length ca ((l).map Req.enc)]) W [.own 25 13 A l.length ca ((l).map Req.enc)] W) (hl : l.length ≤ 20) : Calls Try.prog 89 #[.slice A l.length ca, .int .i64 (l.length : Int), .func (.func 53) #[] #[]] W (Ret W (atAny [.own 25 13 A l.length ca ((l).map Req.enc)]) (fun v m => v = .tuple #[] ∧ m = [.own 25 13 A l.length ca (((Srt.sort (Ky.ltK keyM) l l.length)).map Req.enc)])) := by
  by_cases h : l.length = 20
  · exact sM_20 l A ca W hm h
  · exact sM_lt l A ca W hm (by omega)

set_option maxRecDepth 100000 in
theorem sM_sort (l : List Req) (A : Option Addr) (ca : Nat) (W : World) (hm : Mem (atAny [.own 25 13 A l.length ca ((l).map Req.enc)]) W [.own 25 13 A l.length ca ((l).map Req.enc)] W) (hl : l.length ≤ 20) : Calls Try.prog 73 #[.slice A l.length ca, .func (.func 53) #[] #[]] W (Ret W (atAny [.own 25 13 A l.length ca ((l).map Req.enc)]) (fun v m => v = .tuple #[] ∧ m = [.own 25 13 A l.length ca (((Srt.sort (Ky.ltK keyM) l l.length)).map Req.enc)])) := by
  refine enterA (X := _) (vs := [.slice A l.length ca, .func (.func 53) #[] #[]]) Try.func73 Try.ntmps73 rfl rfl hm ?_
  refine run_region ?_
  refine run_q (.none rfl) rfl rfl (q_move rfl rfl) ?_
  refine run_q (.none rfl) rfl rfl (q_move rfl rfl) ?_
  refine run_q (.none rfl) rfl rfl (q_len rfl Try.underlying37 rfl) ?_
  refine run_q (.none rfl) rfl rfl (q_move rfl rfl) ?_
  refine run_h (.none rfl) (h_callX [_] _ rfl rfl rfl call89 (.cons rfl (.cons rfl (.cons rfl Evs.nil))) (Sel.perm Sel.here) (Y := fun _ => atAny [_]) (fun _ _ h => h) (fun w hk hm => sM_stable l A ca w ((hm.perm (Sel.perm Sel.here)).give (rs := [_])) hl)) ?_
  rintro ⟨v, m⟩ ⟨rfl, rfl⟩
  show Run _ _ _ _ _ _ _ ⟨(8, .tuple #[]) :: _, _ :: _⟩
  refine run_nil ?_
  refine run_sub (subMk .nil .refl) ?_
  refine run_sub (subMk .refl (.cons Sel.here .refl .nil)) ?_
  exact end0 rfl ⟨rfl, rfl⟩

end Go.Proofs.YtgphmbipakdggaaR
