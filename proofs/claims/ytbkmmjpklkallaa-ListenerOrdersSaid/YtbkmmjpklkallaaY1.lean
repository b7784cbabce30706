/- Pieces of a row that change places. -/
import Derived.Test.YtbkmmjpklkallaaY
set_option linter.unusedSimpArgs false
set_option linter.unusedVariables false
namespace Go.Proofs.Ytbkmmjpklkallaa
open Go Go.RowKit Hr

theorem call62 : Hr.Callable Try.prog 62 := fun args w => by kernel_rfl
theorem call61 : Hr.Callable Try.prog 61 := fun args w => by kernel_rfl
theorem call60 : Hr.Callable Try.prog 60 := fun args w => by kernel_rfl

theorem sN_swap (p x g y s : List Note) (A : Option Addr) (n ca : Nat) (i0 j0 c0 : Int) (W : World) (hm : Mem (atAny [.own 47 7 A n ca ((p ++ (x ++ (g ++ (y ++ s)))).map Note.enc)]) W [.own 47 7 A n ca ((p ++ (x ++ (g ++ (y ++ s)))).map Note.enc)] W) (hi : i0 = (p.length : Int)) (hj : j0 = (p.length : Int) + x.length + g.length) (hc : c0 = (x.length : Int)) (hxy : y.length = x.length) (hn : p.length + (x.length + (g.length + (y.length + s.length))) = n) (hl : n ≤ 1000000) : Calls Try.prog 62 #[.slice A n ca, .int .i64 i0, .int .i64 j0, .int .i64 c0, .func (.func 53) #[] #[]] W (Ret W (atAny [.own 47 7 A n ca ((p ++ (x ++ (g ++ (y ++ s)))).map Note.enc)]) (fun v m => v = .tuple #[] ∧ m = [.own 47 7 A n ca ((p ++ (y ++ (g ++ (x ++ s)))).map Note.enc)])) := by
  refine enterA (X := _) (vs := [.slice A n ca, .int .i64 i0, .int .i64 j0, .int .i64 c0, .func (.func 53) #[] #[]]) Try.func62 Try.ntmps62 rfl rfl hm ?_
  refine run_seq ?_
  refine run_region ?_
  refine run_q (.none rfl) rfl rfl (q_assign rfl rfl) ?_
  refine run_nil ?_
  refine run_block ?_
  refine run_sub (subMk (.cons (s := 10) rfl (.cons (s := 0) rfl (.cons (s := 1) rfl (.cons (s := 2) rfl (.cons (s := 3) rfl .nil))))) (.cons Sel.here .refl .nil)) ?_
  refine run_loopC1M1 (ι := Nat) (fun k => k ≤ x.length) (fun k => .int .i64 (k : Int)) (fun k => .own 47 7 A n ca ((Srt.swr p x g y s k).map Note.enc)) (fun k => x.length - k) 0 (by (try dsimp only); exact (by omega)) rfl (.own rfl rfl rfl (by rw [Srt.swr_zero])) ?_
  rintro k hk
  (try dsimp only at hk)
  show Run _ _ _ _ _ _ _ ⟨(10, .int .i64 (k : Int)) :: _, .own 47 7 A n ca ((Srt.swr p x g y s k).map Note.enc) :: _⟩
  refine run_seq ?_
  refine run_seq ?_
  refine run_region ?_
  refine run_q (.none rfl) rfl rfl (q_move rfl rfl) ?_
  refine run_q (.none rfl) rfl rfl (q_move rfl rfl) ?_
  refine run_q (.none rfl) rfl rfl (q_lss rfl rfl rfl) ?_
  refine run_nil ?_
  refine run_cond rfl (fun g13 => ?_) (fun g13 => ?_)
  · have g13' := g13
    try simp only [decide_eq_true_eq, decide_eq_false_iff_not, beq_iff_eq, beq_eq_false_iff_ne, bne_iff_ne, bne_eq_false_iff_eq, Bool.not_eq_true', Bool.not_eq_false', ne_eq, Int.not_lt, Int.not_le, Decidable.not_not] at g13'
    refine run_skip ?_
    refine run_seq ?_
    refine run_block ?_
    refine run_pure [(0, 0), (1, 0), (2, 0), (3, 0), (4, 3), (5, 3), (6, 3), (7, 3), (8, 0), (9, 0), (10, 0), (11, 0), (12, 0), (13, 0), (14, 0), (15, 0), (16, 0), (17, 0), (18, 0), (19, 0), (20, 0), (21, 2), (22, 2), (23, 2)] mixed (by kernel_rfl) .refl ?_
    refine p_q rfl rfl (.none rfl) rfl rfl (q_move rfl rfl) ?_
    refine p_q rfl rfl (.none rfl) rfl rfl (q_move rfl rfl) ?_
    refine p_q rfl rfl (.none rfl) rfl rfl (q_move rfl rfl) ?_
    refine p_q rfl rfl (.none rfl) rfl rfl (q_add rfl rfl rfl (by omega)) ?_
    refine p_p rfl rfl (.none rfl) rfl rfl (q_move rfl rfl) ?_
    refine p_p rfl rfl (.none rfl) rfl rfl (q_move rfl rfl) ?_
    refine p_p rfl rfl (.none rfl) rfl rfl (q_move rfl rfl) ?_
    refine p_p rfl rfl (.none rfl) rfl rfl (q_add rfl rfl rfl (by omega)) ?_
    refine p_q rfl rfl (.none rfl) rfl rfl (q_move rfl rfl) ?_
    refine p_q rfl rfl (.none rfl) rfl rfl (q_move rfl rfl) ?_
    refine p_q rfl rfl (.none rfl) rfl rfl (q_move rfl rfl) ?_
    refine p_q rfl rfl (.none rfl) rfl rfl (q_add rfl rfl rfl (by omega)) ?_
    refine p_q rfl rfl (.none rfl) rfl rfl (q_indexS (q := (p.length + x.length + g.length + k)) rfl Try.underlying22 sz47 rfl rfl (.own Sel.here) (by rw [List.length_map, Srt.swr_len (by omega) (by omega)]; omega) (by omega) (by omega)) ?_
    refine p_q rfl rfl (.none rfl) rfl rfl (q_loadE rfl agg47 rfl (.own Sel.here) (by rw [getmap (by rw [Srt.swr_len (by omega) (by omega)]; omega), Srt.swr_b (by omega) (by omega) rfl]) rfl) ?_
    refine p_q rfl rfl (.none rfl) rfl rfl (q_move rfl rfl) ?_
    refine p_q rfl rfl (.none rfl) rfl rfl (q_move rfl rfl) ?_
    refine p_q rfl rfl (.none rfl) rfl rfl (q_move rfl rfl) ?_
    refine p_q rfl rfl (.none rfl) rfl rfl (q_add rfl rfl rfl (by omega)) ?_
    refine p_q rfl rfl (.none rfl) rfl rfl (q_indexS (q := (p.length + k)) rfl Try.underlying22 sz47 rfl rfl (.own Sel.here) (by rw [List.length_map, Srt.swr_len (by omega) (by omega)]; omega) (by omega) (by omega)) ?_
    refine p_q rfl rfl (.none rfl) rfl rfl (q_loadE rfl agg47 rfl (.own Sel.here) (by rw [getmap (by rw [Srt.swr_len (by omega) (by omega)]; omega), Srt.swr_a (by omega) (by omega) rfl]) rfl) ?_
    refine p_q rfl rfl (.none rfl) rfl rfl (q_indexS (q := (p.length + k)) rfl Try.underlying22 sz47 rfl rfl (.own Sel.here) (by rw [List.length_map, Srt.swr_len (by omega) (by omega)]; omega) (by omega) (by omega)) ?_
    refine p_t rfl rfl (.none rfl) (h_storeE rfl rfl sz47 rfl rfl rfl rfl rfl Sel.here (by omega)) ?_
    rintro - -
    refine p_t rfl rfl (.none rfl) (.of_q rfl rfl (q_indexS (q := (p.length + x.length + g.length + k)) rfl Try.underlying22 sz47 rfl rfl (.own Sel.here) (by rw [List.length_set, List.length_map, Srt.swr_len (by omega) (by omega)]; omega) (by omega) (by omega))) ?_
    rintro - -
    refine p_t rfl rfl (.none rfl) (h_storeE rfl rfl sz47 rfl rfl rfl rfl rfl Sel.here (by omega)) ?_
    rintro - -
    refine p_nil ?_
    refine run_sub (subMk (.cons (s := 0) rfl (.cons (s := 1) rfl (.cons (s := 2) rfl (.cons (s := 3) rfl (.cons (s := 10) rfl .nil))))) .refl) ?_
    refine run_blk ?_
    refine run_region ?_
    refine run_q (.none rfl) rfl rfl (q_move rfl rfl) ?_
    refine run_q (.none rfl) rfl rfl (q_add rfl rfl rfl (by omega)) ?_
    refine run_q (.none rfl) rfl rfl (q_assign rfl rfl) ?_
    refine run_nil ?_
    exact run_again (k + 1) (by (try dsimp only); exact (by omega)) (by (try dsimp only); omega) (subMk (.cons' (s := 10) rfl (vint (by omega)) (.cons (s := 0) rfl (.cons (s := 1) rfl (.cons (s := 2) rfl (.cons (s := 3) rfl .nil))))) (.cons Sel.here (.own rfl rfl rfl (by rw [← Srt.swr_step (by omega) (by omega) rfl rfl, List.map_set, List.map_set]; rfl)) .nil))
  · have g13' := g13
    try simp only [decide_eq_true_eq, decide_eq_false_iff_not, beq_iff_eq, beq_eq_false_iff_ne, bne_iff_ne, bne_eq_false_iff_eq, Bool.not_eq_true', Bool.not_eq_false', ne_eq, Int.not_lt, Int.not_le, Decidable.not_not] at g13'
    refine run_exit rfl ?_
    refine run_sub (subMk .nil .refl) ?_
    refine run_sub (subMk .refl (.cons Sel.here .refl .nil)) ?_
    exact end0 rfl ⟨rfl, by rw [Srt.swr_end (k := k) (by omega) (by omega)]⟩

theorem sN_rot (p x y s : List Note) (A : Option Addr) (n ca : Nat) (i0 j0 c0 : Int) (W : World) (hm : Mem (atAny [.own 47 7 A n ca ((p ++ (x ++ (y ++ s))).map Note.enc)]) W [.own 47 7 A n ca ((p ++ (x ++ (y ++ s))).map Note.enc)] W) (hi : i0 = (p.length : Int)) (hj : j0 = (p.length : Int) + x.length) (hc : c0 = (p.length : Int) + x.length + y.length) (hx0 : 0 < x.length) (hy0 : 0 < y.length) (hn : p.length + (x.length + (y.length + s.length)) = n) (hl : n ≤ 1000000) : Calls Try.prog 61 #[.slice A n ca, .int .i64 i0, .int .i64 j0, .int .i64 c0, .func (.func 53) #[] #[]] W (Ret W (atAny [.own 47 7 A n ca ((p ++ (x ++ (y ++ s))).map Note.enc)]) (fun v m => v = .tuple #[] ∧ m = [.own 47 7 A n ca ((p ++ (y ++ (x ++ s))).map Note.enc)])) := by
  refine enterA (X := _) (vs := [.slice A n ca, .int .i64 i0, .int .i64 j0, .int .i64 c0, .func (.func 53) #[] #[]]) Try.func61 Try.ntmps61 rfl rfl hm ?_
  refine run_seq ?_
  refine run_region ?_
  refine run_q (.none rfl) rfl rfl (q_move rfl rfl) ?_
  refine run_q (.none rfl) rfl rfl (q_move rfl rfl) ?_
  refine run_q (.none rfl) rfl rfl (q_sub rfl rfl rfl (by omega)) ?_
  refine run_q (.none rfl) rfl rfl (q_assign rfl rfl) ?_
  refine run_nil ?_
  refine run_sub (subMk (.cons (s := 0) rfl (.cons (s := 2) rfl (.cons (s := 3) rfl (.cons (s := 4) rfl (.cons (s := 10) rfl .nil))))) .refl) ?_
  refine run_seq ?_
  refine run_region ?_
  refine run_q (.none rfl) rfl rfl (q_move rfl rfl) ?_
  refine run_q (.none rfl) rfl rfl (q_move rfl rfl) ?_
  refine run_q (.none rfl) rfl rfl (q_sub rfl rfl rfl (by omega)) ?_
  refine run_q (.none rfl) rfl rfl (q_assign rfl rfl) ?_
  refine run_nil ?_
  refine run_sub (subMk (.cons (s := 0) rfl (.cons (s := 2) rfl (.cons (s := 4) rfl (.cons (s := 10) rfl (.cons (s := 11) rfl .nil))))) .refl) ?_
  refine run_seq ?_
  refine run_block ?_
  refine run_sub (subMk (.cons (s := 10) rfl (.cons (s := 11) rfl (.cons (s := 0) rfl (.cons (s := 2) rfl (.cons (s := 4) rfl .nil))))) (.cons Sel.here .refl .nil)) ?_
  refine run_loopC2M1 (ι := (List Note) × (List Note) × (List Note) × (List Note)) (fun gg => gg.1.length + gg.2.1.length = p.length + x.length ∧ 0 < gg.2.1.length ∧ 0 < gg.2.2.1.length ∧ gg.1.length + (gg.2.1.length + (gg.2.2.1.length + gg.2.2.2.length)) = n ∧ gg.1 ++ (gg.2.2.1 ++ (gg.2.1 ++ gg.2.2.2)) = p ++ (y ++ (x ++ s))) (fun gg => .int .i64 (gg.2.1.length : Int)) (fun gg => .int .i64 (gg.2.2.1.length : Int)) (fun gg => .own 47 7 A n ca ((gg.1 ++ (gg.2.1 ++ (gg.2.2.1 ++ gg.2.2.2))).map Note.enc)) (fun gg => gg.2.1.length + gg.2.2.1.length) (p, x, y, s) (by (try dsimp only); exact ⟨rfl, hx0, hy0, hn, rfl⟩) (vint (by (try dsimp only) <;> omega)) (vint (by (try dsimp only) <;> omega)) .refl ?_
  rintro ⟨P, X, Y, S⟩ hq
  (try dsimp only at hq)
  obtain ⟨hPX, hX0, hY0, hn2, hT⟩ := hq
  show Run _ _ _ _ _ _ _ ⟨(10, .int .i64 (X.length : Int)) :: (11, .int .i64 (Y.length : Int)) :: _, .own 47 7 A n ca ((P ++ (X ++ (Y ++ S))).map Note.enc) :: _⟩
  refine run_seq ?_
  refine run_seq ?_
  refine run_region ?_
  refine run_q (.none rfl) rfl rfl (q_move rfl rfl) ?_
  refine run_q (.none rfl) rfl rfl (q_move rfl rfl) ?_
  refine run_q (.none rfl) rfl rfl (q_neq rfl rfl rfl) ?_
  refine run_nil ?_
  refine run_cond rfl (fun g20 => ?_) (fun g20 => ?_)
  · have g20' := g20
    try simp only [decide_eq_true_eq, decide_eq_false_iff_not, beq_iff_eq, beq_eq_false_iff_ne, bne_iff_ne, bne_eq_false_iff_eq, Bool.not_eq_true', Bool.not_eq_false', ne_eq, Int.not_lt, Int.not_le, Decidable.not_not] at g20'
    have hne : X.length ≠ Y.length := by omega
    refine run_skip ?_
    refine run_block ?_
    refine run_seq ?_
    refine run_region ?_
    refine run_q (.none rfl) rfl rfl (q_move rfl rfl) ?_
    refine run_q (.none rfl) rfl rfl (q_move rfl rfl) ?_
    refine run_q (.none rfl) rfl rfl (q_gtr rfl rfl rfl) ?_
    refine run_nil ?_
    refine run_sub (subMk (.cons (s := 0) rfl (.cons (s := 2) rfl (.cons (s := 4) rfl (.cons (s := 10) rfl (.cons (s := 11) rfl (.cons (s := 23) rfl .nil)))))) .refl) ?_
    refine run_cond rfl (fun g23 => ?_) (fun g23 => ?_)
    · have g23' := g23
      try simp only [decide_eq_true_eq, decide_eq_false_iff_not, beq_iff_eq, beq_eq_false_iff_ne, bne_iff_ne, bne_eq_false_iff_eq, Bool.not_eq_true', Bool.not_eq_false', ne_eq, Int.not_lt, Int.not_le, Decidable.not_not] at g23'
      obtain ⟨X1, X2, rfl, hX1⟩ : ∃ X1 X2, X = X1 ++ X2 ∧ X1.length = Y.length := ⟨X.take Y.length, X.drop Y.length, (List.take_append_drop _ _).symm, by rw [List.length_take]; omega⟩
      have hx12 : 0 < X2.length := by simp only [List.length_append] at g23'; omega
      refine run_seq ?_
      refine run_sub (subMk .refl (.cons Sel.here (.own (xs' := (P ++ (X1 ++ (X2 ++ (Y ++ S)))).map Note.enc) rfl rfl rfl (by simp only [List.append_assoc])) .nil)) ?_
      refine run_region ?_
      refine run_q (.none rfl) rfl rfl (q_move rfl rfl) ?_
      refine run_q (.none rfl) rfl rfl (q_move rfl rfl) ?_
      refine run_q (.none rfl) rfl rfl (q_move rfl rfl) ?_
      refine run_q (.none rfl) rfl rfl (q_sub rfl rfl rfl (by omega)) ?_
      refine run_q (.none rfl) rfl rfl (q_move rfl rfl) ?_
      refine run_q (.none rfl) rfl rfl (q_move rfl rfl) ?_
      refine run_q (.none rfl) rfl rfl (q_move rfl rfl) ?_
      refine run_h (.none rfl) (h_callX [_] _ rfl rfl rfl call62 (.cons rfl (.cons rfl (.cons rfl (.cons rfl (.cons rfl Evs.nil))))) (Sel.perm Sel.here) (Y := fun _ => atAny [_]) (fun _ _ h => h) (fun w hk hm => sN_swap P X1 X2 Y S A n ca _ _ _ w ((hm.perm (Sel.perm Sel.here)).give (rs := [_])) (by (try simp only [List.length_append] at hPX); (try simp only [List.length_append] at hn2); (try simp only [List.length_append] at hne2); (try simp only [List.length_append, List.length_nil]) <;> omega) (by (try simp only [List.length_append] at hPX); (try simp only [List.length_append] at hn2); (try simp only [List.length_append] at hne2); (try simp only [List.length_append, List.length_nil]) <;> omega) (by (try simp only [List.length_append] at hPX); (try simp only [List.length_append] at hn2); (try simp only [List.length_append] at hne2); (try simp only [List.length_append, List.length_nil]) <;> omega) (by (try simp only [List.length_append] at hPX); (try simp only [List.length_append] at hn2); (try simp only [List.length_append] at hne2); (try simp only [List.length_append, List.length_nil]) <;> omega) (by (try simp only [List.length_append] at hPX); (try simp only [List.length_append] at hn2); (try simp only [List.length_append] at hne2); (try simp only [List.length_append, List.length_nil]) <;> omega) hl)) ?_
      rintro ⟨v, m⟩ ⟨rfl, rfl⟩
      show Run _ _ _ _ _ _ _ ⟨(31, .tuple #[]) :: _, _ :: _⟩
      refine run_nil ?_
      refine run_sub (subMk (.cons (s := 0) rfl (.cons (s := 2) rfl (.cons (s := 4) rfl (.cons (s := 10) rfl (.cons (s := 11) rfl .nil))))) .refl) ?_
      refine run_region ?_
      refine run_q (.none rfl) rfl rfl (q_move rfl rfl) ?_
      refine run_q (.none rfl) rfl rfl (q_move rfl rfl) ?_
      refine run_q (.none rfl) rfl rfl (q_sub rfl rfl rfl (by omega)) ?_
      refine run_q (.none rfl) rfl rfl (q_assign rfl rfl) ?_
      refine run_nil ?_
      refine run_sub (subMk (.cons (s := 0) rfl (.cons (s := 2) rfl (.cons (s := 4) rfl (.cons (s := 10) rfl (.cons (s := 11) rfl .nil))))) .refl) ?_
      refine run_blk ?_
      exact run_again (P ++ Y, X2, X1, S) (by (try dsimp only); exact ⟨(by (try dsimp only); (try simp only [List.length_append] at hPX); (try simp only [List.length_append] at hn2); (try simp only [List.length_append] at hne2); (try simp only [List.length_append]) <;> omega), (by (try dsimp only); (try simp only [List.length_append] at hPX); (try simp only [List.length_append] at hn2); (try simp only [List.length_append] at hne2); (try simp only [List.length_append]) <;> omega), (by (try dsimp only); (try simp only [List.length_append] at hPX); (try simp only [List.length_append] at hn2); (try simp only [List.length_append] at hne2); (try simp only [List.length_append]) <;> omega), (by (try dsimp only); (try simp only [List.length_append] at hPX); (try simp only [List.length_append] at hn2); (try simp only [List.length_append] at hne2); (try simp only [List.length_append]) <;> omega), by rw [← hT]; simp only [List.append_assoc]⟩) (by (try dsimp only); (try simp only [List.length_append]) <;> omega) (subMk (.cons' (s := 10) rfl (vint (by (try dsimp only); (try simp only [List.length_append] at hPX); (try simp only [List.length_append] at hn2); (try simp only [List.length_append] at hne2); (try simp only [List.length_append]) <;> omega)) (.cons' (s := 11) rfl (vint (by (try dsimp only); (try simp only [List.length_append] at hPX); (try simp only [List.length_append] at hn2); (try simp only [List.length_append] at hne2); (try simp only [List.length_append]) <;> omega)) (.cons (s := 0) rfl (.cons (s := 2) rfl (.cons (s := 4) rfl .nil))))) (.cons Sel.here (.own rfl rfl rfl (by simp only [List.append_assoc])) .nil))
    · have g23' := g23
      try simp only [decide_eq_true_eq, decide_eq_false_iff_not, beq_iff_eq, beq_eq_false_iff_ne, bne_iff_ne, bne_eq_false_iff_eq, Bool.not_eq_true', Bool.not_eq_false', ne_eq, Int.not_lt, Int.not_le, Decidable.not_not] at g23'
      obtain ⟨Y1, Y2, rfl, hY2⟩ : ∃ Y1 Y2, Y = Y1 ++ Y2 ∧ Y2.length = X.length := ⟨Y.take (Y.length - X.length), Y.drop (Y.length - X.length), (List.take_append_drop _ _).symm, by rw [List.length_drop]; omega⟩
      have hne2 : (X.length : Int) < (Y1 ++ Y2).length := by omega
      refine run_seq ?_
      refine run_sub (subMk .refl (.cons Sel.here (.own (xs' := (P ++ (X ++ (Y1 ++ (Y2 ++ S)))).map Note.enc) rfl rfl rfl (by simp only [List.append_assoc])) .nil)) ?_
      refine run_region ?_
      refine run_q (.none rfl) rfl rfl (q_move rfl rfl) ?_
      refine run_q (.none rfl) rfl rfl (q_move rfl rfl) ?_
      refine run_q (.none rfl) rfl rfl (q_move rfl rfl) ?_
      refine run_q (.none rfl) rfl rfl (q_sub rfl rfl rfl (by omega)) ?_
      refine run_q (.none rfl) rfl rfl (q_move rfl rfl) ?_
      refine run_q (.none rfl) rfl rfl (q_move rfl rfl) ?_
      refine run_q (.none rfl) rfl rfl (q_add rfl rfl rfl (by omega)) ?_
      refine run_q (.none rfl) rfl rfl (q_move rfl rfl) ?_
      refine run_q (.none rfl) rfl rfl (q_sub rfl rfl rfl (by omega)) ?_
      refine run_q (.none rfl) rfl rfl (q_move rfl rfl) ?_
      refine run_q (.none rfl) rfl rfl (q_move rfl rfl) ?_
      refine run_h (.none rfl) (h_callX [_] _ rfl rfl rfl call62 (.cons rfl (.cons rfl (.cons rfl (.cons rfl (.cons rfl Evs.nil))))) (Sel.perm Sel.here) (Y := fun _ => atAny [_]) (fun _ _ h => h) (fun w hk hm => sN_swap P X Y1 Y2 S A n ca _ _ _ w ((hm.perm (Sel.perm Sel.here)).give (rs := [_])) (by (try simp only [List.length_append] at hPX); (try simp only [List.length_append] at hn2); (try simp only [List.length_append] at hne2); (try simp only [List.length_append, List.length_nil]) <;> omega) (by (try simp only [List.length_append] at hPX); (try simp only [List.length_append] at hn2); (try simp only [List.length_append] at hne2); (try simp only [List.length_append, List.length_nil]) <;> omega) (by (try simp only [List.length_append] at hPX); (try simp only [List.length_append] at hn2); (try simp only [List.length_append] at hne2); (try simp only [List.length_append, List.length_nil]) <;> omega) (by (try simp only [List.length_append] at hPX); (try simp only [List.length_append] at hn2); (try simp only [List.length_append] at hne2); (try simp only [List.length_append, List.length_nil]) <;> omega) (by (try simp only [List.length_append] at hPX); (try simp only [List.length_append] at hn2); (try simp only [List.length_append] at hne2); (try simp only [List.length_append, List.length_nil]) <;> omega) hl)) ?_
      rintro ⟨v, m⟩ ⟨rfl, rfl⟩
      show Run _ _ _ _ _ _ _ ⟨(46, .tuple #[]) :: _, _ :: _⟩
      refine run_nil ?_
      refine run_sub (subMk (.cons (s := 0) rfl (.cons (s := 2) rfl (.cons (s := 4) rfl (.cons (s := 10) rfl (.cons (s := 11) rfl .nil))))) .refl) ?_
      refine run_region ?_
      refine run_q (.none rfl) rfl rfl (q_move rfl rfl) ?_
      refine run_q (.none rfl) rfl rfl (q_move rfl rfl) ?_
      refine run_q (.none rfl) rfl rfl (q_sub rfl rfl rfl (by omega)) ?_
      refine run_q (.none rfl) rfl rfl (q_assign rfl rfl) ?_
      refine run_nil ?_
      refine run_sub (subMk (.cons (s := 0) rfl (.cons (s := 2) rfl (.cons (s := 4) rfl (.cons (s := 10) rfl (.cons (s := 11) rfl .nil))))) .refl) ?_
      refine run_blk ?_
      exact run_again (P, Y2, Y1, X ++ S) (by (try dsimp only); exact ⟨(by (try dsimp only); (try simp only [List.length_append] at hPX); (try simp only [List.length_append] at hn2); (try simp only [List.length_append] at hne2); (try simp only [List.length_append]) <;> omega), (by (try dsimp only); (try simp only [List.length_append] at hPX); (try simp only [List.length_append] at hn2); (try simp only [List.length_append] at hne2); (try simp only [List.length_append]) <;> omega), (by (try dsimp only); (try simp only [List.length_append] at hPX); (try simp only [List.length_append] at hn2); (try simp only [List.length_append] at hne2); (try simp only [List.length_append]) <;> omega), (by (try dsimp only); (try simp only [List.length_append] at hPX); (try simp only [List.length_append] at hn2); (try simp only [List.length_append] at hne2); (try simp only [List.length_append]) <;> omega), by rw [← hT]; simp only [List.append_assoc]⟩) (by (try dsimp only); (try simp only [List.length_append]) <;> omega) (subMk (.cons' (s := 10) rfl (vint (by (try dsimp only); (try simp only [List.length_append] at hPX); (try simp only [List.length_append] at hn2); (try simp only [List.length_append] at hne2); (try simp only [List.length_append]) <;> omega)) (.cons' (s := 11) rfl (vint (by (try dsimp only); (try simp only [List.length_append] at hPX); (try simp only [List.length_append] at hn2); (try simp only [List.length_append] at hne2); (try simp only [List.length_append]) <;> omega)) (.cons (s := 0) rfl (.cons (s := 2) rfl (.cons (s := 4) rfl .nil))))) (.cons Sel.here (.own rfl rfl rfl rfl) .nil))
  · have g20' := g20
    try simp only [decide_eq_true_eq, decide_eq_false_iff_not, beq_iff_eq, beq_eq_false_iff_ne, bne_iff_ne, bne_eq_false_iff_eq, Bool.not_eq_true', Bool.not_eq_false', ne_eq, Int.not_lt, Int.not_le, Decidable.not_not] at g20'
    have heq : X.length = Y.length := by omega
    refine run_exit rfl ?_
    refine run_sub (subMk (.cons (s := 0) rfl (.cons (s := 2) rfl (.cons (s := 4) rfl (.cons (s := 10) rfl .nil)))) .refl) ?_
    refine run_region ?_
    refine run_q (.none rfl) rfl rfl (q_move rfl rfl) ?_
    refine run_q (.none rfl) rfl rfl (q_move rfl rfl) ?_
    refine run_q (.none rfl) rfl rfl (q_move rfl rfl) ?_
    refine run_q (.none rfl) rfl rfl (q_sub rfl rfl rfl (by omega)) ?_
    refine run_q (.none rfl) rfl rfl (q_move rfl rfl) ?_
    refine run_q (.none rfl) rfl rfl (q_move rfl rfl) ?_
    refine run_q (.none rfl) rfl rfl (q_move rfl rfl) ?_
    refine run_h (.none rfl) (h_callX [_] _ rfl rfl rfl call62 (.cons rfl (.cons rfl (.cons rfl (.cons rfl (.cons rfl Evs.nil))))) (Sel.perm Sel.here) (Y := fun _ => atAny [_]) (fun _ _ h => h) (fun w hk hm => sN_swap P X [] Y S A n ca _ _ _ w ((hm.perm (Sel.perm Sel.here)).give (rs := [_])) (by (try simp only [List.length_append] at hPX); (try simp only [List.length_append] at hn2); (try simp only [List.length_append] at hne2); (try simp only [List.length_append, List.length_nil]) <;> omega) (by (try simp only [List.length_append] at hPX); (try simp only [List.length_append] at hn2); (try simp only [List.length_append] at hne2); (try simp only [List.length_append, List.length_nil]) <;> omega) (by (try simp only [List.length_append] at hPX); (try simp only [List.length_append] at hn2); (try simp only [List.length_append] at hne2); (try simp only [List.length_append, List.length_nil]) <;> omega) (by (try simp only [List.length_append] at hPX); (try simp only [List.length_append] at hn2); (try simp only [List.length_append] at hne2); (try simp only [List.length_append, List.length_nil]) <;> omega) (by (try simp only [List.length_append] at hPX); (try simp only [List.length_append] at hn2); (try simp only [List.length_append] at hne2); (try simp only [List.length_append, List.length_nil]) <;> omega) hl)) ?_
    rintro ⟨v, m⟩ ⟨rfl, rfl⟩
    show Run _ _ _ _ _ _ _ ⟨(57, .tuple #[]) :: _, _ :: _⟩
    refine run_nil ?_
    refine run_sub (subMk .nil .refl) ?_
    refine run_sub (subMk .refl (.cons Sel.here .refl .nil)) ?_
    exact end0 rfl ⟨rfl, by rw [← hT]; rfl⟩

end Go.Proofs.Ytbkmmjpklkallaa
