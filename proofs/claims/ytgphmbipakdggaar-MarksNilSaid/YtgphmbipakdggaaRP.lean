/- The reference's common line. -/
import Derived.Test.YtgphmbipakdggaaRO
set_option linter.unusedSimpArgs false
set_option linter.unusedVariables false
namespace Go.Proofs.YtgphmbipakdggaaR
open Go Go.RowKit Hr



set_option maxHeartbeats 4000000 in
set_option maxRecDepth 100000 in
theorem refrow_ok (xs : List Req) (X : Option Addr) (cx : Nat) (b : List Int) (Q : Option Addr) (cq : Nat) (W : World) (hx : Rd W X 13 (xs.map Req.enc)) (hxl : xs.length ≤ 1000000) (hQ : Rd W Q 1 ((negL b).map encI)) (hl6 : b.length ≤ 65536) (hbb : Bd b) (hE0 : rowE xs b = 0) : Calls Try.prog 28 #[.slice X xs.length cx, .slice Q b.length cq] W (Ret W nX (fun v m => ∃ O co A' ca', v = .tuple #[.slice O (rowM xs b).length co, .slice A' b.length ca', .int .i64 0] ∧ m = [.own 50 12 O (rowM xs b).length co ((rowM xs b).map Mk.enc), .own 3 1 A' b.length ca' ((negL (rowO xs b)).map encI)])) := by
  have hq0 : reqsR b.length xs = 0 := by by_cases h : reqsR b.length xs = 0; (· exact h); (· rw [rowE_1 h] at hE0; exact absurd hE0 h)
  have hz := rwE_zero (show rwE xs (rEd xs b) xs.length = 0 by rw [← rowE_2 hq0]; exact hE0)
  obtain ⟨e1, e2⟩ := row_ok hE0
  have heb : -1048592 ≤ rEd xs b ∧ rEd xs b ≤ 2097152 := by have := rowEd_bd hq0 hbb (Nat.le_refl xs.length); unfold rEd; omega
  have hnl := negL_len (l := b)
  refine enterA (X := nX) (vs := [.slice X xs.length cx, .slice Q b.length cq]) Try.func28 Try.ntmps28 rfl rfl Mem.nil ?_
  refine run_seq ?_
  refine run_region ?_
  refine run_q (.none rfl) rfl rfl (q_assign rfl rfl) ?_
  refine run_q (.none rfl) rfl rfl (q_assign rfl rfl) ?_
  refine run_q (.none rfl) rfl rfl (q_assign rfl rfl) ?_
  refine run_nil ?_
  refine run_seq ?_
  refine run_region ?_
  refine run_h (.none rfl) (h_buildSlice rfl rfl rfl Try.underlying38 info3 Parts.nil rfl (by omega)) ?_
  rintro b13 -
  refine run_q (.none rfl) rfl rfl (q_move rfl rfl) ?_
  refine run_h (.none rfl) (h_append rfl rfl rfl Try.underlying38 info3 rfl rfl Sel.here rfl (.inp hQ .no) (by simp [negL_len]) (fun z hz => encI_len hz) (fun z hz => encI_all hz) (by omega) (by omega)) ?_
  rintro ⟨A15, c15⟩ -
  refine run_q (.none rfl) rfl rfl (q_assign rfl rfl) ?_
  refine run_nil ?_
  refine run_sub (subMk (.cons (s := 0) rfl (.cons (s := 1) rfl (.cons (s := 4) rfl (.cons (s := 5) rfl (.cons (s := 6) rfl .nil))))) .refl) ?_
  refine run_seq ?_
  refine run_sub (subMk (.cons (s := 0) rfl (.cons (s := 1) rfl (.cons (s := 4) rfl (.cons' (s := 5) (v' := .slice A15 b.length c15) rfl (by simp) (.cons (s := 6) rfl .nil))))) .refl) ?_
  refine run_region ?_
  refine run_q (.none rfl) rfl rfl (q_assign rfl rfl) ?_
  refine run_nil ?_
  refine run_seq ?_
  refine run_seq ?_
  refine run_region ?_
  refine run_q (.none rfl) rfl rfl (q_assign rfl rfl) ?_
  refine run_nil ?_
  refine run_block ?_
  refine run_sub (subMk (.cons (s := 8) rfl (.cons (s := 7) rfl (.cons (s := 0) rfl (.cons (s := 1) rfl (.cons (s := 4) rfl (.cons (s := 5) rfl (.cons (s := 6) rfl .nil))))))) (.cons Sel.here .refl .nil)) ?_
  refine run_loopC2M0 (ι := Nat) (fun i => i ≤ xs.length ∧ True) (fun i => .int .i64 (i : Int)) (fun i => .int .i64 (rowEd xs b i))  (fun i => xs.length - i) 0 (by (try dsimp only); exact ⟨by omega, trivial⟩) rfl rfl  ?_
  rintro i hq
  (try dsimp only at hq)
  obtain ⟨hi, hE⟩ := hq
  show Run _ _ _ _ _ _ _ ⟨(8, .int .i64 (i : Int)) :: (7, .int .i64 (rowEd xs b i)) :: _, _⟩
  refine run_seq ?_
  refine run_seq ?_
  refine run_region ?_
  refine run_q (.none rfl) rfl rfl (q_move rfl rfl) ?_
  refine run_q (.none rfl) rfl rfl (q_move rfl rfl) ?_
  refine run_q (.none rfl) rfl rfl (q_len rfl Try.underlying37 rfl) ?_
  refine run_q (.none rfl) rfl rfl (q_lss rfl rfl rfl) ?_
  refine run_nil ?_
  refine run_sub (subMk (.cons (s := 0) rfl (.cons (s := 1) rfl (.cons (s := 4) rfl (.cons (s := 5) rfl (.cons (s := 6) rfl (.cons (s := 7) rfl (.cons (s := 8) rfl (.cons (s := 19) rfl .nil)))))))) .refl) ?_
  refine run_cond rfl (fun g19 => ?_) (fun g19 => ?_)
  · have g19' := g19
    try simp only [decide_eq_true_eq, decide_eq_false_iff_not, beq_iff_eq, beq_eq_false_iff_ne, bne_iff_ne, bne_eq_false_iff_eq, Bool.not_eq_true', Bool.not_eq_false', ne_eq, Int.not_lt, Int.not_le, Decidable.not_not] at g19'
    have hq := reqE_ok (reqR_ok (reqsR_ok hq0 (show i < xs.length by omega))).1
    have hsd := (reqR_ok (reqsR_ok hq0 (show i < xs.length by omega))).2
    refine run_skip ?_
    refine run_seq ?_
    refine run_block ?_
    refine run_seq ?_
    refine run_seq ?_
    refine run_region ?_
    refine run_q (.none rfl) rfl rfl (q_move rfl rfl) ?_
    refine run_q (.none rfl) rfl rfl (q_move rfl rfl) ?_
    refine run_q (.none rfl) rfl rfl (q_indexS (q := i) rfl Try.underlying37 sz25 rfl rfl (.inp hx .no) (by simp <;> omega) rfl (by omega)) ?_
    refine run_q (.none rfl) rfl rfl (q_loadE rfl agg25 rfl (.inp hx .no) (getmap (by omega)) rfl) ?_
    refine run_q (.none rfl) rfl rfl (q_move rfl rfl) ?_
    refine run_q (.none rfl) rfl rfl (q_len rfl Try.underlying38 rfl) ?_
    refine run_q (.none rfl) rfl rfl (q_call rfl call15 (.cons rfl (.cons rfl Evs.nil)) (fun w hk hm => refcheck_just (nth xs i) (b.length : Int) w)) ?_
    refine run_q (.none rfl) rfl rfl (q_assign rfl rfl) ?_
    refine run_nil ?_
    refine run_sub (subMk (.cons (s := 0) rfl (.cons (s := 1) rfl (.cons (s := 4) rfl (.cons (s := 5) rfl (.cons (s := 6) rfl (.cons (s := 7) rfl (.cons (s := 8) rfl (.cons (s := 9) rfl .nil)))))))) .refl) ?_
    refine run_seq ?_
    refine run_region ?_
    refine run_q (.none rfl) rfl rfl (q_move rfl rfl) ?_
    refine run_q (.none rfl) rfl rfl (q_neq rfl rfl rfl) ?_
    refine run_nil ?_
    refine run_condF rfl (by rw [(reqR_ok (reqsR_ok hq0 (by omega))).1]; rfl) ?_
    refine run_skip ?_
    refine run_seq ?_
    refine run_seq ?_
    refine run_region ?_
    refine run_q (.none rfl) rfl rfl (q_move rfl rfl) ?_
    refine run_q (.none rfl) rfl rfl (q_move rfl rfl) ?_
    refine run_q (.none rfl) rfl rfl (q_indexS (q := i) rfl Try.underlying37 sz25 rfl rfl (.inp hx .no) (by simp <;> omega) rfl (by omega)) ?_
    refine run_q (.none rfl) rfl rfl (q_fieldAddr (d := 5) rfl Try.underlying25 rfl rfl sz3 rfl) ?_
    refine run_q (.none rfl) rfl rfl (q_loadF rfl one3 rfl (.inp hx .no) (getmap (by omega)) rfl) ?_
    refine run_q (.none rfl) rfl rfl (q_neq rfl rfl rfl) ?_
    refine run_nil ?_
    refine run_sub (subMk (.cons (s := 0) rfl (.cons (s := 1) rfl (.cons (s := 4) rfl (.cons (s := 5) rfl (.cons (s := 6) rfl (.cons (s := 7) rfl (.cons (s := 8) rfl (.cons (s := 38) rfl .nil)))))))) .refl) ?_
    refine run_condF rfl (by rw [hsd]; rfl) ?_
    refine run_skip ?_
    refine run_seq ?_
    refine run_region ?_
    refine run_q (.none rfl) rfl rfl (q_move rfl rfl) ?_
    refine run_q (.none rfl) rfl rfl (q_move rfl rfl) ?_
    refine run_q (.none rfl) rfl rfl (q_move rfl rfl) ?_
    refine run_q (.none rfl) rfl rfl (q_indexS (q := i) rfl Try.underlying37 sz25 rfl rfl (.inp hx .no) (by simp <;> omega) rfl (by omega)) ?_
    refine run_q (.none rfl) rfl rfl (q_fieldAddr (d := 6) rfl Try.underlying25 rfl rfl sz3 rfl) ?_
    refine run_q (.none rfl) rfl rfl (q_loadF rfl one3 rfl (.inp hx .no) (getmap (by omega)) rfl) ?_
    refine run_q (.none rfl) rfl rfl (q_min2 rfl rfl rfl) ?_
    refine run_q (.none rfl) rfl rfl (q_assign rfl rfl) ?_
    refine run_nil ?_
    refine run_sub (subMk (.cons (s := 0) rfl (.cons (s := 1) rfl (.cons (s := 4) rfl (.cons (s := 5) rfl (.cons (s := 6) rfl (.cons (s := 7) rfl (.cons (s := 8) rfl .nil))))))) .refl) ?_
    refine run_seq ?_
    refine run_region ?_
    refine run_q (.none rfl) rfl rfl (q_move rfl rfl) ?_
    refine run_q (.none rfl) rfl rfl (q_move rfl rfl) ?_
    refine run_q (.none rfl) rfl rfl (q_indexS (q := i) rfl Try.underlying37 sz25 rfl rfl (.inp hx .no) (by simp <;> omega) rfl (by omega)) ?_
    refine run_q (.none rfl) rfl rfl (q_fieldAddr (d := 3) rfl Try.underlying25 rfl rfl sz3 rfl) ?_
    refine run_q (.none rfl) rfl rfl (q_loadF rfl one3 rfl (.inp hx .no) (getmap (by omega)) rfl) ?_
    refine run_q (.none rfl) rfl rfl (q_assign rfl rfl) ?_
    refine run_nil ?_
    refine run_sub (subMk (.cons (s := 0) rfl (.cons (s := 1) rfl (.cons (s := 4) rfl (.cons (s := 5) rfl (.cons (s := 6) rfl (.cons (s := 7) rfl (.cons (s := 8) rfl (.cons (s := 10) rfl .nil)))))))) .refl) ?_
    refine run_block ?_
    refine run_sub (subMk (.cons (s := 10) rfl (.cons (s := 7) rfl (.cons (s := 0) rfl (.cons (s := 1) rfl (.cons (s := 4) rfl (.cons (s := 5) rfl (.cons (s := 6) rfl (.cons (s := 8) rfl .nil)))))))) (.cons Sel.here .refl .nil)) ?_
    refine run_loopC2M0 (ι := Nat) (fun k => (nth xs i).fst + (k : Int) ≤ (nth xs i).lst + 1) (fun k => .int .i64 ((nth xs i).fst + (k : Int))) (fun k => .int .i64 (edR b (min (rowEd xs b i) (nth xs i).near) (nth xs i).fst.toNat k))  (fun k => (nth xs i).lst.toNat + 1 - k) 0 (by (try dsimp only); exact (by omega)) (vint (by omega)) rfl  ?_
    rintro k hk
    (try dsimp only at hk)
    show Run _ _ _ _ _ _ _ ⟨(10, .int .i64 ((nth xs i).fst + (k : Int))) :: (7, .int .i64 (edR b (min (rowEd xs b i) (nth xs i).near) (nth xs i).fst.toNat k)) :: _, _⟩
    refine run_seq ?_
    refine run_seq ?_
    refine run_region ?_
    refine run_q (.none rfl) rfl rfl (q_move rfl rfl) ?_
    refine run_q (.none rfl) rfl rfl (q_move rfl rfl) ?_
    refine run_q (.none rfl) rfl rfl (q_move rfl rfl) ?_
    refine run_q (.none rfl) rfl rfl (q_indexS (q := i) rfl Try.underlying37 sz25 rfl rfl (.inp hx .no) (by simp <;> omega) rfl (by omega)) ?_
    refine run_q (.none rfl) rfl rfl (q_fieldAddr (d := 4) rfl Try.underlying25 rfl rfl sz3 rfl) ?_
    refine run_q (.none rfl) rfl rfl (q_loadF rfl one3 rfl (.inp hx .no) (getmap (by omega)) rfl) ?_
    refine run_q (.none rfl) rfl rfl (q_leq rfl rfl rfl) ?_
    refine run_nil ?_
    refine run_sub (subMk (.cons (s := 0) rfl (.cons (s := 1) rfl (.cons (s := 4) rfl (.cons (s := 5) rfl (.cons (s := 6) rfl (.cons (s := 7) rfl (.cons (s := 8) rfl (.cons (s := 10) rfl (.cons (s := 58) rfl .nil))))))))) .refl) ?_
    refine run_cond rfl (fun g58 => ?_) (fun g58 => ?_)
    · have g58' := g58
      try simp only [decide_eq_true_eq, decide_eq_false_iff_not, beq_iff_eq, beq_eq_false_iff_ne, bne_iff_ne, bne_eq_false_iff_eq, Bool.not_eq_true', Bool.not_eq_false', ne_eq, Int.not_lt, Int.not_le, Decidable.not_not] at g58'
      have hbk := hbb ((nth xs i).fst.toNat + k) (by omega)
      refine run_skip ?_
      refine run_seq ?_
      refine run_block ?_
      refine run_region ?_
      refine run_q (.none rfl) rfl rfl (q_move rfl rfl) ?_
      refine run_q (.none rfl) rfl rfl (q_move rfl rfl) ?_
      refine run_q (.none rfl) rfl rfl (q_move rfl rfl) ?_
      refine run_q (.none rfl) rfl rfl (q_indexS (q := ((nth xs i).fst.toNat + k)) rfl Try.underlying38 sz3 rfl rfl (.inp hQ .no) (by rw [List.length_map, negL_len]) (by omega) (by omega)) ?_
      refine run_q (.none rfl) rfl rfl (q_loadC rfl one3 rfl (.inp hQ .no) (getmap (by rw [negL_len]; omega))) ?_
      refine run_q (.none rfl) rfl rfl (q_sub rfl rfl rfl (by rw [negL_nth]; omega)) ?_
      refine run_q (.none rfl) rfl rfl (q_min2 rfl rfl rfl) ?_
      refine run_q (.none rfl) rfl rfl (q_assign rfl rfl) ?_
      refine run_nil ?_
      refine run_sub (subMk (.cons (s := 0) rfl (.cons (s := 1) rfl (.cons (s := 4) rfl (.cons (s := 5) rfl (.cons (s := 6) rfl (.cons (s := 7) rfl (.cons (s := 8) rfl (.cons (s := 10) rfl .nil)))))))) .refl) ?_
      refine run_blk ?_
      refine run_region ?_
      refine run_q (.none rfl) rfl rfl (q_move rfl rfl) ?_
      refine run_q (.none rfl) rfl rfl (q_add rfl rfl rfl (by omega)) ?_
      refine run_q (.none rfl) rfl rfl (q_assign rfl rfl) ?_
      refine run_nil ?_
      exact run_again (k + 1) (by (try dsimp only); exact (by omega)) (by (try dsimp only); omega) (subMk (.cons' (s := 10) rfl (vint (by omega)) (.cons' (s := 7) rfl (vint (by rw [edR_next, negL_nth])) (.cons (s := 0) rfl (.cons (s := 1) rfl (.cons (s := 4) rfl (.cons (s := 5) rfl (.cons (s := 6) rfl (.cons (s := 8) rfl .nil)))))))) (.cons Sel.here .refl .nil))
    · have g58' := g58
      try simp only [decide_eq_true_eq, decide_eq_false_iff_not, beq_iff_eq, beq_eq_false_iff_ne, bne_iff_ne, bne_eq_false_iff_eq, Bool.not_eq_true', Bool.not_eq_false', ne_eq, Int.not_lt, Int.not_le, Decidable.not_not] at g58'
      refine run_exit rfl ?_
      refine run_blk ?_
      refine run_region ?_
      refine run_q (.none rfl) rfl rfl (q_move rfl rfl) ?_
      refine run_q (.none rfl) rfl rfl (q_add rfl rfl rfl (by omega)) ?_
      refine run_q (.none rfl) rfl rfl (q_assign rfl rfl) ?_
      refine run_nil ?_
      refine run_sub (subMk (.cons (s := 0) rfl (.cons (s := 1) rfl (.cons (s := 4) rfl (.cons (s := 5) rfl (.cons (s := 6) rfl (.cons (s := 7) rfl (.cons (s := 8) rfl .nil))))))) .refl) ?_
      exact run_again (i + 1) (by (try dsimp only); exact ⟨by omega, trivial⟩) (by (try dsimp only); omega) (subMk (.cons' (s := 8) rfl (vint (by omega)) (.cons' (s := 7) rfl (vint (edR_all (by omega) (by omega))) (.cons (s := 0) rfl (.cons (s := 1) rfl (.cons (s := 4) rfl (.cons (s := 5) rfl (.cons (s := 6) rfl .nil))))))) (.cons Sel.here .refl .nil))
  · have g19' := g19
    try simp only [decide_eq_true_eq, decide_eq_false_iff_not, beq_iff_eq, beq_eq_false_iff_ne, bne_iff_ne, bne_eq_false_iff_eq, Bool.not_eq_true', Bool.not_eq_false', ne_eq, Int.not_lt, Int.not_le, Decidable.not_not] at g19'
    refine run_exit rfl ?_
    refine run_seq ?_
    refine run_seq ?_
    refine run_sub (subMk (.cons (s := 0) rfl (.cons (s := 1) rfl (.cons (s := 4) rfl (.cons (s := 5) rfl (.cons (s := 6) rfl (.cons' (s := 7) (v' := .int .i64 (rEd xs b)) rfl (vint (by rw [show i = xs.length from by omega]; rfl)) (.cons (s := 8) rfl (.cons (s := 19) rfl .nil)))))))) .refl) ?_
    refine run_region ?_
    refine run_q (.none rfl) rfl rfl (q_assign rfl rfl) ?_
    refine run_nil ?_
    refine run_block ?_
    refine run_sub (subMk .refl (MemSub.nilOwn 50 12)) ?_
    refine run_sub (subMk (.cons (s := 11) rfl (.cons (s := 4) rfl (.cons (s := 0) rfl (.cons (s := 1) rfl (.cons (s := 5) rfl (.cons (s := 6) rfl (.cons (s := 7) rfl .nil))))))) (.cons (.there Sel.here) .refl (.cons Sel.here .refl .nil))) ?_
    refine run_loopC2M2 (ι := Nat × (Option Addr) × Nat) (fun gg => gg.1 ≤ xs.length ∧ rwE xs (rEd xs b) gg.1 = 0) (fun gg => .int .i64 (gg.1 : Int)) (fun gg => .slice gg.2.1 (rwM xs (rEd xs b) gg.1).length gg.2.2) (fun gg => .own 3 1 A15 b.length c15 ((negL (rw_ xs b (rEd xs b) gg.1)).map encI)) (fun gg => .own 50 12 gg.2.1 (rwM xs (rEd xs b) gg.1).length gg.2.2 ((rwM xs (rEd xs b) gg.1).map Mk.enc)) (fun gg => xs.length - gg.1) (0, none, 0) (by (try dsimp only); exact ⟨by omega, rfl⟩) rfl rfl (.own rfl (by simp [negL_len]) rfl (by simp; rfl)) (.own rfl rfl rfl rfl) ?_
    rintro ⟨i, O, co⟩ hq
    (try dsimp only at hq)
    obtain ⟨hi, hEs⟩ := hq
    show Run _ _ _ _ _ _ _ ⟨(11, .int .i64 (i : Int)) :: (4, .slice O (rwM xs (rEd xs b) i).length co) :: _, .own 3 1 A15 b.length c15 ((negL (rw_ xs b (rEd xs b) i)).map encI) :: .own 50 12 O (rwM xs (rEd xs b) i).length co ((rwM xs (rEd xs b) i).map Mk.enc) :: _⟩
    refine run_seq ?_
    refine run_seq ?_
    refine run_region ?_
    refine run_q (.none rfl) rfl rfl (q_move rfl rfl) ?_
    refine run_q (.none rfl) rfl rfl (q_move rfl rfl) ?_
    refine run_q (.none rfl) rfl rfl (q_len rfl Try.underlying37 rfl) ?_
    refine run_q (.none rfl) rfl rfl (q_lss rfl rfl rfl) ?_
    refine run_nil ?_
    refine run_sub (subMk (.cons (s := 0) rfl (.cons (s := 1) rfl (.cons (s := 4) rfl (.cons (s := 5) rfl (.cons (s := 6) rfl (.cons (s := 7) rfl (.cons (s := 11) rfl (.cons (s := 71) rfl .nil)))))))) .refl) ?_
    refine run_cond rfl (fun g71 => ?_) (fun g71 => ?_)
    · have g71' := g71
      try simp only [decide_eq_true_eq, decide_eq_false_iff_not, beq_iff_eq, beq_eq_false_iff_ne, bne_iff_ne, bne_eq_false_iff_eq, Bool.not_eq_true', Bool.not_eq_false', ne_eq, Int.not_lt, Int.not_le, Decidable.not_not] at g71'
      have hq := reqE_ok (reqR_ok (reqsR_ok hq0 (show i < xs.length by omega))).1
      have hsd := (reqR_ok (reqsR_ok hq0 (show i < xs.length by omega))).2
      have hwl := rw_len (xs := xs) (o := b) (e := rEd xs b) (i := i)
      have hml := rwM_len (xs := xs) (e := rEd xs b) (i := i)
      have hlo := hz i (by omega)
      refine run_skip ?_
      refine run_seq ?_
      refine run_block ?_
      refine run_seq ?_
      refine run_seq ?_
      refine run_region ?_
      refine run_q (.none rfl) rfl rfl (q_move rfl rfl) ?_
      refine run_q (.none rfl) rfl rfl (q_move rfl rfl) ?_
      refine run_q (.none rfl) rfl rfl (q_move rfl rfl) ?_
      refine run_q (.none rfl) rfl rfl (q_indexS (q := i) rfl Try.underlying37 sz25 rfl rfl (.inp hx .no) (by simp <;> omega) rfl (by omega)) ?_
      refine run_q (.none rfl) rfl rfl (q_fieldAddr (d := 12) rfl Try.underlying25 rfl rfl sz3 rfl) ?_
      refine run_q (.none rfl) rfl rfl (q_loadF rfl one3 rfl (.inp hx .no) (getmap (by omega)) rfl) ?_
      refine run_q (.none rfl) rfl rfl (q_sub rfl rfl rfl (by omega)) ?_
      refine run_q (.none rfl) rfl rfl (q_lss rfl rfl rfl) ?_
      refine run_nil ?_
      refine run_sub (subMk (.cons (s := 0) rfl (.cons (s := 1) rfl (.cons (s := 4) rfl (.cons (s := 5) rfl (.cons (s := 6) rfl (.cons (s := 7) rfl (.cons (s := 11) rfl (.cons (s := 81) rfl .nil)))))))) .refl) ?_
      refine run_condF rfl (decide_eq_false hlo) ?_
      refine run_skip ?_
      refine run_seq ?_
      refine run_seq ?_
      refine run_region ?_
      refine run_q (.none rfl) rfl rfl (q_move rfl rfl) ?_
      refine run_q (.none rfl) rfl rfl (q_move rfl rfl) ?_
      refine run_q (.none rfl) rfl rfl (q_indexS (q := i) rfl Try.underlying37 sz25 rfl rfl (.inp hx .no) (by simp <;> omega) rfl (by omega)) ?_
      refine run_q (.none rfl) rfl rfl (q_fieldAddr (d := 3) rfl Try.underlying25 rfl rfl sz3 rfl) ?_
      refine run_q (.none rfl) rfl rfl (q_loadF rfl one3 rfl (.inp hx .no) (getmap (by omega)) rfl) ?_
      refine run_q (.none rfl) rfl rfl (q_assign rfl rfl) ?_
      refine run_nil ?_
      refine run_sub (subMk (.cons (s := 0) rfl (.cons (s := 1) rfl (.cons (s := 4) rfl (.cons (s := 5) rfl (.cons (s := 6) rfl (.cons (s := 7) rfl (.cons (s := 11) rfl (.cons (s := 12) rfl .nil)))))))) .refl) ?_
      refine run_block ?_
      refine run_sub (subMk (.cons (s := 12) rfl (.cons (s := 0) rfl (.cons (s := 1) rfl (.cons (s := 4) rfl (.cons (s := 5) rfl (.cons (s := 6) rfl (.cons (s := 7) rfl (.cons (s := 11) rfl .nil)))))))) (.cons Sel.here .refl (.cons Sel.here .refl .nil))) ?_
      refine run_loopC1M1 (ι := Nat) (fun k => (nth xs i).fst + (k : Int) ≤ (nth xs i).lst + 1) (fun k => .int .i64 ((nth xs i).fst + (k : Int))) (fun k => .own 3 1 A15 b.length c15 ((negL (raiseN (rw_ xs b (rEd xs b) i) (nth xs i).fst.toNat ((nth xs i).fst.toNat + k) (-((rEd xs b) - (nth xs i).hgt)))).map encI)) (fun k => (nth xs i).lst.toNat + 1 - k) 0 (by (try dsimp only); exact (by omega)) (vint (by omega)) (.own rfl rfl rfl (by rw [Nat.add_zero, raiseN_start])) ?_
      rintro k hk
      (try dsimp only at hk)
      show Run _ _ _ _ _ _ _ ⟨(12, .int .i64 ((nth xs i).fst + (k : Int))) :: _, .own 3 1 A15 b.length c15 ((negL (raiseN (rw_ xs b (rEd xs b) i) (nth xs i).fst.toNat ((nth xs i).fst.toNat + k) (-((rEd xs b) - (nth xs i).hgt)))).map encI) :: _⟩
      refine run_seq ?_
      refine run_seq ?_
      refine run_region ?_
      refine run_q (.none rfl) rfl rfl (q_move rfl rfl) ?_
      refine run_q (.none rfl) rfl rfl (q_move rfl rfl) ?_
      refine run_q (.none rfl) rfl rfl (q_move rfl rfl) ?_
      refine run_q (.none rfl) rfl rfl (q_indexS (q := i) rfl Try.underlying37 sz25 rfl rfl (.inp hx .no) (by simp <;> omega) rfl (by omega)) ?_
      refine run_q (.none rfl) rfl rfl (q_fieldAddr (d := 4) rfl Try.underlying25 rfl rfl sz3 rfl) ?_
      refine run_q (.none rfl) rfl rfl (q_loadF rfl one3 rfl (.inp hx .no) (getmap (by omega)) rfl) ?_
      refine run_q (.none rfl) rfl rfl (q_leq rfl rfl rfl) ?_
      refine run_nil ?_
      refine run_sub (subMk (.cons (s := 0) rfl (.cons (s := 1) rfl (.cons (s := 4) rfl (.cons (s := 5) rfl (.cons (s := 6) rfl (.cons (s := 7) rfl (.cons (s := 11) rfl (.cons (s := 12) rfl (.cons (s := 94) rfl .nil))))))))) .refl) ?_
      refine run_cond rfl (fun g94 => ?_) (fun g94 => ?_)
      · have g94' := g94
        try simp only [decide_eq_true_eq, decide_eq_false_iff_not, beq_iff_eq, beq_eq_false_iff_ne, bne_iff_ne, bne_eq_false_iff_eq, Bool.not_eq_true', Bool.not_eq_false', ne_eq, Int.not_lt, Int.not_le, Decidable.not_not] at g94'
        refine run_skip ?_
        refine run_seq ?_
        refine run_block ?_
        refine run_draw [(0, 0), (1, 0), (2, 0), (3, 0), (4, 0), (5, 0), (6, 0), (7, 0), (8, 0), (9, 0), (10, 0), (11, 0), (12, 0), (13, 0), (14, 0), (15, 2)] mixed (by kernel_rfl) .refl ?_
        refine d_q rfl rfl (.none rfl) rfl rfl (q_move rfl rfl) ?_
        refine d_q rfl rfl (.none rfl) rfl rfl (q_move rfl rfl) ?_
        refine d_q rfl rfl (.none rfl) rfl rfl (q_move rfl rfl) ?_
        refine d_q rfl rfl (.none rfl) rfl rfl (q_move rfl rfl) ?_
        refine d_q rfl rfl (.none rfl) rfl rfl (q_indexS (q := ((nth xs i).fst.toNat + k)) rfl Try.underlying38 sz3 rfl rfl (.own Sel.here) (by rw [List.length_map, negL_len, raiseN_len, rw_len]) (by omega) (by omega)) ?_
        refine d_q rfl rfl (.none rfl) rfl rfl (q_loadC rfl one3 rfl (.own Sel.here) (getmap (by rw [negL_len, raiseN_len]; omega))) ?_
        refine d_q rfl rfl (.none rfl) rfl rfl (q_move rfl rfl) ?_
        refine d_q rfl rfl (.none rfl) rfl rfl (q_move rfl rfl) ?_
        refine d_q rfl rfl (.none rfl) rfl rfl (q_move rfl rfl) ?_
        refine d_q rfl rfl (.none rfl) rfl rfl (q_indexS (q := i) rfl Try.underlying37 sz25 rfl rfl (.inp hx .no) (by simp <;> omega) rfl (by omega)) ?_
        refine d_q rfl rfl (.none rfl) rfl rfl (q_fieldAddr (d := 12) rfl Try.underlying25 rfl rfl sz3 rfl) ?_
        refine d_q rfl rfl (.none rfl) rfl rfl (q_loadF rfl one3 rfl (.inp hx .no) (getmap (by omega)) rfl) ?_
        refine d_q rfl rfl (.none rfl) rfl rfl (q_sub rfl rfl rfl (by omega)) ?_
        refine d_q rfl rfl (.none rfl) rfl rfl (q_min2 rfl rfl rfl) ?_
        refine d_q rfl rfl (.none rfl) rfl rfl (q_indexS (q := ((nth xs i).fst.toNat + k)) rfl Try.underlying38 sz3 rfl rfl (.own Sel.here) (by rw [List.length_map, negL_len, raiseN_len, rw_len]) (by omega) (by omega)) ?_
        refine d_t rfl rfl (.none rfl) (h_storeE rfl rfl sz3 rfl rfl rfl rfl rfl Sel.here (by omega)) ?_
        rintro - -
        refine d_nil ?_
        refine run_sub (subMk (.cons (s := 0) rfl (.cons (s := 1) rfl (.cons (s := 4) rfl (.cons (s := 5) rfl (.cons (s := 6) rfl (.cons (s := 7) rfl (.cons (s := 11) rfl (.cons (s := 12) rfl .nil)))))))) .refl) ?_
        refine run_blk ?_
        refine run_region ?_
        refine run_q (.none rfl) rfl rfl (q_move rfl rfl) ?_
        refine run_q (.none rfl) rfl rfl (q_add rfl rfl rfl (by omega)) ?_
        refine run_q (.none rfl) rfl rfl (q_assign rfl rfl) ?_
        refine run_nil ?_
        exact run_again (k + 1) (by (try dsimp only); exact (by omega)) (by (try dsimp only); omega) (subMk (.cons' (s := 12) rfl (vint (by omega)) (.cons (s := 0) rfl (.cons (s := 1) rfl (.cons (s := 4) rfl (.cons (s := 5) rfl (.cons (s := 6) rfl (.cons (s := 7) rfl (.cons (s := 11) rfl .nil)))))))) (.cons Sel.here (.own rfl rfl rfl (setR (by rw [rw_len]; omega))) (.cons Sel.here .refl .nil)))
      · have g94' := g94
        try simp only [decide_eq_true_eq, decide_eq_false_iff_not, beq_iff_eq, beq_eq_false_iff_ne, bne_iff_ne, bne_eq_false_iff_eq, Bool.not_eq_true', Bool.not_eq_false', ne_eq, Int.not_lt, Int.not_le, Decidable.not_not] at g94'
        refine run_exit rfl ?_
        refine run_region ?_
        refine run_q (.none rfl) rfl rfl (q_move rfl rfl) ?_
        refine run_q (.none rfl) rfl rfl (q_move rfl rfl) ?_
        refine run_q (.none rfl) rfl rfl (q_move rfl rfl) ?_
        refine run_q (.none rfl) rfl rfl (q_indexS (q := i) rfl Try.underlying37 sz25 rfl rfl (.inp hx .no) (by simp <;> omega) rfl (by omega)) ?_
        refine run_q (.none rfl) rfl rfl (q_loadE rfl agg25 rfl (.inp hx .no) (getmap (by omega)) rfl) ?_
        refine run_q (.none rfl) rfl rfl (q_move rfl rfl) ?_
        refine run_q (.none rfl) rfl rfl (q_call rfl call45 (.cons rfl (.cons rfl Evs.nil)) (fun w hk hm => refmark_just (nth xs i) (rEd xs b) w hq.2.2.1 ⟨by omega, by omega⟩ ⟨by omega, by omega⟩ ⟨by omega, by omega⟩)) ?_
        refine run_h (.none rfl) (h_buildSlice rfl rfl rfl Try.underlying44 info50 (.cons rfl rfl rfl rfl Parts.nil) rfl (by omega)) ?_
        rintro b119 -
        refine run_h (.none rfl) (h_append rfl rfl rfl Try.underlying44 info50 rfl rfl (.there (.there Sel.here)) rfl (.own Sel.here) rfl (all1 rfl) (all1 rfl) (by omega) (by omega)) ?_
        rintro ⟨A120, c120⟩ -
        refine run_q (.none rfl) rfl rfl (q_assign rfl rfl) ?_
        refine run_nil ?_
        refine run_sub (subMk (.cons (s := 0) rfl (.cons (s := 1) rfl (.cons (s := 4) rfl (.cons (s := 5) rfl (.cons (s := 6) rfl (.cons (s := 7) rfl (.cons (s := 11) rfl .nil))))))) .refl) ?_
        refine run_blk ?_
        refine run_region ?_
        refine run_q (.none rfl) rfl rfl (q_move rfl rfl) ?_
        refine run_q (.none rfl) rfl rfl (q_add rfl rfl rfl (by omega)) ?_
        refine run_q (.none rfl) rfl rfl (q_assign rfl rfl) ?_
        refine run_nil ?_
        exact run_again (i + 1, A120, c120) (by (try dsimp only); exact ⟨by omega, rwE_next hEs hlo⟩) (by (try dsimp only); omega) (subMk (.cons' (s := 11) rfl (vint (by omega)) (.cons' (s := 4) rfl (by rw [rwM_len, rwM_len]) (.cons (s := 0) rfl (.cons (s := 1) rfl (.cons (s := 5) rfl (.cons (s := 6) rfl (.cons (s := 7) rfl .nil))))))) (.cons (.there (.there Sel.here)) (.own rfl rfl rfl (by rw [rw_next, show (nth xs i).fst.toNat + k = (nth xs i).lst.toNat + 1 from by omega])) (.cons Sel.here (.own (m' := (rwM xs (rEd xs b) (i + 1)).length) (xs' := (rwM xs (rEd xs b) (i + 1)).map Mk.enc) rfl (by rw [rwM_len, rwM_len]) rfl (by rw [rwM_next, List.map_append]; rfl)) .nil)))
    · have g71' := g71
      try simp only [decide_eq_true_eq, decide_eq_false_iff_not, beq_iff_eq, beq_eq_false_iff_ne, bne_iff_ne, bne_eq_false_iff_eq, Bool.not_eq_true', Bool.not_eq_false', ne_eq, Int.not_lt, Int.not_le, Decidable.not_not] at g71'
      refine run_exit rfl ?_
      refine run_sub (subMk (.cons (s := 4) rfl (.cons (s := 5) rfl (.cons (s := 6) rfl .nil))) .refl) ?_
      refine run_seq ?_
      refine run_region ?_
      refine run_q (.none rfl) rfl rfl (q_move rfl rfl) ?_
      refine run_q (.none rfl) rfl rfl (q_move rfl rfl) ?_
      refine run_q (.none rfl) rfl rfl (q_assign rfl rfl) ?_
      refine run_q (.none rfl) rfl rfl (q_assign rfl rfl) ?_
      refine run_q (.none rfl) rfl rfl (q_assign rfl rfl) ?_
      refine run_nil ?_
      refine run_ret ?_
      refine run_sub (subMk .refl (.cons (.there Sel.here) .refl (.cons Sel.here .refl .nil))) ?_
      exact end3 rfl rfl rfl rfl (by have hi' : i = xs.length := (by omega); subst hi'; exact ⟨O, co, A15, c15, by rw [e2], by rw [e1, e2]⟩)

set_option maxHeartbeats 4000000 in
set_option maxRecDepth 100000 in
theorem refrow_err1 (xs : List Req) (X : Option Addr) (cx : Nat) (b : List Int) (Q : Option Addr) (cq : Nat) (W : World) (hx : Rd W X 13 (xs.map Req.enc)) (hxl : xs.length ≤ 1000000) (hQ : Rd W Q 1 ((negL b).map encI)) (hl6 : b.length ≤ 65536) (hbb : Bd b) (hE1 : reqsR b.length xs ≠ 0) : Calls Try.prog 28 #[.slice X xs.length cx, .slice Q b.length cq] W (Hr.Just W (.tuple #[.slice none 0 0, .slice Q b.length cq, .int .i64 (rowE xs b)])) := by
  have hEE := rowE_1 hE1
  have hnl := negL_len (l := b)
  refine Just.of_ret ?_
  refine enterA (X := nX) (vs := [.slice X xs.length cx, .slice Q b.length cq]) Try.func28 Try.ntmps28 rfl rfl Mem.nil ?_
  refine run_seq ?_
  refine run_region ?_
  refine run_q (.none rfl) rfl rfl (q_assign rfl rfl) ?_
  refine run_q (.none rfl) rfl rfl (q_assign rfl rfl) ?_
  refine run_q (.none rfl) rfl rfl (q_assign rfl rfl) ?_
  refine run_nil ?_
  refine run_seq ?_
  refine run_region ?_
  refine run_h (.none rfl) (h_buildSlice rfl rfl rfl Try.underlying38 info3 Parts.nil rfl (by omega)) ?_
  rintro b13 -
  refine run_q (.none rfl) rfl rfl (q_move rfl rfl) ?_
  refine run_h (.none rfl) (h_append rfl rfl rfl Try.underlying38 info3 rfl rfl Sel.here rfl (.inp hQ .no) (by simp [negL_len]) (fun z hz => encI_len hz) (fun z hz => encI_all hz) (by omega) (by omega)) ?_
  rintro ⟨A15, c15⟩ -
  refine run_q (.none rfl) rfl rfl (q_assign rfl rfl) ?_
  refine run_nil ?_
  refine run_sub (subMk (.cons (s := 0) rfl (.cons (s := 1) rfl (.cons (s := 4) rfl (.cons (s := 5) rfl (.cons (s := 6) rfl .nil))))) .refl) ?_
  refine run_seq ?_
  refine run_sub (subMk (.cons (s := 0) rfl (.cons (s := 1) rfl (.cons (s := 4) rfl (.cons' (s := 5) (v' := .slice A15 b.length c15) rfl (by simp) (.cons (s := 6) rfl .nil))))) .refl) ?_
  refine run_region ?_
  refine run_q (.none rfl) rfl rfl (q_assign rfl rfl) ?_
  refine run_nil ?_
  refine run_seq ?_
  refine run_seq ?_
  refine run_region ?_
  refine run_q (.none rfl) rfl rfl (q_assign rfl rfl) ?_
  refine run_nil ?_
  refine run_block ?_
  refine run_sub (subMk (.cons (s := 8) rfl (.cons (s := 7) rfl (.cons (s := 0) rfl (.cons (s := 1) rfl (.cons (s := 4) rfl (.cons (s := 5) rfl (.cons (s := 6) rfl .nil))))))) (.cons Sel.here .refl .nil)) ?_
  refine run_loopC2M0 (ι := Nat) (fun i => i ≤ xs.length ∧ reqsR b.length xs = reqsR b.length (xs.drop i)) (fun i => .int .i64 (i : Int)) (fun i => .int .i64 (rowEd xs b i))  (fun i => xs.length - i) 0 (by (try dsimp only); exact ⟨by omega, rfl⟩) rfl rfl  ?_
  rintro i hq
  (try dsimp only at hq)
  obtain ⟨hi, hE⟩ := hq
  show Run _ _ _ _ _ _ _ ⟨(8, .int .i64 (i : Int)) :: (7, .int .i64 (rowEd xs b i)) :: _, _⟩
  refine run_seq ?_
  refine run_seq ?_
  refine run_region ?_
  refine run_q (.none rfl) rfl rfl (q_move rfl rfl) ?_
  refine run_q (.none rfl) rfl rfl (q_move rfl rfl) ?_
  refine run_q (.none rfl) rfl rfl (q_len rfl Try.underlying37 rfl) ?_
  refine run_q (.none rfl) rfl rfl (q_lss rfl rfl rfl) ?_
  refine run_nil ?_
  refine run_sub (subMk (.cons (s := 0) rfl (.cons (s := 1) rfl (.cons (s := 4) rfl (.cons (s := 5) rfl (.cons (s := 6) rfl (.cons (s := 7) rfl (.cons (s := 8) rfl (.cons (s := 19) rfl .nil)))))))) .refl) ?_
  refine run_cond rfl (fun g19 => ?_) (fun g19 => ?_)
  · have g19' := g19
    try simp only [decide_eq_true_eq, decide_eq_false_iff_not, beq_iff_eq, beq_eq_false_iff_ne, bne_iff_ne, bne_eq_false_iff_eq, Bool.not_eq_true', Bool.not_eq_false', ne_eq, Int.not_lt, Int.not_le, Decidable.not_not] at g19'
    have hst := reqsR_step (n := (b.length : Int)) (xs := xs) (i := i) (by omega)
    refine run_skip ?_
    refine run_seq ?_
    refine run_block ?_
    refine run_seq ?_
    refine run_seq ?_
    refine run_region ?_
    refine run_q (.none rfl) rfl rfl (q_move rfl rfl) ?_
    refine run_q (.none rfl) rfl rfl (q_move rfl rfl) ?_
    refine run_q (.none rfl) rfl rfl (q_indexS (q := i) rfl Try.underlying37 sz25 rfl rfl (.inp hx .no) (by simp <;> omega) rfl (by omega)) ?_
    refine run_q (.none rfl) rfl rfl (q_loadE rfl agg25 rfl (.inp hx .no) (getmap (by omega)) rfl) ?_
    refine run_q (.none rfl) rfl rfl (q_move rfl rfl) ?_
    refine run_q (.none rfl) rfl rfl (q_len rfl Try.underlying38 rfl) ?_
    refine run_q (.none rfl) rfl rfl (q_call rfl call15 (.cons rfl (.cons rfl Evs.nil)) (fun w hk hm => refcheck_just (nth xs i) (b.length : Int) w)) ?_
    refine run_q (.none rfl) rfl rfl (q_assign rfl rfl) ?_
    refine run_nil ?_
    refine run_sub (subMk (.cons (s := 0) rfl (.cons (s := 1) rfl (.cons (s := 4) rfl (.cons (s := 5) rfl (.cons (s := 6) rfl (.cons (s := 7) rfl (.cons (s := 8) rfl (.cons (s := 9) rfl .nil)))))))) .refl) ?_
    refine run_seq ?_
    refine run_region ?_
    refine run_q (.none rfl) rfl rfl (q_move rfl rfl) ?_
    refine run_q (.none rfl) rfl rfl (q_neq rfl rfl rfl) ?_
    refine run_nil ?_
    refine run_cond rfl (fun g30 => ?_) (fun g30 => ?_)
    · have g30' := g30
      try simp only [decide_eq_true_eq, decide_eq_false_iff_not, beq_iff_eq, beq_eq_false_iff_ne, bne_iff_ne, bne_eq_false_iff_eq, Bool.not_eq_true', Bool.not_eq_false', ne_eq, Int.not_lt, Int.not_le, Decidable.not_not] at g30'
      have h30 : reqE (nth xs i) b.length ≠ 0 := by simpa using g30
      refine run_seq ?_
      refine run_region ?_
      refine run_q (.none rfl) rfl rfl (q_move rfl rfl) ?_
      refine run_q (.none rfl) rfl rfl (q_move rfl rfl) ?_
      refine run_q (.none rfl) rfl rfl (q_assign rfl rfl) ?_
      refine run_q (.none rfl) rfl rfl (q_assign rfl rfl) ?_
      refine run_q (.none rfl) rfl rfl (q_assign rfl rfl) ?_
      refine run_nil ?_
      refine run_sub (subMk (.cons (s := 0) rfl (.cons (s := 1) rfl (.cons (s := 4) rfl (.cons (s := 5) rfl (.cons (s := 6) rfl (.cons (s := 7) rfl (.cons (s := 8) rfl .nil))))))) .refl) ?_
      refine run_ret ?_
      refine run_sub (subMk .refl .nil) ?_
      exact end3 rfl rfl rfl rfl (by rw [hEE, hE, hst, if_neg (by rw [reqR_1 h30]; exact h30), reqR_1 h30])
    · have g30' := g30
      try simp only [decide_eq_true_eq, decide_eq_false_iff_not, beq_iff_eq, beq_eq_false_iff_ne, bne_iff_ne, bne_eq_false_iff_eq, Bool.not_eq_true', Bool.not_eq_false', ne_eq, Int.not_lt, Int.not_le, Decidable.not_not] at g30'
      have h0 : reqE (nth xs i) b.length = 0 := by simpa using g30
      have hq := reqE_ok h0
      refine run_skip ?_
      refine run_seq ?_
      refine run_seq ?_
      refine run_region ?_
      refine run_q (.none rfl) rfl rfl (q_move rfl rfl) ?_
      refine run_q (.none rfl) rfl rfl (q_move rfl rfl) ?_
      refine run_q (.none rfl) rfl rfl (q_indexS (q := i) rfl Try.underlying37 sz25 rfl rfl (.inp hx .no) (by simp <;> omega) rfl (by omega)) ?_
      refine run_q (.none rfl) rfl rfl (q_fieldAddr (d := 5) rfl Try.underlying25 rfl rfl sz3 rfl) ?_
      refine run_q (.none rfl) rfl rfl (q_loadF rfl one3 rfl (.inp hx .no) (getmap (by omega)) rfl) ?_
      refine run_q (.none rfl) rfl rfl (q_neq rfl rfl rfl) ?_
      refine run_nil ?_
      refine run_sub (subMk (.cons (s := 0) rfl (.cons (s := 1) rfl (.cons (s := 4) rfl (.cons (s := 5) rfl (.cons (s := 6) rfl (.cons (s := 7) rfl (.cons (s := 8) rfl (.cons (s := 38) rfl .nil)))))))) .refl) ?_
      refine run_cond rfl (fun g38 => ?_) (fun g38 => ?_)
      · have g38' := g38
        try simp only [decide_eq_true_eq, decide_eq_false_iff_not, beq_iff_eq, beq_eq_false_iff_ne, bne_iff_ne, bne_eq_false_iff_eq, Bool.not_eq_true', Bool.not_eq_false', ne_eq, Int.not_lt, Int.not_le, Decidable.not_not] at g38'
        refine run_seq ?_
        refine run_region ?_
        refine run_q (.none rfl) rfl rfl (q_move rfl rfl) ?_
        refine run_q (.none rfl) rfl rfl (q_assign rfl rfl) ?_
        refine run_q (.none rfl) rfl rfl (q_assign rfl rfl) ?_
        refine run_q (.none rfl) rfl rfl (q_assign rfl rfl) ?_
        refine run_nil ?_
        refine run_ret ?_
        refine run_sub (subMk .refl .nil) ?_
        exact end3 rfl rfl rfl rfl (by rw [hEE, hE, hst, if_neg (by rw [reqR_2 h0 g38']; decide), reqR_2 h0 g38'])
      · have g38' := g38
        try simp only [decide_eq_true_eq, decide_eq_false_iff_not, beq_iff_eq, beq_eq_false_iff_ne, bne_iff_ne, bne_eq_false_iff_eq, Bool.not_eq_true', Bool.not_eq_false', ne_eq, Int.not_lt, Int.not_le, Decidable.not_not] at g38'
        have hsd : (nth xs i).side = -1 := by omega
        refine run_skip ?_
        refine run_seq ?_
        refine run_region ?_
        refine run_q (.none rfl) rfl rfl (q_move rfl rfl) ?_
        refine run_q (.none rfl) rfl rfl (q_move rfl rfl) ?_
        refine run_q (.none rfl) rfl rfl (q_move rfl rfl) ?_
        refine run_q (.none rfl) rfl rfl (q_indexS (q := i) rfl Try.underlying37 sz25 rfl rfl (.inp hx .no) (by simp <;> omega) rfl (by omega)) ?_
        refine run_q (.none rfl) rfl rfl (q_fieldAddr (d := 6) rfl Try.underlying25 rfl rfl sz3 rfl) ?_
        refine run_q (.none rfl) rfl rfl (q_loadF rfl one3 rfl (.inp hx .no) (getmap (by omega)) rfl) ?_
        refine run_q (.none rfl) rfl rfl (q_min2 rfl rfl rfl) ?_
        refine run_q (.none rfl) rfl rfl (q_assign rfl rfl) ?_
        refine run_nil ?_
        refine run_sub (subMk (.cons (s := 0) rfl (.cons (s := 1) rfl (.cons (s := 4) rfl (.cons (s := 5) rfl (.cons (s := 6) rfl (.cons (s := 7) rfl (.cons (s := 8) rfl .nil))))))) .refl) ?_
        refine run_seq ?_
        refine run_region ?_
        refine run_q (.none rfl) rfl rfl (q_move rfl rfl) ?_
        refine run_q (.none rfl) rfl rfl (q_move rfl rfl) ?_
        refine run_q (.none rfl) rfl rfl (q_indexS (q := i) rfl Try.underlying37 sz25 rfl rfl (.inp hx .no) (by simp <;> omega) rfl (by omega)) ?_
        refine run_q (.none rfl) rfl rfl (q_fieldAddr (d := 3) rfl Try.underlying25 rfl rfl sz3 rfl) ?_
        refine run_q (.none rfl) rfl rfl (q_loadF rfl one3 rfl (.inp hx .no) (getmap (by omega)) rfl) ?_
        refine run_q (.none rfl) rfl rfl (q_assign rfl rfl) ?_
        refine run_nil ?_
        refine run_sub (subMk (.cons (s := 0) rfl (.cons (s := 1) rfl (.cons (s := 4) rfl (.cons (s := 5) rfl (.cons (s := 6) rfl (.cons (s := 7) rfl (.cons (s := 8) rfl (.cons (s := 10) rfl .nil)))))))) .refl) ?_
        refine run_block ?_
        refine run_sub (subMk (.cons (s := 10) rfl (.cons (s := 7) rfl (.cons (s := 0) rfl (.cons (s := 1) rfl (.cons (s := 4) rfl (.cons (s := 5) rfl (.cons (s := 6) rfl (.cons (s := 8) rfl .nil)))))))) (.cons Sel.here .refl .nil)) ?_
        refine run_loopC2M0 (ι := Nat) (fun k => (nth xs i).fst + (k : Int) ≤ (nth xs i).lst + 1) (fun k => .int .i64 ((nth xs i).fst + (k : Int))) (fun k => .int .i64 (edR b (min (rowEd xs b i) (nth xs i).near) (nth xs i).fst.toNat k))  (fun k => (nth xs i).lst.toNat + 1 - k) 0 (by (try dsimp only); exact (by omega)) (vint (by omega)) rfl  ?_
        rintro k hk
        (try dsimp only at hk)
        show Run _ _ _ _ _ _ _ ⟨(10, .int .i64 ((nth xs i).fst + (k : Int))) :: (7, .int .i64 (edR b (min (rowEd xs b i) (nth xs i).near) (nth xs i).fst.toNat k)) :: _, _⟩
        refine run_seq ?_
        refine run_seq ?_
        refine run_region ?_
        refine run_q (.none rfl) rfl rfl (q_move rfl rfl) ?_
        refine run_q (.none rfl) rfl rfl (q_move rfl rfl) ?_
        refine run_q (.none rfl) rfl rfl (q_move rfl rfl) ?_
        refine run_q (.none rfl) rfl rfl (q_indexS (q := i) rfl Try.underlying37 sz25 rfl rfl (.inp hx .no) (by simp <;> omega) rfl (by omega)) ?_
        refine run_q (.none rfl) rfl rfl (q_fieldAddr (d := 4) rfl Try.underlying25 rfl rfl sz3 rfl) ?_
        refine run_q (.none rfl) rfl rfl (q_loadF rfl one3 rfl (.inp hx .no) (getmap (by omega)) rfl) ?_
        refine run_q (.none rfl) rfl rfl (q_leq rfl rfl rfl) ?_
        refine run_nil ?_
        refine run_sub (subMk (.cons (s := 0) rfl (.cons (s := 1) rfl (.cons (s := 4) rfl (.cons (s := 5) rfl (.cons (s := 6) rfl (.cons (s := 7) rfl (.cons (s := 8) rfl (.cons (s := 10) rfl (.cons (s := 58) rfl .nil))))))))) .refl) ?_
        refine run_cond rfl (fun g58 => ?_) (fun g58 => ?_)
        · have g58' := g58
          try simp only [decide_eq_true_eq, decide_eq_false_iff_not, beq_iff_eq, beq_eq_false_iff_ne, bne_iff_ne, bne_eq_false_iff_eq, Bool.not_eq_true', Bool.not_eq_false', ne_eq, Int.not_lt, Int.not_le, Decidable.not_not] at g58'
          have hbk := hbb ((nth xs i).fst.toNat + k) (by omega)
          refine run_skip ?_
          refine run_seq ?_
          refine run_block ?_
          refine run_region ?_
          refine run_q (.none rfl) rfl rfl (q_move rfl rfl) ?_
          refine run_q (.none rfl) rfl rfl (q_move rfl rfl) ?_
          refine run_q (.none rfl) rfl rfl (q_move rfl rfl) ?_
          refine run_q (.none rfl) rfl rfl (q_indexS (q := ((nth xs i).fst.toNat + k)) rfl Try.underlying38 sz3 rfl rfl (.inp hQ .no) (by rw [List.length_map, negL_len]) (by omega) (by omega)) ?_
          refine run_q (.none rfl) rfl rfl (q_loadC rfl one3 rfl (.inp hQ .no) (getmap (by rw [negL_len]; omega))) ?_
          refine run_q (.none rfl) rfl rfl (q_sub rfl rfl rfl (by rw [negL_nth]; omega)) ?_
          refine run_q (.none rfl) rfl rfl (q_min2 rfl rfl rfl) ?_
          refine run_q (.none rfl) rfl rfl (q_assign rfl rfl) ?_
          refine run_nil ?_
          refine run_sub (subMk (.cons (s := 0) rfl (.cons (s := 1) rfl (.cons (s := 4) rfl (.cons (s := 5) rfl (.cons (s := 6) rfl (.cons (s := 7) rfl (.cons (s := 8) rfl (.cons (s := 10) rfl .nil)))))))) .refl) ?_
          refine run_blk ?_
          refine run_region ?_
          refine run_q (.none rfl) rfl rfl (q_move rfl rfl) ?_
          refine run_q (.none rfl) rfl rfl (q_add rfl rfl rfl (by omega)) ?_
          refine run_q (.none rfl) rfl rfl (q_assign rfl rfl) ?_
          refine run_nil ?_
          exact run_again (k + 1) (by (try dsimp only); exact (by omega)) (by (try dsimp only); omega) (subMk (.cons' (s := 10) rfl (vint (by omega)) (.cons' (s := 7) rfl (vint (by rw [edR_next, negL_nth])) (.cons (s := 0) rfl (.cons (s := 1) rfl (.cons (s := 4) rfl (.cons (s := 5) rfl (.cons (s := 6) rfl (.cons (s := 8) rfl .nil)))))))) (.cons Sel.here .refl .nil))
        · have g58' := g58
          try simp only [decide_eq_true_eq, decide_eq_false_iff_not, beq_iff_eq, beq_eq_false_iff_ne, bne_iff_ne, bne_eq_false_iff_eq, Bool.not_eq_true', Bool.not_eq_false', ne_eq, Int.not_lt, Int.not_le, Decidable.not_not] at g58'
          refine run_exit rfl ?_
          refine run_blk ?_
          refine run_region ?_
          refine run_q (.none rfl) rfl rfl (q_move rfl rfl) ?_
          refine run_q (.none rfl) rfl rfl (q_add rfl rfl rfl (by omega)) ?_
          refine run_q (.none rfl) rfl rfl (q_assign rfl rfl) ?_
          refine run_nil ?_
          refine run_sub (subMk (.cons (s := 0) rfl (.cons (s := 1) rfl (.cons (s := 4) rfl (.cons (s := 5) rfl (.cons (s := 6) rfl (.cons (s := 7) rfl (.cons (s := 8) rfl .nil))))))) .refl) ?_
          exact run_again (i + 1) (by (try dsimp only); exact ⟨by omega, by rw [hE, hst, if_pos (reqR_3 h0 hsd)]⟩) (by (try dsimp only); omega) (subMk (.cons' (s := 8) rfl (vint (by omega)) (.cons' (s := 7) rfl (vint (edR_all (by omega) (by omega))) (.cons (s := 0) rfl (.cons (s := 1) rfl (.cons (s := 4) rfl (.cons (s := 5) rfl (.cons (s := 6) rfl .nil))))))) (.cons Sel.here .refl .nil))
  · have g19' := g19
    try simp only [decide_eq_true_eq, decide_eq_false_iff_not, beq_iff_eq, beq_eq_false_iff_ne, bne_iff_ne, bne_eq_false_iff_eq, Bool.not_eq_true', Bool.not_eq_false', ne_eq, Int.not_lt, Int.not_le, Decidable.not_not] at g19'
    refine run_exit rfl ?_
    refine run_seq ?_
    refine run_seq ?_
    exact absurd (by rw [hE, List.drop_eq_nil_of_le (by omega)]; rfl) hE1

set_option maxHeartbeats 4000000 in
set_option maxRecDepth 100000 in
theorem refrow_err2 (xs : List Req) (X : Option Addr) (cx : Nat) (b : List Int) (Q : Option Addr) (cq : Nat) (W : World) (hx : Rd W X 13 (xs.map Req.enc)) (hxl : xs.length ≤ 1000000) (hQ : Rd W Q 1 ((negL b).map encI)) (hl6 : b.length ≤ 65536) (hbb : Bd b) (hq0 : reqsR b.length xs = 0) (hE2 : rwE xs (rEd xs b) xs.length ≠ 0) : Calls Try.prog 28 #[.slice X xs.length cx, .slice Q b.length cq] W (Hr.Just W (.tuple #[.slice none 0 0, .slice Q b.length cq, .int .i64 (rowE xs b)])) := by
  have hEE := rowE_2 hq0
  have heb : -1048592 ≤ rEd xs b ∧ rEd xs b ≤ 2097152 := by have := rowEd_bd hq0 hbb (Nat.le_refl xs.length); unfold rEd; omega
  have hnl := negL_len (l := b)
  refine Just.of_ret ?_
  refine enterA (X := nX) (vs := [.slice X xs.length cx, .slice Q b.length cq]) Try.func28 Try.ntmps28 rfl rfl Mem.nil ?_
  refine run_seq ?_
  refine run_region ?_
  refine run_q (.none rfl) rfl rfl (q_assign rfl rfl) ?_
  refine run_q (.none rfl) rfl rfl (q_assign rfl rfl) ?_
  refine run_q (.none rfl) rfl rfl (q_assign rfl rfl) ?_
  refine run_nil ?_
  refine run_seq ?_
  refine run_region ?_
  refine run_h (.none rfl) (h_buildSlice rfl rfl rfl Try.underlying38 info3 Parts.nil rfl (by omega)) ?_
  rintro b13 -
  refine run_q (.none rfl) rfl rfl (q_move rfl rfl) ?_
  refine run_h (.none rfl) (h_append rfl rfl rfl Try.underlying38 info3 rfl rfl Sel.here rfl (.inp hQ .no) (by simp [negL_len]) (fun z hz => encI_len hz) (fun z hz => encI_all hz) (by omega) (by omega)) ?_
  rintro ⟨A15, c15⟩ -
  refine run_q (.none rfl) rfl rfl (q_assign rfl rfl) ?_
  refine run_nil ?_
  refine run_sub (subMk (.cons (s := 0) rfl (.cons (s := 1) rfl (.cons (s := 4) rfl (.cons (s := 5) rfl (.cons (s := 6) rfl .nil))))) .refl) ?_
  refine run_seq ?_
  refine run_sub (subMk (.cons (s := 0) rfl (.cons (s := 1) rfl (.cons (s := 4) rfl (.cons' (s := 5) (v' := .slice A15 b.length c15) rfl (by simp) (.cons (s := 6) rfl .nil))))) .refl) ?_
  refine run_region ?_
  refine run_q (.none rfl) rfl rfl (q_assign rfl rfl) ?_
  refine run_nil ?_
  refine run_seq ?_
  refine run_seq ?_
  refine run_region ?_
  refine run_q (.none rfl) rfl rfl (q_assign rfl rfl) ?_
  refine run_nil ?_
  refine run_block ?_
  refine run_sub (subMk (.cons (s := 8) rfl (.cons (s := 7) rfl (.cons (s := 0) rfl (.cons (s := 1) rfl (.cons (s := 4) rfl (.cons (s := 5) rfl (.cons (s := 6) rfl .nil))))))) (.cons Sel.here .refl .nil)) ?_
  refine run_loopC2M0 (ι := Nat) (fun i => i ≤ xs.length ∧ True) (fun i => .int .i64 (i : Int)) (fun i => .int .i64 (rowEd xs b i))  (fun i => xs.length - i) 0 (by (try dsimp only); exact ⟨by omega, trivial⟩) rfl rfl  ?_
  rintro i hq
  (try dsimp only at hq)
  obtain ⟨hi, hE⟩ := hq
  show Run _ _ _ _ _ _ _ ⟨(8, .int .i64 (i : Int)) :: (7, .int .i64 (rowEd xs b i)) :: _, _⟩
  refine run_seq ?_
  refine run_seq ?_
  refine run_region ?_
  refine run_q (.none rfl) rfl rfl (q_move rfl rfl) ?_
  refine run_q (.none rfl) rfl rfl (q_move rfl rfl) ?_
  refine run_q (.none rfl) rfl rfl (q_len rfl Try.underlying37 rfl) ?_
  refine run_q (.none rfl) rfl rfl (q_lss rfl rfl rfl) ?_
  refine run_nil ?_
  refine run_sub (subMk (.cons (s := 0) rfl (.cons (s := 1) rfl (.cons (s := 4) rfl (.cons (s := 5) rfl (.cons (s := 6) rfl (.cons (s := 7) rfl (.cons (s := 8) rfl (.cons (s := 19) rfl .nil)))))))) .refl) ?_
  refine run_cond rfl (fun g19 => ?_) (fun g19 => ?_)
  · have g19' := g19
    try simp only [decide_eq_true_eq, decide_eq_false_iff_not, beq_iff_eq, beq_eq_false_iff_ne, bne_iff_ne, bne_eq_false_iff_eq, Bool.not_eq_true', Bool.not_eq_false', ne_eq, Int.not_lt, Int.not_le, Decidable.not_not] at g19'
    have hq := reqE_ok (reqR_ok (reqsR_ok hq0 (show i < xs.length by omega))).1
    have hsd := (reqR_ok (reqsR_ok hq0 (show i < xs.length by omega))).2
    refine run_skip ?_
    refine run_seq ?_
    refine run_block ?_
    refine run_seq ?_
    refine run_seq ?_
    refine run_region ?_
    refine run_q (.none rfl) rfl rfl (q_move rfl rfl) ?_
    refine run_q (.none rfl) rfl rfl (q_move rfl rfl) ?_
    refine run_q (.none rfl) rfl rfl (q_indexS (q := i) rfl Try.underlying37 sz25 rfl rfl (.inp hx .no) (by simp <;> omega) rfl (by omega)) ?_
    refine run_q (.none rfl) rfl rfl (q_loadE rfl agg25 rfl (.inp hx .no) (getmap (by omega)) rfl) ?_
    refine run_q (.none rfl) rfl rfl (q_move rfl rfl) ?_
    refine run_q (.none rfl) rfl rfl (q_len rfl Try.underlying38 rfl) ?_
    refine run_q (.none rfl) rfl rfl (q_call rfl call15 (.cons rfl (.cons rfl Evs.nil)) (fun w hk hm => refcheck_just (nth xs i) (b.length : Int) w)) ?_
    refine run_q (.none rfl) rfl rfl (q_assign rfl rfl) ?_
    refine run_nil ?_
    refine run_sub (subMk (.cons (s := 0) rfl (.cons (s := 1) rfl (.cons (s := 4) rfl (.cons (s := 5) rfl (.cons (s := 6) rfl (.cons (s := 7) rfl (.cons (s := 8) rfl (.cons (s := 9) rfl .nil)))))))) .refl) ?_
    refine run_seq ?_
    refine run_region ?_
    refine run_q (.none rfl) rfl rfl (q_move rfl rfl) ?_
    refine run_q (.none rfl) rfl rfl (q_neq rfl rfl rfl) ?_
    refine run_nil ?_
    refine run_condF rfl (by rw [(reqR_ok (reqsR_ok hq0 (by omega))).1]; rfl) ?_
    refine run_skip ?_
    refine run_seq ?_
    refine run_seq ?_
    refine run_region ?_
    refine run_q (.none rfl) rfl rfl (q_move rfl rfl) ?_
    refine run_q (.none rfl) rfl rfl (q_move rfl rfl) ?_
    refine run_q (.none rfl) rfl rfl (q_indexS (q := i) rfl Try.underlying37 sz25 rfl rfl (.inp hx .no) (by simp <;> omega) rfl (by omega)) ?_
    refine run_q (.none rfl) rfl rfl (q_fieldAddr (d := 5) rfl Try.underlying25 rfl rfl sz3 rfl) ?_
    refine run_q (.none rfl) rfl rfl (q_loadF rfl one3 rfl (.inp hx .no) (getmap (by omega)) rfl) ?_
    refine run_q (.none rfl) rfl rfl (q_neq rfl rfl rfl) ?_
    refine run_nil ?_
    refine run_sub (subMk (.cons (s := 0) rfl (.cons (s := 1) rfl (.cons (s := 4) rfl (.cons (s := 5) rfl (.cons (s := 6) rfl (.cons (s := 7) rfl (.cons (s := 8) rfl (.cons (s := 38) rfl .nil)))))))) .refl) ?_
    refine run_condF rfl (by rw [hsd]; rfl) ?_
    refine run_skip ?_
    refine run_seq ?_
    refine run_region ?_
    refine run_q (.none rfl) rfl rfl (q_move rfl rfl) ?_
    refine run_q (.none rfl) rfl rfl (q_move rfl rfl) ?_
    refine run_q (.none rfl) rfl rfl (q_move rfl rfl) ?_
    refine run_q (.none rfl) rfl rfl (q_indexS (q := i) rfl Try.underlying37 sz25 rfl rfl (.inp hx .no) (by simp <;> omega) rfl (by omega)) ?_
    refine run_q (.none rfl) rfl rfl (q_fieldAddr (d := 6) rfl Try.underlying25 rfl rfl sz3 rfl) ?_
    refine run_q (.none rfl) rfl rfl (q_loadF rfl one3 rfl (.inp hx .no) (getmap (by omega)) rfl) ?_
    refine run_q (.none rfl) rfl rfl (q_min2 rfl rfl rfl) ?_
    refine run_q (.none rfl) rfl rfl (q_assign rfl rfl) ?_
    refine run_nil ?_
    refine run_sub (subMk (.cons (s := 0) rfl (.cons (s := 1) rfl (.cons (s := 4) rfl (.cons (s := 5) rfl (.cons (s := 6) rfl (.cons (s := 7) rfl (.cons (s := 8) rfl .nil))))))) .refl) ?_
    refine run_seq ?_
    refine run_region ?_
    refine run_q (.none rfl) rfl rfl (q_move rfl rfl) ?_
    refine run_q (.none rfl) rfl rfl (q_move rfl rfl) ?_
    refine run_q (.none rfl) rfl rfl (q_indexS (q := i) rfl Try.underlying37 sz25 rfl rfl (.inp hx .no) (by simp <;> omega) rfl (by omega)) ?_
    refine run_q (.none rfl) rfl rfl (q_fieldAddr (d := 3) rfl Try.underlying25 rfl rfl sz3 rfl) ?_
    refine run_q (.none rfl) rfl rfl (q_loadF rfl one3 rfl (.inp hx .no) (getmap (by omega)) rfl) ?_
    refine run_q (.none rfl) rfl rfl (q_assign rfl rfl) ?_
    refine run_nil ?_
    refine run_sub (subMk (.cons (s := 0) rfl (.cons (s := 1) rfl (.cons (s := 4) rfl (.cons (s := 5) rfl (.cons (s := 6) rfl (.cons (s := 7) rfl (.cons (s := 8) rfl (.cons (s := 10) rfl .nil)))))))) .refl) ?_
    refine run_block ?_
    refine run_sub (subMk (.cons (s := 10) rfl (.cons (s := 7) rfl (.cons (s := 0) rfl (.cons (s := 1) rfl (.cons (s := 4) rfl (.cons (s := 5) rfl (.cons (s := 6) rfl (.cons (s := 8) rfl .nil)))))))) (.cons Sel.here .refl .nil)) ?_
    refine run_loopC2M0 (ι := Nat) (fun k => (nth xs i).fst + (k : Int) ≤ (nth xs i).lst + 1) (fun k => .int .i64 ((nth xs i).fst + (k : Int))) (fun k => .int .i64 (edR b (min (rowEd xs b i) (nth xs i).near) (nth xs i).fst.toNat k))  (fun k => (nth xs i).lst.toNat + 1 - k) 0 (by (try dsimp only); exact (by omega)) (vint (by omega)) rfl  ?_
    rintro k hk
    (try dsimp only at hk)
    show Run _ _ _ _ _ _ _ ⟨(10, .int .i64 ((nth xs i).fst + (k : Int))) :: (7, .int .i64 (edR b (min (rowEd xs b i) (nth xs i).near) (nth xs i).fst.toNat k)) :: _, _⟩
    refine run_seq ?_
    refine run_seq ?_
    refine run_region ?_
    refine run_q (.none rfl) rfl rfl (q_move rfl rfl) ?_
    refine run_q (.none rfl) rfl rfl (q_move rfl rfl) ?_
    refine run_q (.none rfl) rfl rfl (q_move rfl rfl) ?_
    refine run_q (.none rfl) rfl rfl (q_indexS (q := i) rfl Try.underlying37 sz25 rfl rfl (.inp hx .no) (by simp <;> omega) rfl (by omega)) ?_
    refine run_q (.none rfl) rfl rfl (q_fieldAddr (d := 4) rfl Try.underlying25 rfl rfl sz3 rfl) ?_
    refine run_q (.none rfl) rfl rfl (q_loadF rfl one3 rfl (.inp hx .no) (getmap (by omega)) rfl) ?_
    refine run_q (.none rfl) rfl rfl (q_leq rfl rfl rfl) ?_
    refine run_nil ?_
    refine run_sub (subMk (.cons (s := 0) rfl (.cons (s := 1) rfl (.cons (s := 4) rfl (.cons (s := 5) rfl (.cons (s := 6) rfl (.cons (s := 7) rfl (.cons (s := 8) rfl (.cons (s := 10) rfl (.cons (s := 58) rfl .nil))))))))) .refl) ?_
    refine run_cond rfl (fun g58 => ?_) (fun g58 => ?_)
    · have g58' := g58
      try simp only [decide_eq_true_eq, decide_eq_false_iff_not, beq_iff_eq, beq_eq_false_iff_ne, bne_iff_ne, bne_eq_false_iff_eq, Bool.not_eq_true', Bool.not_eq_false', ne_eq, Int.not_lt, Int.not_le, Decidable.not_not] at g58'
      have hbk := hbb ((nth xs i).fst.toNat + k) (by omega)
      refine run_skip ?_
      refine run_seq ?_
      refine run_block ?_
      refine run_region ?_
      refine run_q (.none rfl) rfl rfl (q_move rfl rfl) ?_
      refine run_q (.none rfl) rfl rfl (q_move rfl rfl) ?_
      refine run_q (.none rfl) rfl rfl (q_move rfl rfl) ?_
      refine run_q (.none rfl) rfl rfl (q_indexS (q := ((nth xs i).fst.toNat + k)) rfl Try.underlying38 sz3 rfl rfl (.inp hQ .no) (by rw [List.length_map, negL_len]) (by omega) (by omega)) ?_
      refine run_q (.none rfl) rfl rfl (q_loadC rfl one3 rfl (.inp hQ .no) (getmap (by rw [negL_len]; omega))) ?_
      refine run_q (.none rfl) rfl rfl (q_sub rfl rfl rfl (by rw [negL_nth]; omega)) ?_
      refine run_q (.none rfl) rfl rfl (q_min2 rfl rfl rfl) ?_
      refine run_q (.none rfl) rfl rfl (q_assign rfl rfl) ?_
      refine run_nil ?_
      refine run_sub (subMk (.cons (s := 0) rfl (.cons (s := 1) rfl (.cons (s := 4) rfl (.cons (s := 5) rfl (.cons (s := 6) rfl (.cons (s := 7) rfl (.cons (s := 8) rfl (.cons (s := 10) rfl .nil)))))))) .refl) ?_
      refine run_blk ?_
      refine run_region ?_
      refine run_q (.none rfl) rfl rfl (q_move rfl rfl) ?_
      refine run_q (.none rfl) rfl rfl (q_add rfl rfl rfl (by omega)) ?_
      refine run_q (.none rfl) rfl rfl (q_assign rfl rfl) ?_
      refine run_nil ?_
      exact run_again (k + 1) (by (try dsimp only); exact (by omega)) (by (try dsimp only); omega) (subMk (.cons' (s := 10) rfl (vint (by omega)) (.cons' (s := 7) rfl (vint (by rw [edR_next, negL_nth])) (.cons (s := 0) rfl (.cons (s := 1) rfl (.cons (s := 4) rfl (.cons (s := 5) rfl (.cons (s := 6) rfl (.cons (s := 8) rfl .nil)))))))) (.cons Sel.here .refl .nil))
    · have g58' := g58
      try simp only [decide_eq_true_eq, decide_eq_false_iff_not, beq_iff_eq, beq_eq_false_iff_ne, bne_iff_ne, bne_eq_false_iff_eq, Bool.not_eq_true', Bool.not_eq_false', ne_eq, Int.not_lt, Int.not_le, Decidable.not_not] at g58'
      refine run_exit rfl ?_
      refine run_blk ?_
      refine run_region ?_
      refine run_q (.none rfl) rfl rfl (q_move rfl rfl) ?_
      refine run_q (.none rfl) rfl rfl (q_add rfl rfl rfl (by omega)) ?_
      refine run_q (.none rfl) rfl rfl (q_assign rfl rfl) ?_
      refine run_nil ?_
      refine run_sub (subMk (.cons (s := 0) rfl (.cons (s := 1) rfl (.cons (s := 4) rfl (.cons (s := 5) rfl (.cons (s := 6) rfl (.cons (s := 7) rfl (.cons (s := 8) rfl .nil))))))) .refl) ?_
      exact run_again (i + 1) (by (try dsimp only); exact ⟨by omega, trivial⟩) (by (try dsimp only); omega) (subMk (.cons' (s := 8) rfl (vint (by omega)) (.cons' (s := 7) rfl (vint (edR_all (by omega) (by omega))) (.cons (s := 0) rfl (.cons (s := 1) rfl (.cons (s := 4) rfl (.cons (s := 5) rfl (.cons (s := 6) rfl .nil))))))) (.cons Sel.here .refl .nil))
  · have g19' := g19
    try simp only [decide_eq_true_eq, decide_eq_false_iff_not, beq_iff_eq, beq_eq_false_iff_ne, bne_iff_ne, bne_eq_false_iff_eq, Bool.not_eq_true', Bool.not_eq_false', ne_eq, Int.not_lt, Int.not_le, Decidable.not_not] at g19'
    refine run_exit rfl ?_
    refine run_seq ?_
    refine run_seq ?_
    refine run_sub (subMk (.cons (s := 0) rfl (.cons (s := 1) rfl (.cons (s := 4) rfl (.cons (s := 5) rfl (.cons (s := 6) rfl (.cons' (s := 7) (v' := .int .i64 (rEd xs b)) rfl (vint (by rw [show i = xs.length from by omega]; rfl)) (.cons (s := 8) rfl (.cons (s := 19) rfl .nil)))))))) .refl) ?_
    refine run_region ?_
    refine run_q (.none rfl) rfl rfl (q_assign rfl rfl) ?_
    refine run_nil ?_
    refine run_block ?_
    refine run_sub (subMk .refl (MemSub.nilOwn 50 12)) ?_
    refine run_sub (subMk (.cons (s := 11) rfl (.cons (s := 4) rfl (.cons (s := 0) rfl (.cons (s := 1) rfl (.cons (s := 5) rfl (.cons (s := 6) rfl (.cons (s := 7) rfl .nil))))))) (.cons (.there Sel.here) .refl (.cons Sel.here .refl .nil))) ?_
    refine run_loopC2M2 (ι := Nat × (Option Addr) × Nat) (fun gg => gg.1 ≤ xs.length ∧ rwE xs (rEd xs b) gg.1 = 0) (fun gg => .int .i64 (gg.1 : Int)) (fun gg => .slice gg.2.1 (rwM xs (rEd xs b) gg.1).length gg.2.2) (fun gg => .own 3 1 A15 b.length c15 ((negL (rw_ xs b (rEd xs b) gg.1)).map encI)) (fun gg => .own 50 12 gg.2.1 (rwM xs (rEd xs b) gg.1).length gg.2.2 ((rwM xs (rEd xs b) gg.1).map Mk.enc)) (fun gg => xs.length - gg.1) (0, none, 0) (by (try dsimp only); exact ⟨by omega, rfl⟩) rfl rfl (.own rfl (by simp [negL_len]) rfl (by simp; rfl)) (.own rfl rfl rfl rfl) ?_
    rintro ⟨i, O, co⟩ hq
    (try dsimp only at hq)
    obtain ⟨hi, hEs⟩ := hq
    show Run _ _ _ _ _ _ _ ⟨(11, .int .i64 (i : Int)) :: (4, .slice O (rwM xs (rEd xs b) i).length co) :: _, .own 3 1 A15 b.length c15 ((negL (rw_ xs b (rEd xs b) i)).map encI) :: .own 50 12 O (rwM xs (rEd xs b) i).length co ((rwM xs (rEd xs b) i).map Mk.enc) :: _⟩
    refine run_seq ?_
    refine run_seq ?_
    refine run_region ?_
    refine run_q (.none rfl) rfl rfl (q_move rfl rfl) ?_
    refine run_q (.none rfl) rfl rfl (q_move rfl rfl) ?_
    refine run_q (.none rfl) rfl rfl (q_len rfl Try.underlying37 rfl) ?_
    refine run_q (.none rfl) rfl rfl (q_lss rfl rfl rfl) ?_
    refine run_nil ?_
    refine run_sub (subMk (.cons (s := 0) rfl (.cons (s := 1) rfl (.cons (s := 4) rfl (.cons (s := 5) rfl (.cons (s := 6) rfl (.cons (s := 7) rfl (.cons (s := 11) rfl (.cons (s := 71) rfl .nil)))))))) .refl) ?_
    refine run_cond rfl (fun g71 => ?_) (fun g71 => ?_)
    · have g71' := g71
      try simp only [decide_eq_true_eq, decide_eq_false_iff_not, beq_iff_eq, beq_eq_false_iff_ne, bne_iff_ne, bne_eq_false_iff_eq, Bool.not_eq_true', Bool.not_eq_false', ne_eq, Int.not_lt, Int.not_le, Decidable.not_not] at g71'
      have hq := reqE_ok (reqR_ok (reqsR_ok hq0 (show i < xs.length by omega))).1
      have hsd := (reqR_ok (reqsR_ok hq0 (show i < xs.length by omega))).2
      have hwl := rw_len (xs := xs) (o := b) (e := rEd xs b) (i := i)
      have hml := rwM_len (xs := xs) (e := rEd xs b) (i := i)
      refine run_skip ?_
      refine run_seq ?_
      refine run_block ?_
      refine run_seq ?_
      refine run_seq ?_
      refine run_region ?_
      refine run_q (.none rfl) rfl rfl (q_move rfl rfl) ?_
      refine run_q (.none rfl) rfl rfl (q_move rfl rfl) ?_
      refine run_q (.none rfl) rfl rfl (q_move rfl rfl) ?_
      refine run_q (.none rfl) rfl rfl (q_indexS (q := i) rfl Try.underlying37 sz25 rfl rfl (.inp hx .no) (by simp <;> omega) rfl (by omega)) ?_
      refine run_q (.none rfl) rfl rfl (q_fieldAddr (d := 12) rfl Try.underlying25 rfl rfl sz3 rfl) ?_
      refine run_q (.none rfl) rfl rfl (q_loadF rfl one3 rfl (.inp hx .no) (getmap (by omega)) rfl) ?_
      refine run_q (.none rfl) rfl rfl (q_sub rfl rfl rfl (by omega)) ?_
      refine run_q (.none rfl) rfl rfl (q_lss rfl rfl rfl) ?_
      refine run_nil ?_
      refine run_sub (subMk (.cons (s := 0) rfl (.cons (s := 1) rfl (.cons (s := 4) rfl (.cons (s := 5) rfl (.cons (s := 6) rfl (.cons (s := 7) rfl (.cons (s := 11) rfl (.cons (s := 81) rfl .nil)))))))) .refl) ?_
      refine run_cond rfl (fun g81 => ?_) (fun g81 => ?_)
      · have g81' := g81
        try simp only [decide_eq_true_eq, decide_eq_false_iff_not, beq_iff_eq, beq_eq_false_iff_ne, bne_iff_ne, bne_eq_false_iff_eq, Bool.not_eq_true', Bool.not_eq_false', ne_eq, Int.not_lt, Int.not_le, Decidable.not_not] at g81'
        refine run_seq ?_
        refine run_region ?_
        refine run_q (.none rfl) rfl rfl (q_move rfl rfl) ?_
        refine run_q (.none rfl) rfl rfl (q_assign rfl rfl) ?_
        refine run_q (.none rfl) rfl rfl (q_assign rfl rfl) ?_
        refine run_q (.none rfl) rfl rfl (q_assign rfl rfl) ?_
        refine run_nil ?_
        refine run_ret ?_
        refine run_sub (subMk .refl .nil) ?_
        exact end3 rfl rfl rfl rfl (by rw [hEE, rwE_stay hEs g81' (show i < xs.length by omega)])
      · have g81' := g81
        try simp only [decide_eq_true_eq, decide_eq_false_iff_not, beq_iff_eq, beq_eq_false_iff_ne, bne_iff_ne, bne_eq_false_iff_eq, Bool.not_eq_true', Bool.not_eq_false', ne_eq, Int.not_lt, Int.not_le, Decidable.not_not] at g81'
        have hlo : ¬ rEd xs b - (nth xs i).hgt < -1048576 := by omega
        refine run_skip ?_
        refine run_seq ?_
        refine run_seq ?_
        refine run_region ?_
        refine run_q (.none rfl) rfl rfl (q_move rfl rfl) ?_
        refine run_q (.none rfl) rfl rfl (q_move rfl rfl) ?_
        refine run_q (.none rfl) rfl rfl (q_indexS (q := i) rfl Try.underlying37 sz25 rfl rfl (.inp hx .no) (by simp <;> omega) rfl (by omega)) ?_
        refine run_q (.none rfl) rfl rfl (q_fieldAddr (d := 3) rfl Try.underlying25 rfl rfl sz3 rfl) ?_
        refine run_q (.none rfl) rfl rfl (q_loadF rfl one3 rfl (.inp hx .no) (getmap (by omega)) rfl) ?_
        refine run_q (.none rfl) rfl rfl (q_assign rfl rfl) ?_
        refine run_nil ?_
        refine run_sub (subMk (.cons (s := 0) rfl (.cons (s := 1) rfl (.cons (s := 4) rfl (.cons (s := 5) rfl (.cons (s := 6) rfl (.cons (s := 7) rfl (.cons (s := 11) rfl (.cons (s := 12) rfl .nil)))))))) .refl) ?_
        refine run_block ?_
        refine run_sub (subMk (.cons (s := 12) rfl (.cons (s := 0) rfl (.cons (s := 1) rfl (.cons (s := 4) rfl (.cons (s := 5) rfl (.cons (s := 6) rfl (.cons (s := 7) rfl (.cons (s := 11) rfl .nil)))))))) (.cons Sel.here .refl (.cons Sel.here .refl .nil))) ?_
        refine run_loopC1M1 (ι := Nat) (fun k => (nth xs i).fst + (k : Int) ≤ (nth xs i).lst + 1) (fun k => .int .i64 ((nth xs i).fst + (k : Int))) (fun k => .own 3 1 A15 b.length c15 ((negL (raiseN (rw_ xs b (rEd xs b) i) (nth xs i).fst.toNat ((nth xs i).fst.toNat + k) (-((rEd xs b) - (nth xs i).hgt)))).map encI)) (fun k => (nth xs i).lst.toNat + 1 - k) 0 (by (try dsimp only); exact (by omega)) (vint (by omega)) (.own rfl rfl rfl (by rw [Nat.add_zero, raiseN_start])) ?_
        rintro k hk
        (try dsimp only at hk)
        show Run _ _ _ _ _ _ _ ⟨(12, .int .i64 ((nth xs i).fst + (k : Int))) :: _, .own 3 1 A15 b.length c15 ((negL (raiseN (rw_ xs b (rEd xs b) i) (nth xs i).fst.toNat ((nth xs i).fst.toNat + k) (-((rEd xs b) - (nth xs i).hgt)))).map encI) :: _⟩
        refine run_seq ?_
        refine run_seq ?_
        refine run_region ?_
        refine run_q (.none rfl) rfl rfl (q_move rfl rfl) ?_
        refine run_q (.none rfl) rfl rfl (q_move rfl rfl) ?_
        refine run_q (.none rfl) rfl rfl (q_move rfl rfl) ?_
        refine run_q (.none rfl) rfl rfl (q_indexS (q := i) rfl Try.underlying37 sz25 rfl rfl (.inp hx .no) (by simp <;> omega) rfl (by omega)) ?_
        refine run_q (.none rfl) rfl rfl (q_fieldAddr (d := 4) rfl Try.underlying25 rfl rfl sz3 rfl) ?_
        refine run_q (.none rfl) rfl rfl (q_loadF rfl one3 rfl (.inp hx .no) (getmap (by omega)) rfl) ?_
        refine run_q (.none rfl) rfl rfl (q_leq rfl rfl rfl) ?_
        refine run_nil ?_
        refine run_sub (subMk (.cons (s := 0) rfl (.cons (s := 1) rfl (.cons (s := 4) rfl (.cons (s := 5) rfl (.cons (s := 6) rfl (.cons (s := 7) rfl (.cons (s := 11) rfl (.cons (s := 12) rfl (.cons (s := 94) rfl .nil))))))))) .refl) ?_
        refine run_cond rfl (fun g94 => ?_) (fun g94 => ?_)
        · have g94' := g94
          try simp only [decide_eq_true_eq, decide_eq_false_iff_not, beq_iff_eq, beq_eq_false_iff_ne, bne_iff_ne, bne_eq_false_iff_eq, Bool.not_eq_true', Bool.not_eq_false', ne_eq, Int.not_lt, Int.not_le, Decidable.not_not] at g94'
          refine run_skip ?_
          refine run_seq ?_
          refine run_block ?_
          refine run_draw [(0, 0), (1, 0), (2, 0), (3, 0), (4, 0), (5, 0), (6, 0), (7, 0), (8, 0), (9, 0), (10, 0), (11, 0), (12, 0), (13, 0), (14, 0), (15, 2)] mixed (by kernel_rfl) .refl ?_
          refine d_q rfl rfl (.none rfl) rfl rfl (q_move rfl rfl) ?_
          refine d_q rfl rfl (.none rfl) rfl rfl (q_move rfl rfl) ?_
          refine d_q rfl rfl (.none rfl) rfl rfl (q_move rfl rfl) ?_
          refine d_q rfl rfl (.none rfl) rfl rfl (q_move rfl rfl) ?_
          refine d_q rfl rfl (.none rfl) rfl rfl (q_indexS (q := ((nth xs i).fst.toNat + k)) rfl Try.underlying38 sz3 rfl rfl (.own Sel.here) (by rw [List.length_map, negL_len, raiseN_len, rw_len]) (by omega) (by omega)) ?_
          refine d_q rfl rfl (.none rfl) rfl rfl (q_loadC rfl one3 rfl (.own Sel.here) (getmap (by rw [negL_len, raiseN_len]; omega))) ?_
          refine d_q rfl rfl (.none rfl) rfl rfl (q_move rfl rfl) ?_
          refine d_q rfl rfl (.none rfl) rfl rfl (q_move rfl rfl) ?_
          refine d_q rfl rfl (.none rfl) rfl rfl (q_move rfl rfl) ?_
          refine d_q rfl rfl (.none rfl) rfl rfl (q_indexS (q := i) rfl Try.underlying37 sz25 rfl rfl (.inp hx .no) (by simp <;> omega) rfl (by omega)) ?_
          refine d_q rfl rfl (.none rfl) rfl rfl (q_fieldAddr (d := 12) rfl Try.underlying25 rfl rfl sz3 rfl) ?_
          refine d_q rfl rfl (.none rfl) rfl rfl (q_loadF rfl one3 rfl (.inp hx .no) (getmap (by omega)) rfl) ?_
          refine d_q rfl rfl (.none rfl) rfl rfl (q_sub rfl rfl rfl (by omega)) ?_
          refine d_q rfl rfl (.none rfl) rfl rfl (q_min2 rfl rfl rfl) ?_
          refine d_q rfl rfl (.none rfl) rfl rfl (q_indexS (q := ((nth xs i).fst.toNat + k)) rfl Try.underlying38 sz3 rfl rfl (.own Sel.here) (by rw [List.length_map, negL_len, raiseN_len, rw_len]) (by omega) (by omega)) ?_
          refine d_t rfl rfl (.none rfl) (h_storeE rfl rfl sz3 rfl rfl rfl rfl rfl Sel.here (by omega)) ?_
          rintro - -
          refine d_nil ?_
          refine run_sub (subMk (.cons (s := 0) rfl (.cons (s := 1) rfl (.cons (s := 4) rfl (.cons (s := 5) rfl (.cons (s := 6) rfl (.cons (s := 7) rfl (.cons (s := 11) rfl (.cons (s := 12) rfl .nil)))))))) .refl) ?_
          refine run_blk ?_
          refine run_region ?_
          refine run_q (.none rfl) rfl rfl (q_move rfl rfl) ?_
          refine run_q (.none rfl) rfl rfl (q_add rfl rfl rfl (by omega)) ?_
          refine run_q (.none rfl) rfl rfl (q_assign rfl rfl) ?_
          refine run_nil ?_
          exact run_again (k + 1) (by (try dsimp only); exact (by omega)) (by (try dsimp only); omega) (subMk (.cons' (s := 12) rfl (vint (by omega)) (.cons (s := 0) rfl (.cons (s := 1) rfl (.cons (s := 4) rfl (.cons (s := 5) rfl (.cons (s := 6) rfl (.cons (s := 7) rfl (.cons (s := 11) rfl .nil)))))))) (.cons Sel.here (.own rfl rfl rfl (setR (by rw [rw_len]; omega))) (.cons Sel.here .refl .nil)))
        · have g94' := g94
          try simp only [decide_eq_true_eq, decide_eq_false_iff_not, beq_iff_eq, beq_eq_false_iff_ne, bne_iff_ne, bne_eq_false_iff_eq, Bool.not_eq_true', Bool.not_eq_false', ne_eq, Int.not_lt, Int.not_le, Decidable.not_not] at g94'
          refine run_exit rfl ?_
          refine run_region ?_
          refine run_q (.none rfl) rfl rfl (q_move rfl rfl) ?_
          refine run_q (.none rfl) rfl rfl (q_move rfl rfl) ?_
          refine run_q (.none rfl) rfl rfl (q_move rfl rfl) ?_
          refine run_q (.none rfl) rfl rfl (q_indexS (q := i) rfl Try.underlying37 sz25 rfl rfl (.inp hx .no) (by simp <;> omega) rfl (by omega)) ?_
          refine run_q (.none rfl) rfl rfl (q_loadE rfl agg25 rfl (.inp hx .no) (getmap (by omega)) rfl) ?_
          refine run_q (.none rfl) rfl rfl (q_move rfl rfl) ?_
          refine run_q (.none rfl) rfl rfl (q_call rfl call45 (.cons rfl (.cons rfl Evs.nil)) (fun w hk hm => refmark_just (nth xs i) (rEd xs b) w hq.2.2.1 ⟨by omega, by omega⟩ ⟨by omega, by omega⟩ ⟨by omega, by omega⟩)) ?_
          refine run_h (.none rfl) (h_buildSlice rfl rfl rfl Try.underlying44 info50 (.cons rfl rfl rfl rfl Parts.nil) rfl (by omega)) ?_
          rintro b119 -
          refine run_h (.none rfl) (h_append rfl rfl rfl Try.underlying44 info50 rfl rfl (.there (.there Sel.here)) rfl (.own Sel.here) rfl (all1 rfl) (all1 rfl) (by omega) (by omega)) ?_
          rintro ⟨A120, c120⟩ -
          refine run_q (.none rfl) rfl rfl (q_assign rfl rfl) ?_
          refine run_nil ?_
          refine run_sub (subMk (.cons (s := 0) rfl (.cons (s := 1) rfl (.cons (s := 4) rfl (.cons (s := 5) rfl (.cons (s := 6) rfl (.cons (s := 7) rfl (.cons (s := 11) rfl .nil))))))) .refl) ?_
          refine run_blk ?_
          refine run_region ?_
          refine run_q (.none rfl) rfl rfl (q_move rfl rfl) ?_
          refine run_q (.none rfl) rfl rfl (q_add rfl rfl rfl (by omega)) ?_
          refine run_q (.none rfl) rfl rfl (q_assign rfl rfl) ?_
          refine run_nil ?_
          exact run_again (i + 1, A120, c120) (by (try dsimp only); exact ⟨by omega, rwE_next hEs hlo⟩) (by (try dsimp only); omega) (subMk (.cons' (s := 11) rfl (vint (by omega)) (.cons' (s := 4) rfl (by rw [rwM_len, rwM_len]) (.cons (s := 0) rfl (.cons (s := 1) rfl (.cons (s := 5) rfl (.cons (s := 6) rfl (.cons (s := 7) rfl .nil))))))) (.cons (.there (.there Sel.here)) (.own rfl rfl rfl (by rw [rw_next, show (nth xs i).fst.toNat + k = (nth xs i).lst.toNat + 1 from by omega])) (.cons Sel.here (.own (m' := (rwM xs (rEd xs b) (i + 1)).length) (xs' := (rwM xs (rEd xs b) (i + 1)).map Mk.enc) rfl (by rw [rwM_len, rwM_len]) rfl (by rw [rwM_next, List.map_append]; rfl)) .nil)))
    · have g71' := g71
      try simp only [decide_eq_true_eq, decide_eq_false_iff_not, beq_iff_eq, beq_eq_false_iff_ne, bne_iff_ne, bne_eq_false_iff_eq, Bool.not_eq_true', Bool.not_eq_false', ne_eq, Int.not_lt, Int.not_le, Decidable.not_not] at g71'
      refine run_exit rfl ?_
      refine run_sub (subMk (.cons (s := 4) rfl (.cons (s := 5) rfl (.cons (s := 6) rfl .nil))) .refl) ?_
      refine run_seq ?_
      exact absurd (by rw [show xs.length = i from by omega]; exact hEs) hE2

end Go.Proofs.YtgphmbipakdggaaR
