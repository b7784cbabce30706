/- Two laws, in the program. -/
import Derived.Test.YticofkkkafhpiaaD
set_option linter.unusedSimpArgs false
set_option linter.unusedVariables false
namespace Go.Proofs.Yticofkkkafhpiaa
open Go Go.RowKit Hr

theorem call12 : Hr.Callable Try.prog 12 := fun args w => by kernel_rfl
theorem call15 : Hr.Callable Try.prog 15 := fun args w => by kernel_rfl
theorem call17 : Hr.Callable Try.prog 17 := fun args w => by kernel_rfl
theorem call18 : Hr.Callable Try.prog 18 := fun args w => by kernel_rfl
theorem call19 : Hr.Callable Try.prog 19 := fun args w => by kernel_rfl

theorem law3_at (l : List Tup) (A : Option Addr) (ca : Nat) (n : Int) (W : World) (hr0 : Rd W A 4 (l.map Tup.enc)) (hca : l.length ≤ ca) (a : List Tup) (ha : a = l.take 20) : Calls Try.prog 3 #[.slice A l.length ca, .int .i64 n] W (Hr.Just W (.bool true)) := by
  have hra := rd_take (enc := Tup.enc) hr0 ha
  have hla : a.length = min l.length 20 := by rw [ha]; simp [Nat.min_comm]
  refine Just.of_ret ?_
  refine enterA (X := nX) (vs := [.slice A l.length ca, .int .i64 n]) Try.func3 Try.ntmps3 rfl rfl Mem.nil ?_
  refine run_seq ?_
  refine run_region ?_
  refine run_q (.none rfl) rfl rfl (q_assign rfl rfl) ?_
  refine run_nil ?_
  refine run_seq ?_
  refine run_region ?_
  refine run_q (.none rfl) rfl rfl (q_move rfl rfl) ?_
  refine run_q (.none rfl) rfl rfl (q_move rfl rfl) ?_
  refine run_q (.none rfl) rfl rfl (q_len rfl Try.underlying22 rfl) ?_
  refine run_q (.none rfl) rfl rfl (q_min2 rfl rfl rfl) ?_
  refine run_q (.none rfl) rfl rfl (q_sliceH rfl Try.underlying22 sz46 rfl rfl (by omega)) ?_
  refine run_q (.none rfl) rfl rfl (q_assign rfl rfl) ?_
  refine run_nil ?_
  refine run_sub (subMk (.cons (s := 0) rfl (.cons (s := 1) rfl (.cons (s := 4) rfl .nil))) .refl) ?_
  refine run_seq ?_
  refine run_sub (subMk (.cons' (s := 0) (v' := .slice A a.length ca) rfl (by rw [hla]; congr 1; omega) (.cons (s := 1) rfl (.cons (s := 4) rfl .nil))) .refl) ?_
  refine run_region ?_
  refine run_q (.none rfl) rfl rfl (q_call rfl call12 Evs.nil (fun w hk hm => known_just w)) ?_
  refine run_q (.none rfl) rfl rfl (q_move rfl rfl) ?_
  refine run_q (.on rfl rfl rfl rfl) rfl rfl (q_move rfl rfl) ?_
  refine run_q (.on rfl rfl rfl rfl) rfl rfl (q_move rfl rfl) ?_
  refine run_q (.on rfl rfl rfl rfl) rfl rfl (q_call rfl call13 (.cons rfl (.cons rfl Evs.nil)) (fun w hk hm => check_just a A ca n w (hra.kept0 hk) (by omega))) ?_
  refine run_q (.on rfl rfl rfl rfl) rfl rfl (q_move rfl rfl) ?_
  refine run_h (.on rfl rfl rfl rfl) (h_call rfl rfl rfl call15 (.cons rfl Evs.nil) (fun w hk hm => to_ret a A ca w (hra.kept0 hk) (by omega))) ?_
  rintro ⟨v, m⟩ ⟨O16, co16, rfl, rfl⟩
  show Run _ _ _ _ _ _ _ ⟨(16, .slice O16 a.length co16) :: _, _ :: _⟩
  refine run_q (.on rfl rfl rfl rfl) rfl rfl (q_move rfl rfl) ?_
  refine run_q (.on rfl rfl rfl rfl) rfl rfl (q_call rfl call14 (.cons rfl (.cons rfl Evs.nil)) (fun w hk hm => refcheck_just a O16 co16 n w (own_rd (Sel.here.holds hm)) (by omega))) ?_
  refine run_q (.on rfl rfl rfl rfl) rfl rfl (q_eql rfl rfl rfl) ?_
  refine run_q (.none rfl) rfl rfl (q_pickT rfl rfl rfl rfl) ?_
  refine run_q (.none rfl) rfl rfl (q_assign rfl rfl) ?_
  refine run_nil ?_
  refine run_sub (subMk (.cons (s := 4) rfl .nil) .refl) ?_
  refine run_ret ?_
  exact end1 rfl rfl (by simp)

theorem law3_just (l : List Tup) (A : Option Addr) (ca : Nat) (n : Int) (W : World) (hr0 : Rd W A 4 (l.map Tup.enc)) (hca : l.length ≤ ca) : Calls Try.prog 3 #[.slice A l.length ca, .int .i64 n] W (Just W (.bool true)) := law3_at l A ca n W hr0 hca _ rfl

theorem law5_at (l : List Tup) (A : Option Addr) (ca : Nat) (lw : List Int) (B : Option Addr) (cb : Nat) (W : World) (hr0 : Rd W A 4 (l.map Tup.enc)) (hca : l.length ≤ ca) (hrw0 : Rd W B 1 (lw.map encI)) (hcb : lw.length ≤ cb) (a : List Tup) (ha : a = l.take 20) (ws : List Int) (hws : ws = lw.take 130) : Calls Try.prog 5 #[.slice A l.length ca, .slice B lw.length cb] W (Hr.Just W (.bool true)) := by
  have hra := rd_take (enc := Tup.enc) hr0 ha
  have hla : a.length = min l.length 20 := by rw [ha]; simp [Nat.min_comm]
  have hrw := rd_take (enc := encI) hrw0 hws
  have hlw : ws.length = min lw.length 130 := by rw [hws]; simp [Nat.min_comm]
  have hl8 := lenV_len2 a ws
  refine Just.of_ret ?_
  refine enterA (X := nX) (vs := [.slice A l.length ca, .slice B lw.length cb]) Try.func5 Try.ntmps5 rfl rfl Mem.nil ?_
  refine run_seq ?_
  refine run_region ?_
  refine run_q (.none rfl) rfl rfl (q_assign rfl rfl) ?_
  refine run_nil ?_
  refine run_seq ?_
  refine run_draw [(0, 0), (1, 0), (2, 0), (3, 0), (4, 0), (5, 0), (6, 0), (7, 0), (8, 0), (9, 0), (10, 0), (11, 0)] mixed (by kernel_rfl) .refl ?_
  refine d_q rfl rfl (.none rfl) rfl rfl (q_move rfl rfl) ?_
  refine d_q rfl rfl (.none rfl) rfl rfl (q_move rfl rfl) ?_
  refine d_q rfl rfl (.none rfl) rfl rfl (q_len rfl Try.underlying22 rfl) ?_
  refine d_q rfl rfl (.none rfl) rfl rfl (q_min2 rfl rfl rfl) ?_
  refine d_q rfl rfl (.none rfl) rfl rfl (q_sliceH rfl Try.underlying22 sz46 rfl rfl (by omega)) ?_
  refine d_q rfl rfl (.none rfl) rfl rfl (q_move rfl rfl) ?_
  refine d_q rfl rfl (.none rfl) rfl rfl (q_move rfl rfl) ?_
  refine d_q rfl rfl (.none rfl) rfl rfl (q_len rfl Try.underlying30 rfl) ?_
  refine d_q rfl rfl (.none rfl) rfl rfl (q_min2 rfl rfl rfl) ?_
  refine d_q rfl rfl (.none rfl) rfl rfl (q_sliceH rfl Try.underlying30 sz3 rfl rfl (by omega)) ?_
  refine d_q rfl rfl (.none rfl) rfl rfl (q_assign rfl rfl) ?_
  refine d_q rfl rfl (.none rfl) rfl rfl (q_assign rfl rfl) ?_
  refine d_nil ?_
  refine run_sub (subMk (.cons (s := 0) rfl (.cons (s := 1) rfl (.cons (s := 4) rfl .nil))) .refl) ?_
  refine run_seq ?_
  refine run_sub (subMk (.cons' (s := 0) (v' := .slice A a.length ca) rfl (by rw [hla]; congr 1; omega) (.cons' (s := 1) (v' := .slice B ws.length cb) rfl (by rw [hlw]; congr 1; omega) (.cons (s := 4) rfl .nil))) .refl) ?_
  refine run_region ?_
  refine run_q (.none rfl) rfl rfl (q_move rfl rfl) ?_
  refine run_q (.none rfl) rfl rfl (q_move rfl rfl) ?_
  refine run_h (.none rfl) (h_call rfl rfl rfl call16 (.cons rfl (.cons rfl Evs.nil)) (fun w hk hm => lengths_ret a A ca ws B cb w (hra.kept0 hk) (hrw.kept0 hk) (by omega) (by omega))) ?_
  rintro ⟨v, m⟩ ⟨O26, co26, rfl, rfl⟩
  show Run _ _ _ _ _ _ _ ⟨(26, .tuple #[.slice O26 (lenV a ws).1.length co26, .int .i64 (lenV a ws).2]) :: _, _ :: _⟩
  refine run_q (.none rfl) rfl rfl (q_move rfl rfl) ?_
  refine run_q (.none rfl) rfl rfl (q_extract rfl rfl rfl) ?_
  refine run_q (.none rfl) rfl rfl (q_extract rfl rfl rfl) ?_
  refine run_q (.none rfl) rfl rfl (q_assign rfl rfl) ?_
  refine run_q (.none rfl) rfl rfl (q_assign rfl rfl) ?_
  refine run_nil ?_
  refine run_sub (subMk (.cons (s := 0) rfl (.cons (s := 1) rfl (.cons (s := 4) rfl (.cons (s := 5) rfl (.cons (s := 6) rfl .nil))))) .refl) ?_
  refine run_seq ?_
  refine run_region ?_
  refine run_q (.none rfl) rfl rfl (q_move rfl rfl) ?_
  refine run_h (.none rfl) (h_call rfl rfl rfl call15 (.cons rfl Evs.nil) (fun w hk hm => to_ret a A ca w (hra.kept0 hk) (by omega))) ?_
  rintro ⟨v, m⟩ ⟨O31, co31, rfl, rfl⟩
  show Run _ _ _ _ _ _ _ ⟨(31, .slice O31 a.length co31) :: _, _ :: _⟩
  refine run_q (.none rfl) rfl rfl (q_move rfl rfl) ?_
  refine run_h (.none rfl) (h_call rfl rfl rfl call17 (.cons rfl (.cons rfl Evs.nil)) (fun w hk hm => reflengths_ret a O31 co31 ws B cb w (own_rd (Sel.here.holds hm)) (hrw.kept0 hk) (by omega) (by omega))) ?_
  rintro ⟨v, m⟩ ⟨O33, co33, rfl, rfl⟩
  show Run _ _ _ _ _ _ _ ⟨(33, .tuple #[.slice O33 (lenV a ws).1.length co33, .int .i64 (lenV a ws).2]) :: _, _ :: _⟩
  refine run_q (.none rfl) rfl rfl (q_move rfl rfl) ?_
  refine run_q (.none rfl) rfl rfl (q_extract rfl rfl rfl) ?_
  refine run_q (.none rfl) rfl rfl (q_extract rfl rfl rfl) ?_
  refine run_q (.none rfl) rfl rfl (q_assign rfl rfl) ?_
  refine run_q (.none rfl) rfl rfl (q_assign rfl rfl) ?_
  refine run_nil ?_
  refine run_sub (subMk (.cons (s := 0) rfl (.cons (s := 1) rfl (.cons (s := 4) rfl (.cons (s := 5) rfl (.cons (s := 6) rfl (.cons (s := 7) rfl (.cons (s := 8) rfl .nil))))))) .refl) ?_
  refine run_seq ?_
  refine run_region ?_
  refine run_q (.none rfl) rfl rfl (q_move rfl rfl) ?_
  refine run_q (.none rfl) rfl rfl (q_move rfl rfl) ?_
  refine run_q (.none rfl) rfl rfl (q_call rfl call18 (.cons rfl (.cons rfl Evs.nil)) (fun w hk hm => sum_just a A ca ws B cb w (hra.kept0 hk) (hrw.kept0 hk) (by omega) (by omega))) ?_
  refine run_q (.none rfl) rfl rfl (q_move rfl rfl) ?_
  refine run_q (.none rfl) rfl rfl (q_extract rfl rfl rfl) ?_
  refine run_q (.none rfl) rfl rfl (q_extract rfl rfl rfl) ?_
  refine run_q (.none rfl) rfl rfl (q_assign rfl rfl) ?_
  refine run_q (.none rfl) rfl rfl (q_assign rfl rfl) ?_
  refine run_nil ?_
  refine run_sub (subMk (.cons (s := 4) rfl (.cons (s := 5) rfl (.cons (s := 6) rfl (.cons (s := 7) rfl (.cons (s := 8) rfl (.cons (s := 9) rfl (.cons (s := 10) rfl .nil))))))) .refl) ?_
  refine run_seq ?_
  refine run_region ?_
  refine run_q (.none rfl) rfl rfl (q_assign rfl rfl) ?_
  refine run_nil ?_
  refine run_seq ?_
  refine run_seq ?_
  refine run_region ?_
  refine run_q (.none rfl) rfl rfl (q_assign rfl rfl) ?_
  refine run_nil ?_
  refine run_block ?_
  refine run_sub (subMk (.cons (s := 12) rfl (.cons (s := 11) rfl (.cons (s := 4) rfl (.cons (s := 5) rfl (.cons (s := 6) rfl (.cons (s := 7) rfl (.cons (s := 8) rfl (.cons (s := 9) rfl (.cons (s := 10) rfl .nil))))))))) (.cons Sel.here .refl (.cons Sel.here .refl (.cons Sel.here .refl .nil)))) ?_
  refine run_loopC2M0 (ι := Nat) (fun k => k ≤ (lenV a ws).1.length) (fun k => .int .i64 (k : Int)) (fun k => .int .i64 (sumI ((lenV a ws).1.take k)))  (fun k => (lenV a ws).1.length - k) 0 (by (try dsimp only); exact (by omega)) rfl rfl  ?_
  rintro k hk
  (try dsimp only at hk)
  show Run _ _ _ _ _ _ _ ⟨(12, .int .i64 (k : Int)) :: (11, .int .i64 (sumI ((lenV a ws).1.take k))) :: _, _⟩
  refine run_seq ?_
  refine run_seq ?_
  refine run_region ?_
  refine run_q (.none rfl) rfl rfl (q_move rfl rfl) ?_
  refine run_q (.none rfl) rfl rfl (q_move rfl rfl) ?_
  refine run_q (.none rfl) rfl rfl (q_len rfl Try.underlying30 rfl) ?_
  refine run_q (.none rfl) rfl rfl (q_lss rfl rfl rfl) ?_
  refine run_nil ?_
  refine run_sub (subMk (.cons (s := 4) rfl (.cons (s := 5) rfl (.cons (s := 6) rfl (.cons (s := 7) rfl (.cons (s := 8) rfl (.cons (s := 9) rfl (.cons (s := 10) rfl (.cons (s := 11) rfl (.cons (s := 12) rfl (.cons (s := 45) rfl .nil)))))))))) .refl) ?_
  refine run_cond rfl (fun g45 => ?_) (fun g45 => ?_)
  · have g45' := g45
    try simp only [decide_eq_true_eq, decide_eq_false_iff_not, beq_iff_eq, beq_eq_false_iff_ne, bne_iff_ne, bne_eq_false_iff_eq, Bool.not_eq_true', Bool.not_eq_false', ne_eq, Int.not_lt, Int.not_le, Decidable.not_not] at g45'
    have hsb := sumI_bd (lenV_bd (ts := a) (w := ws)) k hk
    have hxb := lenV_bd (ts := a) (w := ws) _ (nth_mem (show k < (lenV a ws).1.length by omega))
    refine run_skip ?_
    refine run_seq ?_
    refine run_block ?_
    refine run_region ?_
    refine run_q (.none rfl) rfl rfl (q_move rfl rfl) ?_
    refine run_q (.none rfl) rfl rfl (q_move rfl rfl) ?_
    refine run_q (.none rfl) rfl rfl (q_move rfl rfl) ?_
    refine run_q (.none rfl) rfl rfl (q_indexS (q := k) rfl Try.underlying30 sz3 rfl rfl (.own Sel.here) (by simp <;> omega) rfl (by omega)) ?_
    refine run_q (.none rfl) rfl rfl (q_loadC rfl one3 rfl (.own Sel.here) (getmap (by omega))) ?_
    refine run_q (.none rfl) rfl rfl (q_add rfl rfl rfl (by omega)) ?_
    refine run_q (.none rfl) rfl rfl (q_assign rfl rfl) ?_
    refine run_nil ?_
    refine run_sub (subMk (.cons (s := 4) rfl (.cons (s := 5) rfl (.cons (s := 6) rfl (.cons (s := 7) rfl (.cons (s := 8) rfl (.cons (s := 9) rfl (.cons (s := 10) rfl (.cons (s := 11) rfl (.cons (s := 12) rfl .nil))))))))) .refl) ?_
    refine run_blk ?_
    refine run_region ?_
    refine run_q (.none rfl) rfl rfl (q_move rfl rfl) ?_
    refine run_q (.none rfl) rfl rfl (q_add rfl rfl rfl (by omega)) ?_
    refine run_q (.none rfl) rfl rfl (q_assign rfl rfl) ?_
    refine run_nil ?_
    exact run_again (k + 1) (by (try dsimp only); exact (by omega)) (by (try dsimp only); omega) (subMk (.cons' (s := 12) rfl rfl (.cons' (s := 11) rfl (vint (by rw [sumI_take (by omega)])) (.cons (s := 4) rfl (.cons (s := 5) rfl (.cons (s := 6) rfl (.cons (s := 7) rfl (.cons (s := 8) rfl (.cons (s := 9) rfl (.cons (s := 10) rfl .nil))))))))) (.cons Sel.here .refl (.cons Sel.here .refl (.cons Sel.here .refl .nil))))
  · have g45' := g45
    try simp only [decide_eq_true_eq, decide_eq_false_iff_not, beq_iff_eq, beq_eq_false_iff_ne, bne_iff_ne, bne_eq_false_iff_eq, Bool.not_eq_true', Bool.not_eq_false', ne_eq, Int.not_lt, Int.not_le, Decidable.not_not] at g45'
    refine run_exit rfl ?_
    refine run_seq ?_
    refine run_region ?_
    refine run_q (.none rfl) rfl rfl (q_call rfl call12 Evs.nil (fun w hk hm => known_just w)) ?_
    refine run_q (.none rfl) rfl rfl (q_move rfl rfl) ?_
    refine run_q (.on rfl rfl rfl rfl) rfl rfl (q_move rfl rfl) ?_
    refine run_q (.on rfl rfl rfl rfl) rfl rfl (q_move rfl rfl) ?_
    refine run_q (.on rfl rfl rfl rfl) rfl rfl (q_eql rfl rfl rfl) ?_
    refine run_q (.none rfl) rfl rfl (q_pickT rfl rfl rfl rfl) ?_
    refine run_q (.none rfl) rfl rfl (q_move rfl rfl) ?_
    refine run_q (.on rfl rfl rfl (by simp)) rfl rfl (q_move rfl rfl) ?_
    refine run_q (.on rfl rfl rfl (by simp)) rfl rfl (q_move rfl rfl) ?_
    refine run_q (.on rfl rfl rfl (by simp)) rfl rfl (q_eql rfl rfl rfl) ?_
    refine run_q (.none rfl) rfl rfl (q_pickT rfl rfl (by simp) rfl) ?_
    refine run_q (.none rfl) rfl rfl (q_move rfl rfl) ?_
    refine run_q (.on rfl rfl rfl (by simp)) rfl rfl (q_move rfl rfl) ?_
    refine run_q (.on rfl rfl rfl (by simp)) rfl rfl (q_move rfl rfl) ?_
    refine run_q (.on rfl rfl rfl (by simp)) rfl rfl (q_call rfl call19 (.cons rfl (.cons rfl Evs.nil)) (fun w hk hm => numbers_just (lenV a ws).1 O26 O33 _ co26 co33 w (own_rd ((Sel.there (Sel.there Sel.here)).holds hm)) (own_rd (Sel.here.holds hm)) rfl (by omega))) ?_
    refine run_q (.none rfl) rfl rfl (q_pickT rfl rfl (by simp) rfl) ?_
    refine run_q (.none rfl) rfl rfl (q_move rfl rfl) ?_
    refine run_q (.on rfl rfl rfl rfl) rfl rfl (q_move rfl rfl) ?_
    refine run_q (.on rfl rfl rfl rfl) rfl rfl (q_move rfl rfl) ?_
    refine run_q (.on rfl rfl rfl rfl) rfl rfl (q_eql rfl rfl rfl) ?_
    refine run_q (.none rfl) rfl rfl (q_pickT rfl rfl rfl rfl) ?_
    refine run_q (.none rfl) rfl rfl (q_assign rfl rfl) ?_
    refine run_nil ?_
    refine run_sub (subMk (.cons (s := 4) rfl .nil) .refl) ?_
    refine run_ret ?_
    exact end1 rfl rfl (by rw [show k = (lenV a ws).1.length from by omega, List.take_length]; simp)

theorem law5_just (l : List Tup) (A : Option Addr) (ca : Nat) (lw : List Int) (B : Option Addr) (cb : Nat) (W : World) (hr0 : Rd W A 4 (l.map Tup.enc)) (hca : l.length ≤ ca) (hrw0 : Rd W B 1 (lw.map encI)) (hcb : lw.length ≤ cb) : Calls Try.prog 5 #[.slice A l.length ca, .slice B lw.length cb] W (Just W (.bool true)) := law5_at l A ca lw B cb W hr0 hca hrw0 hcb _ rfl _ rfl

end Go.Proofs.Yticofkkkafhpiaa
