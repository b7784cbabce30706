/- Marks placed on a common line. -/
import Derived.Test.YtgphmbipakdggaaRM
import Derived.Test.YtgphmbipakdggaaRRow
set_option linter.unusedSimpArgs false
set_option linter.unusedVariables false
namespace Go.Proofs.YtgphmbipakdggaaR
open Go Go.RowKit Hr



set_option maxRecDepth 100000 in
theorem RaiseE_just (o : List Int) (p : Nat) (A : Option Addr) (c : Nat) (t : Int) (n : Nat) (f l h : Int) (W : World) (hon : o.length = n) (hb : Rd W (some ⟨p, 0, none⟩) 2 [[.int .i64 t, .slice A n c]]) (hf : 0 ≤ f ∧ f ≤ l ∧ l < o.length) (hh : ¬ (-1048576 ≤ h ∧ h ≤ 1048576)) : Calls Try.prog 37 #[.pointer (some ((adr (some ⟨p, 0, none⟩)).add (0 * 2))), .int .i64 f, .int .i64 l, .int .i64 h] W (Hr.Just W (.int .i64 2)) := by
  subst hon
  refine Just.of_ret ?_
  refine enterA (X := nX) (vs := [.pointer (some ((adr (some ⟨p, 0, none⟩)).add (0 * 2))), .int .i64 f, .int .i64 l, .int .i64 h]) Try.func37 Try.ntmps37 rfl rfl Mem.nil ?_
  refine run_seq ?_
  refine run_region ?_
  refine run_q (.none rfl) rfl rfl (q_assign rfl rfl) ?_
  refine run_nil ?_
  refine run_seq ?_
  refine run_seq ?_
  refine run_region ?_
  refine run_q (.none rfl) rfl rfl (q_move rfl rfl) ?_
  refine run_q (.none rfl) rfl rfl (q_move rfl rfl) ?_
  refine run_q (.none rfl) rfl rfl (q_move rfl rfl) ?_
  refine run_q (.none rfl) rfl rfl (q_call rfl call65 (.cons rfl (.cons rfl (.cons rfl Evs.nil))) (fun w hk hm => columns_just o p A c t _ f l w rfl (hb.kept0 hk))) ?_
  refine run_q (.none rfl) rfl rfl (q_assign rfl rfl) ?_
  refine run_nil ?_
  refine run_sub (subMk (.cons (s := 0) rfl (.cons (s := 1) rfl (.cons (s := 2) rfl (.cons (s := 3) rfl (.cons (s := 8) rfl (.cons (s := 9) rfl .nil)))))) .refl) ?_
  refine run_seq ?_
  refine run_region ?_
  refine run_q (.none rfl) rfl rfl (q_move rfl rfl) ?_
  refine run_q (.none rfl) rfl rfl (q_neq rfl rfl rfl) ?_
  refine run_nil ?_
  refine run_condF rfl (by rw [colE, if_neg (by omega)]; rfl) ?_
  refine run_skip ?_
  refine run_seq ?_
  refine run_seq ?_
  refine run_region ?_
  refine run_q (.none rfl) rfl rfl (q_move rfl rfl) ?_
  refine run_q (.none rfl) rfl rfl (q_call rfl call48 (.cons rfl Evs.nil) (fun w hk hm => perm_just h w)) ?_
  refine run_q (.none rfl) rfl rfl (q_not rfl rfl) ?_
  refine run_nil ?_
  refine run_sub (subMk (.cons (s := 0) rfl (.cons (s := 1) rfl (.cons (s := 2) rfl (.cons (s := 3) rfl (.cons (s := 8) rfl (.cons (s := 19) rfl .nil)))))) .refl) ?_
  refine run_condT rfl (by rw [decide_eq_false hh]; rfl) ?_
  refine run_seq ?_
  refine run_region ?_
  refine run_q (.none rfl) rfl rfl (q_assign rfl rfl) ?_
  refine run_nil ?_
  refine run_ret ?_
  exact end1 rfl rfl rfl

set_option maxHeartbeats 4000000 in
set_option maxRecDepth 100000 in
theorem PlaceRow_ret (xs : List Req) (X : Option Addr) (cx : Nat) (b : List Int) (pb : Nat) (B : Option Addr) (cb n : Nat) (W : World) (hon : b.length = n) (hm : Mem (atAny [.blk pb 105 [(0, .int .i64 (-1)), (1, .slice B n cb)], .own 3 1 B n cb ((b).map encI)]) W [.blk pb 105 [(0, .int .i64 (-1)), (1, .slice B n cb)], .own 3 1 B n cb ((b).map encI)] W) (hx : ∀ w, Kept (atAny [.blk pb 105 [(0, .int .i64 (-1)), (1, .slice B n cb)], .own 3 1 B n cb ((b).map encI)]) W w → Rd w X 13 (xs.map Req.enc)) (hxl : xs.length ≤ 1000000) (hl6 : n ≤ 65536) (hcb : n ≤ cb) (hbb : Bd b) : Calls Try.prog 27 #[.slice X xs.length cx, .pointer (some ⟨pb, 0, none⟩)] W (Ret W (atAny [.blk pb 105 [(0, .int .i64 (-1)), (1, .slice B n cb)], .own 3 1 B n cb ((b).map encI)]) (fun v m => ∃ B' cb' O co, v = .tuple #[.slice O (rowM xs b).length co, .int .i64 (rowE xs b)] ∧ n ≤ cb' ∧ m = [.blk pb 105 [(0, .int .i64 (-1)), (1, .slice B' n cb')], .own 3 1 B' n cb' (((rowO xs b)).map encI), .own 50 12 O (rowM xs b).length co ((rowM xs b).map Mk.enc)])) := by
  refine enterA (X := _) (vs := [.slice X xs.length cx, .pointer (some ⟨pb, 0, none⟩)]) Try.func27 Try.ntmps27 rfl rfl hm ?_
  refine run_seq ?_
  refine run_region ?_
  refine run_q (.none rfl) rfl rfl (q_assign rfl rfl) ?_
  refine run_q (.none rfl) rfl rfl (q_assign rfl rfl) ?_
  refine run_nil ?_
  refine run_seq ?_
  refine run_block ?_
  refine run_seq ?_
  refine run_region ?_
  refine run_q (.none rfl) rfl rfl (q_move rfl rfl) ?_
  refine run_q (.none rfl) rfl rfl (q_eqlPtr rfl rfl rfl Try.underlying41) ?_
  refine run_q (.none rfl) rfl rfl (q_assign rfl rfl) ?_
  refine run_nil ?_
  refine run_condF rfl rfl ?_
  refine run_seq ?_
  refine run_region ?_
  refine run_q (.none rfl) rfl rfl (q_move rfl rfl) ?_
  refine run_q (.none rfl) rfl rfl (q_call rfl call38 (.cons rfl Evs.nil) (fun w hk hm => side_just b pb B cb (-1) n w hon (rd_sky (Sel.here.holds hm)))) ?_
  refine run_q (.none rfl) rfl rfl (q_neq rfl rfl rfl) ?_
  refine run_q (.none rfl) rfl rfl (q_assign rfl rfl) ?_
  refine run_nil ?_
  refine run_sub (subMk (.cons (s := 0) rfl (.cons (s := 1) rfl (.cons (s := 4) rfl (.cons (s := 5) rfl (.cons (s := 21) rfl .nil))))) .refl) ?_
  refine run_condF rfl rfl ?_
  refine run_skip ?_
  refine run_blk ?_
  refine run_seq ?_
  refine run_region ?_
  refine run_q (.none rfl) rfl rfl (q_assign rfl rfl) ?_
  refine run_nil ?_
  refine run_seq ?_
  refine run_seq ?_
  refine run_region ?_
  refine run_q (.none rfl) rfl rfl (q_move rfl rfl) ?_
  refine run_q (.none rfl) rfl rfl (q_len rfl Try.underlying37 rfl) ?_
  refine run_q (.none rfl) rfl rfl (q_move rfl rfl) ?_
  refine run_nil ?_
  refine run_block ?_
  refine run_sub (subMk (.cons (s := 27) rfl (.cons (s := 6) rfl (.cons (s := 0) rfl (.cons (s := 1) rfl (.cons (s := 4) rfl (.cons (s := 5) rfl (.cons (s := 25) rfl (.cons (s := 26) rfl .nil)))))))) (.cons Sel.here .refl (.cons Sel.here .refl .nil))) ?_
  refine run_loopC2M0 (ι := Nat) (fun i => i ≤ xs.length ∧ reqsR n xs = reqsR n (xs.drop i)) (fun i => .int .i64 (i : Int)) (fun i => .int .i64 (rowE0 xs b i))  (fun i => xs.length - i) 0 (by (try dsimp only); exact ⟨by omega, rfl⟩) rfl rfl  ?_
  rintro i hq
  (try dsimp only at hq)
  obtain ⟨hi, hE⟩ := hq
  show Run _ _ _ _ _ _ _ ⟨(27, .int .i64 (i : Int)) :: (6, .int .i64 (rowE0 xs b i)) :: _, _⟩
  refine run_seq ?_
  refine run_region ?_
  refine run_q (.none rfl) rfl rfl (q_lss rfl rfl rfl) ?_
  refine run_nil ?_
  refine run_seq ?_
  refine run_cond rfl (fun g28 => ?_) (fun g28 => ?_)
  · have g28' := g28
    try simp only [decide_eq_true_eq, decide_eq_false_iff_not, beq_iff_eq, beq_eq_false_iff_ne, bne_iff_ne, bne_eq_false_iff_eq, Bool.not_eq_true', Bool.not_eq_false', ne_eq, Int.not_lt, Int.not_le, Decidable.not_not] at g28'
    have hst := reqsR_step (n := (n : Int)) (xs := xs) (i := i) (by omega)
    refine run_skip ?_
    refine run_seq ?_
    refine run_block ?_
    refine run_seq ?_
    refine run_region ?_
    refine run_q (.none rfl) rfl rfl (q_move rfl rfl) ?_
    refine run_q (.none rfl) rfl rfl (q_indexS (q := i) rfl Try.underlying37 sz25 rfl rfl (fun _ hk _ => hx _ hk) (by simp <;> omega) rfl (by omega)) ?_
    refine run_q (.none rfl) rfl rfl (q_loadE rfl agg25 rfl (fun _ hk _ => hx _ hk) (getmap (by omega)) rfl) ?_
    refine run_h (.none rfl) (h_alloc rfl rfl rfl info25) ?_
    rintro b8 -
    refine run_q (.none rfl) rfl rfl (q_assign rfl rfl) ?_
    refine run_h (.none rfl) (h_storeB rfl rfl sz25 rfl rfl rfl rfl rfl Sel.here rfl) ?_
    rintro - -
    refine run_nil ?_
    refine run_sub (subMk (.cons (s := 0) rfl (.cons (s := 1) rfl (.cons (s := 4) rfl (.cons (s := 5) rfl (.cons (s := 6) rfl (.cons (s := 7) rfl (.cons (s := 8) rfl (.cons (s := 25) rfl (.cons (s := 26) rfl (.cons (s := 27) rfl .nil)))))))))) .refl) ?_
    refine run_seq ?_
    refine run_seq ?_
    refine run_draw [(0, 0), (1, 0), (2, 0), (3, 0), (4, 0)] mixed (by kernel_rfl) .refl ?_
    refine d_q rfl rfl (.none rfl) rfl rfl (q_loadBN rfl agg25 rfl Sel.here (.cons rfl (.cons rfl (.cons rfl (.cons rfl (.cons rfl (.cons rfl (.cons rfl (.cons rfl (.cons rfl (.cons rfl (.cons rfl (.cons rfl (.cons rfl CellsAt.nil))))))))))))) rfl) ?_
    refine d_q rfl rfl (.none rfl) rfl rfl (q_move rfl rfl) ?_
    refine d_q rfl rfl (.none rfl) rfl rfl (q_call rfl call39 (.cons rfl Evs.nil) (fun w hk hm => cols_just b pb B cb (-1) n w hon (rd_sky ((Sel.there Sel.here).holds hm)))) ?_
    refine d_q rfl rfl (.none rfl) rfl rfl (q_call rfl call14 (.cons rfl (.cons rfl Evs.nil)) (fun w hk hm => check_just (nth xs i) (n : Int) w)) ?_
    refine d_q rfl rfl (.none rfl) rfl rfl (q_assign rfl rfl) ?_
    refine d_nil ?_
    refine run_sub (subMk (.cons (s := 0) rfl (.cons (s := 1) rfl (.cons (s := 4) rfl (.cons (s := 5) rfl (.cons (s := 6) rfl (.cons (s := 7) rfl (.cons (s := 8) rfl (.cons (s := 9) rfl (.cons (s := 25) rfl (.cons (s := 26) rfl (.cons (s := 27) rfl .nil))))))))))) .refl) ?_
    refine run_seq ?_
    refine run_region ?_
    refine run_q (.none rfl) rfl rfl (q_move rfl rfl) ?_
    refine run_q (.none rfl) rfl rfl (q_neq rfl rfl rfl) ?_
    refine run_nil ?_
    refine run_cond rfl (fun g37 => ?_) (fun g37 => ?_)
    · have g37' := g37
      try simp only [decide_eq_true_eq, decide_eq_false_iff_not, beq_iff_eq, beq_eq_false_iff_ne, bne_iff_ne, bne_eq_false_iff_eq, Bool.not_eq_true', Bool.not_eq_false', ne_eq, Int.not_lt, Int.not_le, Decidable.not_not] at g37'
      have h37 : reqE (nth xs i) n ≠ 0 := by simpa using g37
      refine run_seq ?_
      refine run_region ?_
      refine run_q (.none rfl) rfl rfl (q_move rfl rfl) ?_
      refine run_q (.none rfl) rfl rfl (q_assign rfl rfl) ?_
      refine run_q (.none rfl) rfl rfl (q_assign rfl rfl) ?_
      refine run_nil ?_
      refine run_sub (subMk (.cons (s := 0) rfl (.cons (s := 1) rfl (.cons (s := 4) rfl (.cons (s := 5) rfl (.cons (s := 6) rfl (.cons (s := 7) rfl (.cons (s := 8) rfl (.cons (s := 25) rfl (.cons (s := 26) rfl (.cons (s := 27) rfl .nil)))))))))) .refl) ?_
      refine run_ret ?_
      refine run_sub (subMk .refl (MemSub.nilOwn 50 12)) ?_
      refine run_sub (subMk .refl (.cons (.there (.there Sel.here)) (.blk (.cons (s := 0) rfl (.cons (s := 1) rfl (.nil)))) (.cons (.there (.there Sel.here)) .refl (.cons Sel.here .refl .nil)))) ?_
      exact end2 rfl rfl rfl (by have hEE : reqsR b.length xs = reqE (nth xs i) b.length := (by rw [hon, hE, hst, if_neg (by rw [reqR_1 h37]; exact h37), reqR_1 h37]); have hE2 := rowE_1 (xs := xs) (o := b) (by rw [hEE, hon]; exact h37); obtain ⟨e1, e2⟩ := row_err (xs := xs) (o := b) (by rw [hE2, hEE, hon]; exact h37); exact ⟨B, cb, none, 0, by rw [e2, hE2, hEE, hon]; rfl, hcb, by rw [e1, e2]; rfl⟩)
    · have g37' := g37
      try simp only [decide_eq_true_eq, decide_eq_false_iff_not, beq_iff_eq, beq_eq_false_iff_ne, bne_iff_ne, bne_eq_false_iff_eq, Bool.not_eq_true', Bool.not_eq_false', ne_eq, Int.not_lt, Int.not_le, Decidable.not_not] at g37'
      have h0 : reqE (nth xs i) n = 0 := by simpa using g37
      have hq := reqE_ok h0
      refine run_skip ?_
      refine run_seq ?_
      refine run_seq ?_
      refine run_region ?_
      refine run_q (.none rfl) rfl rfl (q_fieldB (d := 5) rfl Try.underlying25 rfl rfl sz3 rfl) ?_
      refine run_q (.none rfl) rfl rfl (q_loadB rfl one3 rfl Sel.here rfl) ?_
      refine run_q (.none rfl) rfl rfl (q_neq rfl rfl rfl) ?_
      refine run_nil ?_
      refine run_sub (subMk (.cons (s := 0) rfl (.cons (s := 1) rfl (.cons (s := 4) rfl (.cons (s := 5) rfl (.cons (s := 6) rfl (.cons (s := 7) rfl (.cons (s := 8) rfl (.cons (s := 25) rfl (.cons (s := 26) rfl (.cons (s := 27) rfl (.cons (s := 41) rfl .nil))))))))))) .refl) ?_
      refine run_cond rfl (fun g41 => ?_) (fun g41 => ?_)
      · have g41' := g41
        try simp only [decide_eq_true_eq, decide_eq_false_iff_not, beq_iff_eq, beq_eq_false_iff_ne, bne_iff_ne, bne_eq_false_iff_eq, Bool.not_eq_true', Bool.not_eq_false', ne_eq, Int.not_lt, Int.not_le, Decidable.not_not] at g41'
        refine run_seq ?_
        refine run_region ?_
        refine run_q (.none rfl) rfl rfl (q_assign rfl rfl) ?_
        refine run_q (.none rfl) rfl rfl (q_assign rfl rfl) ?_
        refine run_nil ?_
        refine run_ret ?_
        refine run_sub (subMk .refl (MemSub.nilOwn 50 12)) ?_
        refine run_sub (subMk .refl (.cons (.there (.there Sel.here)) (.blk (.cons (s := 0) rfl (.cons (s := 1) rfl (.nil)))) (.cons (.there (.there Sel.here)) .refl (.cons Sel.here .refl .nil)))) ?_
        exact end2 rfl rfl rfl (by have hEE : reqsR b.length xs = 11 := (by rw [hon, hE, hst, if_neg (by rw [reqR_2 h0 g41']; decide), reqR_2 h0 g41']); have hE2 := rowE_1 (xs := xs) (o := b) (by rw [hEE]; decide); obtain ⟨e1, e2⟩ := row_err (xs := xs) (o := b) (by rw [hE2, hEE]; decide); exact ⟨B, cb, none, 0, by rw [e2, hE2, hEE]; rfl, hcb, by rw [e1, e2]; rfl⟩)
      · have g41' := g41
        try simp only [decide_eq_true_eq, decide_eq_false_iff_not, beq_iff_eq, beq_eq_false_iff_ne, bne_iff_ne, bne_eq_false_iff_eq, Bool.not_eq_true', Bool.not_eq_false', ne_eq, Int.not_lt, Int.not_le, Decidable.not_not] at g41'
        refine run_skip ?_
        refine run_seq ?_
        have hmb := maxR_bd hbb (show (nth xs i).fst.toNat ≤ (nth xs i).lst.toNat by omega) (by omega)
        refine run_region ?_
        refine run_q (.none rfl) rfl rfl (q_move rfl rfl) ?_
        refine run_q (.none rfl) rfl rfl (q_fieldB (d := 3) rfl Try.underlying25 rfl rfl sz3 rfl) ?_
        refine run_q (.none rfl) rfl rfl (q_loadB rfl one3 rfl Sel.here rfl) ?_
        refine run_q (.none rfl) rfl rfl (q_fieldB (d := 4) rfl Try.underlying25 rfl rfl sz3 rfl) ?_
        refine run_q (.none rfl) rfl rfl (q_loadB rfl one3 rfl Sel.here rfl) ?_
        refine run_q (.none rfl) rfl rfl (q_call rfl call50 (.cons rfl (.cons rfl (.cons rfl Evs.nil))) (fun w hk hm => most_just b pb B cb (-1) n (nth xs i).fst (nth xs i).lst w hon (rd_sky ((Sel.there Sel.here).holds hm)) (own_rd ((Sel.there (Sel.there Sel.here)).holds hm)) ⟨hq.2.2.2.2.2.1, hq.2.2.2.2.2.2.1, by omega⟩ (by omega) (by omega) hbb (.inr rfl))) ?_
        refine run_q (.none rfl) rfl rfl (q_move rfl rfl) ?_
        refine run_q (.none rfl) rfl rfl (q_extract rfl rfl rfl) ?_
        refine run_q (.none rfl) rfl rfl (q_extract rfl rfl rfl) ?_
        refine run_q (.none rfl) rfl rfl (q_assign rfl rfl) ?_
        refine run_q (.none rfl) rfl rfl (q_assign rfl rfl) ?_
        refine run_nil ?_
        refine run_sub (subMk (.cons (s := 0) rfl (.cons (s := 1) rfl (.cons (s := 4) rfl (.cons (s := 5) rfl (.cons (s := 6) rfl (.cons (s := 7) rfl (.cons (s := 8) rfl (.cons (s := 10) rfl (.cons (s := 11) rfl (.cons (s := 25) rfl (.cons (s := 26) rfl (.cons (s := 27) rfl .nil)))))))))))) .refl) ?_
        refine run_seq ?_
        refine run_seq ?_
        refine run_region ?_
        refine run_q (.none rfl) rfl rfl (q_move rfl rfl) ?_
        refine run_q (.none rfl) rfl rfl (q_neq rfl rfl rfl) ?_
        refine run_nil ?_
        refine run_condF rfl rfl ?_
        refine run_skip ?_
        refine run_seq ?_
        refine run_region ?_
        refine run_q (.none rfl) rfl rfl (q_fieldB (d := 6) rfl Try.underlying25 rfl rfl sz3 rfl) ?_
        refine run_q (.none rfl) rfl rfl (q_loadB rfl one3 rfl Sel.here rfl) ?_
        refine run_q (.none rfl) rfl rfl (q_move rfl rfl) ?_
        refine run_q (.none rfl) rfl rfl (q_sub rfl rfl rfl (by omega)) ?_
        refine run_q (.none rfl) rfl rfl (q_min2 rfl rfl rfl) ?_
        refine run_q (.none rfl) rfl rfl (q_assign rfl rfl) ?_
        refine run_nil ?_
        refine run_sub (subMk (.cons (s := 0) rfl (.cons (s := 1) rfl (.cons (s := 4) rfl (.cons (s := 5) rfl (.cons (s := 6) rfl (.cons (s := 7) rfl (.cons (s := 12) rfl (.cons (s := 25) rfl (.cons (s := 26) rfl (.cons (s := 27) rfl .nil)))))))))) .refl) ?_
        refine run_seq ?_
        refine run_region ?_
        refine run_q (.none rfl) rfl rfl (q_move rfl rfl) ?_
        refine run_q (.none rfl) rfl rfl (q_eql rfl rfl rfl) ?_
        refine run_q (.none rfl) rfl rfl (q_move rfl rfl) ?_
        refine run_split 61 rfl (fun g61 => ?_) (fun g61 => ?_)
        · have g61' := g61
          try simp only [decide_eq_true_eq, decide_eq_false_iff_not, beq_iff_eq, beq_eq_false_iff_ne, bne_iff_ne, bne_eq_false_iff_eq, Bool.not_eq_true', Bool.not_eq_false', ne_eq, Int.not_lt, Int.not_le, Decidable.not_not] at g61'
          refine run_off (.no rfl rfl rfl g61) rfl rfl ?_
          refine run_off (.no rfl rfl rfl g61) rfl rfl ?_
          refine run_off (.no rfl rfl rfl g61) rfl rfl ?_
          refine run_q (.none rfl) rfl rfl (q_pickT rfl rfl g61 rfl) ?_
          refine run_nil ?_
          refine run_sub (subMk (.cons (s := 0) rfl (.cons (s := 1) rfl (.cons (s := 4) rfl (.cons (s := 5) rfl (.cons (s := 6) rfl (.cons (s := 12) rfl (.cons (s := 25) rfl (.cons (s := 26) rfl (.cons (s := 27) rfl (.cons (s := 65) rfl .nil)))))))))) .refl) ?_
          refine run_condT rfl rfl ?_
          refine run_region ?_
          refine run_q (.none rfl) rfl rfl (q_move rfl rfl) ?_
          refine run_q (.none rfl) rfl rfl (q_assign rfl rfl) ?_
          refine run_nil ?_
          refine run_sub (subMk (.cons (s := 0) rfl (.cons (s := 1) rfl (.cons (s := 4) rfl (.cons (s := 5) rfl (.cons (s := 6) rfl (.cons (s := 25) rfl (.cons (s := 26) rfl (.cons (s := 27) rfl .nil)))))))) .refl) ?_
          refine run_blk ?_
          refine run_region ?_
          refine run_q (.none rfl) rfl rfl (q_add rfl rfl rfl (by omega)) ?_
          refine run_q (.none rfl) rfl rfl (q_move rfl rfl) ?_
          refine run_nil ?_
          exact run_again (i + 1) (by (try dsimp only); exact ⟨by omega, by rw [hE, hst, if_pos (reqR_3 h0 g41')]⟩) (by (try dsimp only); omega) (subMk (.cons' (s := 27) rfl (vint (by omega)) (.cons' (s := 6) rfl (vint (rowE0_first (by omega) (by omega))) (.cons (s := 0) rfl (.cons (s := 1) rfl (.cons (s := 4) rfl (.cons (s := 5) rfl (.cons (s := 25) rfl (.cons (s := 26) rfl .nil)))))))) (.cons (.there Sel.here) .refl (.cons (.there Sel.here) .refl .nil)))
        · have g61' := g61
          try simp only [decide_eq_true_eq, decide_eq_false_iff_not, beq_iff_eq, beq_eq_false_iff_ne, bne_iff_ne, bne_eq_false_iff_eq, Bool.not_eq_true', Bool.not_eq_false', ne_eq, Int.not_lt, Int.not_le, Decidable.not_not] at g61'
          refine run_q (.on rfl rfl rfl g61) rfl rfl (q_move rfl rfl) ?_
          refine run_q (.on rfl rfl rfl g61) rfl rfl (q_move rfl rfl) ?_
          refine run_q (.on rfl rfl rfl g61) rfl rfl (q_lss rfl rfl rfl) ?_
          refine run_q (.none rfl) rfl rfl (q_pickF rfl rfl g61 rfl) ?_
          refine run_nil ?_
          refine run_sub (subMk (.cons (s := 0) rfl (.cons (s := 1) rfl (.cons (s := 4) rfl (.cons (s := 5) rfl (.cons (s := 6) rfl (.cons (s := 12) rfl (.cons (s := 25) rfl (.cons (s := 26) rfl (.cons (s := 27) rfl (.cons (s := 65) rfl .nil)))))))))) .refl) ?_
          refine run_cond rfl (fun g65 => ?_) (fun g65 => ?_)
          · have g65' := g65
            try simp only [decide_eq_true_eq, decide_eq_false_iff_not, beq_iff_eq, beq_eq_false_iff_ne, bne_iff_ne, bne_eq_false_iff_eq, Bool.not_eq_true', Bool.not_eq_false', ne_eq, Int.not_lt, Int.not_le, Decidable.not_not] at g65'
            refine run_region ?_
            refine run_q (.none rfl) rfl rfl (q_move rfl rfl) ?_
            refine run_q (.none rfl) rfl rfl (q_assign rfl rfl) ?_
            refine run_nil ?_
            refine run_sub (subMk (.cons (s := 0) rfl (.cons (s := 1) rfl (.cons (s := 4) rfl (.cons (s := 5) rfl (.cons (s := 6) rfl (.cons (s := 25) rfl (.cons (s := 26) rfl (.cons (s := 27) rfl .nil)))))))) .refl) ?_
            refine run_blk ?_
            refine run_region ?_
            refine run_q (.none rfl) rfl rfl (q_add rfl rfl rfl (by omega)) ?_
            refine run_q (.none rfl) rfl rfl (q_move rfl rfl) ?_
            refine run_nil ?_
            exact run_again (i + 1) (by (try dsimp only); exact ⟨by omega, by rw [hE, hst, if_pos (reqR_3 h0 g41')]⟩) (by (try dsimp only); omega) (subMk (.cons' (s := 27) rfl (vint (by omega)) (.cons' (s := 6) rfl (vint (rowE0_less (by omega) (by omega))) (.cons (s := 0) rfl (.cons (s := 1) rfl (.cons (s := 4) rfl (.cons (s := 5) rfl (.cons (s := 25) rfl (.cons (s := 26) rfl .nil)))))))) (.cons (.there Sel.here) .refl (.cons (.there Sel.here) .refl .nil)))
          · have g65' := g65
            try simp only [decide_eq_true_eq, decide_eq_false_iff_not, beq_iff_eq, beq_eq_false_iff_ne, bne_iff_ne, bne_eq_false_iff_eq, Bool.not_eq_true', Bool.not_eq_false', ne_eq, Int.not_lt, Int.not_le, Decidable.not_not] at g65'
            refine run_skip ?_
            refine run_blk ?_
            refine run_region ?_
            refine run_q (.none rfl) rfl rfl (q_add rfl rfl rfl (by omega)) ?_
            refine run_q (.none rfl) rfl rfl (q_move rfl rfl) ?_
            refine run_nil ?_
            refine run_sub (subMk (.cons (s := 0) rfl (.cons (s := 1) rfl (.cons (s := 4) rfl (.cons (s := 5) rfl (.cons (s := 6) rfl (.cons (s := 25) rfl (.cons (s := 26) rfl (.cons (s := 27) rfl .nil)))))))) .refl) ?_
            exact run_again (i + 1) (by (try dsimp only); exact ⟨by omega, by rw [hE, hst, if_pos (reqR_3 h0 g41')]⟩) (by (try dsimp only); omega) (subMk (.cons' (s := 27) rfl (vint (by omega)) (.cons' (s := 6) rfl (vint (rowE0_keep (by omega) (by omega))) (.cons (s := 0) rfl (.cons (s := 1) rfl (.cons (s := 4) rfl (.cons (s := 5) rfl (.cons (s := 25) rfl (.cons (s := 26) rfl .nil)))))))) (.cons (.there Sel.here) .refl (.cons (.there Sel.here) .refl .nil)))
  · have g28' := g28
    try simp only [decide_eq_true_eq, decide_eq_false_iff_not, beq_iff_eq, beq_eq_false_iff_ne, bne_iff_ne, bne_eq_false_iff_eq, Bool.not_eq_true', Bool.not_eq_false', ne_eq, Int.not_lt, Int.not_le, Decidable.not_not] at g28'
    have hq0 : reqsR b.length xs = 0 := by rw [hon, hE, List.drop_eq_nil_of_le (by omega)]; rfl
    have he0 := rowE0_bd hq0 hbb
    refine run_exit rfl ?_
    refine run_sub (subMk (.cons (s := 0) rfl (.cons (s := 1) rfl (.cons (s := 4) rfl (.cons (s := 5) rfl (.cons (s := 6) rfl .nil))))) .refl) ?_
    refine run_seq ?_
    refine run_region ?_
    refine run_q (.none rfl) rfl rfl (q_move rfl rfl) ?_
    refine run_h (.none rfl) (h_call rfl rfl rfl call41 (.cons rfl Evs.nil) (fun w hk hm => cloneS_ret b pb B cb (-1) n w hon (rd_sky (Sel.here.holds hm)) (own_rd ((Sel.there Sel.here).holds hm)) (by omega))) ?_
    rintro ⟨v, m⟩ ⟨qb, B2, cb2, rfl, hdb, rfl⟩
    show Run _ _ _ _ _ _ _ ⟨(69, .pointer (some ⟨qb, 0, none⟩)) :: _, _ :: _ :: _⟩
    refine run_q (.none rfl) rfl rfl (q_assign rfl rfl) ?_
    refine run_nil ?_
    refine run_seq ?_
    refine run_region ?_
    refine run_q (.none rfl) rfl rfl (q_assign rfl rfl) ?_
    refine run_nil ?_
    refine run_seq ?_
    refine run_seq ?_
    refine run_sub (subMk (.cons (s := 0) rfl (.cons (s := 1) rfl (.cons (s := 4) rfl (.cons (s := 5) rfl (.cons' (s := 6) (v' := .int .i64 (rowE0 xs b xs.length)) rfl (vint (by rw [show xs.length = i from by omega])) (.cons (s := 68) rfl (.cons (s := 69) rfl (.cons (s := 13) rfl (.cons (s := 14) rfl .nil))))))))) .refl) ?_
    refine run_region ?_
    refine run_q (.none rfl) rfl rfl (q_move rfl rfl) ?_
    refine run_q (.none rfl) rfl rfl (q_len rfl Try.underlying37 rfl) ?_
    refine run_q (.none rfl) rfl rfl (q_move rfl rfl) ?_
    refine run_nil ?_
    refine run_sub (subMk (.cons (s := 1) rfl (.cons (s := 4) rfl (.cons (s := 5) rfl (.cons (s := 6) rfl (.cons (s := 13) rfl (.cons (s := 14) rfl (.cons (s := 70) rfl (.cons (s := 71) rfl (.cons (s := 72) rfl .nil))))))))) .refl) ?_
    refine run_block ?_
    refine run_sub (subMk .refl (MemSub.nilOwn 50 12)) ?_
    refine run_sub (subMk (.cons (s := 72) rfl (.cons (s := 14) rfl (.cons (s := 1) rfl (.cons (s := 4) rfl (.cons (s := 5) rfl (.cons (s := 6) rfl (.cons (s := 13) rfl (.cons (s := 70) rfl (.cons (s := 71) rfl .nil))))))))) (.cons (.there (.there Sel.here)) .refl (.cons Sel.here .refl (.cons Sel.here .refl (.cons Sel.here .refl (.cons Sel.here .refl .nil)))))) ?_
    refine run_loopC2M2 (ι := Nat × (Option Addr) × Nat) (fun gg => gg.1 ≤ xs.length ∧ rwE xs (rowE0 xs b xs.length) gg.1 = 0) (fun gg => .int .i64 (gg.1 : Int)) (fun gg => .slice gg.2.1 (rwM xs (rowE0 xs b xs.length) gg.1).length gg.2.2) (fun gg => .own 3 1 B2 n cb2 ((rw_ xs b (rowE0 xs b xs.length) gg.1).map encI)) (fun gg => .own 50 12 gg.2.1 (rwM xs (rowE0 xs b xs.length) gg.1).length gg.2.2 ((rwM xs (rowE0 xs b xs.length) gg.1).map Mk.enc)) (fun gg => xs.length - gg.1) (0, none, 0) (by (try dsimp only); exact ⟨by omega, rfl⟩) rfl rfl (.own rfl rfl rfl rfl) (.own rfl rfl rfl rfl) ?_
    rintro ⟨i, O, co⟩ hq
    (try dsimp only at hq)
    obtain ⟨hi, hEs⟩ := hq
    show Run _ _ _ _ _ _ _ ⟨(72, .int .i64 (i : Int)) :: (14, .slice O (rwM xs (rowE0 xs b xs.length) i).length co) :: _, .own 3 1 B2 n cb2 ((rw_ xs b (rowE0 xs b xs.length) i).map encI) :: .own 50 12 O (rwM xs (rowE0 xs b xs.length) i).length co ((rwM xs (rowE0 xs b xs.length) i).map Mk.enc) :: _⟩
    refine run_seq ?_
    refine run_region ?_
    refine run_q (.none rfl) rfl rfl (q_lss rfl rfl rfl) ?_
    refine run_nil ?_
    refine run_seq ?_
    refine run_cond rfl (fun g73 => ?_) (fun g73 => ?_)
    · have g73' := g73
      try simp only [decide_eq_true_eq, decide_eq_false_iff_not, beq_iff_eq, beq_eq_false_iff_ne, bne_iff_ne, bne_eq_false_iff_eq, Bool.not_eq_true', Bool.not_eq_false', ne_eq, Int.not_lt, Int.not_le, Decidable.not_not] at g73'
      have hq := reqE_ok (reqR_ok (reqsR_ok hq0 (show i < xs.length by omega))).1
      have hml := rwM_len (xs := xs) (e := rowE0 xs b xs.length) (i := i)
      refine run_skip ?_
      refine run_seq ?_
      refine run_block ?_
      refine run_seq ?_
      refine run_region ?_
      refine run_q (.none rfl) rfl rfl (q_indexS (q := i) rfl Try.underlying37 sz25 rfl rfl (fun _ hk _ => hx _ hk) (by simp <;> omega) rfl (by omega)) ?_
      refine run_q (.none rfl) rfl rfl (q_loadE rfl agg25 rfl (fun _ hk _ => hx _ hk) (getmap (by omega)) rfl) ?_
      refine run_h (.none rfl) (h_alloc rfl rfl rfl info25) ?_
      rintro b16 -
      refine run_h (.none rfl) (h_storeB rfl rfl sz25 rfl rfl rfl rfl rfl Sel.here rfl) ?_
      rintro - -
      refine run_nil ?_
      refine run_sub (subMk (.cons (s := 1) rfl (.cons (s := 4) rfl (.cons (s := 5) rfl (.cons (s := 6) rfl (.cons (s := 13) rfl (.cons (s := 14) rfl (.cons (s := 16) rfl (.cons (s := 70) rfl (.cons (s := 71) rfl (.cons (s := 72) rfl .nil)))))))))) .refl) ?_
      refine run_seq ?_
      refine run_seq ?_
      by_cases hlo : (rowE0 xs b xs.length) - (nth xs i).hgt < -1048576
      · refine run_region ?_
        refine run_q (.none rfl) rfl rfl (q_move rfl rfl) ?_
        refine run_q (.none rfl) rfl rfl (q_fieldB (d := 3) rfl Try.underlying25 rfl rfl sz3 rfl) ?_
        refine run_q (.none rfl) rfl rfl (q_loadB rfl one3 rfl Sel.here rfl) ?_
        refine run_q (.none rfl) rfl rfl (q_fieldB (d := 4) rfl Try.underlying25 rfl rfl sz3 rfl) ?_
        refine run_q (.none rfl) rfl rfl (q_loadB rfl one3 rfl Sel.here rfl) ?_
        refine run_q (.none rfl) rfl rfl (q_move rfl rfl) ?_
        refine run_q (.none rfl) rfl rfl (q_fieldB (d := 12) rfl Try.underlying25 rfl rfl sz3 rfl) ?_
        refine run_q (.none rfl) rfl rfl (q_loadB rfl one3 rfl Sel.here rfl) ?_
        refine run_q (.none rfl) rfl rfl (q_sub rfl rfl rfl (by omega)) ?_
        refine run_q (.none rfl) rfl rfl (q_call rfl call37 (.cons rfl (.cons rfl (.cons rfl (.cons rfl Evs.nil)))) (fun w hk hm => RaiseE_just (rw_ xs b (rowE0 xs b xs.length) i) qb B2 cb2 (-1) n (nth xs i).fst (nth xs i).lst ((rowE0 xs b xs.length) - (nth xs i).hgt) w (by rw [rw_len]; exact hon) (rd_sky ((Sel.there (Sel.there (Sel.there Sel.here))).holds hm)) ⟨hq.2.2.2.2.2.1, hq.2.2.2.2.2.2.1, by rw [rw_len]; omega⟩ (by omega))) ?_
        refine run_q (.none rfl) rfl rfl (q_assign rfl rfl) ?_
        refine run_nil ?_
        refine run_sub (subMk (.cons (s := 1) rfl (.cons (s := 4) rfl (.cons (s := 5) rfl (.cons (s := 6) rfl (.cons (s := 13) rfl (.cons (s := 14) rfl (.cons (s := 16) rfl (.cons (s := 17) rfl (.cons (s := 70) rfl (.cons (s := 71) rfl (.cons (s := 72) rfl .nil))))))))))) .refl) ?_
        refine run_seq ?_
        refine run_region ?_
        refine run_q (.none rfl) rfl rfl (q_move rfl rfl) ?_
        refine run_q (.none rfl) rfl rfl (q_neq rfl rfl rfl) ?_
        refine run_nil ?_
        refine run_condT rfl rfl ?_
        refine run_seq ?_
        refine run_region ?_
        refine run_q (.none rfl) rfl rfl (q_move rfl rfl) ?_
        refine run_q (.none rfl) rfl rfl (q_assign rfl rfl) ?_
        refine run_q (.none rfl) rfl rfl (q_assign rfl rfl) ?_
        refine run_nil ?_
        refine run_sub (subMk (.cons (s := 1) rfl (.cons (s := 4) rfl (.cons (s := 5) rfl (.cons (s := 6) rfl (.cons (s := 13) rfl (.cons (s := 14) rfl (.cons (s := 16) rfl (.cons (s := 70) rfl (.cons (s := 71) rfl (.cons (s := 72) rfl .nil)))))))))) .refl) ?_
        refine run_ret ?_
        refine run_sub (subMk .refl (MemSub.nilOwn 50 12)) ?_
        refine run_sub (subMk .refl (.cons (.there (.there (.there (.there (.there Sel.here))))) (.blk (.cons (s := 0) rfl (.cons (s := 1) rfl (.nil)))) (.cons (.there (.there (.there (.there (.there Sel.here))))) .refl (.cons Sel.here .refl .nil)))) ?_
        exact end2 rfl rfl rfl (by have hE2 := rowE_2 (xs := xs) (o := b) hq0; rw [← row_same.2.2, rwE_stay hEs hlo (show i < xs.length by omega)] at hE2; obtain ⟨e1, e2⟩ := row_err (xs := xs) (o := b) (by rw [hE2]; decide); exact ⟨B, cb, none, 0, by rw [e2, hE2]; rfl, hcb, by rw [e1, e2]; rfl⟩)
      · refine run_region ?_
        refine run_q (.none rfl) rfl rfl (q_move rfl rfl) ?_
        refine run_q (.none rfl) rfl rfl (q_fieldB (d := 3) rfl Try.underlying25 rfl rfl sz3 rfl) ?_
        refine run_q (.none rfl) rfl rfl (q_loadB rfl one3 rfl Sel.here rfl) ?_
        refine run_q (.none rfl) rfl rfl (q_fieldB (d := 4) rfl Try.underlying25 rfl rfl sz3 rfl) ?_
        refine run_q (.none rfl) rfl rfl (q_loadB rfl one3 rfl Sel.here rfl) ?_
        refine run_q (.none rfl) rfl rfl (q_move rfl rfl) ?_
        refine run_q (.none rfl) rfl rfl (q_fieldB (d := 12) rfl Try.underlying25 rfl rfl sz3 rfl) ?_
        refine run_q (.none rfl) rfl rfl (q_loadB rfl one3 rfl Sel.here rfl) ?_
        refine run_q (.none rfl) rfl rfl (q_sub rfl rfl rfl (by omega)) ?_
        refine run_h (.none rfl) (h_callX [_, _] _ rfl rfl rfl call37 (.cons rfl (.cons rfl (.cons rfl (.cons rfl Evs.nil)))) ((Sel.perm (.there (.there (.there Sel.here)))).trans (.cons _ (Sel.perm (.there Sel.here)))) (Y := fun _ => atAny [_, _]) (fun _ _ h => h) (fun w hk hm => Raise_ret (rw_ xs b (rowE0 xs b xs.length) i) qb B2 cb2 (-1) n (nth xs i).fst (nth xs i).lst ((rowE0 xs b xs.length) - (nth xs i).hgt) w (by rw [rw_len]; exact hon) ((hm.perm ((Sel.perm (.there (.there (.there Sel.here)))).trans (.cons _ (Sel.perm (.there Sel.here))))).give (rs := [_, _])) ⟨hq.2.2.2.2.2.1, hq.2.2.2.2.2.2.1, by rw [rw_len]; omega⟩ (by rw [rw_len]; omega) (.inr rfl) ⟨by omega, by omega⟩)) ?_
        rintro ⟨v, m⟩ ⟨rfl, rfl⟩
        show Run _ _ _ _ _ _ _ ⟨(85, .int .i64 0) :: _, _ :: _ :: _⟩
        refine run_q (.none rfl) rfl rfl (q_assign rfl rfl) ?_
        refine run_nil ?_
        refine run_sub (subMk (.cons (s := 1) rfl (.cons (s := 4) rfl (.cons (s := 5) rfl (.cons (s := 6) rfl (.cons (s := 13) rfl (.cons (s := 14) rfl (.cons (s := 16) rfl (.cons (s := 17) rfl (.cons (s := 70) rfl (.cons (s := 71) rfl (.cons (s := 72) rfl .nil))))))))))) .refl) ?_
        refine run_seq ?_
        refine run_region ?_
        refine run_q (.none rfl) rfl rfl (q_move rfl rfl) ?_
        refine run_q (.none rfl) rfl rfl (q_neq rfl rfl rfl) ?_
        refine run_nil ?_
        refine run_condF rfl rfl ?_
        refine run_skip ?_
        refine run_region ?_
        refine run_q (.none rfl) rfl rfl (q_move rfl rfl) ?_
        refine run_q (.none rfl) rfl rfl (q_loadBN rfl agg25 rfl (.there (.there Sel.here)) (.cons rfl (.cons rfl (.cons rfl (.cons rfl (.cons rfl (.cons rfl (.cons rfl (.cons rfl (.cons rfl (.cons rfl (.cons rfl (.cons rfl (.cons rfl CellsAt.nil))))))))))))) rfl) ?_
        refine run_q (.none rfl) rfl rfl (q_move rfl rfl) ?_
        refine run_q (.none rfl) rfl rfl (q_call rfl call43 (.cons rfl (.cons rfl Evs.nil)) (fun w hk hm => mark_just (nth xs i) (rowE0 xs b xs.length) w ⟨by omega, by omega⟩ ⟨by omega, by omega⟩ ⟨by omega, by omega⟩)) ?_
        refine run_h (.none rfl) (h_buildSlice rfl rfl rfl Try.underlying44 info50 (.cons rfl rfl rfl rfl Parts.nil) rfl (by omega)) ?_
        rintro b93 -
        refine run_h (.none rfl) (h_append rfl rfl rfl Try.underlying44 info50 rfl rfl (.there (.there (.there (.there Sel.here)))) rfl (.own Sel.here) rfl (all1 rfl) (all1 rfl) (by omega) (by omega)) ?_
        rintro ⟨A94, c94⟩ -
        refine run_q (.none rfl) rfl rfl (q_assign rfl rfl) ?_
        refine run_nil ?_
        refine run_sub (subMk (.cons (s := 1) rfl (.cons (s := 4) rfl (.cons (s := 5) rfl (.cons (s := 6) rfl (.cons (s := 13) rfl (.cons (s := 14) rfl (.cons (s := 70) rfl (.cons (s := 71) rfl (.cons (s := 72) rfl .nil))))))))) .refl) ?_
        refine run_blk ?_
        refine run_region ?_
        refine run_q (.none rfl) rfl rfl (q_add rfl rfl rfl (by omega)) ?_
        refine run_q (.none rfl) rfl rfl (q_move rfl rfl) ?_
        refine run_nil ?_
        exact run_again (i + 1, A94, c94) (by (try dsimp only); exact ⟨by omega, rwE_next hEs hlo⟩) (by (try dsimp only); omega) (subMk (.cons' (s := 72) rfl (vint (by omega)) (.cons' (s := 14) rfl (by rw [rwM_len, rwM_len]) (.cons (s := 1) rfl (.cons (s := 4) rfl (.cons (s := 5) rfl (.cons (s := 6) rfl (.cons (s := 13) rfl (.cons (s := 70) rfl (.cons (s := 71) rfl .nil))))))))) (.cons (.there (.there (.there Sel.here))) (.own rfl rfl rfl (by rw [rw_next, show (-1 : Int) * ((rowE0 xs b xs.length) - (nth xs i).hgt) = -((rowE0 xs b xs.length) - (nth xs i).hgt) from by omega])) (.cons Sel.here (.own (m' := (rwM xs (rowE0 xs b xs.length) (i + 1)).length) (xs' := (rwM xs (rowE0 xs b xs.length) (i + 1)).map Mk.enc) rfl (by rw [rwM_len, rwM_len]) rfl (by rw [rwM_next, List.map_append]; rfl)) (.cons (.there Sel.here) .refl (.cons (.there (.there Sel.here)) .refl (.cons (.there (.there Sel.here)) .refl .nil))))))
    · have g73' := g73
      try simp only [decide_eq_true_eq, decide_eq_false_iff_not, beq_iff_eq, beq_eq_false_iff_ne, bne_iff_ne, bne_eq_false_iff_eq, Bool.not_eq_true', Bool.not_eq_false', ne_eq, Int.not_lt, Int.not_le, Decidable.not_not] at g73'
      refine run_exit rfl ?_
      refine run_sub (subMk (.cons (s := 1) rfl (.cons (s := 4) rfl (.cons (s := 5) rfl (.cons (s := 13) rfl (.cons (s := 14) rfl .nil))))) .refl) ?_
      refine run_seq ?_
      refine run_region ?_
      refine run_q (.none rfl) rfl rfl (q_move rfl rfl) ?_
      refine run_q (.none rfl) rfl rfl (q_move rfl rfl) ?_
      refine run_h (.none rfl) (h_callX [_, _] _ rfl rfl rfl call44 (.cons rfl (.cons rfl Evs.nil)) ((Sel.perm (.there (.there (.there Sel.here)))).trans (.cons _ (Sel.perm (.there (.there Sel.here))))) (Y := fun _ => atAny [_, _]) (fun _ _ h => h) (fun w hk hm => restore_ret pb qb _ _ (-1) B2 n cb2 w ((hm.perm ((Sel.perm (.there (.there (.there Sel.here)))).trans (.cons _ (Sel.perm (.there (.there Sel.here)))))).give (rs := [_, _])))) ?_
      rintro ⟨v, m⟩ ⟨rfl, rfl⟩
      show Run _ _ _ _ _ _ _ ⟨(98, .tuple #[]) :: _, _ :: _ :: _⟩
      refine run_nil ?_
      refine run_sub (subMk (.cons (s := 4) rfl (.cons (s := 5) rfl (.cons (s := 14) rfl .nil))) .refl) ?_
      refine run_seq ?_
      refine run_region ?_
      refine run_q (.none rfl) rfl rfl (q_move rfl rfl) ?_
      refine run_q (.none rfl) rfl rfl (q_assign rfl rfl) ?_
      refine run_q (.none rfl) rfl rfl (q_assign rfl rfl) ?_
      refine run_nil ?_
      refine run_ret ?_
      refine run_sub (subMk .refl (.cons Sel.here (.blk (.cons (s := 0) rfl (.cons (s := 1) rfl (.nil)))) (.cons (.there Sel.here) .refl (.cons (.there Sel.here) .refl .nil)))) ?_
      exact end2 rfl rfl rfl (by have hi' : i = xs.length := (by omega); subst hi'; have hE2 := rowE_2 (xs := xs) (o := b) hq0; rw [← row_same.2.2, hEs] at hE2; obtain ⟨e1, e2⟩ := row_ok hE2; exact ⟨B2, cb2, O, co, by rw [e2, hE2, ← row_same.2.1], hdb, by rw [e1, e2, ← row_same.1, ← row_same.2.1]⟩)

end Go.Proofs.YtgphmbipakdggaaR
