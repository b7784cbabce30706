/- The reference's place, where all goes well. -/
import Derived.Test.YtgphmbipakdggaaRJ
set_option linter.unusedSimpArgs false
set_option linter.unusedVariables false
namespace Go.Proofs.YtgphmbipakdggaaR
open Go Go.RowKit Hr

theorem built48p0p2p1p3 (x0y : Int) (x2y : Int) (x1y : Int) (x3y : Int) : Try.prog.built 48 [(0, .int .i64 x0y), (2, .int .i64 x2y), (1, .int .i64 x1y), (3, .int .i64 x3y)] = some #[.int .i64 x0y, .int .i64 x1y, .int .i64 x2y, .int .i64 x3y] := by kernel_rfl
theorem info48 : Hr.Info Try.prog 48 [.int .i64 0, .int .i64 0, .int .i64 0, .int .i64 0] 4 32 := Hr.Info.of (by kernel_rfl)
theorem built50p0p1p2p3p4p5p6p7 (x0y : Int) (x1y : Int) (x2y : Int) (x3y : Int) (x4y : Int) (x5y : Int) (x6y0 : Int) (x6y1 : Int) (x7y0 : Int) (x7y1 : Int) (x7y2 : Int) (x7y3 : Int) : Try.prog.built 50 [(0, .int .i64 x0y), (1, .int .i64 x1y), (2, .int .i64 x2y), (3, .int .i64 x3y), (4, .int .i64 x4y), (5, .int .i64 x5y), (6, .agg #[.int .i64 x6y0, .int .i64 x6y1]), (7, .agg #[.int .i64 x7y0, .int .i64 x7y1, .int .i64 x7y2, .int .i64 x7y3])] = some #[.int .i64 x0y, .int .i64 x1y, .int .i64 x2y, .int .i64 x3y, .int .i64 x4y, .int .i64 x5y, .int .i64 x6y0, .int .i64 x6y1, .int .i64 x7y0, .int .i64 x7y1, .int .i64 x7y2, .int .i64 x7y3] := by kernel_rfl
theorem call45 : Hr.Callable Try.prog 45 := fun args w => by kernel_rfl

set_option maxRecDepth 100000 in
theorem refmark_just (x : Req) (e : Int) (W : World) (hs : x.side = 1 ∨ x.side = -1) (h1 : 0 ≤ x.left ∧ x.left ≤ 65536) (h2 : 0 ≤ x.hgt ∧ x.hgt ≤ 65536) (he : -1000000000 ≤ e ∧ e ≤ 1000000000) : Calls Try.prog 45 #[x.val, .int .i64 e] W (Hr.Just W ((mkV x e).val)) := by
  refine Just.of_ret ?_
  refine enterA (X := nX) (vs := [x.val, .int .i64 e]) Try.func45 Try.ntmps45 rfl rfl Mem.nil ?_
  refine run_seq ?_
  refine run_region ?_
  refine run_h (.none rfl) (h_box rfl rfl rfl rfl rfl) ?_
  rintro b2 -
  refine run_h (.none rfl) (h_alloc rfl rfl rfl info50) ?_
  rintro b4 -
  refine run_nil ?_
  refine run_seq ?_
  refine run_region ?_
  refine run_q (.none rfl) rfl rfl (q_fieldB (d := 10) rfl Try.underlying25 rfl rfl sz3 rfl) ?_
  refine run_q (.none rfl) rfl rfl (q_loadB rfl one3 rfl (.there Sel.here) rfl) ?_
  refine run_q (.none rfl) rfl rfl (q_neg rfl rfl (by omega)) ?_
  refine run_q (.none rfl) rfl rfl (q_fieldB (d := 11) rfl Try.underlying25 rfl rfl sz3 rfl) ?_
  refine run_q (.none rfl) rfl rfl (q_loadB rfl one3 rfl (.there Sel.here) rfl) ?_
  refine run_q (.none rfl) rfl rfl (q_move rfl rfl) ?_
  refine run_q (.none rfl) rfl rfl (q_move rfl rfl) ?_
  refine run_q (.none rfl) rfl rfl (q_fieldB (d := 12) rfl Try.underlying25 rfl rfl sz3 rfl) ?_
  refine run_q (.none rfl) rfl rfl (q_loadB rfl one3 rfl (.there Sel.here) rfl) ?_
  refine run_q (.none rfl) rfl rfl (q_add rfl rfl rfl (by omega)) ?_
  refine run_q (.none rfl) rfl rfl (q_build rfl (.cons rfl (.cons rfl (.cons rfl (.cons rfl PV.nil)))) (built48p0p2p1p3 _ _ _ _)) ?_
  refine run_h (.none rfl) (h_alloc rfl rfl rfl info48) ?_
  rintro b5 -
  refine run_h (.none rfl) (h_storeB rfl rfl sz48 rfl rfl rfl rfl rfl Sel.here rfl) ?_
  rintro - -
  refine run_nil ?_
  refine run_sub (subMk (.cons (s := 1) rfl (.cons (s := 2) rfl (.cons (s := 4) rfl (.cons (s := 5) rfl .nil)))) .refl) ?_
  refine run_seq ?_
  refine run_seq ?_
  refine run_region ?_
  refine run_q (.none rfl) rfl rfl (q_fieldB (d := 5) rfl Try.underlying25 rfl rfl sz3 rfl) ?_
  refine run_q (.none rfl) rfl rfl (q_loadB rfl one3 rfl (.there (.there Sel.here)) rfl) ?_
  refine run_q (.none rfl) rfl rfl (q_lss rfl rfl rfl) ?_
  refine run_nil ?_
  refine run_cond rfl (fun g19 => ?_) (fun g19 => ?_)
  · have g19' := g19
    try simp only [decide_eq_true_eq, decide_eq_false_iff_not, beq_iff_eq, beq_eq_false_iff_ne, bne_iff_ne, bne_eq_false_iff_eq, Bool.not_eq_true', Bool.not_eq_false', ne_eq, Int.not_lt, Int.not_le, Decidable.not_not] at g19'
    refine run_region ?_
    refine run_q (.none rfl) rfl rfl (q_move rfl rfl) ?_
    refine run_q (.none rfl) rfl rfl (q_fieldB (d := 12) rfl Try.underlying25 rfl rfl sz3 rfl) ?_
    refine run_q (.none rfl) rfl rfl (q_loadB rfl one3 rfl (.there (.there Sel.here)) rfl) ?_
    refine run_q (.none rfl) rfl rfl (q_sub rfl rfl rfl (by omega)) ?_
    refine run_q (.none rfl) rfl rfl (q_move rfl rfl) ?_
    refine run_q (.none rfl) rfl rfl (q_fieldB (d := 1) rfl Try.underlying48 rfl rfl sz3 rfl) ?_
    refine run_h (.none rfl) (h_storeB rfl rfl sz3 rfl rfl rfl rfl rfl Sel.here rfl) ?_
    rintro - -
    refine run_q (.none rfl) rfl rfl (q_fieldB (d := 3) rfl Try.underlying48 rfl rfl sz3 rfl) ?_
    refine run_h (.none rfl) (h_storeB rfl rfl sz3 rfl rfl rfl rfl rfl Sel.here rfl) ?_
    rintro - -
    refine run_nil ?_
    refine run_sub (subMk (.cons (s := 2) rfl (.cons (s := 4) rfl (.cons (s := 5) rfl .nil))) .refl) ?_
    refine run_seq ?_
    refine run_region ?_
    refine run_q (.none rfl) rfl rfl (q_fieldB (d := 0) rfl Try.underlying25 rfl rfl sz3 rfl) ?_
    refine run_q (.none rfl) rfl rfl (q_loadB rfl one3 rfl (.there (.there Sel.here)) rfl) ?_
    refine run_q (.none rfl) rfl rfl (q_fieldB (d := 1) rfl Try.underlying25 rfl rfl sz3 rfl) ?_
    refine run_q (.none rfl) rfl rfl (q_loadB rfl one3 rfl (.there (.there Sel.here)) rfl) ?_
    refine run_q (.none rfl) rfl rfl (q_fieldB (d := 2) rfl Try.underlying25 rfl rfl sz3 rfl) ?_
    refine run_q (.none rfl) rfl rfl (q_loadB rfl one3 rfl (.there (.there Sel.here)) rfl) ?_
    refine run_q (.none rfl) rfl rfl (q_fieldB (d := 3) rfl Try.underlying25 rfl rfl sz3 rfl) ?_
    refine run_q (.none rfl) rfl rfl (q_loadB rfl one3 rfl (.there (.there Sel.here)) rfl) ?_
    refine run_q (.none rfl) rfl rfl (q_fieldB (d := 4) rfl Try.underlying25 rfl rfl sz3 rfl) ?_
    refine run_q (.none rfl) rfl rfl (q_loadB rfl one3 rfl (.there (.there Sel.here)) rfl) ?_
    refine run_q (.none rfl) rfl rfl (q_fieldB (d := 7) rfl Try.underlying25 rfl rfl sz3 rfl) ?_
    refine run_q (.none rfl) rfl rfl (q_loadB rfl one3 rfl (.there (.there Sel.here)) rfl) ?_
    refine run_q (.none rfl) rfl rfl (q_fieldB (d := 8) rfl Try.underlying25 rfl rfl sz23 rfl) ?_
    refine run_q (.none rfl) rfl rfl (q_loadBN rfl agg23 rfl (.there (.there Sel.here)) (.cons rfl (.cons rfl CellsAt.nil)) rfl) ?_
    refine run_q (.none rfl) rfl rfl (q_loadBN rfl agg48 rfl Sel.here (.cons rfl (.cons rfl (.cons rfl (.cons rfl CellsAt.nil)))) rfl) ?_
    refine run_q (.none rfl) rfl rfl (q_build rfl (.cons rfl (.cons rfl (.cons rfl (.cons rfl (.cons rfl (.cons rfl (.cons rfl (.cons rfl PV.nil)))))))) (built50p0p1p2p3p4p5p6p7 _ _ _ _ _ _ _ _ _ _ _ _)) ?_
    refine run_h (.none rfl) (h_storeB rfl rfl sz50 rfl rfl rfl rfl rfl (.there Sel.here) rfl) ?_
    rintro - -
    refine run_nil ?_
    refine run_sub (subMk (.cons (s := 4) rfl .nil) .refl) ?_
    refine run_ret ?_
    exact endG rfl (.cellN rfl agg50 Sel.here (.cons rfl (.cons rfl (.cons rfl (.cons rfl (.cons rfl (.cons rfl (.cons rfl (.cons rfl (.cons rfl (.cons rfl (.cons rfl (.cons rfl CellsAt.nil)))))))))))) rfl Outs.nil) _ .nil (by rw [mkV, if_pos (by omega)]; rfl)
  · have g19' := g19
    try simp only [decide_eq_true_eq, decide_eq_false_iff_not, beq_iff_eq, beq_eq_false_iff_ne, bne_iff_ne, bne_eq_false_iff_eq, Bool.not_eq_true', Bool.not_eq_false', ne_eq, Int.not_lt, Int.not_le, Decidable.not_not] at g19'
    refine run_skip ?_
    refine run_seq ?_
    refine run_region ?_
    refine run_q (.none rfl) rfl rfl (q_fieldB (d := 0) rfl Try.underlying25 rfl rfl sz3 rfl) ?_
    refine run_q (.none rfl) rfl rfl (q_loadB rfl one3 rfl (.there (.there Sel.here)) rfl) ?_
    refine run_q (.none rfl) rfl rfl (q_fieldB (d := 1) rfl Try.underlying25 rfl rfl sz3 rfl) ?_
    refine run_q (.none rfl) rfl rfl (q_loadB rfl one3 rfl (.there (.there Sel.here)) rfl) ?_
    refine run_q (.none rfl) rfl rfl (q_fieldB (d := 2) rfl Try.underlying25 rfl rfl sz3 rfl) ?_
    refine run_q (.none rfl) rfl rfl (q_loadB rfl one3 rfl (.there (.there Sel.here)) rfl) ?_
    refine run_q (.none rfl) rfl rfl (q_fieldB (d := 3) rfl Try.underlying25 rfl rfl sz3 rfl) ?_
    refine run_q (.none rfl) rfl rfl (q_loadB rfl one3 rfl (.there (.there Sel.here)) rfl) ?_
    refine run_q (.none rfl) rfl rfl (q_fieldB (d := 4) rfl Try.underlying25 rfl rfl sz3 rfl) ?_
    refine run_q (.none rfl) rfl rfl (q_loadB rfl one3 rfl (.there (.there Sel.here)) rfl) ?_
    refine run_q (.none rfl) rfl rfl (q_fieldB (d := 7) rfl Try.underlying25 rfl rfl sz3 rfl) ?_
    refine run_q (.none rfl) rfl rfl (q_loadB rfl one3 rfl (.there (.there Sel.here)) rfl) ?_
    refine run_q (.none rfl) rfl rfl (q_fieldB (d := 8) rfl Try.underlying25 rfl rfl sz23 rfl) ?_
    refine run_q (.none rfl) rfl rfl (q_loadBN rfl agg23 rfl (.there (.there Sel.here)) (.cons rfl (.cons rfl CellsAt.nil)) rfl) ?_
    refine run_q (.none rfl) rfl rfl (q_loadBN rfl agg48 rfl Sel.here (.cons rfl (.cons rfl (.cons rfl (.cons rfl CellsAt.nil)))) rfl) ?_
    refine run_q (.none rfl) rfl rfl (q_build rfl (.cons rfl (.cons rfl (.cons rfl (.cons rfl (.cons rfl (.cons rfl (.cons rfl (.cons rfl PV.nil)))))))) (built50p0p1p2p3p4p5p6p7 _ _ _ _ _ _ _ _ _ _ _ _)) ?_
    refine run_h (.none rfl) (h_storeB rfl rfl sz50 rfl rfl rfl rfl rfl (.there Sel.here) rfl) ?_
    rintro - -
    refine run_nil ?_
    refine run_sub (subMk (.cons (s := 4) rfl .nil) .refl) ?_
    refine run_ret ?_
    exact endG rfl (.cellN rfl agg50 Sel.here (.cons rfl (.cons rfl (.cons rfl (.cons rfl (.cons rfl (.cons rfl (.cons rfl (.cons rfl (.cons rfl (.cons rfl (.cons rfl (.cons rfl CellsAt.nil)))))))))))) rfl Outs.nil) _ .nil (by rw [mkV, if_neg (by omega)]; rfl)

set_option maxHeartbeats 4000000 in
set_option maxRecDepth 100000 in
theorem refplace_ok (xs : List Req) (X : Option Addr) (cx : Nat) (a b : List Int) (P Q : Option Addr) (cp cq : Nat) (W : World) (hx : Rd W X 13 (xs.map Req.enc)) (hxl : xs.length ≤ 1000000) (hP : Rd W P 1 (a.map encI)) (hQ : Rd W Q 1 ((negL b).map encI)) (hab : a.length = b.length) (hl6 : a.length ≤ 65536) (hba : Bd a) (hbb : Bd b) (hE : placeE xs a b = 0) : Calls Try.prog 20 #[.slice X xs.length cx, .slice P a.length cp, .slice Q a.length cq] W (Ret W nX (fun v m => ∃ O co A' ca' B' cb', v = .tuple #[.slice O (placeM xs a b).length co, .slice A' a.length ca', .slice B' a.length cb', .int .i64 0] ∧ m = [.own 50 12 O (placeM xs a b).length co ((placeM xs a b).map Mk.enc), .own 3 1 A' a.length ca' ((placeA xs a b).map encI), .own 3 1 B' a.length cb' ((negL (placeB xs a b)).map encI)])) := by
  have hq0 : reqsE a.length xs = 0 := by by_cases h : reqsE a.length xs = 0; (· exact h); (· rw [placeE_1 h] at hE; exact absurd hE h)
  have hE0 : plEs xs a b xs.length = 0 := by rw [← placeE_2 hq0]; exact hE
  obtain ⟨e1, e2, e3⟩ := place_ok hE
  have hnl := negL_len (l := b)
  refine enterA (X := nX) (vs := [.slice X xs.length cx, .slice P a.length cp, .slice Q a.length cq]) Try.func20 Try.ntmps20 rfl rfl Mem.nil ?_
  refine run_seq ?_
  refine run_region ?_
  refine run_q (.none rfl) rfl rfl (q_assign rfl rfl) ?_
  refine run_q (.none rfl) rfl rfl (q_assign rfl rfl) ?_
  refine run_q (.none rfl) rfl rfl (q_assign rfl rfl) ?_
  refine run_q (.none rfl) rfl rfl (q_assign rfl rfl) ?_
  refine run_nil ?_
  refine run_seq ?_
  refine run_region ?_
  refine run_h (.none rfl) (h_buildSlice rfl rfl rfl Try.underlying38 info3 Parts.nil rfl (by omega)) ?_
  rintro b17 -
  refine run_q (.none rfl) rfl rfl (q_move rfl rfl) ?_
  refine run_h (.none rfl) (h_append rfl rfl rfl Try.underlying38 info3 rfl rfl Sel.here rfl (.inp hP .no) (by simp) (fun z hz => encI_len hz) (fun z hz => encI_all hz) (by omega) (by omega)) ?_
  rintro ⟨A19, c19⟩ -
  refine run_h (.none rfl) (h_buildSlice rfl rfl rfl Try.underlying38 info3 Parts.nil rfl (by omega)) ?_
  rintro b20 -
  refine run_q (.none rfl) rfl rfl (q_move rfl rfl) ?_
  refine run_h (.none rfl) (h_append rfl rfl rfl Try.underlying38 info3 rfl rfl Sel.here rfl (.inp hQ .no) (by simp [negL_len, hab]) (fun z hz => encI_len hz) (fun z hz => encI_all hz) (by omega) (by omega)) ?_
  rintro ⟨A22, c22⟩ -
  refine run_q (.none rfl) rfl rfl (q_assign rfl rfl) ?_
  refine run_q (.none rfl) rfl rfl (q_assign rfl rfl) ?_
  refine run_nil ?_
  refine run_sub (subMk (.cons (s := 0) rfl (.cons (s := 1) rfl (.cons (s := 2) rfl (.cons (s := 6) rfl (.cons (s := 7) rfl (.cons (s := 8) rfl (.cons (s := 9) rfl .nil))))))) .refl) ?_
  refine run_seq ?_
  refine run_seq ?_
  refine run_region ?_
  refine run_q (.none rfl) rfl rfl (q_assign rfl rfl) ?_
  refine run_nil ?_
  refine run_block ?_
  refine run_sub (subMk (.cons (s := 10) rfl (.cons (s := 7) rfl (.cons (s := 8) rfl (.cons (s := 0) rfl (.cons (s := 1) rfl (.cons (s := 2) rfl (.cons (s := 6) rfl (.cons (s := 9) rfl .nil)))))))) (.cons (.there Sel.here) .refl (.cons Sel.here .refl .nil))) ?_
  refine run_loopC3M2 (ι := Nat) (fun k => k ≤ xs.length ∧ True) (fun k => .int .i64 (k : Int)) (fun k => .slice A19 a.length c19) (fun k => .slice A22 a.length c22) (fun k => .own 3 1 A19 a.length c19 (a.map encI)) (fun k => .own 3 1 A22 a.length c22 ((negL b).map encI)) (fun k => xs.length - k) 0 (by (try dsimp only); exact ⟨by omega, trivial⟩) rfl (by simp) (by simp) (.own rfl (by omega) rfl (by simp)) (.own rfl (by omega) rfl (by simp)) ?_
  rintro k hq
  (try dsimp only at hq)
  obtain ⟨hk, hE⟩ := hq
  show Run _ _ _ _ _ _ _ ⟨(10, .int .i64 (k : Int)) :: (7, .slice A19 a.length c19) :: (8, .slice A22 a.length c22) :: _, .own 3 1 A19 a.length c19 (a.map encI) :: .own 3 1 A22 a.length c22 ((negL b).map encI) :: _⟩
  refine run_seq ?_
  refine run_seq ?_
  refine run_region ?_
  refine run_q (.none rfl) rfl rfl (q_move rfl rfl) ?_
  refine run_q (.none rfl) rfl rfl (q_move rfl rfl) ?_
  refine run_q (.none rfl) rfl rfl (q_len rfl Try.underlying37 rfl) ?_
  refine run_q (.none rfl) rfl rfl (q_lss rfl rfl rfl) ?_
  refine run_nil ?_
  refine run_sub (subMk (.cons (s := 0) rfl (.cons (s := 1) rfl (.cons (s := 2) rfl (.cons (s := 6) rfl (.cons (s := 7) rfl (.cons (s := 8) rfl (.cons (s := 9) rfl (.cons (s := 10) rfl (.cons (s := 26) rfl .nil))))))))) .refl) ?_
  refine run_cond rfl (fun g26 => ?_) (fun g26 => ?_)
  · have g26' := g26
    try simp only [decide_eq_true_eq, decide_eq_false_iff_not, beq_iff_eq, beq_eq_false_iff_ne, bne_iff_ne, bne_eq_false_iff_eq, Bool.not_eq_true', Bool.not_eq_false', ne_eq, Int.not_lt, Int.not_le, Decidable.not_not] at g26'
    have hst := reqsE_step (n := (a.length : Int)) (xs := xs) (i := k) (by omega)
    refine run_skip ?_
    refine run_seq ?_
    refine run_block ?_
    refine run_seq ?_
    refine run_region ?_
    refine run_q (.none rfl) rfl rfl (q_move rfl rfl) ?_
    refine run_q (.none rfl) rfl rfl (q_move rfl rfl) ?_
    refine run_q (.none rfl) rfl rfl (q_indexS (q := k) rfl Try.underlying37 sz25 rfl rfl (.inp hx .no) (by simp <;> omega) rfl (by omega)) ?_
    refine run_q (.none rfl) rfl rfl (q_loadE rfl agg25 rfl (.inp hx .no) (getmap (by omega)) rfl) ?_
    refine run_q (.none rfl) rfl rfl (q_move rfl rfl) ?_
    refine run_q (.none rfl) rfl rfl (q_len rfl Try.underlying38 rfl) ?_
    refine run_q (.none rfl) rfl rfl (q_call rfl call15 (.cons rfl (.cons rfl Evs.nil)) (fun w hk hm => refcheck_just (nth xs k) (a.length : Int) w)) ?_
    refine run_q (.none rfl) rfl rfl (q_assign rfl rfl) ?_
    refine run_nil ?_
    refine run_sub (subMk (.cons (s := 0) rfl (.cons (s := 1) rfl (.cons (s := 2) rfl (.cons (s := 6) rfl (.cons (s := 7) rfl (.cons (s := 8) rfl (.cons (s := 9) rfl (.cons (s := 10) rfl (.cons (s := 11) rfl .nil))))))))) .refl) ?_
    refine run_seq ?_
    refine run_region ?_
    refine run_q (.none rfl) rfl rfl (q_move rfl rfl) ?_
    refine run_q (.none rfl) rfl rfl (q_neq rfl rfl rfl) ?_
    refine run_nil ?_
    refine run_condF rfl (by rw [reqsE_ok hq0 (by omega)]; rfl) ?_
    refine run_skip ?_
    refine run_blk ?_
    refine run_region ?_
    refine run_q (.none rfl) rfl rfl (q_move rfl rfl) ?_
    refine run_q (.none rfl) rfl rfl (q_add rfl rfl rfl (by omega)) ?_
    refine run_q (.none rfl) rfl rfl (q_assign rfl rfl) ?_
    refine run_nil ?_
    refine run_sub (subMk (.cons (s := 0) rfl (.cons (s := 1) rfl (.cons (s := 2) rfl (.cons (s := 6) rfl (.cons (s := 7) rfl (.cons (s := 8) rfl (.cons (s := 9) rfl (.cons (s := 10) rfl .nil)))))))) .refl) ?_
    exact run_again (k + 1) (by (try dsimp only); exact ⟨by omega, trivial⟩) (by (try dsimp only); omega) (subMk (.cons' (s := 10) rfl (vint (by omega)) (.cons' (s := 7) rfl rfl (.cons' (s := 8) rfl rfl (.cons (s := 0) rfl (.cons (s := 1) rfl (.cons (s := 2) rfl (.cons (s := 6) rfl (.cons (s := 9) rfl .nil)))))))) (.cons Sel.here .refl (.cons Sel.here .refl .nil)))
  · have g26' := g26
    try simp only [decide_eq_true_eq, decide_eq_false_iff_not, beq_iff_eq, beq_eq_false_iff_ne, bne_iff_ne, bne_eq_false_iff_eq, Bool.not_eq_true', Bool.not_eq_false', ne_eq, Int.not_lt, Int.not_le, Decidable.not_not] at g26'
    refine run_exit rfl ?_
    refine run_seq ?_
    refine run_seq ?_
    refine run_region ?_
    refine run_q (.none rfl) rfl rfl (q_assign rfl rfl) ?_
    refine run_nil ?_
    refine run_block ?_
    refine run_sub (subMk .refl (MemSub.nilOwn 50 12)) ?_
    refine run_sub (subMk (.cons (s := 12) rfl (.cons (s := 6) rfl (.cons (s := 0) rfl (.cons (s := 1) rfl (.cons (s := 2) rfl (.cons (s := 7) rfl (.cons (s := 8) rfl (.cons (s := 9) rfl .nil)))))))) (.cons (.there Sel.here) .refl (.cons (.there Sel.here) .refl (.cons Sel.here .refl .nil)))) ?_
    refine run_loopC2M3 (ι := Nat × (Option Addr) × Nat) (fun gg => gg.1 ≤ xs.length ∧ plEs xs a b gg.1 = 0) (fun gg => .int .i64 (gg.1 : Int)) (fun gg => .slice gg.2.1 (plMs xs a b gg.1).length gg.2.2) (fun gg => .own 3 1 A19 a.length c19 ((pl xs a b gg.1).1.map encI)) (fun gg => .own 3 1 A22 a.length c22 ((negL (pl xs a b gg.1).2).map encI)) (fun gg => .own 50 12 gg.2.1 (plMs xs a b gg.1).length gg.2.2 ((plMs xs a b gg.1).map Mk.enc)) (fun gg => xs.length - gg.1) (0, none, 0) (by (try dsimp only); exact ⟨by omega, rfl⟩) rfl rfl (.own rfl rfl rfl rfl) (.own rfl rfl rfl rfl) (.own rfl rfl rfl rfl) ?_
    rintro ⟨i, O, co⟩ hq
    (try dsimp only at hq)
    obtain ⟨hi, hEs⟩ := hq
    show Run _ _ _ _ _ _ _ ⟨(12, .int .i64 (i : Int)) :: (6, .slice O (plMs xs a b i).length co) :: _, .own 3 1 A19 a.length c19 ((pl xs a b i).1.map encI) :: .own 3 1 A22 a.length c22 ((negL (pl xs a b i).2).map encI) :: .own 50 12 O (plMs xs a b i).length co ((plMs xs a b i).map Mk.enc) :: _⟩
    refine run_seq ?_
    refine run_seq ?_
    refine run_region ?_
    refine run_q (.none rfl) rfl rfl (q_move rfl rfl) ?_
    refine run_q (.none rfl) rfl rfl (q_move rfl rfl) ?_
    refine run_q (.none rfl) rfl rfl (q_len rfl Try.underlying37 rfl) ?_
    refine run_q (.none rfl) rfl rfl (q_lss rfl rfl rfl) ?_
    refine run_nil ?_
    refine run_sub (subMk (.cons (s := 0) rfl (.cons (s := 1) rfl (.cons (s := 2) rfl (.cons (s := 6) rfl (.cons (s := 7) rfl (.cons (s := 8) rfl (.cons (s := 9) rfl (.cons (s := 12) rfl (.cons (s := 44) rfl .nil))))))))) .refl) ?_
    refine run_cond rfl (fun g44 => ?_) (fun g44 => ?_)
    · have g44' := g44
      try simp only [decide_eq_true_eq, decide_eq_false_iff_not, beq_iff_eq, beq_eq_false_iff_ne, bne_iff_ne, bne_eq_false_iff_eq, Bool.not_eq_true', Bool.not_eq_false', ne_eq, Int.not_lt, Int.not_le, Decidable.not_not] at g44'
      have hq := reqE_ok (reqsE_ok hq0 (show i < xs.length by omega))
      have hln := pl_len (xs := xs) (a := a) (b := b) (i := i)
      have hbd := pl_bd (xs := xs) hba hbb (i := i)
      have hml := plMs_len (xs := xs) (a := a) (b := b) (i := i)
      refine run_skip ?_
      refine run_seq ?_
      refine run_block ?_
      refine run_seq ?_
      refine run_region ?_
      refine run_q (.none rfl) rfl rfl (q_move rfl rfl) ?_
      refine run_q (.none rfl) rfl rfl (q_assign rfl rfl) ?_
      refine run_nil ?_
      refine run_seq ?_
      refine run_seq ?_
      refine run_region ?_
      refine run_q (.none rfl) rfl rfl (q_move rfl rfl) ?_
      refine run_q (.none rfl) rfl rfl (q_move rfl rfl) ?_
      refine run_q (.none rfl) rfl rfl (q_indexS (q := i) rfl Try.underlying37 sz25 rfl rfl (.inp hx .no) (by simp <;> omega) rfl (by omega)) ?_
      refine run_q (.none rfl) rfl rfl (q_fieldAddr (d := 5) rfl Try.underlying25 rfl rfl sz3 rfl) ?_
      refine run_q (.none rfl) rfl rfl (q_loadF rfl one3 rfl (.inp hx .no) (getmap (by omega)) rfl) ?_
      refine run_q (.none rfl) rfl rfl (q_lss rfl rfl rfl) ?_
      refine run_nil ?_
      refine run_sub (subMk (.cons (s := 0) rfl (.cons (s := 1) rfl (.cons (s := 2) rfl (.cons (s := 6) rfl (.cons (s := 7) rfl (.cons (s := 8) rfl (.cons (s := 9) rfl (.cons (s := 12) rfl (.cons (s := 13) rfl (.cons (s := 53) rfl .nil)))))))))) .refl) ?_
      refine run_cond rfl (fun g53 => ?_) (fun g53 => ?_)
      · have g53' := g53
        try simp only [decide_eq_true_eq, decide_eq_false_iff_not, beq_iff_eq, beq_eq_false_iff_ne, bne_iff_ne, bne_eq_false_iff_eq, Bool.not_eq_true', Bool.not_eq_false', ne_eq, Int.not_lt, Int.not_le, Decidable.not_not] at g53'
        refine run_region ?_
        refine run_q (.none rfl) rfl rfl (q_move rfl rfl) ?_
        refine run_q (.none rfl) rfl rfl (q_assign rfl rfl) ?_
        refine run_nil ?_
        refine run_seq ?_
        have hsd : (nth xs i).side = -1 := by omega
        have hnt : -1048576 ≤ (-1) * (nth xs i).near ∧ (-1) * (nth xs i).near ≤ 1048576 := by omega
        have hzb := fun k (h : (nth xs i).fst.toNat + k ≤ (pl xs a b i).2.length) => edK_bd (t := (-1)) (f := (nth xs i).fst.toNat) hnt hbd.2 (k := k) h
        have heb := edgeO_bd (s := (-1)) (o := (pl xs a b i).2) (f := (nth xs i).fst.toNat) (l := (nth xs i).lst.toNat) (near := (nth xs i).near) (by decide) hbd.2 (by omega) (by omega) ⟨by omega, by omega⟩
        refine run_draw [(0, 0), (1, 0), (2, 0), (3, 0), (4, 0), (5, 0), (6, 0), (7, 0), (8, 0), (9, 0), (10, 0), (11, 0)] mixed (by kernel_rfl) .refl ?_
        refine d_q rfl rfl (.none rfl) rfl rfl (q_move rfl rfl) ?_
        refine d_q rfl rfl (.none rfl) rfl rfl (q_move rfl rfl) ?_
        refine d_q rfl rfl (.none rfl) rfl rfl (q_indexS (q := i) rfl Try.underlying37 sz25 rfl rfl (.inp hx .no) (by simp <;> omega) rfl (by omega)) ?_
        refine d_q rfl rfl (.none rfl) rfl rfl (q_fieldAddr (d := 5) rfl Try.underlying25 rfl rfl sz3 rfl) ?_
        refine d_q rfl rfl (.none rfl) rfl rfl (q_loadF rfl one3 rfl (.inp hx .no) (getmap (by omega)) rfl) ?_
        refine d_q rfl rfl (.none rfl) rfl rfl (q_move rfl rfl) ?_
        refine d_q rfl rfl (.none rfl) rfl rfl (q_move rfl rfl) ?_
        refine d_q rfl rfl (.none rfl) rfl rfl (q_indexS (q := i) rfl Try.underlying37 sz25 rfl rfl (.inp hx .no) (by simp <;> omega) rfl (by omega)) ?_
        refine d_q rfl rfl (.none rfl) rfl rfl (q_fieldAddr (d := 6) rfl Try.underlying25 rfl rfl sz3 rfl) ?_
        refine d_q rfl rfl (.none rfl) rfl rfl (q_loadF rfl one3 rfl (.inp hx .no) (getmap (by omega)) rfl) ?_
        refine d_q rfl rfl (.none rfl) rfl rfl (q_mul rfl rfl rfl (by rw [hsd]; omega)) ?_
        refine d_q rfl rfl (.none rfl) rfl rfl (q_assign rfl rfl) ?_
        refine d_nil ?_
        refine run_sub (subMk (.cons (s := 0) rfl (.cons (s := 1) rfl (.cons (s := 2) rfl (.cons (s := 6) rfl (.cons (s := 7) rfl (.cons (s := 8) rfl (.cons (s := 9) rfl (.cons (s := 12) rfl (.cons (s := 13) rfl (.cons (s := 14) rfl .nil)))))))))) .refl) ?_
        refine run_seq ?_
        refine run_seq ?_
        refine run_region ?_
        refine run_q (.none rfl) rfl rfl (q_move rfl rfl) ?_
        refine run_q (.none rfl) rfl rfl (q_move rfl rfl) ?_
        refine run_q (.none rfl) rfl rfl (q_indexS (q := i) rfl Try.underlying37 sz25 rfl rfl (.inp hx .no) (by simp <;> omega) rfl (by omega)) ?_
        refine run_q (.none rfl) rfl rfl (q_fieldAddr (d := 3) rfl Try.underlying25 rfl rfl sz3 rfl) ?_
        refine run_q (.none rfl) rfl rfl (q_loadF rfl one3 rfl (.inp hx .no) (getmap (by omega)) rfl) ?_
        refine run_q (.none rfl) rfl rfl (q_assign rfl rfl) ?_
        refine run_nil ?_
        refine run_sub (subMk (.cons (s := 0) rfl (.cons (s := 1) rfl (.cons (s := 2) rfl (.cons (s := 6) rfl (.cons (s := 7) rfl (.cons (s := 8) rfl (.cons (s := 9) rfl (.cons (s := 12) rfl (.cons (s := 13) rfl (.cons (s := 14) rfl (.cons (s := 15) rfl .nil))))))))))) .refl) ?_
        refine run_block ?_
        refine run_sub (subMk (.cons (s := 15) rfl (.cons (s := 14) rfl (.cons (s := 0) rfl (.cons (s := 1) rfl (.cons (s := 2) rfl (.cons (s := 6) rfl (.cons (s := 7) rfl (.cons (s := 8) rfl (.cons (s := 9) rfl (.cons (s := 12) rfl (.cons (s := 13) rfl .nil))))))))))) (.cons Sel.here .refl (.cons Sel.here .refl (.cons Sel.here .refl .nil)))) ?_
        refine run_loopC2M0 (ι := Nat) (fun k => (nth xs i).fst + (k : Int) ≤ (nth xs i).lst + 1) (fun k => .int .i64 ((nth xs i).fst + (k : Int))) (fun k => .int .i64 (edK (-1) (pl xs a b i).2 (nth xs i).fst.toNat (nth xs i).near k))  (fun k => (nth xs i).lst.toNat + 1 - k) 0 (by (try dsimp only); exact (by omega)) (vint (by omega)) (vint (by rw [hsd]; rfl))  ?_
        rintro k hk
        (try dsimp only at hk)
        show Run _ _ _ _ _ _ _ ⟨(15, .int .i64 ((nth xs i).fst + (k : Int))) :: (14, .int .i64 (edK (-1) (pl xs a b i).2 (nth xs i).fst.toNat (nth xs i).near k)) :: _, _⟩
        refine run_seq ?_
        refine run_seq ?_
        refine run_region ?_
        refine run_q (.none rfl) rfl rfl (q_move rfl rfl) ?_
        refine run_q (.none rfl) rfl rfl (q_move rfl rfl) ?_
        refine run_q (.none rfl) rfl rfl (q_move rfl rfl) ?_
        refine run_q (.none rfl) rfl rfl (q_indexS (q := i) rfl Try.underlying37 sz25 rfl rfl (.inp hx .no) (by simp <;> omega) rfl (by omega)) ?_
        refine run_q (.none rfl) rfl rfl (q_fieldAddr (d := 4) rfl Try.underlying25 rfl rfl sz3 rfl) ?_
        refine run_q (.none rfl) rfl rfl (q_loadF rfl one3 rfl (.inp hx .no) (getmap (by omega)) rfl) ?_
        refine run_q (.none rfl) rfl rfl (q_leq rfl rfl rfl) ?_
        refine run_nil ?_
        refine run_sub (subMk (.cons (s := 0) rfl (.cons (s := 1) rfl (.cons (s := 2) rfl (.cons (s := 6) rfl (.cons (s := 7) rfl (.cons (s := 8) rfl (.cons (s := 9) rfl (.cons (s := 12) rfl (.cons (s := 13) rfl (.cons (s := 14) rfl (.cons (s := 15) rfl (.cons (s := 77) rfl .nil)))))))))))) .refl) ?_
        refine run_cond rfl (fun g77 => ?_) (fun g77 => ?_)
        · have g77' := g77
          try simp only [decide_eq_true_eq, decide_eq_false_iff_not, beq_iff_eq, beq_eq_false_iff_ne, bne_iff_ne, bne_eq_false_iff_eq, Bool.not_eq_true', Bool.not_eq_false', ne_eq, Int.not_lt, Int.not_le, Decidable.not_not] at g77'
          have hzk := hzb k (by omega)
          have hbk1 := fun h => hbd.1 ((nth xs i).fst.toNat + k) h
          have hbk2 := fun h => hbd.2 ((nth xs i).fst.toNat + k) h
          refine run_skip ?_
          refine run_seq ?_
          refine run_block ?_
          refine run_draw [(0, 0), (1, 0), (2, 0), (3, 0), (4, 0), (5, 0), (6, 0), (7, 0), (8, 0), (9, 0), (10, 0), (11, 0), (12, 0), (13, 0)] mixed (by kernel_rfl) .refl ?_
          refine d_q rfl rfl (.none rfl) rfl rfl (q_move rfl rfl) ?_
          refine d_q rfl rfl (.none rfl) rfl rfl (q_move rfl rfl) ?_
          refine d_q rfl rfl (.none rfl) rfl rfl (q_move rfl rfl) ?_
          refine d_q rfl rfl (.none rfl) rfl rfl (q_indexS (q := i) rfl Try.underlying37 sz25 rfl rfl (.inp hx .no) (by simp <;> omega) rfl (by omega)) ?_
          refine d_q rfl rfl (.none rfl) rfl rfl (q_fieldAddr (d := 5) rfl Try.underlying25 rfl rfl sz3 rfl) ?_
          refine d_q rfl rfl (.none rfl) rfl rfl (q_loadF rfl one3 rfl (.inp hx .no) (getmap (by omega)) rfl) ?_
          refine d_q rfl rfl (.none rfl) rfl rfl (q_move rfl rfl) ?_
          refine d_q rfl rfl (.none rfl) rfl rfl (q_move rfl rfl) ?_
          refine d_q rfl rfl (.none rfl) rfl rfl (q_indexS (q := ((nth xs i).fst.toNat + k)) rfl Try.underlying38 sz3 rfl rfl (.own (.there Sel.here)) (by first | rw [List.length_map, negL_len, hln.2, hab] | rw [List.length_map, hln.1]) (by omega) (by omega)) ?_
          refine d_q rfl rfl (.none rfl) rfl rfl (q_loadC rfl one3 rfl (.own (.there Sel.here)) (getmap (by first | (rw [negL_len]; omega) | omega))) ?_
          refine d_q rfl rfl (.none rfl) rfl rfl (q_mul rfl rfl rfl (by first | (rw [hsd, negL_nth]; omega) | (rw [hsd]; omega))) ?_
          refine d_q rfl rfl (.none rfl) rfl rfl (q_add rfl rfl rfl (by first | (rw [hsd, negL_nth]; omega) | (rw [hsd]; omega))) ?_
          refine d_q rfl rfl (.none rfl) rfl rfl (q_max2 rfl rfl rfl) ?_
          refine d_q rfl rfl (.none rfl) rfl rfl (q_assign rfl rfl) ?_
          refine d_nil ?_
          refine run_sub (subMk (.cons (s := 0) rfl (.cons (s := 1) rfl (.cons (s := 2) rfl (.cons (s := 6) rfl (.cons (s := 7) rfl (.cons (s := 8) rfl (.cons (s := 9) rfl (.cons (s := 12) rfl (.cons (s := 13) rfl (.cons (s := 14) rfl (.cons (s := 15) rfl .nil))))))))))) .refl) ?_
          refine run_blk ?_
          refine run_region ?_
          refine run_q (.none rfl) rfl rfl (q_move rfl rfl) ?_
          refine run_q (.none rfl) rfl rfl (q_add rfl rfl rfl (by omega)) ?_
          refine run_q (.none rfl) rfl rfl (q_assign rfl rfl) ?_
          refine run_nil ?_
          exact run_again (k + 1) (by (try dsimp only); exact (by omega)) (by (try dsimp only); omega) (subMk (.cons' (s := 15) rfl (vint (by omega)) (.cons' (s := 14) rfl (vint (by rw [hsd, edK_next, negL_nth]; omega)) (.cons (s := 0) rfl (.cons (s := 1) rfl (.cons (s := 2) rfl (.cons (s := 6) rfl (.cons (s := 7) rfl (.cons (s := 8) rfl (.cons (s := 9) rfl (.cons (s := 12) rfl (.cons (s := 13) rfl .nil))))))))))) (.cons Sel.here .refl (.cons Sel.here .refl (.cons Sel.here .refl .nil))))
        · have g77' := g77
          try simp only [decide_eq_true_eq, decide_eq_false_iff_not, beq_iff_eq, beq_eq_false_iff_ne, bne_iff_ne, bne_eq_false_iff_eq, Bool.not_eq_true', Bool.not_eq_false', ne_eq, Int.not_lt, Int.not_le, Decidable.not_not] at g77'
          refine run_exit rfl ?_
          refine run_seq ?_
          refine run_seq ?_
          refine run_sub (subMk (.cons (s := 0) rfl (.cons (s := 1) rfl (.cons (s := 2) rfl (.cons (s := 6) rfl (.cons (s := 7) rfl (.cons (s := 8) rfl (.cons (s := 9) rfl (.cons (s := 12) rfl (.cons (s := 13) rfl (.cons' (s := 14) (v' := .int .i64 (edgeO (-1) (pl xs a b i).2 (nth xs i).fst.toNat (nth xs i).lst.toNat (nth xs i).near)) rfl (vint (edK_all (by omega) (by omega))) (.cons (s := 15) rfl (.cons (s := 77) rfl .nil)))))))))))) .refl) ?_
          have hlim0 := plEs_zero hE0 i (by omega)
          rw [plE1_b hsd] at hlim0
          have hlim1 := plE_zero.1 hlim0
          refine run_region ?_
          refine run_q (.none rfl) rfl rfl (q_move rfl rfl) ?_
          refine run_q (.none rfl) rfl rfl (q_move rfl rfl) ?_
          refine run_q (.none rfl) rfl rfl (q_move rfl rfl) ?_
          refine run_q (.none rfl) rfl rfl (q_indexS (q := i) rfl Try.underlying37 sz25 rfl rfl (.inp hx .no) (by simp <;> omega) rfl (by omega)) ?_
          refine run_q (.none rfl) rfl rfl (q_fieldAddr (d := 12) rfl Try.underlying25 rfl rfl sz3 rfl) ?_
          refine run_q (.none rfl) rfl rfl (q_loadF rfl one3 rfl (.inp hx .no) (getmap (by omega)) rfl) ?_
          refine run_q (.none rfl) rfl rfl (q_add rfl rfl rfl (by omega)) ?_
          refine run_q (.none rfl) rfl rfl (q_gtr rfl rfl rfl) ?_
          refine run_nil ?_
          refine run_sub (subMk (.cons (s := 0) rfl (.cons (s := 1) rfl (.cons (s := 2) rfl (.cons (s := 6) rfl (.cons (s := 7) rfl (.cons (s := 8) rfl (.cons (s := 9) rfl (.cons (s := 12) rfl (.cons (s := 13) rfl (.cons (s := 14) rfl (.cons (s := 100) rfl .nil))))))))))) .refl) ?_
          refine run_condF rfl (decide_eq_false hlim1) ?_
          refine run_skip ?_
          refine run_seq ?_
          refine run_seq ?_
          have hlim := hlim1
          have h10 : plE1 xs a b i = 0 := by rw [plE1_b hsd]; exact plE_zero.2 hlim
          refine run_region ?_
          refine run_q (.none rfl) rfl rfl (q_move rfl rfl) ?_
          refine run_q (.none rfl) rfl rfl (q_move rfl rfl) ?_
          refine run_q (.none rfl) rfl rfl (q_indexS (q := i) rfl Try.underlying37 sz25 rfl rfl (.inp hx .no) (by simp <;> omega) rfl (by omega)) ?_
          refine run_q (.none rfl) rfl rfl (q_fieldAddr (d := 3) rfl Try.underlying25 rfl rfl sz3 rfl) ?_
          refine run_q (.none rfl) rfl rfl (q_loadF rfl one3 rfl (.inp hx .no) (getmap (by omega)) rfl) ?_
          refine run_q (.none rfl) rfl rfl (q_assign rfl rfl) ?_
          refine run_nil ?_
          refine run_sub (subMk (.cons (s := 0) rfl (.cons (s := 1) rfl (.cons (s := 2) rfl (.cons (s := 6) rfl (.cons (s := 7) rfl (.cons (s := 8) rfl (.cons (s := 9) rfl (.cons (s := 12) rfl (.cons (s := 13) rfl (.cons (s := 14) rfl (.cons (s := 16) rfl .nil))))))))))) .refl) ?_
          refine run_block ?_
          refine run_sub (subMk (.cons (s := 16) rfl (.cons (s := 0) rfl (.cons (s := 1) rfl (.cons (s := 2) rfl (.cons (s := 6) rfl (.cons (s := 7) rfl (.cons (s := 8) rfl (.cons (s := 9) rfl (.cons (s := 12) rfl (.cons (s := 13) rfl (.cons (s := 14) rfl .nil))))))))))) (.cons (.there Sel.here) .refl (.cons Sel.here .refl (.cons Sel.here .refl .nil)))) ?_
          refine run_loopC1M1 (ι := Nat) (fun k => (nth xs i).fst + (k : Int) ≤ (nth xs i).lst + 1) (fun k => .int .i64 ((nth xs i).fst + (k : Int))) (fun k => .own 3 1 A22 a.length c22 ((negL (raiseN (pl xs a b i).2 (nth xs i).fst.toNat ((nth xs i).fst.toNat + k) ((edgeO (-1) (pl xs a b i).2 (nth xs i).fst.toNat (nth xs i).lst.toNat (nth xs i).near) + (nth xs i).hgt))).map encI)) (fun k => (nth xs i).lst.toNat + 1 - k) 0 (by (try dsimp only); exact (by omega)) (vint (by omega)) (.own rfl rfl rfl (by rw [Nat.add_zero, raiseN_start])) ?_
          rintro k hk
          (try dsimp only at hk)
          show Run _ _ _ _ _ _ _ ⟨(16, .int .i64 ((nth xs i).fst + (k : Int))) :: _, .own 3 1 A22 a.length c22 ((negL (raiseN (pl xs a b i).2 (nth xs i).fst.toNat ((nth xs i).fst.toNat + k) ((edgeO (-1) (pl xs a b i).2 (nth xs i).fst.toNat (nth xs i).lst.toNat (nth xs i).near) + (nth xs i).hgt))).map encI) :: _⟩
          refine run_seq ?_
          refine run_seq ?_
          refine run_region ?_
          refine run_q (.none rfl) rfl rfl (q_move rfl rfl) ?_
          refine run_q (.none rfl) rfl rfl (q_move rfl rfl) ?_
          refine run_q (.none rfl) rfl rfl (q_move rfl rfl) ?_
          refine run_q (.none rfl) rfl rfl (q_indexS (q := i) rfl Try.underlying37 sz25 rfl rfl (.inp hx .no) (by simp <;> omega) rfl (by omega)) ?_
          refine run_q (.none rfl) rfl rfl (q_fieldAddr (d := 4) rfl Try.underlying25 rfl rfl sz3 rfl) ?_
          refine run_q (.none rfl) rfl rfl (q_loadF rfl one3 rfl (.inp hx .no) (getmap (by omega)) rfl) ?_
          refine run_q (.none rfl) rfl rfl (q_leq rfl rfl rfl) ?_
          refine run_nil ?_
          refine run_sub (subMk (.cons (s := 0) rfl (.cons (s := 1) rfl (.cons (s := 2) rfl (.cons (s := 6) rfl (.cons (s := 7) rfl (.cons (s := 8) rfl (.cons (s := 9) rfl (.cons (s := 12) rfl (.cons (s := 13) rfl (.cons (s := 14) rfl (.cons (s := 16) rfl (.cons (s := 114) rfl .nil)))))))))))) .refl) ?_
          refine run_cond rfl (fun g114 => ?_) (fun g114 => ?_)
          · have g114' := g114
            try simp only [decide_eq_true_eq, decide_eq_false_iff_not, beq_iff_eq, beq_eq_false_iff_ne, bne_iff_ne, bne_eq_false_iff_eq, Bool.not_eq_true', Bool.not_eq_false', ne_eq, Int.not_lt, Int.not_le, Decidable.not_not] at g114'
            have hbk1 := fun h => hbd.1 ((nth xs i).fst.toNat + k) h
            have hbk2 := fun h => hbd.2 ((nth xs i).fst.toNat + k) h
            refine run_skip ?_
            refine run_seq ?_
            refine run_block ?_
            refine run_draw [(0, 0), (1, 0), (2, 0), (3, 0), (4, 0), (5, 0), (6, 0), (7, 0), (8, 0), (9, 0), (10, 0), (11, 0), (12, 0), (13, 0), (14, 0), (15, 0), (16, 0), (17, 0), (18, 0), (19, 0), (20, 0), (21, 0), (22, 0), (23, 0), (24, 0), (25, 0), (26, 0), (27, 2)] mixed (by kernel_rfl) .refl ?_
            refine d_q rfl rfl (.none rfl) rfl rfl (q_move rfl rfl) ?_
            refine d_q rfl rfl (.none rfl) rfl rfl (q_move rfl rfl) ?_
            refine d_q rfl rfl (.none rfl) rfl rfl (q_move rfl rfl) ?_
            refine d_q rfl rfl (.none rfl) rfl rfl (q_move rfl rfl) ?_
            refine d_q rfl rfl (.none rfl) rfl rfl (q_indexS (q := i) rfl Try.underlying37 sz25 rfl rfl (.inp hx .no) (by simp <;> omega) rfl (by omega)) ?_
            refine d_q rfl rfl (.none rfl) rfl rfl (q_fieldAddr (d := 5) rfl Try.underlying25 rfl rfl sz3 rfl) ?_
            refine d_q rfl rfl (.none rfl) rfl rfl (q_loadF rfl one3 rfl (.inp hx .no) (getmap (by omega)) rfl) ?_
            refine d_q rfl rfl (.none rfl) rfl rfl (q_move rfl rfl) ?_
            refine d_q rfl rfl (.none rfl) rfl rfl (q_move rfl rfl) ?_
            refine d_q rfl rfl (.none rfl) rfl rfl (q_indexS (q := i) rfl Try.underlying37 sz25 rfl rfl (.inp hx .no) (by simp <;> omega) rfl (by omega)) ?_
            refine d_q rfl rfl (.none rfl) rfl rfl (q_fieldAddr (d := 5) rfl Try.underlying25 rfl rfl sz3 rfl) ?_
            refine d_q rfl rfl (.none rfl) rfl rfl (q_loadF rfl one3 rfl (.inp hx .no) (getmap (by omega)) rfl) ?_
            refine d_q rfl rfl (.none rfl) rfl rfl (q_move rfl rfl) ?_
            refine d_q rfl rfl (.none rfl) rfl rfl (q_move rfl rfl) ?_
            refine d_q rfl rfl (.none rfl) rfl rfl (q_indexS (q := ((nth xs i).fst.toNat + k)) rfl Try.underlying38 sz3 rfl rfl (.own Sel.here) (by first | rw [List.length_map, negL_len, raiseN_len, hln.2, hab] | rw [List.length_map, raiseN_len, hln.1]) (by omega) (by omega)) ?_
            refine d_q rfl rfl (.none rfl) rfl rfl (q_loadC rfl one3 rfl (.own Sel.here) (getmap (by first | (rw [negL_len, raiseN_len]; omega) | (rw [raiseN_len]; omega)))) ?_
            refine d_q rfl rfl (.none rfl) rfl rfl (q_mul rfl rfl rfl (by first | (rw [hsd, negL_nth, raiseN_nth] <;> omega) | (rw [hsd, raiseN_nth] <;> omega))) ?_
            refine d_q rfl rfl (.none rfl) rfl rfl (q_move rfl rfl) ?_
            refine d_q rfl rfl (.none rfl) rfl rfl (q_move rfl rfl) ?_
            refine d_q rfl rfl (.none rfl) rfl rfl (q_move rfl rfl) ?_
            refine d_q rfl rfl (.none rfl) rfl rfl (q_indexS (q := i) rfl Try.underlying37 sz25 rfl rfl (.inp hx .no) (by simp <;> omega) rfl (by omega)) ?_
            refine d_q rfl rfl (.none rfl) rfl rfl (q_fieldAddr (d := 12) rfl Try.underlying25 rfl rfl sz3 rfl) ?_
            refine d_q rfl rfl (.none rfl) rfl rfl (q_loadF rfl one3 rfl (.inp hx .no) (getmap (by omega)) rfl) ?_
            refine d_q rfl rfl (.none rfl) rfl rfl (q_add rfl rfl rfl (by omega)) ?_
            refine d_q rfl rfl (.none rfl) rfl rfl (q_max2 rfl rfl rfl) ?_
            refine d_q rfl rfl (.none rfl) rfl rfl (q_mul rfl rfl rfl (by first | (rw [hsd, negL_nth, raiseN_nth] <;> omega) | (rw [hsd, raiseN_nth] <;> omega))) ?_
            refine d_q rfl rfl (.none rfl) rfl rfl (q_indexS (q := ((nth xs i).fst.toNat + k)) rfl Try.underlying38 sz3 rfl rfl (.own Sel.here) (by first | rw [List.length_map, negL_len, raiseN_len, hln.2, hab] | rw [List.length_map, raiseN_len, hln.1]) (by omega) (by omega)) ?_
            refine d_t rfl rfl (.none rfl) (h_storeE rfl rfl sz3 rfl rfl rfl rfl rfl Sel.here (by omega)) ?_
            rintro - -
            refine d_nil ?_
            refine run_sub (subMk (.cons (s := 0) rfl (.cons (s := 1) rfl (.cons (s := 2) rfl (.cons (s := 6) rfl (.cons (s := 7) rfl (.cons (s := 8) rfl (.cons (s := 9) rfl (.cons (s := 12) rfl (.cons (s := 13) rfl (.cons (s := 14) rfl (.cons (s := 16) rfl .nil))))))))))) .refl) ?_
            refine run_blk ?_
            refine run_region ?_
            refine run_q (.none rfl) rfl rfl (q_move rfl rfl) ?_
            refine run_q (.none rfl) rfl rfl (q_add rfl rfl rfl (by omega)) ?_
            refine run_q (.none rfl) rfl rfl (q_assign rfl rfl) ?_
            refine run_nil ?_
            exact run_again (k + 1) (by (try dsimp only); exact (by omega)) (by (try dsimp only); omega) (subMk (.cons' (s := 16) rfl (vint (by omega)) (.cons (s := 0) rfl (.cons (s := 1) rfl (.cons (s := 2) rfl (.cons (s := 6) rfl (.cons (s := 7) rfl (.cons (s := 8) rfl (.cons (s := 9) rfl (.cons (s := 12) rfl (.cons (s := 13) rfl (.cons (s := 14) rfl .nil))))))))))) (.cons Sel.here (.own rfl rfl rfl (by rw [hsd]; exact setB (by omega))) (.cons Sel.here .refl (.cons Sel.here .refl .nil))))
          · have g114' := g114
            try simp only [decide_eq_true_eq, decide_eq_false_iff_not, beq_iff_eq, beq_eq_false_iff_ne, bne_iff_ne, bne_eq_false_iff_eq, Bool.not_eq_true', Bool.not_eq_false', ne_eq, Int.not_lt, Int.not_le, Decidable.not_not] at g114'
            refine run_exit rfl ?_
            refine run_sub (subMk (.cons (s := 0) rfl (.cons (s := 1) rfl (.cons (s := 2) rfl (.cons (s := 6) rfl (.cons (s := 7) rfl (.cons (s := 8) rfl (.cons (s := 9) rfl (.cons (s := 12) rfl (.cons (s := 14) rfl .nil))))))))) .refl) ?_
            refine run_draw [(0, 0), (1, 0), (2, 0), (3, 0), (4, 0), (5, 0), (6, 0), (7, 0), (8, 0), (9, 0), (10, 0), (11, 0), (12, 0), (13, 1), (14, 2), (15, 2)] mixed (by kernel_rfl) .refl ?_
            refine d_q rfl rfl (.none rfl) rfl rfl (q_move rfl rfl) ?_
            refine d_q rfl rfl (.none rfl) rfl rfl (q_move rfl rfl) ?_
            refine d_q rfl rfl (.none rfl) rfl rfl (q_move rfl rfl) ?_
            refine d_q rfl rfl (.none rfl) rfl rfl (q_indexS (q := i) rfl Try.underlying37 sz25 rfl rfl (.inp hx .no) (by simp <;> omega) rfl (by omega)) ?_
            refine d_q rfl rfl (.none rfl) rfl rfl (q_loadE rfl agg25 rfl (.inp hx .no) (getmap (by omega)) rfl) ?_
            refine d_q rfl rfl (.none rfl) rfl rfl (q_move rfl rfl) ?_
            refine d_q rfl rfl (.none rfl) rfl rfl (q_move rfl rfl) ?_
            refine d_q rfl rfl (.none rfl) rfl rfl (q_indexS (q := i) rfl Try.underlying37 sz25 rfl rfl (.inp hx .no) (by simp <;> omega) rfl (by omega)) ?_
            refine d_q rfl rfl (.none rfl) rfl rfl (q_fieldAddr (d := 5) rfl Try.underlying25 rfl rfl sz3 rfl) ?_
            refine d_q rfl rfl (.none rfl) rfl rfl (q_loadF rfl one3 rfl (.inp hx .no) (getmap (by omega)) rfl) ?_
            refine d_q rfl rfl (.none rfl) rfl rfl (q_move rfl rfl) ?_
            refine d_q rfl rfl (.none rfl) rfl rfl (q_mul rfl rfl rfl (by rw [hsd]; omega)) ?_
            refine d_q rfl rfl (.none rfl) rfl rfl (q_call rfl call45 (.cons rfl (.cons rfl Evs.nil)) (fun w hk hm => refmark_just (nth xs i) _ w hq.2.2.1 ⟨by omega, by omega⟩ ⟨by omega, by omega⟩ (by rw [hsd]; omega))) ?_
            refine d_h rfl rfl (.none rfl) (h_buildSlice rfl rfl rfl Try.underlying44 info50 (.cons rfl rfl rfl rfl Parts.nil) rfl (by omega)) (fun _ _ => (.sub (by repeat (first | exact List.Sublist.refl _ | apply List.Sublist.cons)))) ?_
            rintro b157 -
            refine d_t rfl rfl (.none rfl) (h_append rfl rfl rfl Try.underlying44 info50 rfl rfl (.there (.there (.there Sel.here))) rfl (.own Sel.here) rfl (all1 rfl) (all1 rfl) (by omega) (by omega)) ?_
            rintro ⟨A158, c158⟩ -
            refine d_t rfl rfl (.none rfl) (.of_q rfl rfl (q_assign rfl rfl)) ?_
            rintro - -
            refine d_nil ?_
            refine run_sub (subMk (.cons (s := 0) rfl (.cons (s := 1) rfl (.cons (s := 2) rfl (.cons (s := 6) rfl (.cons (s := 7) rfl (.cons (s := 8) rfl (.cons (s := 9) rfl (.cons (s := 12) rfl .nil)))))))) .refl) ?_
            refine run_blk ?_
            refine run_region ?_
            refine run_q (.none rfl) rfl rfl (q_move rfl rfl) ?_
            refine run_q (.none rfl) rfl rfl (q_add rfl rfl rfl (by omega)) ?_
            refine run_q (.none rfl) rfl rfl (q_assign rfl rfl) ?_
            refine run_nil ?_
            exact run_again (i + 1, A158, c158) (by (try dsimp only); exact ⟨by omega, plEs_next hEs h10⟩) (by (try dsimp only); omega) (subMk (.cons' (s := 12) rfl (vint (by omega)) (.cons' (s := 6) rfl (by rw [plMs_len, plMs_len]) (.cons (s := 0) rfl (.cons (s := 1) rfl (.cons (s := 2) rfl (.cons (s := 7) rfl (.cons (s := 8) rfl (.cons (s := 9) rfl .nil)))))))) (.cons (.there (.there (.there Sel.here))) (.own rfl rfl rfl (by rw [pl_b hsd])) (.cons (.there (.there Sel.here)) (.own rfl rfl rfl (by rw [pl_b hsd]; simp only []; rw [plO_ok hlim, show (nth xs i).fst.toNat + k = (nth xs i).lst.toNat + 1 from by omega])) (.cons Sel.here (.own (m' := (plMs xs a b (i + 1)).length) (xs' := (plMs xs a b (i + 1)).map Mk.enc) rfl (by rw [plMs_len, plMs_len]) rfl (by rw [plMs_b hsd, List.map_append, plV_ok hlim, hsd]; rfl)) .nil))))
      · have g53' := g53
        try simp only [decide_eq_true_eq, decide_eq_false_iff_not, beq_iff_eq, beq_eq_false_iff_ne, bne_iff_ne, bne_eq_false_iff_eq, Bool.not_eq_true', Bool.not_eq_false', ne_eq, Int.not_lt, Int.not_le, Decidable.not_not] at g53'
        refine run_skip ?_
        refine run_seq ?_
        have hsd : (nth xs i).side = 1 := by omega
        have hna : ¬ (nth xs i).side = -1 := by omega
        have hnt : -1048576 ≤ 1 * (nth xs i).near ∧ 1 * (nth xs i).near ≤ 1048576 := by omega
        have hzb := fun k (h : (nth xs i).fst.toNat + k ≤ (pl xs a b i).1.length) => edK_bd (t := 1) (f := (nth xs i).fst.toNat) hnt hbd.1 (k := k) h
        have heb := edgeO_bd (s := 1) (o := (pl xs a b i).1) (f := (nth xs i).fst.toNat) (l := (nth xs i).lst.toNat) (near := (nth xs i).near) (by decide) hbd.1 (by omega) (by omega) ⟨by omega, by omega⟩
        refine run_draw [(0, 0), (1, 0), (2, 0), (3, 0), (4, 0), (5, 0), (6, 0), (7, 0), (8, 0), (9, 0), (10, 0), (11, 0)] mixed (by kernel_rfl) .refl ?_
        refine d_q rfl rfl (.none rfl) rfl rfl (q_move rfl rfl) ?_
        refine d_q rfl rfl (.none rfl) rfl rfl (q_move rfl rfl) ?_
        refine d_q rfl rfl (.none rfl) rfl rfl (q_indexS (q := i) rfl Try.underlying37 sz25 rfl rfl (.inp hx .no) (by simp <;> omega) rfl (by omega)) ?_
        refine d_q rfl rfl (.none rfl) rfl rfl (q_fieldAddr (d := 5) rfl Try.underlying25 rfl rfl sz3 rfl) ?_
        refine d_q rfl rfl (.none rfl) rfl rfl (q_loadF rfl one3 rfl (.inp hx .no) (getmap (by omega)) rfl) ?_
        refine d_q rfl rfl (.none rfl) rfl rfl (q_move rfl rfl) ?_
        refine d_q rfl rfl (.none rfl) rfl rfl (q_move rfl rfl) ?_
        refine d_q rfl rfl (.none rfl) rfl rfl (q_indexS (q := i) rfl Try.underlying37 sz25 rfl rfl (.inp hx .no) (by simp <;> omega) rfl (by omega)) ?_
        refine d_q rfl rfl (.none rfl) rfl rfl (q_fieldAddr (d := 6) rfl Try.underlying25 rfl rfl sz3 rfl) ?_
        refine d_q rfl rfl (.none rfl) rfl rfl (q_loadF rfl one3 rfl (.inp hx .no) (getmap (by omega)) rfl) ?_
        refine d_q rfl rfl (.none rfl) rfl rfl (q_mul rfl rfl rfl (by rw [hsd]; omega)) ?_
        refine d_q rfl rfl (.none rfl) rfl rfl (q_assign rfl rfl) ?_
        refine d_nil ?_
        refine run_sub (subMk (.cons (s := 0) rfl (.cons (s := 1) rfl (.cons (s := 2) rfl (.cons (s := 6) rfl (.cons (s := 7) rfl (.cons (s := 8) rfl (.cons (s := 9) rfl (.cons (s := 12) rfl (.cons (s := 13) rfl (.cons (s := 14) rfl .nil)))))))))) .refl) ?_
        refine run_seq ?_
        refine run_seq ?_
        refine run_region ?_
        refine run_q (.none rfl) rfl rfl (q_move rfl rfl) ?_
        refine run_q (.none rfl) rfl rfl (q_move rfl rfl) ?_
        refine run_q (.none rfl) rfl rfl (q_indexS (q := i) rfl Try.underlying37 sz25 rfl rfl (.inp hx .no) (by simp <;> omega) rfl (by omega)) ?_
        refine run_q (.none rfl) rfl rfl (q_fieldAddr (d := 3) rfl Try.underlying25 rfl rfl sz3 rfl) ?_
        refine run_q (.none rfl) rfl rfl (q_loadF rfl one3 rfl (.inp hx .no) (getmap (by omega)) rfl) ?_
        refine run_q (.none rfl) rfl rfl (q_assign rfl rfl) ?_
        refine run_nil ?_
        refine run_sub (subMk (.cons (s := 0) rfl (.cons (s := 1) rfl (.cons (s := 2) rfl (.cons (s := 6) rfl (.cons (s := 7) rfl (.cons (s := 8) rfl (.cons (s := 9) rfl (.cons (s := 12) rfl (.cons (s := 13) rfl (.cons (s := 14) rfl (.cons (s := 15) rfl .nil))))))))))) .refl) ?_
        refine run_block ?_
        refine run_sub (subMk (.cons (s := 15) rfl (.cons (s := 14) rfl (.cons (s := 0) rfl (.cons (s := 1) rfl (.cons (s := 2) rfl (.cons (s := 6) rfl (.cons (s := 7) rfl (.cons (s := 8) rfl (.cons (s := 9) rfl (.cons (s := 12) rfl (.cons (s := 13) rfl .nil))))))))))) (.cons Sel.here .refl (.cons Sel.here .refl (.cons Sel.here .refl .nil)))) ?_
        refine run_loopC2M0 (ι := Nat) (fun k => (nth xs i).fst + (k : Int) ≤ (nth xs i).lst + 1) (fun k => .int .i64 ((nth xs i).fst + (k : Int))) (fun k => .int .i64 (edK 1 (pl xs a b i).1 (nth xs i).fst.toNat (nth xs i).near k))  (fun k => (nth xs i).lst.toNat + 1 - k) 0 (by (try dsimp only); exact (by omega)) (vint (by omega)) (vint (by rw [hsd]; rfl))  ?_
        rintro k hk
        (try dsimp only at hk)
        show Run _ _ _ _ _ _ _ ⟨(15, .int .i64 ((nth xs i).fst + (k : Int))) :: (14, .int .i64 (edK 1 (pl xs a b i).1 (nth xs i).fst.toNat (nth xs i).near k)) :: _, _⟩
        refine run_seq ?_
        refine run_seq ?_
        refine run_region ?_
        refine run_q (.none rfl) rfl rfl (q_move rfl rfl) ?_
        refine run_q (.none rfl) rfl rfl (q_move rfl rfl) ?_
        refine run_q (.none rfl) rfl rfl (q_move rfl rfl) ?_
        refine run_q (.none rfl) rfl rfl (q_indexS (q := i) rfl Try.underlying37 sz25 rfl rfl (.inp hx .no) (by simp <;> omega) rfl (by omega)) ?_
        refine run_q (.none rfl) rfl rfl (q_fieldAddr (d := 4) rfl Try.underlying25 rfl rfl sz3 rfl) ?_
        refine run_q (.none rfl) rfl rfl (q_loadF rfl one3 rfl (.inp hx .no) (getmap (by omega)) rfl) ?_
        refine run_q (.none rfl) rfl rfl (q_leq rfl rfl rfl) ?_
        refine run_nil ?_
        refine run_sub (subMk (.cons (s := 0) rfl (.cons (s := 1) rfl (.cons (s := 2) rfl (.cons (s := 6) rfl (.cons (s := 7) rfl (.cons (s := 8) rfl (.cons (s := 9) rfl (.cons (s := 12) rfl (.cons (s := 13) rfl (.cons (s := 14) rfl (.cons (s := 15) rfl (.cons (s := 77) rfl .nil)))))))))))) .refl) ?_
        refine run_cond rfl (fun g77 => ?_) (fun g77 => ?_)
        · have g77' := g77
          try simp only [decide_eq_true_eq, decide_eq_false_iff_not, beq_iff_eq, beq_eq_false_iff_ne, bne_iff_ne, bne_eq_false_iff_eq, Bool.not_eq_true', Bool.not_eq_false', ne_eq, Int.not_lt, Int.not_le, Decidable.not_not] at g77'
          have hzk := hzb k (by omega)
          have hbk1 := fun h => hbd.1 ((nth xs i).fst.toNat + k) h
          have hbk2 := fun h => hbd.2 ((nth xs i).fst.toNat + k) h
          refine run_skip ?_
          refine run_seq ?_
          refine run_block ?_
          refine run_draw [(0, 0), (1, 0), (2, 0), (3, 0), (4, 0), (5, 0), (6, 0), (7, 0), (8, 0), (9, 0), (10, 0), (11, 0), (12, 0), (13, 0)] mixed (by kernel_rfl) .refl ?_
          refine d_q rfl rfl (.none rfl) rfl rfl (q_move rfl rfl) ?_
          refine d_q rfl rfl (.none rfl) rfl rfl (q_move rfl rfl) ?_
          refine d_q rfl rfl (.none rfl) rfl rfl (q_move rfl rfl) ?_
          refine d_q rfl rfl (.none rfl) rfl rfl (q_indexS (q := i) rfl Try.underlying37 sz25 rfl rfl (.inp hx .no) (by simp <;> omega) rfl (by omega)) ?_
          refine d_q rfl rfl (.none rfl) rfl rfl (q_fieldAddr (d := 5) rfl Try.underlying25 rfl rfl sz3 rfl) ?_
          refine d_q rfl rfl (.none rfl) rfl rfl (q_loadF rfl one3 rfl (.inp hx .no) (getmap (by omega)) rfl) ?_
          refine d_q rfl rfl (.none rfl) rfl rfl (q_move rfl rfl) ?_
          refine d_q rfl rfl (.none rfl) rfl rfl (q_move rfl rfl) ?_
          refine d_q rfl rfl (.none rfl) rfl rfl (q_indexS (q := ((nth xs i).fst.toNat + k)) rfl Try.underlying38 sz3 rfl rfl (.own Sel.here) (by first | rw [List.length_map, negL_len, hln.2, hab] | rw [List.length_map, hln.1]) (by omega) (by omega)) ?_
          refine d_q rfl rfl (.none rfl) rfl rfl (q_loadC rfl one3 rfl (.own Sel.here) (getmap (by first | (rw [negL_len]; omega) | omega))) ?_
          refine d_q rfl rfl (.none rfl) rfl rfl (q_mul rfl rfl rfl (by first | (rw [hsd, negL_nth]; omega) | (rw [hsd]; omega))) ?_
          refine d_q rfl rfl (.none rfl) rfl rfl (q_add rfl rfl rfl (by first | (rw [hsd, negL_nth]; omega) | (rw [hsd]; omega))) ?_
          refine d_q rfl rfl (.none rfl) rfl rfl (q_max2 rfl rfl rfl) ?_
          refine d_q rfl rfl (.none rfl) rfl rfl (q_assign rfl rfl) ?_
          refine d_nil ?_
          refine run_sub (subMk (.cons (s := 0) rfl (.cons (s := 1) rfl (.cons (s := 2) rfl (.cons (s := 6) rfl (.cons (s := 7) rfl (.cons (s := 8) rfl (.cons (s := 9) rfl (.cons (s := 12) rfl (.cons (s := 13) rfl (.cons (s := 14) rfl (.cons (s := 15) rfl .nil))))))))))) .refl) ?_
          refine run_blk ?_
          refine run_region ?_
          refine run_q (.none rfl) rfl rfl (q_move rfl rfl) ?_
          refine run_q (.none rfl) rfl rfl (q_add rfl rfl rfl (by omega)) ?_
          refine run_q (.none rfl) rfl rfl (q_assign rfl rfl) ?_
          refine run_nil ?_
          exact run_again (k + 1) (by (try dsimp only); exact (by omega)) (by (try dsimp only); omega) (subMk (.cons' (s := 15) rfl (vint (by omega)) (.cons' (s := 14) rfl (vint (by rw [hsd, edK_next]; omega)) (.cons (s := 0) rfl (.cons (s := 1) rfl (.cons (s := 2) rfl (.cons (s := 6) rfl (.cons (s := 7) rfl (.cons (s := 8) rfl (.cons (s := 9) rfl (.cons (s := 12) rfl (.cons (s := 13) rfl .nil))))))))))) (.cons Sel.here .refl (.cons Sel.here .refl (.cons Sel.here .refl .nil))))
        · have g77' := g77
          try simp only [decide_eq_true_eq, decide_eq_false_iff_not, beq_iff_eq, beq_eq_false_iff_ne, bne_iff_ne, bne_eq_false_iff_eq, Bool.not_eq_true', Bool.not_eq_false', ne_eq, Int.not_lt, Int.not_le, Decidable.not_not] at g77'
          refine run_exit rfl ?_
          refine run_seq ?_
          refine run_seq ?_
          refine run_sub (subMk (.cons (s := 0) rfl (.cons (s := 1) rfl (.cons (s := 2) rfl (.cons (s := 6) rfl (.cons (s := 7) rfl (.cons (s := 8) rfl (.cons (s := 9) rfl (.cons (s := 12) rfl (.cons (s := 13) rfl (.cons' (s := 14) (v' := .int .i64 (edgeO 1 (pl xs a b i).1 (nth xs i).fst.toNat (nth xs i).lst.toNat (nth xs i).near)) rfl (vint (edK_all (by omega) (by omega))) (.cons (s := 15) rfl (.cons (s := 77) rfl .nil)))))))))))) .refl) ?_
          have hlim0 := plEs_zero hE0 i (by omega)
          rw [plE1_a hna] at hlim0
          have hlim1 := plE_zero.1 hlim0
          refine run_region ?_
          refine run_q (.none rfl) rfl rfl (q_move rfl rfl) ?_
          refine run_q (.none rfl) rfl rfl (q_move rfl rfl) ?_
          refine run_q (.none rfl) rfl rfl (q_move rfl rfl) ?_
          refine run_q (.none rfl) rfl rfl (q_indexS (q := i) rfl Try.underlying37 sz25 rfl rfl (.inp hx .no) (by simp <;> omega) rfl (by omega)) ?_
          refine run_q (.none rfl) rfl rfl (q_fieldAddr (d := 12) rfl Try.underlying25 rfl rfl sz3 rfl) ?_
          refine run_q (.none rfl) rfl rfl (q_loadF rfl one3 rfl (.inp hx .no) (getmap (by omega)) rfl) ?_
          refine run_q (.none rfl) rfl rfl (q_add rfl rfl rfl (by omega)) ?_
          refine run_q (.none rfl) rfl rfl (q_gtr rfl rfl rfl) ?_
          refine run_nil ?_
          refine run_sub (subMk (.cons (s := 0) rfl (.cons (s := 1) rfl (.cons (s := 2) rfl (.cons (s := 6) rfl (.cons (s := 7) rfl (.cons (s := 8) rfl (.cons (s := 9) rfl (.cons (s := 12) rfl (.cons (s := 13) rfl (.cons (s := 14) rfl (.cons (s := 100) rfl .nil))))))))))) .refl) ?_
          refine run_condF rfl (decide_eq_false hlim1) ?_
          refine run_skip ?_
          refine run_seq ?_
          refine run_seq ?_
          have hlim := hlim1
          have h10 : plE1 xs a b i = 0 := by rw [plE1_a hna]; exact plE_zero.2 hlim
          refine run_region ?_
          refine run_q (.none rfl) rfl rfl (q_move rfl rfl) ?_
          refine run_q (.none rfl) rfl rfl (q_move rfl rfl) ?_
          refine run_q (.none rfl) rfl rfl (q_indexS (q := i) rfl Try.underlying37 sz25 rfl rfl (.inp hx .no) (by simp <;> omega) rfl (by omega)) ?_
          refine run_q (.none rfl) rfl rfl (q_fieldAddr (d := 3) rfl Try.underlying25 rfl rfl sz3 rfl) ?_
          refine run_q (.none rfl) rfl rfl (q_loadF rfl one3 rfl (.inp hx .no) (getmap (by omega)) rfl) ?_
          refine run_q (.none rfl) rfl rfl (q_assign rfl rfl) ?_
          refine run_nil ?_
          refine run_sub (subMk (.cons (s := 0) rfl (.cons (s := 1) rfl (.cons (s := 2) rfl (.cons (s := 6) rfl (.cons (s := 7) rfl (.cons (s := 8) rfl (.cons (s := 9) rfl (.cons (s := 12) rfl (.cons (s := 13) rfl (.cons (s := 14) rfl (.cons (s := 16) rfl .nil))))))))))) .refl) ?_
          refine run_block ?_
          refine run_sub (subMk (.cons (s := 16) rfl (.cons (s := 0) rfl (.cons (s := 1) rfl (.cons (s := 2) rfl (.cons (s := 6) rfl (.cons (s := 7) rfl (.cons (s := 8) rfl (.cons (s := 9) rfl (.cons (s := 12) rfl (.cons (s := 13) rfl (.cons (s := 14) rfl .nil))))))))))) (.cons Sel.here .refl (.cons Sel.here .refl (.cons Sel.here .refl .nil)))) ?_
          refine run_loopC1M1 (ι := Nat) (fun k => (nth xs i).fst + (k : Int) ≤ (nth xs i).lst + 1) (fun k => .int .i64 ((nth xs i).fst + (k : Int))) (fun k => .own 3 1 A19 a.length c19 ((raiseN (pl xs a b i).1 (nth xs i).fst.toNat ((nth xs i).fst.toNat + k) ((edgeO 1 (pl xs a b i).1 (nth xs i).fst.toNat (nth xs i).lst.toNat (nth xs i).near) + (nth xs i).hgt)).map encI)) (fun k => (nth xs i).lst.toNat + 1 - k) 0 (by (try dsimp only); exact (by omega)) (vint (by omega)) (.own rfl rfl rfl (by rw [Nat.add_zero, raiseN_start])) ?_
          rintro k hk
          (try dsimp only at hk)
          show Run _ _ _ _ _ _ _ ⟨(16, .int .i64 ((nth xs i).fst + (k : Int))) :: _, .own 3 1 A19 a.length c19 ((raiseN (pl xs a b i).1 (nth xs i).fst.toNat ((nth xs i).fst.toNat + k) ((edgeO 1 (pl xs a b i).1 (nth xs i).fst.toNat (nth xs i).lst.toNat (nth xs i).near) + (nth xs i).hgt)).map encI) :: _⟩
          refine run_seq ?_
          refine run_seq ?_
          refine run_region ?_
          refine run_q (.none rfl) rfl rfl (q_move rfl rfl) ?_
          refine run_q (.none rfl) rfl rfl (q_move rfl rfl) ?_
          refine run_q (.none rfl) rfl rfl (q_move rfl rfl) ?_
          refine run_q (.none rfl) rfl rfl (q_indexS (q := i) rfl Try.underlying37 sz25 rfl rfl (.inp hx .no) (by simp <;> omega) rfl (by omega)) ?_
          refine run_q (.none rfl) rfl rfl (q_fieldAddr (d := 4) rfl Try.underlying25 rfl rfl sz3 rfl) ?_
          refine run_q (.none rfl) rfl rfl (q_loadF rfl one3 rfl (.inp hx .no) (getmap (by omega)) rfl) ?_
          refine run_q (.none rfl) rfl rfl (q_leq rfl rfl rfl) ?_
          refine run_nil ?_
          refine run_sub (subMk (.cons (s := 0) rfl (.cons (s := 1) rfl (.cons (s := 2) rfl (.cons (s := 6) rfl (.cons (s := 7) rfl (.cons (s := 8) rfl (.cons (s := 9) rfl (.cons (s := 12) rfl (.cons (s := 13) rfl (.cons (s := 14) rfl (.cons (s := 16) rfl (.cons (s := 114) rfl .nil)))))))))))) .refl) ?_
          refine run_cond rfl (fun g114 => ?_) (fun g114 => ?_)
          · have g114' := g114
            try simp only [decide_eq_true_eq, decide_eq_false_iff_not, beq_iff_eq, beq_eq_false_iff_ne, bne_iff_ne, bne_eq_false_iff_eq, Bool.not_eq_true', Bool.not_eq_false', ne_eq, Int.not_lt, Int.not_le, Decidable.not_not] at g114'
            have hbk1 := fun h => hbd.1 ((nth xs i).fst.toNat + k) h
            have hbk2 := fun h => hbd.2 ((nth xs i).fst.toNat + k) h
            refine run_skip ?_
            refine run_seq ?_
            refine run_block ?_
            refine run_draw [(0, 0), (1, 0), (2, 0), (3, 0), (4, 0), (5, 0), (6, 0), (7, 0), (8, 0), (9, 0), (10, 0), (11, 0), (12, 0), (13, 0), (14, 0), (15, 0), (16, 0), (17, 0), (18, 0), (19, 0), (20, 0), (21, 0), (22, 0), (23, 0), (24, 0), (25, 0), (26, 0), (27, 2)] mixed (by kernel_rfl) .refl ?_
            refine d_q rfl rfl (.none rfl) rfl rfl (q_move rfl rfl) ?_
            refine d_q rfl rfl (.none rfl) rfl rfl (q_move rfl rfl) ?_
            refine d_q rfl rfl (.none rfl) rfl rfl (q_move rfl rfl) ?_
            refine d_q rfl rfl (.none rfl) rfl rfl (q_move rfl rfl) ?_
            refine d_q rfl rfl (.none rfl) rfl rfl (q_indexS (q := i) rfl Try.underlying37 sz25 rfl rfl (.inp hx .no) (by simp <;> omega) rfl (by omega)) ?_
            refine d_q rfl rfl (.none rfl) rfl rfl (q_fieldAddr (d := 5) rfl Try.underlying25 rfl rfl sz3 rfl) ?_
            refine d_q rfl rfl (.none rfl) rfl rfl (q_loadF rfl one3 rfl (.inp hx .no) (getmap (by omega)) rfl) ?_
            refine d_q rfl rfl (.none rfl) rfl rfl (q_move rfl rfl) ?_
            refine d_q rfl rfl (.none rfl) rfl rfl (q_move rfl rfl) ?_
            refine d_q rfl rfl (.none rfl) rfl rfl (q_indexS (q := i) rfl Try.underlying37 sz25 rfl rfl (.inp hx .no) (by simp <;> omega) rfl (by omega)) ?_
            refine d_q rfl rfl (.none rfl) rfl rfl (q_fieldAddr (d := 5) rfl Try.underlying25 rfl rfl sz3 rfl) ?_
            refine d_q rfl rfl (.none rfl) rfl rfl (q_loadF rfl one3 rfl (.inp hx .no) (getmap (by omega)) rfl) ?_
            refine d_q rfl rfl (.none rfl) rfl rfl (q_move rfl rfl) ?_
            refine d_q rfl rfl (.none rfl) rfl rfl (q_move rfl rfl) ?_
            refine d_q rfl rfl (.none rfl) rfl rfl (q_indexS (q := ((nth xs i).fst.toNat + k)) rfl Try.underlying38 sz3 rfl rfl (.own Sel.here) (by first | rw [List.length_map, negL_len, raiseN_len, hln.2, hab] | rw [List.length_map, raiseN_len, hln.1]) (by omega) (by omega)) ?_
            refine d_q rfl rfl (.none rfl) rfl rfl (q_loadC rfl one3 rfl (.own Sel.here) (getmap (by first | (rw [negL_len, raiseN_len]; omega) | (rw [raiseN_len]; omega)))) ?_
            refine d_q rfl rfl (.none rfl) rfl rfl (q_mul rfl rfl rfl (by first | (rw [hsd, negL_nth, raiseN_nth] <;> omega) | (rw [hsd, raiseN_nth] <;> omega))) ?_
            refine d_q rfl rfl (.none rfl) rfl rfl (q_move rfl rfl) ?_
            refine d_q rfl rfl (.none rfl) rfl rfl (q_move rfl rfl) ?_
            refine d_q rfl rfl (.none rfl) rfl rfl (q_move rfl rfl) ?_
            refine d_q rfl rfl (.none rfl) rfl rfl (q_indexS (q := i) rfl Try.underlying37 sz25 rfl rfl (.inp hx .no) (by simp <;> omega) rfl (by omega)) ?_
            refine d_q rfl rfl (.none rfl) rfl rfl (q_fieldAddr (d := 12) rfl Try.underlying25 rfl rfl sz3 rfl) ?_
            refine d_q rfl rfl (.none rfl) rfl rfl (q_loadF rfl one3 rfl (.inp hx .no) (getmap (by omega)) rfl) ?_
            refine d_q rfl rfl (.none rfl) rfl rfl (q_add rfl rfl rfl (by omega)) ?_
            refine d_q rfl rfl (.none rfl) rfl rfl (q_max2 rfl rfl rfl) ?_
            refine d_q rfl rfl (.none rfl) rfl rfl (q_mul rfl rfl rfl (by first | (rw [hsd, negL_nth, raiseN_nth] <;> omega) | (rw [hsd, raiseN_nth] <;> omega))) ?_
            refine d_q rfl rfl (.none rfl) rfl rfl (q_indexS (q := ((nth xs i).fst.toNat + k)) rfl Try.underlying38 sz3 rfl rfl (.own Sel.here) (by first | rw [List.length_map, negL_len, raiseN_len, hln.2, hab] | rw [List.length_map, raiseN_len, hln.1]) (by omega) (by omega)) ?_
            refine d_t rfl rfl (.none rfl) (h_storeE rfl rfl sz3 rfl rfl rfl rfl rfl Sel.here (by omega)) ?_
            rintro - -
            refine d_nil ?_
            refine run_sub (subMk (.cons (s := 0) rfl (.cons (s := 1) rfl (.cons (s := 2) rfl (.cons (s := 6) rfl (.cons (s := 7) rfl (.cons (s := 8) rfl (.cons (s := 9) rfl (.cons (s := 12) rfl (.cons (s := 13) rfl (.cons (s := 14) rfl (.cons (s := 16) rfl .nil))))))))))) .refl) ?_
            refine run_blk ?_
            refine run_region ?_
            refine run_q (.none rfl) rfl rfl (q_move rfl rfl) ?_
            refine run_q (.none rfl) rfl rfl (q_add rfl rfl rfl (by omega)) ?_
            refine run_q (.none rfl) rfl rfl (q_assign rfl rfl) ?_
            refine run_nil ?_
            exact run_again (k + 1) (by (try dsimp only); exact (by omega)) (by (try dsimp only); omega) (subMk (.cons' (s := 16) rfl (vint (by omega)) (.cons (s := 0) rfl (.cons (s := 1) rfl (.cons (s := 2) rfl (.cons (s := 6) rfl (.cons (s := 7) rfl (.cons (s := 8) rfl (.cons (s := 9) rfl (.cons (s := 12) rfl (.cons (s := 13) rfl (.cons (s := 14) rfl .nil))))))))))) (.cons Sel.here (.own rfl rfl rfl (by rw [hsd]; exact setA (by omega))) (.cons Sel.here .refl (.cons Sel.here .refl .nil))))
          · have g114' := g114
            try simp only [decide_eq_true_eq, decide_eq_false_iff_not, beq_iff_eq, beq_eq_false_iff_ne, bne_iff_ne, bne_eq_false_iff_eq, Bool.not_eq_true', Bool.not_eq_false', ne_eq, Int.not_lt, Int.not_le, Decidable.not_not] at g114'
            refine run_exit rfl ?_
            refine run_sub (subMk (.cons (s := 0) rfl (.cons (s := 1) rfl (.cons (s := 2) rfl (.cons (s := 6) rfl (.cons (s := 7) rfl (.cons (s := 8) rfl (.cons (s := 9) rfl (.cons (s := 12) rfl (.cons (s := 14) rfl .nil))))))))) .refl) ?_
            refine run_draw [(0, 0), (1, 0), (2, 0), (3, 0), (4, 0), (5, 0), (6, 0), (7, 0), (8, 0), (9, 0), (10, 0), (11, 0), (12, 0), (13, 1), (14, 2), (15, 2)] mixed (by kernel_rfl) .refl ?_
            refine d_q rfl rfl (.none rfl) rfl rfl (q_move rfl rfl) ?_
            refine d_q rfl rfl (.none rfl) rfl rfl (q_move rfl rfl) ?_
            refine d_q rfl rfl (.none rfl) rfl rfl (q_move rfl rfl) ?_
            refine d_q rfl rfl (.none rfl) rfl rfl (q_indexS (q := i) rfl Try.underlying37 sz25 rfl rfl (.inp hx .no) (by simp <;> omega) rfl (by omega)) ?_
            refine d_q rfl rfl (.none rfl) rfl rfl (q_loadE rfl agg25 rfl (.inp hx .no) (getmap (by omega)) rfl) ?_
            refine d_q rfl rfl (.none rfl) rfl rfl (q_move rfl rfl) ?_
            refine d_q rfl rfl (.none rfl) rfl rfl (q_move rfl rfl) ?_
            refine d_q rfl rfl (.none rfl) rfl rfl (q_indexS (q := i) rfl Try.underlying37 sz25 rfl rfl (.inp hx .no) (by simp <;> omega) rfl (by omega)) ?_
            refine d_q rfl rfl (.none rfl) rfl rfl (q_fieldAddr (d := 5) rfl Try.underlying25 rfl rfl sz3 rfl) ?_
            refine d_q rfl rfl (.none rfl) rfl rfl (q_loadF rfl one3 rfl (.inp hx .no) (getmap (by omega)) rfl) ?_
            refine d_q rfl rfl (.none rfl) rfl rfl (q_move rfl rfl) ?_
            refine d_q rfl rfl (.none rfl) rfl rfl (q_mul rfl rfl rfl (by rw [hsd]; omega)) ?_
            refine d_q rfl rfl (.none rfl) rfl rfl (q_call rfl call45 (.cons rfl (.cons rfl Evs.nil)) (fun w hk hm => refmark_just (nth xs i) _ w hq.2.2.1 ⟨by omega, by omega⟩ ⟨by omega, by omega⟩ (by rw [hsd]; omega))) ?_
            refine d_h rfl rfl (.none rfl) (h_buildSlice rfl rfl rfl Try.underlying44 info50 (.cons rfl rfl rfl rfl Parts.nil) rfl (by omega)) (fun _ _ => (.sub (by repeat (first | exact List.Sublist.refl _ | apply List.Sublist.cons)))) ?_
            rintro b157 -
            refine d_t rfl rfl (.none rfl) (h_append rfl rfl rfl Try.underlying44 info50 rfl rfl (.there (.there (.there Sel.here))) rfl (.own Sel.here) rfl (all1 rfl) (all1 rfl) (by omega) (by omega)) ?_
            rintro ⟨A158, c158⟩ -
            refine d_t rfl rfl (.none rfl) (.of_q rfl rfl (q_assign rfl rfl)) ?_
            rintro - -
            refine d_nil ?_
            refine run_sub (subMk (.cons (s := 0) rfl (.cons (s := 1) rfl (.cons (s := 2) rfl (.cons (s := 6) rfl (.cons (s := 7) rfl (.cons (s := 8) rfl (.cons (s := 9) rfl (.cons (s := 12) rfl .nil)))))))) .refl) ?_
            refine run_blk ?_
            refine run_region ?_
            refine run_q (.none rfl) rfl rfl (q_move rfl rfl) ?_
            refine run_q (.none rfl) rfl rfl (q_add rfl rfl rfl (by omega)) ?_
            refine run_q (.none rfl) rfl rfl (q_assign rfl rfl) ?_
            refine run_nil ?_
            exact run_again (i + 1, A158, c158) (by (try dsimp only); exact ⟨by omega, plEs_next hEs h10⟩) (by (try dsimp only); omega) (subMk (.cons' (s := 12) rfl (vint (by omega)) (.cons' (s := 6) rfl (by rw [plMs_len, plMs_len]) (.cons (s := 0) rfl (.cons (s := 1) rfl (.cons (s := 2) rfl (.cons (s := 7) rfl (.cons (s := 8) rfl (.cons (s := 9) rfl .nil)))))))) (.cons (.there (.there Sel.here)) (.own rfl rfl rfl (by rw [pl_a hna]; simp only []; rw [plO_ok hlim, show (nth xs i).fst.toNat + k = (nth xs i).lst.toNat + 1 from by omega])) (.cons (.there (.there Sel.here)) (.own rfl rfl rfl (by rw [pl_a hna])) (.cons Sel.here (.own (m' := (plMs xs a b (i + 1)).length) (xs' := (plMs xs a b (i + 1)).map Mk.enc) rfl (by rw [plMs_len, plMs_len]) rfl (by rw [plMs_a hna, List.map_append, plV_ok hlim, hsd]; rfl)) .nil))))
    · have g44' := g44
      try simp only [decide_eq_true_eq, decide_eq_false_iff_not, beq_iff_eq, beq_eq_false_iff_ne, bne_iff_ne, bne_eq_false_iff_eq, Bool.not_eq_true', Bool.not_eq_false', ne_eq, Int.not_lt, Int.not_le, Decidable.not_not] at g44'
      refine run_exit rfl ?_
      refine run_sub (subMk (.cons (s := 6) rfl (.cons (s := 7) rfl (.cons (s := 8) rfl (.cons (s := 9) rfl .nil)))) .refl) ?_
      refine run_seq ?_
      refine run_region ?_
      refine run_q (.none rfl) rfl rfl (q_move rfl rfl) ?_
      refine run_q (.none rfl) rfl rfl (q_move rfl rfl) ?_
      refine run_q (.none rfl) rfl rfl (q_move rfl rfl) ?_
      refine run_q (.none rfl) rfl rfl (q_assign rfl rfl) ?_
      refine run_q (.none rfl) rfl rfl (q_assign rfl rfl) ?_
      refine run_q (.none rfl) rfl rfl (q_assign rfl rfl) ?_
      refine run_q (.none rfl) rfl rfl (q_assign rfl rfl) ?_
      refine run_nil ?_
      refine run_sub (subMk (.cons (s := 6) rfl (.cons (s := 7) rfl (.cons (s := 8) rfl (.cons (s := 9) rfl .nil)))) .refl) ?_
      refine run_ret ?_
      refine run_sub (subMk .refl (.cons (.there (.there Sel.here)) .refl (.cons Sel.here .refl (.cons Sel.here .refl .nil)))) ?_
      exact end4 rfl rfl rfl rfl rfl (by obtain rfl : i = xs.length := (by omega); exact ⟨O, co, A19, c19, A22, c22, by rw [e3], by rw [e1, e2, e3]⟩)

end Go.Proofs.YtgphmbipakdggaaR
