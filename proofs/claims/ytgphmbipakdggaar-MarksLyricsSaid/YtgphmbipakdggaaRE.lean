/- Marks placed on two skylines. -/
import Derived.Test.YtgphmbipakdggaaRD
import Derived.Test.YtgphmbipakdggaaRPlc
import Derived.Test.YtgphmbipakdggaaRKeep
set_option linter.unusedSimpArgs false
set_option linter.unusedVariables false
namespace Go.Proofs.YtgphmbipakdggaaR
open Go Go.RowKit Hr

theorem call14 : Hr.Callable Try.prog 14 := fun args w => by kernel_rfl
theorem agg105 : Hr.Agg Try.prog 105 2 := ⟨fun w => by simp [isAgg, run_underlying Try.underlying105], Hr.Sz.of (by kernel_rfl)⟩
theorem sz105 : Hr.Sz Try.prog 105 2 := Hr.Sz.of (by kernel_rfl)
theorem call38 : Hr.Callable Try.prog 38 := fun args w => by kernel_rfl
theorem call39 : Hr.Callable Try.prog 39 := fun args w => by kernel_rfl
theorem call40 : Hr.Callable Try.prog 40 := fun args w => by kernel_rfl
theorem call41 : Hr.Callable Try.prog 41 := fun args w => by kernel_rfl
theorem call42 : Hr.Callable Try.prog 42 := fun args w => by kernel_rfl
theorem call43 : Hr.Callable Try.prog 43 := fun args w => by kernel_rfl
theorem call44 : Hr.Callable Try.prog 44 := fun args w => by kernel_rfl

set_option maxRecDepth 100000 in
theorem checkAll_just (xs : List Req) (X : Option Addr) (cx : Nat) (n : Int) (W : World) (hx : Rd W X 13 (xs.map Req.enc)) (hxl : xs.length ≤ 1000000) : Calls Try.prog 40 #[.slice X xs.length cx, .int .i64 n] W (Hr.Just W (.int .i64 (reqsE n xs))) := by
  refine Just.of_ret ?_
  refine enterA (X := nX) (vs := [.slice X xs.length cx, .int .i64 n]) Try.func40 Try.ntmps40 rfl rfl Mem.nil ?_
  refine run_seq ?_
  refine run_region ?_
  refine run_q (.none rfl) rfl rfl (q_assign rfl rfl) ?_
  refine run_nil ?_
  refine run_seq ?_
  refine run_seq ?_
  refine run_region ?_
  refine run_q (.none rfl) rfl rfl (q_move rfl rfl) ?_
  refine run_q (.none rfl) rfl rfl (q_len rfl Try.underlying37 rfl) ?_
  refine run_q (.none rfl) rfl rfl (q_move rfl rfl) ?_
  refine run_nil ?_
  refine run_block ?_
  refine run_sub (subMk (.cons (s := 10) rfl (.cons (s := 1) rfl (.cons (s := 4) rfl (.cons (s := 8) rfl (.cons (s := 9) rfl .nil))))) .nil) ?_
  refine run_loopC1M0 (ι := Nat) (fun k => k ≤ xs.length ∧ reqsE n xs = reqsE n (xs.drop k)) (fun k => .int .i64 (k : Int))  (fun k => xs.length - k) 0 (by (try dsimp only); exact ⟨by omega, rfl⟩) rfl  ?_
  rintro k hq
  (try dsimp only at hq)
  obtain ⟨hk, hE⟩ := hq
  show Run _ _ _ _ _ _ _ ⟨(10, .int .i64 (k : Int)) :: _, _⟩
  refine run_seq ?_
  refine run_region ?_
  refine run_q (.none rfl) rfl rfl (q_lss rfl rfl rfl) ?_
  refine run_nil ?_
  refine run_seq ?_
  refine run_cond rfl (fun g11 => ?_) (fun g11 => ?_)
  · have g11' := g11
    try simp only [decide_eq_true_eq, decide_eq_false_iff_not, beq_iff_eq, beq_eq_false_iff_ne, bne_iff_ne, bne_eq_false_iff_eq, Bool.not_eq_true', Bool.not_eq_false', ne_eq, Int.not_lt, Int.not_le, Decidable.not_not] at g11'
    have hst := reqsE_step (n := n) (xs := xs) (i := k) (by omega)
    refine run_skip ?_
    refine run_seq ?_
    refine run_block ?_
    refine run_seq ?_
    refine run_region ?_
    refine run_q (.none rfl) rfl rfl (q_indexS (q := k) rfl Try.underlying37 sz25 rfl rfl (.inp hx .no) (by simp <;> omega) rfl (by omega)) ?_
    refine run_q (.none rfl) rfl rfl (q_loadE rfl agg25 rfl (.inp hx .no) (getmap (by omega)) rfl) ?_
    refine run_h (.none rfl) (h_alloc rfl rfl rfl info25) ?_
    rintro b6 -
    refine run_h (.none rfl) (h_storeB rfl rfl sz25 rfl rfl rfl rfl rfl Sel.here rfl) ?_
    rintro - -
    refine run_nil ?_
    refine run_sub (subMk (.cons (s := 1) rfl (.cons (s := 4) rfl (.cons (s := 6) rfl (.cons (s := 8) rfl (.cons (s := 9) rfl (.cons (s := 10) rfl .nil)))))) .refl) ?_
    refine run_seq ?_
    refine run_region ?_
    refine run_q (.none rfl) rfl rfl (q_loadBN rfl agg25 rfl Sel.here (.cons rfl (.cons rfl (.cons rfl (.cons rfl (.cons rfl (.cons rfl (.cons rfl (.cons rfl (.cons rfl (.cons rfl (.cons rfl (.cons rfl (.cons rfl CellsAt.nil))))))))))))) rfl) ?_
    refine run_q (.none rfl) rfl rfl (q_move rfl rfl) ?_
    refine run_q (.none rfl) rfl rfl (q_call rfl call14 (.cons rfl (.cons rfl Evs.nil)) (fun w hk hm => check_just (nth xs k) n w)) ?_
    refine run_q (.none rfl) rfl rfl (q_assign rfl rfl) ?_
    refine run_nil ?_
    refine run_sub (subMk (.cons (s := 1) rfl (.cons (s := 4) rfl (.cons (s := 7) rfl (.cons (s := 8) rfl (.cons (s := 9) rfl (.cons (s := 10) rfl .nil)))))) .refl) ?_
    refine run_seq ?_
    refine run_region ?_
    refine run_q (.none rfl) rfl rfl (q_move rfl rfl) ?_
    refine run_q (.none rfl) rfl rfl (q_neq rfl rfl rfl) ?_
    refine run_nil ?_
    refine run_cond rfl (fun g18 => ?_) (fun g18 => ?_)
    · have g18' := g18
      try simp only [decide_eq_true_eq, decide_eq_false_iff_not, beq_iff_eq, beq_eq_false_iff_ne, bne_iff_ne, bne_eq_false_iff_eq, Bool.not_eq_true', Bool.not_eq_false', ne_eq, Int.not_lt, Int.not_le, Decidable.not_not] at g18'
      refine run_seq ?_
      refine run_region ?_
      refine run_q (.none rfl) rfl rfl (q_move rfl rfl) ?_
      refine run_q (.none rfl) rfl rfl (q_assign rfl rfl) ?_
      refine run_nil ?_
      refine run_sub (subMk (.cons (s := 1) rfl (.cons (s := 4) rfl (.cons (s := 8) rfl (.cons (s := 9) rfl (.cons (s := 10) rfl .nil))))) .refl) ?_
      refine run_ret ?_
      exact end1 rfl rfl (by rw [hE, hst, if_neg (by simpa using g18)])
    · have g18' := g18
      try simp only [decide_eq_true_eq, decide_eq_false_iff_not, beq_iff_eq, beq_eq_false_iff_ne, bne_iff_ne, bne_eq_false_iff_eq, Bool.not_eq_true', Bool.not_eq_false', ne_eq, Int.not_lt, Int.not_le, Decidable.not_not] at g18'
      have h0 : reqE (nth xs k) n = 0 := by simpa using g18
      refine run_skip ?_
      refine run_blk ?_
      refine run_region ?_
      refine run_q (.none rfl) rfl rfl (q_add rfl rfl rfl (by omega)) ?_
      refine run_q (.none rfl) rfl rfl (q_move rfl rfl) ?_
      refine run_nil ?_
      refine run_sub (subMk (.cons (s := 1) rfl (.cons (s := 4) rfl (.cons (s := 8) rfl (.cons (s := 9) rfl (.cons (s := 10) rfl .nil))))) .refl) ?_
      exact run_again (k + 1) (by (try dsimp only); exact ⟨by omega, by rw [hE, hst, if_pos h0]⟩) (by (try dsimp only); omega) (subMk (.cons' (s := 10) rfl (vint (by omega)) (.cons (s := 1) rfl (.cons (s := 4) rfl (.cons (s := 8) rfl (.cons (s := 9) rfl .nil))))) .nil)
  · have g11' := g11
    try simp only [decide_eq_true_eq, decide_eq_false_iff_not, beq_iff_eq, beq_eq_false_iff_ne, bne_iff_ne, bne_eq_false_iff_eq, Bool.not_eq_true', Bool.not_eq_false', ne_eq, Int.not_lt, Int.not_le, Decidable.not_not] at g11'
    refine run_exit rfl ?_
    refine run_sub (subMk (.cons (s := 4) rfl .nil) .refl) ?_
    refine run_seq ?_
    refine run_region ?_
    refine run_q (.none rfl) rfl rfl (q_assign rfl rfl) ?_
    refine run_nil ?_
    refine run_ret ?_
    exact end1 rfl rfl (by rw [hE, List.drop_eq_nil_of_le (by omega)]; rfl)

set_option maxRecDepth 100000 in
theorem restore_ret (p q : Nat) (u0 u1 : Value) (t : Int) (B : Option Addr) (n d : Nat) (W : World) (hm : Mem (atAny [.blk p 105 [(0, u0), (1, u1)], .blk q 105 [(0, .int .i64 t), (1, .slice B n d)]]) W [.blk p 105 [(0, u0), (1, u1)], .blk q 105 [(0, .int .i64 t), (1, .slice B n d)]] W) : Calls Try.prog 44 #[.pointer (some ⟨p, 0, none⟩), .pointer (some ⟨q, 0, none⟩)] W (Ret W (atAny [.blk p 105 [(0, u0), (1, u1)], .blk q 105 [(0, .int .i64 t), (1, .slice B n d)]]) (fun v m => v = .tuple #[] ∧ m = [.blk p 105 [(0, .int .i64 t), (1, .slice B n d)], .blk q 105 [(0, .int .i64 t), (1, .slice B n d)]])) := by
  refine enterA (X := _) (vs := [.pointer (some ⟨p, 0, none⟩), .pointer (some ⟨q, 0, none⟩)]) Try.func44 Try.ntmps44 rfl rfl hm ?_
  refine run_region ?_
  refine run_q (.none rfl) rfl rfl (q_move rfl rfl) ?_
  refine run_q (.none rfl) rfl rfl (q_move rfl rfl) ?_
  refine run_q (.none rfl) rfl rfl (q_nilCheck rfl rfl) ?_
  refine run_q (.none rfl) rfl rfl (q_loadBN rfl agg105 rfl (.there Sel.here) (.cons rfl (.cons rfl CellsAt.nil)) rfl) ?_
  refine run_q (.none rfl) rfl rfl (q_nilCheck rfl rfl) ?_
  refine run_h (.none rfl) (h_storeB rfl rfl sz105 rfl rfl rfl rfl rfl Sel.here rfl) ?_
  rintro - -
  refine run_nil ?_
  refine run_sub (subMk .nil .refl) ?_
  refine run_sub (subMk .refl (.cons Sel.here (.blk (.cons (s := 0) rfl (.cons (s := 1) rfl (.nil)))) (.cons Sel.here .refl .nil))) ?_
  exact end0 rfl ⟨rfl, rfl⟩

set_option maxHeartbeats 2000000 in
set_option maxRecDepth 100000 in
theorem Place_ret (xs : List Req) (X : Option Addr) (cx : Nat) (a b : List Int) (pa pb : Nat) (A B : Option Addr) (ca cb : Nat) (W : World) (hm : Mem (atAny [.blk pa 105 [(0, .int .i64 1), (1, .slice A a.length ca)], .own 3 1 A a.length ca ((a).map encI), .blk pb 105 [(0, .int .i64 (-1)), (1, .slice B b.length cb)], .own 3 1 B b.length cb ((b).map encI)]) W [.blk pa 105 [(0, .int .i64 1), (1, .slice A a.length ca)], .own 3 1 A a.length ca ((a).map encI), .blk pb 105 [(0, .int .i64 (-1)), (1, .slice B b.length cb)], .own 3 1 B b.length cb ((b).map encI)] W) (hx : ∀ w, Kept (atAny [.blk pa 105 [(0, .int .i64 1), (1, .slice A a.length ca)], .own 3 1 A a.length ca ((a).map encI), .blk pb 105 [(0, .int .i64 (-1)), (1, .slice B b.length cb)], .own 3 1 B b.length cb ((b).map encI)]) W w → Rd w X 13 (xs.map Req.enc)) (hxl : xs.length ≤ 1000000) (hab : a.length = b.length) (hl6 : a.length ≤ 65536) (hca : a.length ≤ ca) (hcb : b.length ≤ cb) (hba : Bd a) (hbb : Bd b) : Calls Try.prog 19 #[.slice X xs.length cx, .pointer (some ⟨pa, 0, none⟩), .pointer (some ⟨pb, 0, none⟩)] W (Ret W (atAny [.blk pa 105 [(0, .int .i64 1), (1, .slice A a.length ca)], .own 3 1 A a.length ca ((a).map encI), .blk pb 105 [(0, .int .i64 (-1)), (1, .slice B b.length cb)], .own 3 1 B b.length cb ((b).map encI)]) (fun v m => ∃ A' ca' B' cb' O co, v = .tuple #[.slice O (placeM xs a b).length co, .int .i64 (placeE xs a b)] ∧ a.length ≤ ca' ∧ b.length ≤ cb' ∧ m = [.blk pa 105 [(0, .int .i64 1), (1, .slice A' a.length ca')], .own 3 1 A' a.length ca' (((placeA xs a b)).map encI), .blk pb 105 [(0, .int .i64 (-1)), (1, .slice B' b.length cb')], .own 3 1 B' b.length cb' (((placeB xs a b)).map encI), .own 50 12 O (placeM xs a b).length co ((placeM xs a b).map Mk.enc)])) := by
  refine enterA (X := _) (vs := [.slice X xs.length cx, .pointer (some ⟨pa, 0, none⟩), .pointer (some ⟨pb, 0, none⟩)]) Try.func19 Try.ntmps19 rfl rfl hm ?_
  refine run_seq ?_
  refine run_region ?_
  refine run_q (.none rfl) rfl rfl (q_assign rfl rfl) ?_
  refine run_q (.none rfl) rfl rfl (q_assign rfl rfl) ?_
  refine run_nil ?_
  refine run_seq ?_
  refine run_block ?_
  refine run_seq ?_
  refine run_region ?_
  refine run_q (.none rfl) rfl rfl (q_move rfl rfl) ?_
  refine run_q (.none rfl) rfl rfl (q_eqlPtr rfl rfl rfl Try.underlying41) ?_
  refine run_q (.none rfl) rfl rfl (q_move rfl rfl) ?_
  refine run_q (.on rfl rfl rfl rfl) rfl rfl (q_move rfl rfl) ?_
  refine run_q (.on rfl rfl rfl rfl) rfl rfl (q_eqlPtr rfl rfl rfl Try.underlying41) ?_
  refine run_q (.none rfl) rfl rfl (q_pickF rfl rfl rfl rfl) ?_
  refine run_q (.none rfl) rfl rfl (q_assign rfl rfl) ?_
  refine run_nil ?_
  refine run_sub (subMk (.cons (s := 0) rfl (.cons (s := 1) rfl (.cons (s := 2) rfl (.cons (s := 6) rfl (.cons (s := 7) rfl (.cons (s := 17) rfl .nil)))))) .refl) ?_
  refine run_condF rfl rfl ?_
  refine run_seq ?_
  refine run_region ?_
  refine run_q (.none rfl) rfl rfl (q_move rfl rfl) ?_
  refine run_q (.none rfl) rfl rfl (q_call rfl call38 (.cons rfl Evs.nil) (fun w hk hm => side_just a pa A ca 1 _ w rfl (rd_sky (Sel.here.holds hm)))) ?_
  refine run_q (.none rfl) rfl rfl (q_neq rfl rfl rfl) ?_
  refine run_q (.none rfl) rfl rfl (q_move rfl rfl) ?_
  refine run_q (.on rfl rfl rfl rfl) rfl rfl (q_move rfl rfl) ?_
  refine run_q (.on rfl rfl rfl rfl) rfl rfl (q_call rfl call38 (.cons rfl Evs.nil) (fun w hk hm => side_just b pb B cb (-1) _ w rfl (rd_sky ((Sel.there (Sel.there Sel.here)).holds hm)))) ?_
  refine run_q (.on rfl rfl rfl rfl) rfl rfl (q_neq rfl rfl rfl) ?_
  refine run_q (.none rfl) rfl rfl (q_pickF rfl rfl rfl rfl) ?_
  refine run_q (.none rfl) rfl rfl (q_assign rfl rfl) ?_
  refine run_nil ?_
  refine run_sub (subMk (.cons (s := 0) rfl (.cons (s := 1) rfl (.cons (s := 2) rfl (.cons (s := 6) rfl (.cons (s := 7) rfl (.cons (s := 24) rfl .nil)))))) .refl) ?_
  refine run_condF rfl rfl ?_
  refine run_seq ?_
  refine run_region ?_
  refine run_q (.none rfl) rfl rfl (q_move rfl rfl) ?_
  refine run_q (.none rfl) rfl rfl (q_call rfl call39 (.cons rfl Evs.nil) (fun w hk hm => cols_just a pa A ca 1 _ w rfl (rd_sky (Sel.here.holds hm)))) ?_
  refine run_q (.none rfl) rfl rfl (q_move rfl rfl) ?_
  refine run_q (.none rfl) rfl rfl (q_call rfl call39 (.cons rfl Evs.nil) (fun w hk hm => cols_just b pb B cb (-1) _ w rfl (rd_sky ((Sel.there (Sel.there Sel.here)).holds hm)))) ?_
  refine run_q (.none rfl) rfl rfl (q_neq rfl rfl rfl) ?_
  refine run_q (.none rfl) rfl rfl (q_assign rfl rfl) ?_
  refine run_nil ?_
  refine run_sub (subMk (.cons (s := 0) rfl (.cons (s := 1) rfl (.cons (s := 2) rfl (.cons (s := 6) rfl (.cons (s := 7) rfl (.cons (s := 33) rfl .nil)))))) .refl) ?_
  refine run_condF rfl (by simp [hab]) ?_
  refine run_skip ?_
  refine run_blk ?_
  refine run_seq ?_
  refine run_seq ?_
  refine run_region ?_
  refine run_q (.none rfl) rfl rfl (q_move rfl rfl) ?_
  refine run_q (.none rfl) rfl rfl (q_move rfl rfl) ?_
  refine run_q (.none rfl) rfl rfl (q_call rfl call39 (.cons rfl Evs.nil) (fun w hk hm => cols_just a pa A ca 1 _ w rfl (rd_sky (Sel.here.holds hm)))) ?_
  refine run_q (.none rfl) rfl rfl (q_call rfl call40 (.cons rfl (.cons rfl Evs.nil)) (fun w hk hm => checkAll_just xs X cx (a.length : Int) w (hx _ hk) hxl)) ?_
  refine run_q (.none rfl) rfl rfl (q_assign rfl rfl) ?_
  refine run_nil ?_
  refine run_sub (subMk (.cons (s := 0) rfl (.cons (s := 1) rfl (.cons (s := 2) rfl (.cons (s := 6) rfl (.cons (s := 7) rfl (.cons (s := 8) rfl .nil)))))) .refl) ?_
  refine run_seq ?_
  refine run_region ?_
  refine run_q (.none rfl) rfl rfl (q_move rfl rfl) ?_
  refine run_q (.none rfl) rfl rfl (q_neq rfl rfl rfl) ?_
  refine run_nil ?_
  refine run_cond rfl (fun g44 => ?_) (fun g44 => ?_)
  · have g44' := g44
    try simp only [decide_eq_true_eq, decide_eq_false_iff_not, beq_iff_eq, beq_eq_false_iff_ne, bne_iff_ne, bne_eq_false_iff_eq, Bool.not_eq_true', Bool.not_eq_false', ne_eq, Int.not_lt, Int.not_le, Decidable.not_not] at g44'
    refine run_seq ?_
    refine run_region ?_
    refine run_q (.none rfl) rfl rfl (q_move rfl rfl) ?_
    refine run_q (.none rfl) rfl rfl (q_assign rfl rfl) ?_
    refine run_q (.none rfl) rfl rfl (q_assign rfl rfl) ?_
    refine run_nil ?_
    refine run_sub (subMk (.cons (s := 0) rfl (.cons (s := 1) rfl (.cons (s := 2) rfl (.cons (s := 6) rfl (.cons (s := 7) rfl .nil))))) .refl) ?_
    refine run_ret ?_
    refine run_sub (subMk .refl (MemSub.nilOwn 50 12)) ?_
    refine run_sub (subMk .refl (.cons (.there Sel.here) (.blk (.cons (s := 0) rfl (.cons (s := 1) rfl (.nil)))) (.cons (.there Sel.here) .refl (.cons (.there Sel.here) (.blk (.cons (s := 0) rfl (.cons (s := 1) rfl (.nil)))) (.cons (.there Sel.here) .refl (.cons Sel.here .refl .nil)))))) ?_
    exact end2 rfl rfl rfl (by have hE := placeE_1 (a := a) (b := b) (xs := xs) (by simpa using g44); obtain ⟨e1, e2, e3⟩ := place_err (xs := xs) (a := a) (b := b) (by rw [hE]; simpa using g44); exact ⟨A, ca, B, cb, none, 0, by rw [e3, hE]; rfl, hca, hcb, by rw [e1, e2, e3]; rfl⟩)
  · have g44' := g44
    try simp only [decide_eq_true_eq, decide_eq_false_iff_not, beq_iff_eq, beq_eq_false_iff_ne, bne_iff_ne, bne_eq_false_iff_eq, Bool.not_eq_true', Bool.not_eq_false', ne_eq, Int.not_lt, Int.not_le, Decidable.not_not] at g44'
    have hq0 : reqsE a.length xs = 0 := by simpa using g44
    refine run_skip ?_
    refine run_seq ?_
    refine run_region ?_
    refine run_q (.none rfl) rfl rfl (q_move rfl rfl) ?_
    refine run_h (.none rfl) (h_call rfl rfl rfl call41 (.cons rfl Evs.nil) (fun w hk hm => cloneS_ret a pa A ca 1 _ w rfl (rd_sky (Sel.here.holds hm)) (own_rd ((Sel.there Sel.here).holds hm)) hl6)) ?_
    rintro ⟨v, m⟩ ⟨qa, A2, ca2, rfl, hda, rfl⟩
    show Run _ _ _ _ _ _ _ ⟨(47, .pointer (some ⟨qa, 0, none⟩)) :: _, _ :: _ :: _⟩
    refine run_q (.none rfl) rfl rfl (q_move rfl rfl) ?_
    refine run_h (.none rfl) (h_call rfl rfl rfl call41 (.cons rfl Evs.nil) (fun w hk hm => cloneS_ret b pb B cb (-1) _ w rfl (rd_sky ((Sel.there (Sel.there (Sel.there (Sel.there Sel.here)))).holds hm)) (own_rd ((Sel.there (Sel.there (Sel.there (Sel.there (Sel.there Sel.here))))).holds hm)) (by omega))) ?_
    rintro ⟨v, m⟩ ⟨qb, B2, cb2, rfl, hdb, rfl⟩
    show Run _ _ _ _ _ _ _ ⟨(49, .pointer (some ⟨qb, 0, none⟩)) :: _, _ :: _ :: _⟩
    refine run_q (.none rfl) rfl rfl (q_assign rfl rfl) ?_
    refine run_q (.none rfl) rfl rfl (q_assign rfl rfl) ?_
    refine run_nil ?_
    refine run_sub (subMk (.cons (s := 0) rfl (.cons (s := 1) rfl (.cons (s := 2) rfl (.cons (s := 6) rfl (.cons (s := 7) rfl (.cons (s := 9) rfl (.cons (s := 10) rfl .nil))))))) .refl) ?_
    refine run_seq ?_
    refine run_region ?_
    refine run_q (.none rfl) rfl rfl (q_assign rfl rfl) ?_
    refine run_nil ?_
    refine run_seq ?_
    refine run_seq ?_
    refine run_region ?_
    refine run_q (.none rfl) rfl rfl (q_move rfl rfl) ?_
    refine run_q (.none rfl) rfl rfl (q_len rfl Try.underlying37 rfl) ?_
    refine run_q (.none rfl) rfl rfl (q_move rfl rfl) ?_
    refine run_nil ?_
    refine run_block ?_
    refine run_sub (subMk .refl (MemSub.nilOwn 50 12)) ?_
    refine run_sub (subMk (.cons (s := 52) rfl (.cons (s := 11) rfl (.cons (s := 1) rfl (.cons (s := 2) rfl (.cons (s := 6) rfl (.cons (s := 7) rfl (.cons (s := 9) rfl (.cons (s := 10) rfl (.cons (s := 50) rfl (.cons (s := 51) rfl .nil)))))))))) (.cons (.there (.there (.there (.there Sel.here)))) .refl (.cons (.there (.there Sel.here)) .refl (.cons Sel.here .refl (.cons Sel.here .refl (.cons Sel.here .refl (.cons Sel.here .refl (.cons Sel.here .refl (.cons Sel.here .refl (.cons Sel.here .refl .nil)))))))))) ?_
    refine run_loopC2M3 (ι := Nat × (Option Addr) × Nat) (fun gg => gg.1 ≤ xs.length ∧ plEs xs a b gg.1 = 0) (fun gg => .int .i64 (gg.1 : Int)) (fun gg => .slice gg.2.1 (plMs xs a b gg.1).length gg.2.2) (fun gg => .own 3 1 A2 a.length ca2 ((pl xs a b gg.1).1.map encI)) (fun gg => .own 3 1 B2 b.length cb2 ((pl xs a b gg.1).2.map encI)) (fun gg => .own 50 12 gg.2.1 (plMs xs a b gg.1).length gg.2.2 ((plMs xs a b gg.1).map Mk.enc)) (fun gg => xs.length - gg.1) (0, none, 0) (by (try dsimp only); exact ⟨by omega, rfl⟩) rfl rfl (.own rfl rfl rfl rfl) (.own rfl rfl rfl rfl) (.own rfl rfl rfl rfl) ?_
    rintro ⟨i, O, co⟩ hq
    (try dsimp only at hq)
    obtain ⟨hi, hEs⟩ := hq
    show Run _ _ _ _ _ _ _ ⟨(52, .int .i64 (i : Int)) :: (11, .slice O (plMs xs a b i).length co) :: _, .own 3 1 A2 a.length ca2 ((pl xs a b i).1.map encI) :: .own 3 1 B2 b.length cb2 ((pl xs a b i).2.map encI) :: .own 50 12 O (plMs xs a b i).length co ((plMs xs a b i).map Mk.enc) :: _⟩
    refine run_seq ?_
    refine run_region ?_
    refine run_q (.none rfl) rfl rfl (q_lss rfl rfl rfl) ?_
    refine run_nil ?_
    refine run_seq ?_
    refine run_cond rfl (fun g53 => ?_) (fun g53 => ?_)
    · have g53' := g53
      try simp only [decide_eq_true_eq, decide_eq_false_iff_not, beq_iff_eq, beq_eq_false_iff_ne, bne_iff_ne, bne_eq_false_iff_eq, Bool.not_eq_true', Bool.not_eq_false', ne_eq, Int.not_lt, Int.not_le, Decidable.not_not] at g53'
      have hq := reqE_ok (reqsE_ok hq0 (show i < xs.length by omega))
      have hln := pl_len (xs := xs) (a := a) (b := b) (i := i)
      have hml := plMs_len (xs := xs) (a := a) (b := b) (i := i)
      have hbd := pl_bd (xs := xs) hba hbb (i := i)
      refine run_skip ?_
      refine run_seq ?_
      refine run_block ?_
      refine run_seq ?_
      refine run_region ?_
      refine run_q (.none rfl) rfl rfl (q_indexS (q := i) rfl Try.underlying37 sz25 rfl rfl (fun _ hk _ => hx _ hk) (by simp <;> omega) rfl (by omega)) ?_
      refine run_q (.none rfl) rfl rfl (q_loadE rfl agg25 rfl (fun _ hk _ => hx _ hk) (getmap (by omega)) rfl) ?_
      refine run_h (.none rfl) (h_alloc rfl rfl rfl info25) ?_
      rintro b13 -
      refine run_h (.none rfl) (h_storeB rfl rfl sz25 rfl rfl rfl rfl rfl Sel.here rfl) ?_
      rintro - -
      refine run_nil ?_
      refine run_sub (subMk (.cons (s := 1) rfl (.cons (s := 2) rfl (.cons (s := 6) rfl (.cons (s := 7) rfl (.cons (s := 9) rfl (.cons (s := 10) rfl (.cons (s := 11) rfl (.cons (s := 13) rfl (.cons (s := 50) rfl (.cons (s := 51) rfl (.cons (s := 52) rfl .nil))))))))))) .refl) ?_
      refine run_seq ?_
      refine run_region ?_
      refine run_q (.none rfl) rfl rfl (q_move rfl rfl) ?_
      refine run_q (.none rfl) rfl rfl (q_assign rfl rfl) ?_
      refine run_nil ?_
      refine run_seq ?_
      refine run_seq ?_
      refine run_region ?_
      refine run_q (.none rfl) rfl rfl (q_fieldB (d := 5) rfl Try.underlying25 rfl rfl sz3 rfl) ?_
      refine run_q (.none rfl) rfl rfl (q_loadB rfl one3 rfl Sel.here rfl) ?_
      refine run_q (.none rfl) rfl rfl (q_eql rfl rfl rfl) ?_
      refine run_nil ?_
      refine run_sub (subMk (.cons (s := 1) rfl (.cons (s := 2) rfl (.cons (s := 6) rfl (.cons (s := 7) rfl (.cons (s := 9) rfl (.cons (s := 10) rfl (.cons (s := 11) rfl (.cons (s := 13) rfl (.cons (s := 14) rfl (.cons (s := 50) rfl (.cons (s := 51) rfl (.cons (s := 52) rfl (.cons (s := 59) rfl .nil))))))))))))) .refl) ?_
      refine run_cond rfl (fun g59 => ?_) (fun g59 => ?_)
      · have g59' := g59
        try simp only [decide_eq_true_eq, decide_eq_false_iff_not, beq_iff_eq, beq_eq_false_iff_ne, bne_iff_ne, bne_eq_false_iff_eq, Bool.not_eq_true', Bool.not_eq_false', ne_eq, Int.not_lt, Int.not_le, Decidable.not_not] at g59'
        refine run_region ?_
        refine run_q (.none rfl) rfl rfl (q_move rfl rfl) ?_
        refine run_q (.none rfl) rfl rfl (q_assign rfl rfl) ?_
        refine run_nil ?_
        refine run_seq ?_
        refine run_region ?_
        refine run_q (.none rfl) rfl rfl (q_move rfl rfl) ?_
        refine run_q (.none rfl) rfl rfl (q_fieldB (d := 3) rfl Try.underlying25 rfl rfl sz3 rfl) ?_
        refine run_q (.none rfl) rfl rfl (q_loadB rfl one3 rfl Sel.here rfl) ?_
        refine run_q (.none rfl) rfl rfl (q_fieldB (d := 4) rfl Try.underlying25 rfl rfl sz3 rfl) ?_
        refine run_q (.none rfl) rfl rfl (q_loadB rfl one3 rfl Sel.here rfl) ?_
        refine run_q (.none rfl) rfl rfl (q_fieldB (d := 6) rfl Try.underlying25 rfl rfl sz3 rfl) ?_
        refine run_q (.none rfl) rfl rfl (q_loadB rfl one3 rfl Sel.here rfl) ?_
        refine run_q (.none rfl) rfl rfl (q_fieldB (d := 12) rfl Try.underlying25 rfl rfl sz3 rfl) ?_
        refine run_q (.none rfl) rfl rfl (q_loadB rfl one3 rfl Sel.here rfl) ?_
        refine run_h (.none rfl) (h_callX [_, _] _ rfl rfl rfl call42 (.cons rfl (.cons rfl (.cons rfl (.cons rfl (.cons rfl (.cons rfl Evs.nil)))))) ((Sel.perm (.there (.there (.there (.there Sel.here))))).trans (.cons _ (Sel.perm (.there (.there Sel.here))))) (Y := fun _ => atAny [_, _]) (fun _ _ h => h) (fun w hk hm => placeS_ret (pl xs a b i).2 qb B2 cb2 (-1) _ (nth xs i).fst (nth xs i).lst (nth xs i).near (nth xs i).hgt w hln.2 ((hm.perm ((Sel.perm (.there (.there (.there (.there Sel.here))))).trans (.cons _ (Sel.perm (.there (.there Sel.here)))))).give (rs := [_, _])) ⟨hq.2.2.2.2.2.1, hq.2.2.2.2.2.2.1, by rw [hln.2]; omega⟩ (by omega) (by omega) hbd.2 (.inr rfl) ⟨by omega, by omega⟩ ⟨by omega, by omega⟩)) ?_
        rintro ⟨v, m⟩ ⟨rfl, rfl⟩
        show Run _ _ _ _ _ _ _ ⟨(71, .tuple #[.int .i64 (plV (-1) (pl xs a b i).2 (nth xs i).fst.toNat (nth xs i).lst.toNat (nth xs i).near (nth xs i).hgt), .int .i64 (plE (-1) (pl xs a b i).2 (nth xs i).fst.toNat (nth xs i).lst.toNat (nth xs i).near (nth xs i).hgt)]) :: _, _ :: _ :: _⟩
        refine run_q (.none rfl) rfl rfl (q_move rfl rfl) ?_
        refine run_q (.none rfl) rfl rfl (q_extract rfl rfl rfl) ?_
        refine run_q (.none rfl) rfl rfl (q_extract rfl rfl rfl) ?_
        refine run_q (.none rfl) rfl rfl (q_assign rfl rfl) ?_
        refine run_q (.none rfl) rfl rfl (q_assign rfl rfl) ?_
        refine run_nil ?_
        refine run_sub (subMk (.cons (s := 1) rfl (.cons (s := 2) rfl (.cons (s := 6) rfl (.cons (s := 7) rfl (.cons (s := 9) rfl (.cons (s := 10) rfl (.cons (s := 11) rfl (.cons (s := 13) rfl (.cons (s := 15) rfl (.cons (s := 16) rfl (.cons (s := 50) rfl (.cons (s := 51) rfl (.cons (s := 52) rfl .nil))))))))))))) .refl) ?_
        refine run_seq ?_
        refine run_seq ?_
        refine run_region ?_
        refine run_q (.none rfl) rfl rfl (q_move rfl rfl) ?_
        refine run_q (.none rfl) rfl rfl (q_neq rfl rfl rfl) ?_
        refine run_nil ?_
        refine run_cond rfl (fun g75 => ?_) (fun g75 => ?_)
        · have g75' := g75
          try simp only [decide_eq_true_eq, decide_eq_false_iff_not, beq_iff_eq, beq_eq_false_iff_ne, bne_iff_ne, bne_eq_false_iff_eq, Bool.not_eq_true', Bool.not_eq_false', ne_eq, Int.not_lt, Int.not_le, Decidable.not_not] at g75'
          refine run_seq ?_
          have h75 : plE1 xs a b i ≠ 0 := by rw [plE1_b g59']; simpa using g75
          refine run_region ?_
          refine run_q (.none rfl) rfl rfl (q_move rfl rfl) ?_
          refine run_q (.none rfl) rfl rfl (q_assign rfl rfl) ?_
          refine run_q (.none rfl) rfl rfl (q_assign rfl rfl) ?_
          refine run_nil ?_
          refine run_sub (subMk (.cons (s := 1) rfl (.cons (s := 2) rfl (.cons (s := 6) rfl (.cons (s := 7) rfl (.cons (s := 9) rfl (.cons (s := 10) rfl (.cons (s := 11) rfl (.cons (s := 13) rfl (.cons (s := 15) rfl (.cons (s := 50) rfl (.cons (s := 51) rfl (.cons (s := 52) rfl .nil)))))))))))) .refl) ?_
          refine run_ret ?_
          refine run_sub (subMk .refl (MemSub.nilOwn 50 12)) ?_
          refine run_sub (subMk .refl (.cons (.there (.there (.there (.there (.there (.there (.there Sel.here))))))) (.blk (.cons (s := 0) rfl (.cons (s := 1) rfl (.nil)))) (.cons (.there (.there (.there (.there (.there (.there (.there Sel.here))))))) .refl (.cons (.there (.there (.there (.there (.there (.there (.there Sel.here))))))) (.blk (.cons (s := 0) rfl (.cons (s := 1) rfl (.nil)))) (.cons (.there (.there (.there (.there (.there (.there (.there Sel.here))))))) .refl (.cons Sel.here .refl .nil)))))) ?_
          exact end2 rfl rfl rfl (by have hE := placeE_2 (a := a) (b := b) (xs := xs) hq0; rw [plEs_stay hEs h75 (by omega : i < xs.length)] at hE; obtain ⟨e1, e2, e3⟩ := place_err (xs := xs) (a := a) (b := b) (by rw [hE]; exact h75); exact ⟨A, ca, B, cb, none, 0, by rw [e3, hE, plE1_b g59']; rfl, hca, hcb, by rw [e1, e2, e3]; rfl⟩)
        · have g75' := g75
          try simp only [decide_eq_true_eq, decide_eq_false_iff_not, beq_iff_eq, beq_eq_false_iff_ne, bne_iff_ne, bne_eq_false_iff_eq, Bool.not_eq_true', Bool.not_eq_false', ne_eq, Int.not_lt, Int.not_le, Decidable.not_not] at g75'
          refine run_skip ?_
          refine run_region ?_
          refine run_q (.none rfl) rfl rfl (q_move rfl rfl) ?_
          refine run_q (.none rfl) rfl rfl (q_loadBN rfl agg25 rfl (.there (.there Sel.here)) (.cons rfl (.cons rfl (.cons rfl (.cons rfl (.cons rfl (.cons rfl (.cons rfl (.cons rfl (.cons rfl (.cons rfl (.cons rfl (.cons rfl (.cons rfl CellsAt.nil))))))))))))) rfl) ?_
          refine run_q (.none rfl) rfl rfl (q_move rfl rfl) ?_
          refine run_q (.none rfl) rfl rfl (q_call rfl call43 (.cons rfl (.cons rfl Evs.nil)) (fun w hk hm => mark_just (nth xs i) _ w ⟨by omega, by omega⟩ ⟨by omega, by omega⟩ (plV_bd (.inr rfl) hbd.2 (show (nth xs i).fst.toNat ≤ (nth xs i).lst.toNat by omega) (by rw [hln.2]; omega) ⟨by omega, by omega⟩))) ?_
          refine run_h (.none rfl) (h_buildSlice rfl rfl rfl Try.underlying44 info50 (.cons rfl rfl rfl rfl Parts.nil) rfl (by omega)) ?_
          rintro b81 -
          refine run_h (.none rfl) (h_append rfl rfl rfl Try.underlying44 info50 rfl rfl (.there (.there (.there (.there (.there Sel.here))))) rfl (.own Sel.here) rfl (all1 rfl) (all1 rfl) (by omega) (by omega)) ?_
          rintro ⟨A82, c82⟩ -
          refine run_q (.none rfl) rfl rfl (q_assign rfl rfl) ?_
          refine run_nil ?_
          refine run_sub (subMk (.cons (s := 1) rfl (.cons (s := 2) rfl (.cons (s := 6) rfl (.cons (s := 7) rfl (.cons (s := 9) rfl (.cons (s := 10) rfl (.cons (s := 11) rfl (.cons (s := 50) rfl (.cons (s := 51) rfl (.cons (s := 52) rfl .nil)))))))))) .refl) ?_
          refine run_blk ?_
          refine run_region ?_
          refine run_q (.none rfl) rfl rfl (q_add rfl rfl rfl (by omega)) ?_
          refine run_q (.none rfl) rfl rfl (q_move rfl rfl) ?_
          refine run_nil ?_
          exact run_again (i + 1, A82, c82) (by (try dsimp only); exact ⟨by omega, plEs_next hEs (by rw [plE1_b g59']; simpa using g75)⟩) (by (try dsimp only); omega) (subMk (.cons' (s := 52) rfl (vint (by omega)) (.cons' (s := 11) rfl (by rw [plMs_len, plMs_len]) (.cons (s := 1) rfl (.cons (s := 2) rfl (.cons (s := 6) rfl (.cons (s := 7) rfl (.cons (s := 9) rfl (.cons (s := 10) rfl (.cons (s := 50) rfl (.cons (s := 51) rfl .nil)))))))))) (.cons (.there (.there (.there (.there (.there Sel.here))))) (.own rfl rfl rfl (by rw [pl_b g59'])) (.cons (.there (.there (.there Sel.here))) (.own rfl rfl rfl (by rw [pl_b g59'])) (.cons Sel.here (.own (m' := (plMs xs a b (i + 1)).length) (xs' := (plMs xs a b (i + 1)).map Mk.enc) rfl (by rw [plMs_len, plMs_len]) rfl (by rw [plMs_b g59', List.map_append]; rfl)) (.cons (.there Sel.here) .refl (.cons (.there (.there Sel.here)) .refl (.cons (.there (.there Sel.here)) .refl (.cons (.there (.there Sel.here)) .refl (.cons (.there (.there Sel.here)) .refl (.cons (.there (.there Sel.here)) .refl .nil))))))))))
      · have g59' := g59
        try simp only [decide_eq_true_eq, decide_eq_false_iff_not, beq_iff_eq, beq_eq_false_iff_ne, bne_iff_ne, bne_eq_false_iff_eq, Bool.not_eq_true', Bool.not_eq_false', ne_eq, Int.not_lt, Int.not_le, Decidable.not_not] at g59'
        refine run_skip ?_
        refine run_seq ?_
        have hs1 : (nth xs i).side = 1 := by omega
        refine run_region ?_
        refine run_q (.none rfl) rfl rfl (q_move rfl rfl) ?_
        refine run_q (.none rfl) rfl rfl (q_fieldB (d := 3) rfl Try.underlying25 rfl rfl sz3 rfl) ?_
        refine run_q (.none rfl) rfl rfl (q_loadB rfl one3 rfl Sel.here rfl) ?_
        refine run_q (.none rfl) rfl rfl (q_fieldB (d := 4) rfl Try.underlying25 rfl rfl sz3 rfl) ?_
        refine run_q (.none rfl) rfl rfl (q_loadB rfl one3 rfl Sel.here rfl) ?_
        refine run_q (.none rfl) rfl rfl (q_fieldB (d := 6) rfl Try.underlying25 rfl rfl sz3 rfl) ?_
        refine run_q (.none rfl) rfl rfl (q_loadB rfl one3 rfl Sel.here rfl) ?_
        refine run_q (.none rfl) rfl rfl (q_fieldB (d := 12) rfl Try.underlying25 rfl rfl sz3 rfl) ?_
        refine run_q (.none rfl) rfl rfl (q_loadB rfl one3 rfl Sel.here rfl) ?_
        refine run_h (.none rfl) (h_callX [_, _] _ rfl rfl rfl call42 (.cons rfl (.cons rfl (.cons rfl (.cons rfl (.cons rfl (.cons rfl Evs.nil)))))) ((Sel.perm (.there (.there (.there (.there (.there Sel.here)))))).trans (.cons _ (Sel.perm (.there Sel.here)))) (Y := fun _ => atAny [_, _]) (fun _ _ h => h) (fun w hk hm => placeS_ret (pl xs a b i).1 qa A2 ca2 1 _ (nth xs i).fst (nth xs i).lst (nth xs i).near (nth xs i).hgt w hln.1 ((hm.perm ((Sel.perm (.there (.there (.there (.there (.there Sel.here)))))).trans (.cons _ (Sel.perm (.there Sel.here))))).give (rs := [_, _])) ⟨hq.2.2.2.2.2.1, hq.2.2.2.2.2.2.1, by rw [hln.1]; omega⟩ (by omega) (by omega) hbd.1 (.inl rfl) ⟨by omega, by omega⟩ ⟨by omega, by omega⟩)) ?_
        rintro ⟨v, m⟩ ⟨rfl, rfl⟩
        show Run _ _ _ _ _ _ _ ⟨(71, .tuple #[.int .i64 (plV 1 (pl xs a b i).1 (nth xs i).fst.toNat (nth xs i).lst.toNat (nth xs i).near (nth xs i).hgt), .int .i64 (plE 1 (pl xs a b i).1 (nth xs i).fst.toNat (nth xs i).lst.toNat (nth xs i).near (nth xs i).hgt)]) :: _, _ :: _ :: _⟩
        refine run_q (.none rfl) rfl rfl (q_move rfl rfl) ?_
        refine run_q (.none rfl) rfl rfl (q_extract rfl rfl rfl) ?_
        refine run_q (.none rfl) rfl rfl (q_extract rfl rfl rfl) ?_
        refine run_q (.none rfl) rfl rfl (q_assign rfl rfl) ?_
        refine run_q (.none rfl) rfl rfl (q_assign rfl rfl) ?_
        refine run_nil ?_
        refine run_sub (subMk (.cons (s := 1) rfl (.cons (s := 2) rfl (.cons (s := 6) rfl (.cons (s := 7) rfl (.cons (s := 9) rfl (.cons (s := 10) rfl (.cons (s := 11) rfl (.cons (s := 13) rfl (.cons (s := 15) rfl (.cons (s := 16) rfl (.cons (s := 50) rfl (.cons (s := 51) rfl (.cons (s := 52) rfl .nil))))))))))))) .refl) ?_
        refine run_seq ?_
        refine run_seq ?_
        refine run_region ?_
        refine run_q (.none rfl) rfl rfl (q_move rfl rfl) ?_
        refine run_q (.none rfl) rfl rfl (q_neq rfl rfl rfl) ?_
        refine run_nil ?_
        refine run_cond rfl (fun g75 => ?_) (fun g75 => ?_)
        · have g75' := g75
          try simp only [decide_eq_true_eq, decide_eq_false_iff_not, beq_iff_eq, beq_eq_false_iff_ne, bne_iff_ne, bne_eq_false_iff_eq, Bool.not_eq_true', Bool.not_eq_false', ne_eq, Int.not_lt, Int.not_le, Decidable.not_not] at g75'
          refine run_seq ?_
          have h75 : plE1 xs a b i ≠ 0 := by rw [plE1_a g59']; simpa using g75
          refine run_region ?_
          refine run_q (.none rfl) rfl rfl (q_move rfl rfl) ?_
          refine run_q (.none rfl) rfl rfl (q_assign rfl rfl) ?_
          refine run_q (.none rfl) rfl rfl (q_assign rfl rfl) ?_
          refine run_nil ?_
          refine run_sub (subMk (.cons (s := 1) rfl (.cons (s := 2) rfl (.cons (s := 6) rfl (.cons (s := 7) rfl (.cons (s := 9) rfl (.cons (s := 10) rfl (.cons (s := 11) rfl (.cons (s := 13) rfl (.cons (s := 15) rfl (.cons (s := 50) rfl (.cons (s := 51) rfl (.cons (s := 52) rfl .nil)))))))))))) .refl) ?_
          refine run_ret ?_
          refine run_sub (subMk .refl (MemSub.nilOwn 50 12)) ?_
          refine run_sub (subMk .refl (.cons (.there (.there (.there (.there (.there (.there (.there Sel.here))))))) (.blk (.cons (s := 0) rfl (.cons (s := 1) rfl (.nil)))) (.cons (.there (.there (.there (.there (.there (.there (.there Sel.here))))))) .refl (.cons (.there (.there (.there (.there (.there (.there (.there Sel.here))))))) (.blk (.cons (s := 0) rfl (.cons (s := 1) rfl (.nil)))) (.cons (.there (.there (.there (.there (.there (.there (.there Sel.here))))))) .refl (.cons Sel.here .refl .nil)))))) ?_
          exact end2 rfl rfl rfl (by have hE := placeE_2 (a := a) (b := b) (xs := xs) hq0; rw [plEs_stay hEs h75 (by omega : i < xs.length)] at hE; obtain ⟨e1, e2, e3⟩ := place_err (xs := xs) (a := a) (b := b) (by rw [hE]; exact h75); exact ⟨A, ca, B, cb, none, 0, by rw [e3, hE, plE1_a g59']; rfl, hca, hcb, by rw [e1, e2, e3]; rfl⟩)
        · have g75' := g75
          try simp only [decide_eq_true_eq, decide_eq_false_iff_not, beq_iff_eq, beq_eq_false_iff_ne, bne_iff_ne, bne_eq_false_iff_eq, Bool.not_eq_true', Bool.not_eq_false', ne_eq, Int.not_lt, Int.not_le, Decidable.not_not] at g75'
          refine run_skip ?_
          refine run_region ?_
          refine run_q (.none rfl) rfl rfl (q_move rfl rfl) ?_
          refine run_q (.none rfl) rfl rfl (q_loadBN rfl agg25 rfl (.there (.there Sel.here)) (.cons rfl (.cons rfl (.cons rfl (.cons rfl (.cons rfl (.cons rfl (.cons rfl (.cons rfl (.cons rfl (.cons rfl (.cons rfl (.cons rfl (.cons rfl CellsAt.nil))))))))))))) rfl) ?_
          refine run_q (.none rfl) rfl rfl (q_move rfl rfl) ?_
          refine run_q (.none rfl) rfl rfl (q_call rfl call43 (.cons rfl (.cons rfl Evs.nil)) (fun w hk hm => mark_just (nth xs i) _ w ⟨by omega, by omega⟩ ⟨by omega, by omega⟩ (plV_bd (.inl rfl) hbd.1 (show (nth xs i).fst.toNat ≤ (nth xs i).lst.toNat by omega) (by rw [hln.1]; omega) ⟨by omega, by omega⟩))) ?_
          refine run_h (.none rfl) (h_buildSlice rfl rfl rfl Try.underlying44 info50 (.cons rfl rfl rfl rfl Parts.nil) rfl (by omega)) ?_
          rintro b81 -
          refine run_h (.none rfl) (h_append rfl rfl rfl Try.underlying44 info50 rfl rfl (.there (.there (.there (.there (.there Sel.here))))) rfl (.own Sel.here) rfl (all1 rfl) (all1 rfl) (by omega) (by omega)) ?_
          rintro ⟨A82, c82⟩ -
          refine run_q (.none rfl) rfl rfl (q_assign rfl rfl) ?_
          refine run_nil ?_
          refine run_sub (subMk (.cons (s := 1) rfl (.cons (s := 2) rfl (.cons (s := 6) rfl (.cons (s := 7) rfl (.cons (s := 9) rfl (.cons (s := 10) rfl (.cons (s := 11) rfl (.cons (s := 50) rfl (.cons (s := 51) rfl (.cons (s := 52) rfl .nil)))))))))) .refl) ?_
          refine run_blk ?_
          refine run_region ?_
          refine run_q (.none rfl) rfl rfl (q_add rfl rfl rfl (by omega)) ?_
          refine run_q (.none rfl) rfl rfl (q_move rfl rfl) ?_
          refine run_nil ?_
          exact run_again (i + 1, A82, c82) (by (try dsimp only); exact ⟨by omega, plEs_next hEs (by rw [plE1_a g59']; simpa using g75)⟩) (by (try dsimp only); omega) (subMk (.cons' (s := 52) rfl (vint (by omega)) (.cons' (s := 11) rfl (by rw [plMs_len, plMs_len]) (.cons (s := 1) rfl (.cons (s := 2) rfl (.cons (s := 6) rfl (.cons (s := 7) rfl (.cons (s := 9) rfl (.cons (s := 10) rfl (.cons (s := 50) rfl (.cons (s := 51) rfl .nil)))))))))) (.cons (.there (.there (.there Sel.here))) (.own rfl rfl rfl (by rw [pl_a g59'])) (.cons (.there (.there (.there (.there Sel.here)))) (.own rfl rfl rfl (by rw [pl_a g59'])) (.cons Sel.here (.own (m' := (plMs xs a b (i + 1)).length) (xs' := (plMs xs a b (i + 1)).map Mk.enc) rfl (by rw [plMs_len, plMs_len]) rfl (by rw [plMs_a g59', List.map_append]; rfl)) (.cons (.there (.there (.there Sel.here))) .refl (.cons (.there Sel.here) .refl (.cons (.there (.there Sel.here)) .refl (.cons (.there (.there Sel.here)) .refl (.cons (.there (.there Sel.here)) .refl (.cons (.there (.there Sel.here)) .refl .nil))))))))))
    · have g53' := g53
      try simp only [decide_eq_true_eq, decide_eq_false_iff_not, beq_iff_eq, beq_eq_false_iff_ne, bne_iff_ne, bne_eq_false_iff_eq, Bool.not_eq_true', Bool.not_eq_false', ne_eq, Int.not_lt, Int.not_le, Decidable.not_not] at g53'
      refine run_exit rfl ?_
      refine run_sub (subMk (.cons (s := 1) rfl (.cons (s := 2) rfl (.cons (s := 6) rfl (.cons (s := 7) rfl (.cons (s := 9) rfl (.cons (s := 10) rfl (.cons (s := 11) rfl .nil))))))) .refl) ?_
      refine run_seq ?_
      refine run_region ?_
      refine run_q (.none rfl) rfl rfl (q_move rfl rfl) ?_
      refine run_q (.none rfl) rfl rfl (q_move rfl rfl) ?_
      refine run_h (.none rfl) (h_callX [_, _] _ rfl rfl rfl call44 (.cons rfl (.cons rfl Evs.nil)) ((Sel.perm (.there (.there (.there (.there (.there Sel.here)))))).trans (.cons _ (Sel.perm (.there (.there (.there (.there Sel.here))))))) (Y := fun _ => atAny [_, _]) (fun _ _ h => h) (fun w hk hm => restore_ret pa qa _ _ 1 A2 a.length ca2 w ((hm.perm ((Sel.perm (.there (.there (.there (.there (.there Sel.here)))))).trans (.cons _ (Sel.perm (.there (.there (.there (.there Sel.here)))))))).give (rs := [_, _])))) ?_
      rintro ⟨v, m⟩ ⟨rfl, rfl⟩
      show Run _ _ _ _ _ _ _ ⟨(86, .tuple #[]) :: _, _ :: _ :: _⟩
      refine run_nil ?_
      refine run_sub (subMk (.cons (s := 2) rfl (.cons (s := 6) rfl (.cons (s := 7) rfl (.cons (s := 10) rfl (.cons (s := 11) rfl .nil))))) .refl) ?_
      refine run_seq ?_
      refine run_region ?_
      refine run_q (.none rfl) rfl rfl (q_move rfl rfl) ?_
      refine run_q (.none rfl) rfl rfl (q_move rfl rfl) ?_
      refine run_h (.none rfl) (h_callX [_, _] _ rfl rfl rfl call44 (.cons rfl (.cons rfl Evs.nil)) ((Sel.perm (.there (.there (.there (.there (.there (.there (.there Sel.here)))))))).trans (.cons _ (Sel.perm (.there (.there (.there (.there (.there Sel.here)))))))) (Y := fun _ => atAny [_, _]) (fun _ _ h => h) (fun w hk hm => restore_ret pb qb _ _ (-1) B2 b.length cb2 w ((hm.perm ((Sel.perm (.there (.there (.there (.there (.there (.there (.there Sel.here)))))))).trans (.cons _ (Sel.perm (.there (.there (.there (.there (.there Sel.here))))))))).give (rs := [_, _])))) ?_
      rintro ⟨v, m⟩ ⟨rfl, rfl⟩
      show Run _ _ _ _ _ _ _ ⟨(89, .tuple #[]) :: _, _ :: _ :: _⟩
      refine run_nil ?_
      refine run_sub (subMk (.cons (s := 6) rfl (.cons (s := 7) rfl (.cons (s := 11) rfl .nil))) .refl) ?_
      refine run_seq ?_
      refine run_region ?_
      refine run_q (.none rfl) rfl rfl (q_move rfl rfl) ?_
      refine run_q (.none rfl) rfl rfl (q_assign rfl rfl) ?_
      refine run_q (.none rfl) rfl rfl (q_assign rfl rfl) ?_
      refine run_nil ?_
      refine run_ret ?_
      refine run_sub (subMk .refl (.cons (.there (.there Sel.here)) (.blk (.cons (s := 0) rfl (.cons (s := 1) rfl (.nil)))) (.cons (.there (.there (.there Sel.here))) .refl (.cons Sel.here (.blk (.cons (s := 0) rfl (.cons (s := 1) rfl (.nil)))) (.cons (.there (.there Sel.here)) .refl (.cons (.there (.there Sel.here)) .refl .nil)))))) ?_
      exact end2 rfl rfl rfl (by have hE := placeE_2 (a := a) (b := b) (xs := xs) hq0; rw [show xs.length = i from by omega, hEs] at hE; obtain ⟨e1, e2, e3⟩ := place_ok hE; have hi' : i = xs.length := (by omega); subst hi'; exact ⟨A2, ca2, B2, cb2, O, co, by rw [e3, hE], hda, hdb, by rw [e1, e2, e3]⟩)

end Go.Proofs.YtgphmbipakdggaaR
