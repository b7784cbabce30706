/- Spans placed over two skylines. -/
import Derived.Test.YtomhegnaojejnaaH
import Derived.Test.YtomhegnaojejnaaMp
set_option linter.unusedSimpArgs false
set_option linter.unusedVariables false
namespace Go.Proofs.Ytomhegnaojejnaa
open Go Go.RowKit Hr

theorem call44 : Hr.Callable Try.prog 44 := fun args w => by kernel_rfl
theorem call13 : Hr.Callable Try.prog 13 := fun args w => by kernel_rfl
theorem call25 : Hr.Callable Try.prog 25 := fun args w => by kernel_rfl
theorem call15 : Hr.Callable Try.prog 15 := fun args w => by kernel_rfl
theorem call45 : Hr.Callable Try.prog 45 := fun args w => by kernel_rfl
theorem agg23 : Hr.Agg Try.prog 23 2 := ⟨fun w => by simp [isAgg, run_underlying Try.underlying23], Hr.Sz.of (by kernel_rfl)⟩
theorem built49p0p1p2p3p4p6p7 (x0y : Int) (x1y : Int) (x2y : Int) (x3y : Int) (x4y : Int) (x6y0 : Int) (x6y1 : Int) (x7y0 : Int) (x7y1 : Int) (x7y2 : Int) (x7y3 : Int) : Try.prog.built 49 [(0, .int .i64 x0y), (1, .int .i64 x1y), (2, .int .i64 x2y), (3, .int .i64 x3y), (4, .int .i64 x4y), (6, .agg #[.int .i64 x6y0, .int .i64 x6y1]), (7, .agg #[.int .i64 x7y0, .int .i64 x7y1, .int .i64 x7y2, .int .i64 x7y3])] = some #[.int .i64 x0y, .int .i64 x1y, .int .i64 x2y, .int .i64 x3y, .int .i64 x4y, .int .i64 0, .int .i64 x6y0, .int .i64 x6y1, .int .i64 x7y0, .int .i64 x7y1, .int .i64 x7y2, .int .i64 x7y3] := by kernel_rfl
theorem info49 : Hr.Info Try.prog 49 [.int .i64 0, .int .i64 0, .int .i64 0, .int .i64 0, .int .i64 0, .int .i64 0, .int .i64 0, .int .i64 0, .int .i64 0, .int .i64 0, .int .i64 0, .int .i64 0] 12 96 := Hr.Info.of (by kernel_rfl)
theorem call47 : Hr.Callable Try.prog 47 := fun args w => by kernel_rfl

set_option maxHeartbeats 1000000 in
set_option maxRecDepth 100000 in
theorem merge_ret (o o2 : List Int) (p q : Nat) (A B : Option Addr) (c d : Nat) (t : Int) (n : Nat) (W : World) (h1 : o.length = n) (h2 : o2.length = n) (hm : Mem (atAny [.blk p 94 [(0, .int .i64 t), (1, .slice A n c)], .own 3 1 A n c ((o).map encI), .blk q 94 [(0, .int .i64 t), (1, .slice B n d)], .own 3 1 B n d ((o2).map encI)]) W [.blk p 94 [(0, .int .i64 t), (1, .slice A n c)], .own 3 1 A n c ((o).map encI), .blk q 94 [(0, .int .i64 t), (1, .slice B n d)], .own 3 1 B n d ((o2).map encI)] W) (hl6 : n ≤ 65536) : Calls Try.prog 47 #[.pointer (some ⟨p, 0, none⟩), .pointer (some ⟨q, 0, none⟩), .int .i64 0] W (Ret W (atAny [.blk p 94 [(0, .int .i64 t), (1, .slice A n c)], .own 3 1 A n c ((o).map encI), .blk q 94 [(0, .int .i64 t), (1, .slice B n d)], .own 3 1 B n d ((o2).map encI)]) (fun v m => v = .int .i64 0 ∧ m = [.blk p 94 [(0, .int .i64 t), (1, .slice A n c)], .own 3 1 A n c (((mergeK o o2 n)).map encI), .blk q 94 [(0, .int .i64 t), (1, .slice B n d)], .own 3 1 B n d ((o2).map encI)])) := by
  refine enterA (X := _) (vs := [.pointer (some ⟨p, 0, none⟩), .pointer (some ⟨q, 0, none⟩), .int .i64 0]) Try.func47 Try.ntmps47 rfl rfl hm ?_
  refine run_seq ?_
  refine run_region ?_
  refine run_q (.none rfl) rfl rfl (q_assign rfl rfl) ?_
  refine run_nil ?_
  refine run_seq ?_
  refine run_block ?_
  refine run_seq ?_
  refine run_region ?_
  refine run_q (.none rfl) rfl rfl (q_move rfl rfl) ?_
  refine run_q (.none rfl) rfl rfl (q_eqlPtr rfl rfl rfl Try.underlying37) ?_
  refine run_q (.none rfl) rfl rfl (q_move rfl rfl) ?_
  refine run_q (.on rfl rfl rfl rfl) rfl rfl (q_move rfl rfl) ?_
  refine run_q (.on rfl rfl rfl rfl) rfl rfl (q_eqlPtr rfl rfl rfl Try.underlying37) ?_
  refine run_q (.none rfl) rfl rfl (q_pickF rfl rfl rfl rfl) ?_
  refine run_q (.none rfl) rfl rfl (q_assign rfl rfl) ?_
  refine run_nil ?_
  refine run_sub (subMk (.cons (s := 0) rfl (.cons (s := 1) rfl (.cons (s := 2) rfl (.cons (s := 6) rfl (.cons (s := 9) rfl .nil))))) .refl) ?_
  refine run_condF rfl rfl ?_
  refine run_seq ?_
  refine run_draw [(0, 0), (1, 0), (2, 0), (3, 0), (4, 0), (5, 0), (6, 0), (7, 0), (8, 0), (9, 0)] mixed (by kernel_rfl) .refl ?_
  refine d_q rfl rfl (.none rfl) rfl rfl (q_move rfl rfl) ?_
  refine d_q rfl rfl (.none rfl) rfl rfl (q_nilCheck rfl rfl) ?_
  refine d_q rfl rfl (.none rfl) rfl rfl (q_fieldB (d := 0) rfl Try.underlying94 rfl rfl sz3 rfl) ?_
  refine d_q rfl rfl (.none rfl) rfl rfl (q_loadB rfl one3 rfl Sel.here rfl) ?_
  refine d_q rfl rfl (.none rfl) rfl rfl (q_move rfl rfl) ?_
  refine d_q rfl rfl (.none rfl) rfl rfl (q_nilCheck rfl rfl) ?_
  refine d_q rfl rfl (.none rfl) rfl rfl (q_fieldB (d := 0) rfl Try.underlying94 rfl rfl sz3 rfl) ?_
  refine d_q rfl rfl (.none rfl) rfl rfl (q_loadB rfl one3 rfl (.there (.there Sel.here)) rfl) ?_
  refine d_q rfl rfl (.none rfl) rfl rfl (q_neq rfl rfl rfl) ?_
  refine d_q rfl rfl (.none rfl) rfl rfl (q_assign rfl rfl) ?_
  refine d_nil ?_
  refine run_sub (subMk (.cons (s := 0) rfl (.cons (s := 1) rfl (.cons (s := 2) rfl (.cons (s := 6) rfl (.cons (s := 16) rfl .nil))))) .refl) ?_
  refine run_condF rfl (by simp) ?_
  refine run_seq ?_
  refine run_draw [(0, 0), (1, 0), (2, 0), (3, 0), (4, 0), (5, 0), (6, 0), (7, 0), (8, 0), (9, 0), (10, 0), (11, 0), (12, 0), (13, 0), (14, 0), (15, 0), (16, 0), (17, 0)] mixed (by kernel_rfl) .refl ?_
  refine d_q rfl rfl (.none rfl) rfl rfl (q_move rfl rfl) ?_
  refine d_q rfl rfl (.none rfl) rfl rfl (q_lss rfl rfl rfl) ?_
  refine d_q rfl rfl (.none rfl) rfl rfl (q_move rfl rfl) ?_
  refine d_q rfl rfl (.on rfl rfl rfl rfl) rfl rfl (q_move rfl rfl) ?_
  refine d_q rfl rfl (.on rfl rfl rfl rfl) rfl rfl (q_move rfl rfl) ?_
  refine d_q rfl rfl (.on rfl rfl rfl rfl) rfl rfl (q_nilCheck rfl rfl) ?_
  refine d_q rfl rfl (.on rfl rfl rfl rfl) rfl rfl (q_fieldB (d := 1) rfl Try.underlying94 rfl rfl sz38 rfl) ?_
  refine d_q rfl rfl (.on rfl rfl rfl rfl) rfl rfl (q_loadB rfl one38 rfl Sel.here rfl) ?_
  refine d_q rfl rfl (.on rfl rfl rfl rfl) rfl rfl (q_len rfl Try.underlying38 rfl) ?_
  refine d_q rfl rfl (.on rfl rfl rfl rfl) rfl rfl (q_move rfl rfl) ?_
  refine d_q rfl rfl (.on rfl rfl rfl rfl) rfl rfl (q_nilCheck rfl rfl) ?_
  refine d_q rfl rfl (.on rfl rfl rfl rfl) rfl rfl (q_fieldB (d := 1) rfl Try.underlying94 rfl rfl sz38 rfl) ?_
  refine d_q rfl rfl (.on rfl rfl rfl rfl) rfl rfl (q_loadB rfl one38 rfl (.there (.there Sel.here)) rfl) ?_
  refine d_q rfl rfl (.on rfl rfl rfl rfl) rfl rfl (q_len rfl Try.underlying38 rfl) ?_
  refine d_q rfl rfl (.on rfl rfl rfl rfl) rfl rfl (q_sub rfl rfl rfl (by omega)) ?_
  refine d_q rfl rfl (.on rfl rfl rfl rfl) rfl rfl (q_gtr rfl rfl rfl) ?_
  refine d_q rfl rfl (.none rfl) rfl rfl (q_pickF rfl rfl rfl rfl) ?_
  refine d_q rfl rfl (.none rfl) rfl rfl (q_assign rfl rfl) ?_
  refine d_nil ?_
  refine run_sub (subMk (.cons (s := 0) rfl (.cons (s := 1) rfl (.cons (s := 2) rfl (.cons (s := 6) rfl (.cons (s := 26) rfl .nil))))) .refl) ?_
  refine run_condF rfl (by simp) ?_
  refine run_skip ?_
  refine run_blk ?_
  refine run_seq ?_
  refine run_seq ?_
  refine run_region ?_
  refine run_q (.none rfl) rfl rfl (q_move rfl rfl) ?_
  refine run_q (.none rfl) rfl rfl (q_nilCheck rfl rfl) ?_
  refine run_q (.none rfl) rfl rfl (q_fieldB (d := 1) rfl Try.underlying94 rfl rfl sz38 rfl) ?_
  refine run_q (.none rfl) rfl rfl (q_loadB rfl one38 rfl (.there (.there Sel.here)) rfl) ?_
  refine run_h (.none rfl) (h_call rfl rfl rfl call53 (.cons rfl Evs.nil) (fun w hk hm => (by have h := cloneI_ret o2 B d w (own_rd ((Sel.there (Sel.there (Sel.there Sel.here))).holds hm)) (by omega); rw [h2] at h; exact h))) ?_
  rintro ⟨v, m⟩ ⟨O, co, rfl, rfl⟩
  show Run _ _ _ _ _ _ _ ⟨(48, .slice O n co) :: _, _ :: _⟩
  refine run_q (.none rfl) rfl rfl (q_len rfl Try.underlying38 rfl) ?_
  refine run_q (.none rfl) rfl rfl (q_move rfl rfl) ?_
  refine run_nil ?_
  refine run_sub (subMk (.cons (s := 0) rfl (.cons (s := 2) rfl (.cons (s := 6) rfl (.cons (s := 48) rfl (.cons (s := 49) rfl (.cons (s := 50) rfl .nil)))))) .refl) ?_
  refine run_block ?_
  refine run_sub (subMk (.cons (s := 50) rfl (.cons (s := 0) rfl (.cons (s := 2) rfl (.cons (s := 6) rfl (.cons (s := 48) rfl (.cons (s := 49) rfl .nil)))))) (.cons (.there (.there Sel.here)) .refl (.cons Sel.here .refl (.cons Sel.here .refl (.cons Sel.here .refl (.cons Sel.here .refl .nil)))))) ?_
  refine run_loopC1M1 (ι := Nat) (fun k => k ≤ n) (fun k => .int .i64 (k : Int)) (fun k => .own 3 1 A n c ((mergeK o o2 k).map encI)) (fun k => n - k) 0 (by (try dsimp only); exact (by omega)) rfl (.own rfl rfl rfl (by rw [mergeK_zero])) ?_
  rintro k hk
  (try dsimp only at hk)
  show Run _ _ _ _ _ _ _ ⟨(50, .int .i64 (k : Int)) :: _, .own 3 1 A n c ((mergeK o o2 k).map encI) :: _⟩
  refine run_seq ?_
  refine run_region ?_
  refine run_q (.none rfl) rfl rfl (q_lss rfl rfl rfl) ?_
  refine run_nil ?_
  refine run_seq ?_
  refine run_cond rfl (fun g51 => ?_) (fun g51 => ?_)
  · have g51' := g51
    try simp only [decide_eq_true_eq, decide_eq_false_iff_not, beq_iff_eq, beq_eq_false_iff_ne, bne_iff_ne, bne_eq_false_iff_eq, Bool.not_eq_true', Bool.not_eq_false', ne_eq, Int.not_lt, Int.not_le, Decidable.not_not] at g51'
    refine run_skip ?_
    refine run_seq ?_
    refine run_block ?_
    refine run_seq ?_
    refine run_region ?_
    refine run_q (.none rfl) rfl rfl (q_move rfl rfl) ?_
    refine run_q (.none rfl) rfl rfl (q_indexS (q := k) rfl Try.underlying38 sz3 rfl rfl (.own (.there Sel.here)) (by rw [List.length_map, h2]) rfl (by omega)) ?_
    refine run_q (.none rfl) rfl rfl (q_loadC rfl one3 rfl (.own (.there Sel.here)) (getmap (by omega))) ?_
    refine run_q (.none rfl) rfl rfl (q_assign rfl rfl) ?_
    refine run_q (.none rfl) rfl rfl (q_assign rfl rfl) ?_
    refine run_nil ?_
    refine run_sub (subMk (.cons (s := 0) rfl (.cons (s := 2) rfl (.cons (s := 6) rfl (.cons (s := 7) rfl (.cons (s := 8) rfl (.cons (s := 48) rfl (.cons (s := 49) rfl (.cons (s := 50) rfl .nil)))))))) .refl) ?_
    refine run_draw [(0, 0), (1, 0), (2, 0), (3, 0), (4, 0), (5, 0), (6, 0), (7, 0), (8, 0), (9, 0), (10, 0), (11, 0), (12, 0), (13, 0), (14, 0), (15, 0), (16, 0), (17, 0), (18, 0), (19, 2)] mixed (by kernel_rfl) .refl ?_
    refine d_q rfl rfl (.none rfl) rfl rfl (q_move rfl rfl) ?_
    refine d_q rfl rfl (.none rfl) rfl rfl (q_nilCheck rfl rfl) ?_
    refine d_q rfl rfl (.none rfl) rfl rfl (q_fieldB (d := 1) rfl Try.underlying94 rfl rfl sz38 rfl) ?_
    refine d_q rfl rfl (.none rfl) rfl rfl (q_loadB rfl one38 rfl (.there (.there Sel.here)) rfl) ?_
    refine d_q rfl rfl (.none rfl) rfl rfl (q_move rfl rfl) ?_
    refine d_q rfl rfl (.none rfl) rfl rfl (q_move rfl rfl) ?_
    refine d_q rfl rfl (.none rfl) rfl rfl (q_add rfl rfl rfl (by omega)) ?_
    refine d_q rfl rfl (.none rfl) rfl rfl (q_move rfl rfl) ?_
    refine d_q rfl rfl (.none rfl) rfl rfl (q_nilCheck rfl rfl) ?_
    refine d_q rfl rfl (.none rfl) rfl rfl (q_fieldB (d := 1) rfl Try.underlying94 rfl rfl sz38 rfl) ?_
    refine d_q rfl rfl (.none rfl) rfl rfl (q_loadB rfl one38 rfl (.there (.there Sel.here)) rfl) ?_
    refine d_q rfl rfl (.none rfl) rfl rfl (q_move rfl rfl) ?_
    refine d_q rfl rfl (.none rfl) rfl rfl (q_move rfl rfl) ?_
    refine d_q rfl rfl (.none rfl) rfl rfl (q_add rfl rfl rfl (by omega)) ?_
    refine d_q rfl rfl (.none rfl) rfl rfl (q_indexS (q := k) rfl Try.underlying38 sz3 rfl rfl (.own Sel.here) (by rw [List.length_map, mergeK_len, h1]) (by omega) (by omega)) ?_
    refine d_q rfl rfl (.none rfl) rfl rfl (q_loadC rfl one3 rfl (.own Sel.here) (getmap (by rw [mergeK_len]; omega))) ?_
    refine d_q rfl rfl (.none rfl) rfl rfl (q_move rfl rfl) ?_
    refine d_q rfl rfl (.none rfl) rfl rfl (q_max2 rfl rfl rfl) ?_
    refine d_q rfl rfl (.none rfl) rfl rfl (q_indexS (q := k) rfl Try.underlying38 sz3 rfl rfl (.own Sel.here) (by rw [List.length_map, mergeK_len, h1]) (by omega) (by omega)) ?_
    refine d_t rfl rfl (.none rfl) (h_storeE rfl rfl sz3 rfl rfl rfl rfl rfl Sel.here (by omega)) ?_
    rintro - -
    refine d_nil ?_
    refine run_sub (subMk (.cons (s := 0) rfl (.cons (s := 2) rfl (.cons (s := 6) rfl (.cons (s := 48) rfl (.cons (s := 49) rfl (.cons (s := 50) rfl .nil)))))) .refl) ?_
    refine run_blk ?_
    refine run_region ?_
    refine run_q (.none rfl) rfl rfl (q_add rfl rfl rfl (by omega)) ?_
    refine run_q (.none rfl) rfl rfl (q_move rfl rfl) ?_
    refine run_nil ?_
    exact run_again (k + 1) (by (try dsimp only); exact (by omega)) (by (try dsimp only); omega) (subMk (.cons' (s := 50) rfl (vint (by omega)) (.cons (s := 0) rfl (.cons (s := 2) rfl (.cons (s := 6) rfl (.cons (s := 48) rfl (.cons (s := 49) rfl .nil)))))) (.cons Sel.here (.own rfl rfl rfl (by rw [← mergeK_step (by omega), List.map_set]; rfl)) (.cons Sel.here .refl (.cons Sel.here .refl (.cons Sel.here .refl (.cons Sel.here .refl .nil))))))
  · have g51' := g51
    try simp only [decide_eq_true_eq, decide_eq_false_iff_not, beq_iff_eq, beq_eq_false_iff_ne, bne_iff_ne, bne_eq_false_iff_eq, Bool.not_eq_true', Bool.not_eq_false', ne_eq, Int.not_lt, Int.not_le, Decidable.not_not] at g51'
    refine run_exit rfl ?_
    refine run_sub (subMk (.cons (s := 6) rfl .nil) .refl) ?_
    refine run_seq ?_
    refine run_region ?_
    refine run_q (.none rfl) rfl rfl (q_assign rfl rfl) ?_
    refine run_nil ?_
    refine run_ret ?_
    refine run_sub (subMk .refl (.cons (.there (.there Sel.here)) (.blk (.cons (s := 0) rfl (.cons (s := 1) rfl (.nil)))) (.cons Sel.here (.own (xs' := (mergeK o o2 n).map encI) rfl rfl rfl (by rw [show k = n from by omega])) (.cons (.there Sel.here) (.blk (.cons (s := 0) rfl (.cons (s := 1) rfl (.nil)))) (.cons (.there Sel.here) .refl .nil))))) ?_
    exact end1 rfl rfl ⟨rfl, rfl⟩

set_option maxHeartbeats 4000000 in
set_option maxRecDepth 100000 in
theorem Place_ret (xs : List Spn) (X : Option Addr) (cx : Nat) (a b : List Int) (pa pb : Nat) (A B : Option Addr) (ca cb n : Nat) (W : World) (ha : a.length = n) (hb0 : b.length = n) (hm : Mem (atAny [.blk pa 94 [(0, .int .i64 1), (1, .slice A n ca)], .own 3 1 A n ca ((a).map encI), .blk pb 94 [(0, .int .i64 (-1)), (1, .slice B n cb)], .own 3 1 B n cb ((b).map encI)]) W [.blk pa 94 [(0, .int .i64 1), (1, .slice A n ca)], .own 3 1 A n ca ((a).map encI), .blk pb 94 [(0, .int .i64 (-1)), (1, .slice B n cb)], .own 3 1 B n cb ((b).map encI)] W) (hx : ∀ w, Kept (atAny [.blk pa 94 [(0, .int .i64 1), (1, .slice A n ca)], .own 3 1 A n ca ((a).map encI), .blk pb 94 [(0, .int .i64 (-1)), (1, .slice B n cb)], .own 3 1 B n cb ((b).map encI)]) W w → Rd w X 12 (xs.map Spn.enc)) (hxl : xs.length ≤ 20) (hl6 : n ≤ 65536) (hba : Bd a) (hbb : Bd b) : Calls Try.prog 20 #[.slice X xs.length cx, .pointer (some ⟨pa, 0, none⟩), .pointer (some ⟨pb, 0, none⟩)] W (Ret W (atAny [.blk pa 94 [(0, .int .i64 1), (1, .slice A n ca)], .own 3 1 A n ca ((a).map encI), .blk pb 94 [(0, .int .i64 (-1)), (1, .slice B n cb)], .own 3 1 B n cb ((b).map encI)]) (fun v m => ∃ O co, v = .tuple #[.slice O (slpM xs a b).length co, .int .i64 (slpE xs a b)] ∧ m = [.blk pa 94 [(0, .int .i64 1), (1, .slice A n ca)], .own 3 1 A n ca (((slpA xs a b)).map encI), .blk pb 94 [(0, .int .i64 (-1)), (1, .slice B n cb)], .own 3 1 B n cb (((slpB xs a b)).map encI), .own 49 12 O (slpM xs a b).length co ((slpM xs a b).map Mk.enc)])) := by
  refine enterA (X := _) (vs := [.slice X xs.length cx, .pointer (some ⟨pa, 0, none⟩), .pointer (some ⟨pb, 0, none⟩)]) Try.func20 Try.ntmps20 rfl rfl hm ?_
  refine run_seq ?_
  refine run_region ?_
  refine run_q (.none rfl) rfl rfl (q_assign rfl rfl) ?_
  refine run_q (.none rfl) rfl rfl (q_assign rfl rfl) ?_
  refine run_nil ?_
  refine run_seq ?_
  refine run_block ?_
  refine run_seq ?_
  refine run_region ?_
  refine run_q (.none rfl) rfl rfl (q_move rfl rfl) ?_
  refine run_q (.none rfl) rfl rfl (q_eqlPtr rfl rfl rfl Try.underlying37) ?_
  refine run_q (.none rfl) rfl rfl (q_move rfl rfl) ?_
  refine run_q (.on rfl rfl rfl rfl) rfl rfl (q_move rfl rfl) ?_
  refine run_q (.on rfl rfl rfl rfl) rfl rfl (q_eqlPtr rfl rfl rfl Try.underlying37) ?_
  refine run_q (.none rfl) rfl rfl (q_pickF rfl rfl rfl rfl) ?_
  refine run_q (.none rfl) rfl rfl (q_assign rfl rfl) ?_
  refine run_nil ?_
  refine run_sub (subMk (.cons (s := 0) rfl (.cons (s := 1) rfl (.cons (s := 2) rfl (.cons (s := 6) rfl (.cons (s := 7) rfl (.cons (s := 17) rfl .nil)))))) .refl) ?_
  refine run_condF rfl rfl ?_
  refine run_seq ?_
  refine run_region ?_
  refine run_q (.none rfl) rfl rfl (q_move rfl rfl) ?_
  refine run_q (.none rfl) rfl rfl (q_call rfl call43 (.cons rfl Evs.nil) (fun w hk hm => side_just a pa A ca 1 n w ha (rd_sky (Sel.here.holds hm)))) ?_
  refine run_q (.none rfl) rfl rfl (q_neq rfl rfl rfl) ?_
  refine run_q (.none rfl) rfl rfl (q_move rfl rfl) ?_
  refine run_q (.on rfl rfl rfl rfl) rfl rfl (q_move rfl rfl) ?_
  refine run_q (.on rfl rfl rfl rfl) rfl rfl (q_call rfl call43 (.cons rfl Evs.nil) (fun w hk hm => side_just b pb B cb (-1) n w hb0 (rd_sky ((Sel.there (Sel.there Sel.here)).holds hm)))) ?_
  refine run_q (.on rfl rfl rfl rfl) rfl rfl (q_neq rfl rfl rfl) ?_
  refine run_q (.none rfl) rfl rfl (q_pickF rfl rfl rfl rfl) ?_
  refine run_q (.none rfl) rfl rfl (q_assign rfl rfl) ?_
  refine run_nil ?_
  refine run_sub (subMk (.cons (s := 0) rfl (.cons (s := 1) rfl (.cons (s := 2) rfl (.cons (s := 6) rfl (.cons (s := 7) rfl (.cons (s := 24) rfl .nil)))))) .refl) ?_
  refine run_condF rfl rfl ?_
  refine run_seq ?_
  refine run_region ?_
  refine run_q (.none rfl) rfl rfl (q_move rfl rfl) ?_
  refine run_q (.none rfl) rfl rfl (q_call rfl call44 (.cons rfl Evs.nil) (fun w hk hm => cols_just a pa A ca 1 n w ha (rd_sky (Sel.here.holds hm)))) ?_
  refine run_q (.none rfl) rfl rfl (q_move rfl rfl) ?_
  refine run_q (.none rfl) rfl rfl (q_call rfl call44 (.cons rfl Evs.nil) (fun w hk hm => cols_just b pb B cb (-1) n w hb0 (rd_sky ((Sel.there (Sel.there Sel.here)).holds hm)))) ?_
  refine run_q (.none rfl) rfl rfl (q_neq rfl rfl rfl) ?_
  refine run_q (.none rfl) rfl rfl (q_assign rfl rfl) ?_
  refine run_nil ?_
  refine run_sub (subMk (.cons (s := 0) rfl (.cons (s := 1) rfl (.cons (s := 2) rfl (.cons (s := 6) rfl (.cons (s := 7) rfl (.cons (s := 33) rfl .nil)))))) .refl) ?_
  refine run_condF rfl (by simp) ?_
  refine run_skip ?_
  refine run_blk ?_
  refine run_seq ?_
  refine run_seq ?_
  refine run_region ?_
  refine run_q (.none rfl) rfl rfl (q_move rfl rfl) ?_
  refine run_q (.none rfl) rfl rfl (q_len rfl Try.underlying30 rfl) ?_
  refine run_q (.none rfl) rfl rfl (q_move rfl rfl) ?_
  refine run_nil ?_
  refine run_block ?_
  refine run_sub (subMk (.cons (s := 41) rfl (.cons (s := 0) rfl (.cons (s := 1) rfl (.cons (s := 2) rfl (.cons (s := 6) rfl (.cons (s := 7) rfl (.cons (s := 39) rfl (.cons (s := 40) rfl .nil)))))))) (.cons Sel.here .refl (.cons Sel.here .refl (.cons Sel.here .refl (.cons Sel.here .refl .nil))))) ?_
  refine run_loopC1M0 (ι := Nat) (fun k => k ≤ xs.length ∧ spsE n xs = spsE n (xs.drop k)) (fun k => .int .i64 (k : Int))  (fun k => xs.length - k) 0 (by (try dsimp only); exact ⟨by omega, rfl⟩) rfl  ?_
  rintro k hq
  (try dsimp only at hq)
  obtain ⟨hk, hE⟩ := hq
  show Run _ _ _ _ _ _ _ ⟨(41, .int .i64 (k : Int)) :: _, _⟩
  refine run_seq ?_
  refine run_region ?_
  refine run_q (.none rfl) rfl rfl (q_lss rfl rfl rfl) ?_
  refine run_nil ?_
  refine run_seq ?_
  refine run_cond rfl (fun g42 => ?_) (fun g42 => ?_)
  · have g42' := g42
    try simp only [decide_eq_true_eq, decide_eq_false_iff_not, beq_iff_eq, beq_eq_false_iff_ne, bne_iff_ne, bne_eq_false_iff_eq, Bool.not_eq_true', Bool.not_eq_false', ne_eq, Int.not_lt, Int.not_le, Decidable.not_not] at g42'
    have hkl : k < xs.length := by omega
    have hst := spsE_step (n := (n : Int)) (xs := xs) (i := k) hkl
    refine run_skip ?_
    refine run_seq ?_
    refine run_block ?_
    refine run_seq ?_
    refine run_region ?_
    refine run_q (.none rfl) rfl rfl (q_indexS (q := k) rfl Try.underlying30 sz25 rfl rfl (fun _ hk _ => hx _ hk) (by simp <;> omega) rfl (by omega)) ?_
    refine run_q (.none rfl) rfl rfl (q_loadE rfl agg25 rfl (fun _ hk _ => hx _ hk) (getmap (by omega)) rfl) ?_
    refine run_h (.none rfl) (h_alloc rfl rfl rfl info25) ?_
    rintro b9 -
    refine run_h (.none rfl) (h_storeB rfl rfl sz25 rfl rfl rfl rfl rfl Sel.here rfl) ?_
    rintro - -
    refine run_nil ?_
    refine run_sub (subMk (.cons (s := 0) rfl (.cons (s := 1) rfl (.cons (s := 2) rfl (.cons (s := 6) rfl (.cons (s := 7) rfl (.cons (s := 9) rfl (.cons (s := 39) rfl (.cons (s := 40) rfl (.cons (s := 41) rfl .nil))))))))) .refl) ?_
    refine run_seq ?_
    refine run_draw [(0, 0), (1, 0), (2, 0), (3, 0), (4, 0)] mixed (by kernel_rfl) .refl ?_
    refine d_q rfl rfl (.none rfl) rfl rfl (q_loadBN rfl agg25 rfl Sel.here (.cons rfl (.cons rfl (.cons rfl (.cons rfl (.cons rfl (.cons rfl (.cons rfl (.cons rfl (.cons rfl (.cons rfl (.cons rfl (.cons rfl CellsAt.nil)))))))))))) rfl) ?_
    refine d_q rfl rfl (.none rfl) rfl rfl (q_move rfl rfl) ?_
    refine d_q rfl rfl (.none rfl) rfl rfl (q_call rfl call44 (.cons rfl Evs.nil) (fun w hk hm => cols_just a pa A ca 1 n w ha (rd_sky ((Sel.there Sel.here).holds hm)))) ?_
    refine d_q rfl rfl (.none rfl) rfl rfl (q_call rfl call13 (.cons rfl (.cons rfl Evs.nil)) (fun w hk hm => check_just (nth xs k) (n : Int) w)) ?_
    refine d_q rfl rfl (.none rfl) rfl rfl (q_assign rfl rfl) ?_
    refine d_nil ?_
    refine run_sub (subMk (.cons (s := 0) rfl (.cons (s := 1) rfl (.cons (s := 2) rfl (.cons (s := 6) rfl (.cons (s := 7) rfl (.cons (s := 10) rfl (.cons (s := 39) rfl (.cons (s := 40) rfl (.cons (s := 41) rfl .nil))))))))) .refl) ?_
    refine run_seq ?_
    refine run_region ?_
    refine run_q (.none rfl) rfl rfl (q_move rfl rfl) ?_
    refine run_q (.none rfl) rfl rfl (q_neq rfl rfl rfl) ?_
    refine run_nil ?_
    refine run_cond rfl (fun g50 => ?_) (fun g50 => ?_)
    · have g50' := g50
      try simp only [decide_eq_true_eq, decide_eq_false_iff_not, beq_iff_eq, beq_eq_false_iff_ne, bne_iff_ne, bne_eq_false_iff_eq, Bool.not_eq_true', Bool.not_eq_false', ne_eq, Int.not_lt, Int.not_le, Decidable.not_not] at g50'
      refine run_seq ?_
      refine run_region ?_
      refine run_q (.none rfl) rfl rfl (q_move rfl rfl) ?_
      refine run_q (.none rfl) rfl rfl (q_assign rfl rfl) ?_
      refine run_q (.none rfl) rfl rfl (q_assign rfl rfl) ?_
      refine run_nil ?_
      refine run_sub (subMk (.cons (s := 0) rfl (.cons (s := 1) rfl (.cons (s := 2) rfl (.cons (s := 6) rfl (.cons (s := 7) rfl (.cons (s := 39) rfl (.cons (s := 40) rfl (.cons (s := 41) rfl .nil)))))))) .refl) ?_
      refine run_ret ?_
      refine run_sub (subMk .refl (MemSub.nilOwn 49 12)) ?_
      refine run_sub (subMk .refl (.cons (.there (.there Sel.here)) (.blk (.cons (s := 0) rfl (.cons (s := 1) rfl (.nil)))) (.cons (.there (.there Sel.here)) .refl (.cons (.there (.there Sel.here)) (.blk (.cons (s := 0) rfl (.cons (s := 1) rfl (.nil)))) (.cons (.there (.there Sel.here)) .refl (.cons Sel.here .refl .nil)))))) ?_
      exact end2 rfl rfl rfl (by have hEE : spsE a.length xs = spE (nth xs k) n := (by rw [ha, hE, hst, if_neg g50']); have hE2 := slpE_1 (xs := xs) (a := a) (b := b) (by rw [hEE]; exact g50'); obtain ⟨e1, e2, e3⟩ := slp_err (xs := xs) (a := a) (b := b) (by rw [hE2, hEE]; exact g50'); exact ⟨none, 0, by rw [e3, hE2, hEE]; rfl, by rw [e1, e2, e3]; rfl⟩)
    · have g50' := g50
      try simp only [decide_eq_true_eq, decide_eq_false_iff_not, beq_iff_eq, beq_eq_false_iff_ne, bne_iff_ne, bne_eq_false_iff_eq, Bool.not_eq_true', Bool.not_eq_false', ne_eq, Int.not_lt, Int.not_le, Decidable.not_not] at g50'
      have h0k : spE (nth xs k) n = 0 := by omega
      refine run_skip ?_
      refine run_blk ?_
      refine run_region ?_
      refine run_q (.none rfl) rfl rfl (q_add rfl rfl rfl (by omega)) ?_
      refine run_q (.none rfl) rfl rfl (q_move rfl rfl) ?_
      refine run_nil ?_
      refine run_sub (subMk (.cons (s := 0) rfl (.cons (s := 1) rfl (.cons (s := 2) rfl (.cons (s := 6) rfl (.cons (s := 7) rfl (.cons (s := 39) rfl (.cons (s := 40) rfl (.cons (s := 41) rfl .nil)))))))) .refl) ?_
      exact run_again (k + 1) (by (try dsimp only); exact ⟨by omega, by rw [hE, hst, if_pos h0k]⟩) (by (try dsimp only); omega) (subMk (.cons' (s := 41) rfl (vint (by omega)) (.cons (s := 0) rfl (.cons (s := 1) rfl (.cons (s := 2) rfl (.cons (s := 6) rfl (.cons (s := 7) rfl (.cons (s := 39) rfl (.cons (s := 40) rfl .nil)))))))) (.cons (.there Sel.here) .refl (.cons (.there Sel.here) .refl (.cons (.there Sel.here) .refl (.cons (.there Sel.here) .refl .nil)))))
  · have g42' := g42
    try simp only [decide_eq_true_eq, decide_eq_false_iff_not, beq_iff_eq, beq_eq_false_iff_ne, bne_iff_ne, bne_eq_false_iff_eq, Bool.not_eq_true', Bool.not_eq_false', ne_eq, Int.not_lt, Int.not_le, Decidable.not_not] at g42'
    refine run_exit rfl ?_
    refine run_sub (subMk (.cons (s := 0) rfl (.cons (s := 1) rfl (.cons (s := 2) rfl (.cons (s := 6) rfl (.cons (s := 7) rfl .nil))))) .refl) ?_
    refine run_seq ?_
    have hq0 : spsE a.length xs = 0 := by rw [ha, hE, List.drop_eq_nil_of_le (by omega)]; rfl
    have hall : ∀ x ∈ xs, spE x n = 0 := by rw [ha] at hq0; exact spsE_mem hq0
    have hN : ∀ x ∈ xs, NN x := fun x hx' => spE_NN (hall x hx') (by omega)
    refine run_region ?_
    refine run_h (.none rfl) (h_makeMap rfl rfl rfl) ?_
    rintro b53 -
    refine run_q (.none rfl) rfl rfl (q_move rfl rfl) ?_
    refine run_h (.none rfl) (h_call rfl rfl rfl call25 (.cons rfl Evs.nil) (fun w hk hm => cloneS_ret a pa A ca 1 n w ha (rd_sky ((Sel.there Sel.here).holds hm)) (own_rd ((Sel.there (Sel.there Sel.here)).holds hm)) (by omega))) ?_
    rintro ⟨v, m⟩ ⟨qa, A2, ca2, rfl, hda, rfl⟩
    show Run _ _ _ _ _ _ _ ⟨(55, .pointer (some ⟨qa, 0, none⟩)) :: _, _ :: _ :: _⟩
    refine run_h (.none rfl) (h_insert rfl rfl Try.underlying88 Try.underlying3 rfl rfl rfl (.there (.there Sel.here)) rfl) ?_
    rintro - -
    refine run_q (.none rfl) rfl rfl (q_move rfl rfl) ?_
    refine run_h (.none rfl) (h_call rfl rfl rfl call25 (.cons rfl Evs.nil) (fun w hk hm => cloneS_ret b pb B cb (-1) n w hb0 (rd_sky ((Sel.there (Sel.there (Sel.there (Sel.there (Sel.there Sel.here))))).holds hm)) (own_rd ((Sel.there (Sel.there (Sel.there (Sel.there (Sel.there (Sel.there Sel.here)))))).holds hm)) (by omega))) ?_
    rintro ⟨v, m⟩ ⟨qb, B2, cb2, rfl, hdb, rfl⟩
    show Run _ _ _ _ _ _ _ ⟨(57, .pointer (some ⟨qb, 0, none⟩)) :: _, _ :: _ :: _⟩
    refine run_h (.none rfl) (h_insert rfl rfl Try.underlying88 Try.underlying3 rfl rfl rfl (.there (.there Sel.here)) rfl) ?_
    rintro - -
    refine run_q (.none rfl) rfl rfl (q_move rfl rfl) ?_
    refine run_q (.none rfl) rfl rfl (q_assign rfl rfl) ?_
    refine run_nil ?_
    refine run_sub (subMk (.cons (s := 0) rfl (.cons (s := 1) rfl (.cons (s := 2) rfl (.cons (s := 6) rfl (.cons (s := 7) rfl (.cons (s := 11) rfl .nil)))))) .refl) ?_
    refine run_seq ?_
    refine run_region ?_
    refine run_q (.none rfl) rfl rfl (q_assign rfl rfl) ?_
    refine run_nil ?_
    refine run_seq ?_
    refine run_seq ?_
    refine run_region ?_
    refine run_q (.none rfl) rfl rfl (q_move rfl rfl) ?_
    refine run_h (.none rfl) (h_call rfl rfl rfl call15 (.cons rfl Evs.nil) (fun w hk hm => order_ret xs X cx w (hx _ hk) hxl hN)) ?_
    rintro ⟨v, m⟩ ⟨Oy, cy, rfl, rfl⟩
    show Run _ _ _ _ _ _ _ ⟨(60, .slice Oy xs.length cy) :: _, _ :: _⟩
    refine run_q (.none rfl) rfl rfl (q_len rfl Try.underlying30 rfl) ?_
    refine run_q (.none rfl) rfl rfl (q_move rfl rfl) ?_
    refine run_nil ?_
    refine run_block ?_
    refine run_sub (subMk .refl (MemSub.nilOwn 49 12)) ?_
    refine run_sub (subMk (.cons (s := 62) rfl (.cons (s := 12) rfl (.cons (s := 1) rfl (.cons (s := 2) rfl (.cons (s := 6) rfl (.cons (s := 7) rfl (.cons (s := 11) rfl (.cons (s := 60) rfl (.cons (s := 61) rfl .nil))))))))) (.cons (.there (.there (.there (.there (.there (.there Sel.here)))))) .refl (.cons (.there (.there (.there (.there Sel.here)))) .refl (.cons Sel.here .refl (.cons Sel.here .refl (.cons Sel.here .refl (.cons Sel.here .refl (.cons Sel.here .refl (.cons Sel.here .refl (.cons Sel.here .refl (.cons Sel.here .refl (.cons Sel.here .refl .nil)))))))))))) ?_
    refine run_loopC2M3 (ι := Nat × (Option Addr) × Nat) (fun gg => gg.1 ≤ xs.length ∧ slEs (ordS xs) a b gg.1 = 0) (fun gg => .int .i64 (gg.1 : Int)) (fun gg => .slice gg.2.1 (slMs (ordS xs) a b gg.1).length gg.2.2) (fun gg => .own 3 1 A2 n ca2 ((sl (ordS xs) a b gg.1).1.map encI)) (fun gg => .own 3 1 B2 n cb2 ((sl (ordS xs) a b gg.1).2.map encI)) (fun gg => .own 49 12 gg.2.1 (slMs (ordS xs) a b gg.1).length gg.2.2 ((slMs (ordS xs) a b gg.1).map Mk.enc)) (fun gg => xs.length - gg.1) (0, none, 0) (by (try dsimp only); exact ⟨by omega, rfl⟩) rfl rfl (.own rfl rfl rfl rfl) (.own rfl rfl rfl rfl) (.own rfl rfl rfl rfl) ?_
    rintro ⟨i, O2, c2⟩ hq
    (try dsimp only at hq)
    obtain ⟨hi, hEs⟩ := hq
    show Run _ _ _ _ _ _ _ ⟨(62, .int .i64 (i : Int)) :: (12, .slice O2 (slMs (ordS xs) a b i).length c2) :: _, .own 3 1 A2 n ca2 ((sl (ordS xs) a b i).1.map encI) :: .own 3 1 B2 n cb2 ((sl (ordS xs) a b i).2.map encI) :: .own 49 12 O2 (slMs (ordS xs) a b i).length c2 ((slMs (ordS xs) a b i).map Mk.enc) :: _⟩
    refine run_seq ?_
    refine run_region ?_
    refine run_q (.none rfl) rfl rfl (q_lss rfl rfl rfl) ?_
    refine run_nil ?_
    refine run_seq ?_
    refine run_cond rfl (fun g63 => ?_) (fun g63 => ?_)
    · have g63' := g63
      try simp only [decide_eq_true_eq, decide_eq_false_iff_not, beq_iff_eq, beq_eq_false_iff_ne, bne_iff_ne, bne_eq_false_iff_eq, Bool.not_eq_true', Bool.not_eq_false', ne_eq, Int.not_lt, Int.not_le, Decidable.not_not] at g63'
      have hil : i < xs.length := by omega
      have hspi : spE (nth (ordS xs) i) n = 0 := hall _ (ordS_mem hil)
      have h0 := spE_ok hspi
      have hln := sl_len (ys := ordS xs) (a := a) (b := b) (i := i)
      have hbd := sl_bd (ys := ordS xs) hba hbb (i := i)
      have hhb := hgtS_bd (f := (nth (ordS xs) i).fst) (l := (nth (ordS xs) i).lst)
      have e0 : hS (nth (ordS xs) i) = hgtS (nth (ordS xs) i).fst (nth (ordS xs) i).lst := rfl
      have hat1 := atS_bd (x := (nth (ordS xs) i)) (o := (sl (ordS xs) a b i).1) (by rw [hln.1, ha]; exact hspi) hbd.1
      have hat2 := atS_bd (x := (nth (ordS xs) i)) (o := (sl (ordS xs) a b i).2) (by rw [hln.2, hb0]; exact hspi) hbd.2
      have hml := slMs_len (ys := ordS xs) (a := a) (b := b) (i := i)
      refine run_skip ?_
      refine run_seq ?_
      refine run_block ?_
      refine run_seq ?_
      refine run_region ?_
      refine run_q (.none rfl) rfl rfl (q_indexS (q := i) rfl Try.underlying30 sz25 rfl rfl (.own (.there (.there (.there Sel.here)))) (by rw [List.length_map, ordS_len]) rfl (by omega)) ?_
      refine run_q (.none rfl) rfl rfl (q_loadE rfl agg25 rfl (.own (.there (.there (.there Sel.here)))) (getmap (by rw [ordS_len]; omega)) rfl) ?_
      refine run_h (.none rfl) (h_alloc rfl rfl rfl info25) ?_
      rintro b14 -
      refine run_h (.none rfl) (h_storeB rfl rfl sz25 rfl rfl rfl rfl rfl Sel.here rfl) ?_
      rintro - -
      refine run_nil ?_
      refine run_sub (subMk (.cons (s := 1) rfl (.cons (s := 2) rfl (.cons (s := 6) rfl (.cons (s := 7) rfl (.cons (s := 11) rfl (.cons (s := 12) rfl (.cons (s := 14) rfl (.cons (s := 60) rfl (.cons (s := 61) rfl (.cons (s := 62) rfl .nil)))))))))) .refl) ?_
      refine run_seq ?_
      by_cases hsd : (nth (ordS xs) i).side = 1
      · by_cases hbB : spB (nth (ordS xs) i) (rowS (ordS xs) a b i) = 0
        · have hq : spB (nth (ordS xs) i) (sl (ordS xs) a b i).1 = 0 := by rw [← rowS_a hsd]; exact hbB
          have hlim := spB_zero.1 hq
          refine run_region ?_
          refine run_q (.none rfl) rfl rfl (q_loadBN rfl agg25 rfl Sel.here (.cons rfl (.cons rfl (.cons rfl (.cons rfl (.cons rfl (.cons rfl (.cons rfl (.cons rfl (.cons rfl (.cons rfl (.cons rfl (.cons rfl CellsAt.nil)))))))))))) rfl) ?_
          refine run_q (.none rfl) rfl rfl (q_move rfl rfl) ?_
          refine run_q (.none rfl) rfl rfl (q_fieldB (d := 3) rfl Try.underlying25 rfl rfl sz3 rfl) ?_
          refine run_q (.none rfl) rfl rfl (q_loadB rfl one3 rfl Sel.here rfl) ?_
          refine run_q (.none rfl) rfl rfl (q_lookup (j := 0) (v := .pointer (some ⟨qa, 0, none⟩)) rfl Try.underlying88 Try.underlying3 rfl rfl (.there (.there (.there (.there (.there Sel.here))))) (by rw [hsd]; rfl)) ?_
          refine run_h (.none rfl) (h_callX [_, _] _ rfl rfl rfl call45 (.cons rfl (.cons rfl Evs.nil)) ((Sel.perm (.there (.there (.there (.there (.there (.there (.there Sel.here)))))))).trans (.cons _ (Sel.perm (.there Sel.here)))) (Y := fun _ => atAny [_, _]) (fun _ _ h => h) (fun w hk hm => place_ok (nth (ordS xs) i) (sl (ordS xs) a b i).1 qa A2 ca2 1 n w (hln.1.trans ha) ((hm.perm ((Sel.perm (.there (.there (.there (.there (.there (.there (.there Sel.here)))))))).trans (.cons _ (Sel.perm (.there Sel.here))))).give (rs := [_, _])) (by rw [hln.1.trans ha]; exact hspi) hsd hbd.1 (by rw [hln.1.trans ha]; omega) (by rw [hln.1.trans ha]; exact hda) hlim)) ?_
          rintro ⟨v, m⟩ ⟨rfl, rfl⟩
          show Run _ _ _ _ _ _ _ ⟨(72, .tuple #[.int .i64 (1 * atS (nth (ordS xs) i) (sl (ordS xs) a b i).1), .int .i64 0]) :: _, _ :: _ :: _⟩
          refine run_q (.none rfl) rfl rfl (q_move rfl rfl) ?_
          refine run_q (.none rfl) rfl rfl (q_extract rfl rfl rfl) ?_
          refine run_q (.none rfl) rfl rfl (q_extract rfl rfl rfl) ?_
          refine run_q (.none rfl) rfl rfl (q_assign rfl rfl) ?_
          refine run_q (.none rfl) rfl rfl (q_assign rfl rfl) ?_
          refine run_nil ?_
          refine run_sub (subMk (.cons (s := 1) rfl (.cons (s := 2) rfl (.cons (s := 6) rfl (.cons (s := 7) rfl (.cons (s := 11) rfl (.cons (s := 12) rfl (.cons (s := 14) rfl (.cons (s := 15) rfl (.cons (s := 16) rfl (.cons (s := 60) rfl (.cons (s := 61) rfl (.cons (s := 62) rfl .nil)))))))))))) .refl) ?_
          refine run_seq ?_
          refine run_seq ?_
          refine run_region ?_
          refine run_q (.none rfl) rfl rfl (q_move rfl rfl) ?_
          refine run_q (.none rfl) rfl rfl (q_neq rfl rfl rfl) ?_
          refine run_nil ?_
          refine run_condF rfl rfl ?_
          refine run_skip ?_
          refine run_draw [(0, 0), (1, 0), (2, 0), (3, 0), (4, 0), (5, 0), (6, 0), (7, 0), (8, 0), (9, 0), (10, 0), (11, 0), (12, 0), (13, 0), (14, 0), (15, 0), (16, 0), (17, 0), (18, 0), (19, 0), (20, 0), (21, 0), (22, 0), (23, 1), (24, 2), (25, 2)] mixed (by kernel_rfl) .refl ?_
          refine d_q rfl rfl (.none rfl) rfl rfl (q_move rfl rfl) ?_
          refine d_q rfl rfl (.none rfl) rfl rfl (q_fieldB (d := 0) rfl Try.underlying25 rfl rfl sz3 rfl) ?_
          refine d_q rfl rfl (.none rfl) rfl rfl (q_loadB rfl one3 rfl (.there (.there Sel.here)) rfl) ?_
          refine d_q rfl rfl (.none rfl) rfl rfl (q_fieldB (d := 1) rfl Try.underlying25 rfl rfl sz3 rfl) ?_
          refine d_q rfl rfl (.none rfl) rfl rfl (q_loadB rfl one3 rfl (.there (.there Sel.here)) rfl) ?_
          refine d_q rfl rfl (.none rfl) rfl rfl (q_fieldB (d := 2) rfl Try.underlying25 rfl rfl sz3 rfl) ?_
          refine d_q rfl rfl (.none rfl) rfl rfl (q_loadB rfl one3 rfl (.there (.there Sel.here)) rfl) ?_
          refine d_q rfl rfl (.none rfl) rfl rfl (q_fieldB (d := 6) rfl Try.underlying25 rfl rfl sz3 rfl) ?_
          refine d_q rfl rfl (.none rfl) rfl rfl (q_loadB rfl one3 rfl (.there (.there Sel.here)) rfl) ?_
          refine d_q rfl rfl (.none rfl) rfl rfl (q_fieldB (d := 7) rfl Try.underlying25 rfl rfl sz3 rfl) ?_
          refine d_q rfl rfl (.none rfl) rfl rfl (q_loadB rfl one3 rfl (.there (.there Sel.here)) rfl) ?_
          refine d_q rfl rfl (.none rfl) rfl rfl (q_fieldB (d := 4) rfl Try.underlying25 rfl rfl sz23 rfl) ?_
          refine d_q rfl rfl (.none rfl) rfl rfl (q_loadBN rfl agg23 rfl (.there (.there Sel.here)) (.cons rfl (.cons rfl CellsAt.nil)) rfl) ?_
          refine d_q rfl rfl (.none rfl) rfl rfl (q_move rfl rfl) ?_
          refine d_q rfl rfl (.none rfl) rfl rfl (q_fieldB (d := 3) rfl Try.underlying25 rfl rfl sz3 rfl) ?_
          refine d_q rfl rfl (.none rfl) rfl rfl (q_loadB rfl one3 rfl (.there (.there Sel.here)) rfl) ?_
          refine d_q rfl rfl (.none rfl) rfl rfl (q_fieldB (d := 6) rfl Try.underlying25 rfl rfl sz3 rfl) ?_
          refine d_q rfl rfl (.none rfl) rfl rfl (q_loadB rfl one3 rfl (.there (.there Sel.here)) rfl) ?_
          refine d_q rfl rfl (.none rfl) rfl rfl (q_fieldB (d := 7) rfl Try.underlying25 rfl rfl sz3 rfl) ?_
          refine d_q rfl rfl (.none rfl) rfl rfl (q_loadB rfl one3 rfl (.there (.there Sel.here)) rfl) ?_
          refine d_q rfl rfl (.none rfl) rfl rfl (q_call rfl call17 (.cons rfl (.cons rfl Evs.nil)) (fun w hk hm => height_just (nth (ordS xs) i).fst (nth (ordS xs) i).lst w (by omega) (by omega))) ?_
          refine d_q rfl rfl (.none rfl) rfl rfl (q_call rfl call46 (.cons rfl (.cons rfl (.cons rfl Evs.nil))) (fun w hk hm => (by rw [hsd]; exact box_1 (1 * atS (nth (ordS xs) i) (sl (ordS xs) a b i).1) (hS (nth (ordS xs) i)) w ⟨by omega, by omega⟩ ⟨by omega, by omega⟩))) ?_
          refine d_q rfl rfl (.none rfl) rfl rfl (q_build rfl (.cons rfl (.cons rfl (.cons rfl (.cons rfl (.cons rfl (.cons rfl (.cons rfl PV.nil))))))) (built49p0p1p2p3p4p6p7 _ _ _ _ _ _ _ _ _ _ _)) ?_
          refine d_h rfl rfl (.none rfl) (h_buildSlice rfl rfl rfl Try.underlying43 info49 (.cons rfl rfl rfl rfl Parts.nil) rfl (by omega)) (fun _ _ => (.sub (by repeat (first | exact List.Sublist.refl _ | apply List.Sublist.cons)))) ?_
          rintro b100 -
          refine d_t rfl rfl (.none rfl) (h_append rfl rfl rfl Try.underlying43 info49 rfl rfl (.there (.there (.there (.there (.there Sel.here))))) rfl (.own Sel.here) rfl (all1 rfl) (all1 rfl) (by omega) (by omega)) ?_
          rintro ⟨A101, c101⟩ -
          refine d_t rfl rfl (.none rfl) (.of_q rfl rfl (q_assign rfl rfl)) ?_
          rintro - -
          refine d_nil ?_
          refine run_sub (subMk (.cons (s := 1) rfl (.cons (s := 2) rfl (.cons (s := 6) rfl (.cons (s := 7) rfl (.cons (s := 11) rfl (.cons (s := 12) rfl (.cons (s := 60) rfl (.cons (s := 61) rfl (.cons (s := 62) rfl .nil))))))))) .refl) ?_
          refine run_blk ?_
          refine run_region ?_
          refine run_q (.none rfl) rfl rfl (q_add rfl rfl rfl (by omega)) ?_
          refine run_q (.none rfl) rfl rfl (q_move rfl rfl) ?_
          refine run_nil ?_
          exact run_again (i + 1, A101, c101) (by (try dsimp only); exact ⟨by omega, slEs_next hEs hbB⟩) (by (try dsimp only); omega) (subMk (.cons' (s := 62) rfl (vint (by omega)) (.cons' (s := 12) rfl (by rw [slMs_len, slMs_len]) (.cons (s := 1) rfl (.cons (s := 2) rfl (.cons (s := 6) rfl (.cons (s := 7) rfl (.cons (s := 11) rfl (.cons (s := 60) rfl (.cons (s := 61) rfl .nil))))))))) (.cons (.there (.there (.there Sel.here))) (.own rfl rfl rfl (by rw [sl_a hsd])) (.cons (.there (.there (.there (.there Sel.here)))) (.own rfl rfl rfl (by rw [sl_a hsd])) (.cons Sel.here (.own (m' := (slMs (ordS xs) a b (i + 1)).length) (xs' := (slMs (ordS xs) a b (i + 1)).map Mk.enc) rfl (by rw [slMs_len, slMs_len]) rfl (by rw [slMs_next, slM1_1 hsd, List.map_append, hsd]; rfl)) (.cons (.there (.there (.there Sel.here))) .refl (.cons (.there (.there (.there Sel.here))) .refl (.cons (.there (.there (.there Sel.here))) .refl (.cons (.there Sel.here) .refl (.cons (.there (.there Sel.here)) .refl (.cons (.there (.there Sel.here)) .refl (.cons (.there (.there Sel.here)) .refl (.cons (.there (.there Sel.here)) .refl .nil))))))))))))
        · have hq : spB (nth (ordS xs) i) (sl (ordS xs) a b i).1 ≠ 0 := by rw [← rowS_a hsd]; exact hbB
          have hbad : 1048576 < atS (nth (ordS xs) i) (sl (ordS xs) a b i).1 + hS (nth (ordS xs) i) := by by_cases h : 1048576 < atS (nth (ordS xs) i) (sl (ordS xs) a b i).1 + hS (nth (ordS xs) i); (· exact h); (· exact absurd (spB_zero.2 h) hq)
          refine run_region ?_
          refine run_q (.none rfl) rfl rfl (q_loadBN rfl agg25 rfl Sel.here (.cons rfl (.cons rfl (.cons rfl (.cons rfl (.cons rfl (.cons rfl (.cons rfl (.cons rfl (.cons rfl (.cons rfl (.cons rfl (.cons rfl CellsAt.nil)))))))))))) rfl) ?_
          refine run_q (.none rfl) rfl rfl (q_move rfl rfl) ?_
          refine run_q (.none rfl) rfl rfl (q_fieldB (d := 3) rfl Try.underlying25 rfl rfl sz3 rfl) ?_
          refine run_q (.none rfl) rfl rfl (q_loadB rfl one3 rfl Sel.here rfl) ?_
          refine run_q (.none rfl) rfl rfl (q_lookup (j := 0) (v := .pointer (some ⟨qa, 0, none⟩)) rfl Try.underlying88 Try.underlying3 rfl rfl (.there (.there (.there (.there (.there Sel.here))))) (by rw [hsd]; rfl)) ?_
          refine run_h (.none rfl) (h_callX [_, _] _ rfl rfl rfl call45 (.cons rfl (.cons rfl Evs.nil)) ((Sel.perm (.there (.there (.there (.there (.there (.there (.there Sel.here)))))))).trans (.cons _ (Sel.perm (.there Sel.here)))) (Y := fun _ => atAny [_, _]) (fun _ _ h => h) (fun w hk hm => place_bad (nth (ordS xs) i) (sl (ordS xs) a b i).1 qa A2 ca2 1 n w (hln.1.trans ha) ((hm.perm ((Sel.perm (.there (.there (.there (.there (.there (.there (.there Sel.here)))))))).trans (.cons _ (Sel.perm (.there Sel.here))))).give (rs := [_, _])) (by rw [hln.1.trans ha]; exact hspi) hsd hbd.1 (by rw [hln.1.trans ha]; omega) (by rw [hln.1.trans ha]; exact hda) hbad)) ?_
          rintro ⟨v, m⟩ ⟨v1, e1, rfl, he, rfl⟩
          show Run _ _ _ _ _ _ _ ⟨(72, .tuple #[.int .i64 v1, .int .i64 e1]) :: _, _ :: _ :: _⟩
          refine run_q (.none rfl) rfl rfl (q_move rfl rfl) ?_
          refine run_q (.none rfl) rfl rfl (q_extract rfl rfl rfl) ?_
          refine run_q (.none rfl) rfl rfl (q_extract rfl rfl rfl) ?_
          refine run_q (.none rfl) rfl rfl (q_assign rfl rfl) ?_
          refine run_q (.none rfl) rfl rfl (q_assign rfl rfl) ?_
          refine run_nil ?_
          refine run_sub (subMk (.cons (s := 1) rfl (.cons (s := 2) rfl (.cons (s := 6) rfl (.cons (s := 7) rfl (.cons (s := 11) rfl (.cons (s := 12) rfl (.cons (s := 14) rfl (.cons (s := 15) rfl (.cons (s := 16) rfl (.cons (s := 60) rfl (.cons (s := 61) rfl (.cons (s := 62) rfl .nil)))))))))))) .refl) ?_
          refine run_seq ?_
          refine run_seq ?_
          refine run_region ?_
          refine run_q (.none rfl) rfl rfl (q_move rfl rfl) ?_
          refine run_q (.none rfl) rfl rfl (q_neq rfl rfl rfl) ?_
          refine run_nil ?_
          refine run_condT rfl (bne_iff_ne.2 he) ?_
          refine run_seq ?_
          refine run_region ?_
          refine run_q (.none rfl) rfl rfl (q_assign rfl rfl) ?_
          refine run_q (.none rfl) rfl rfl (q_assign rfl rfl) ?_
          refine run_nil ?_
          refine run_sub (subMk (.cons (s := 1) rfl (.cons (s := 2) rfl (.cons (s := 6) rfl (.cons (s := 7) rfl (.cons (s := 11) rfl (.cons (s := 12) rfl (.cons (s := 14) rfl (.cons (s := 15) rfl (.cons (s := 60) rfl (.cons (s := 61) rfl (.cons (s := 62) rfl .nil))))))))))) .refl) ?_
          refine run_ret ?_
          refine run_sub (subMk .refl (MemSub.nilOwn 49 12)) ?_
          refine run_sub (subMk .refl (.cons (.there (.there (.there (.there (.there (.there (.there (.there (.there Sel.here))))))))) (.blk (.cons (s := 0) rfl (.cons (s := 1) rfl (.nil)))) (.cons (.there (.there (.there (.there (.there (.there (.there (.there (.there Sel.here))))))))) .refl (.cons (.there (.there (.there (.there (.there (.there (.there (.there (.there Sel.here))))))))) (.blk (.cons (s := 0) rfl (.cons (s := 1) rfl (.nil)))) (.cons (.there (.there (.there (.there (.there (.there (.there (.there (.there Sel.here))))))))) .refl (.cons Sel.here .refl .nil)))))) ?_
          exact end2 rfl rfl rfl (by have hE2 := slpE_2 (xs := xs) (a := a) (b := b) hq0; rw [slEs_stay hEs hbB (show i < xs.length by omega), spB_nine hbB] at hE2; obtain ⟨e1, e2, e3⟩ := slp_err (xs := xs) (a := a) (b := b) (by rw [hE2]; decide); exact ⟨none, 0, by rw [e3, hE2]; rfl, by rw [e1, e2, e3]; rfl⟩)
      · by_cases hbB : spB (nth (ordS xs) i) (rowS (ordS xs) a b i) = 0
        · have hsm : (nth (ordS xs) i).side = -1 := by omega
          have hq : spB (nth (ordS xs) i) (sl (ordS xs) a b i).2 = 0 := by rw [← rowS_b hsd]; exact hbB
          have hlim := spB_zero.1 hq
          refine run_region ?_
          refine run_q (.none rfl) rfl rfl (q_loadBN rfl agg25 rfl Sel.here (.cons rfl (.cons rfl (.cons rfl (.cons rfl (.cons rfl (.cons rfl (.cons rfl (.cons rfl (.cons rfl (.cons rfl (.cons rfl (.cons rfl CellsAt.nil)))))))))))) rfl) ?_
          refine run_q (.none rfl) rfl rfl (q_move rfl rfl) ?_
          refine run_q (.none rfl) rfl rfl (q_fieldB (d := 3) rfl Try.underlying25 rfl rfl sz3 rfl) ?_
          refine run_q (.none rfl) rfl rfl (q_loadB rfl one3 rfl Sel.here rfl) ?_
          refine run_q (.none rfl) rfl rfl (q_lookup (j := 1) (v := .pointer (some ⟨qb, 0, none⟩)) rfl Try.underlying88 Try.underlying3 rfl rfl (.there (.there (.there (.there (.there Sel.here))))) (by rw [hsm]; rfl)) ?_
          refine run_h (.none rfl) (h_callX [_, _] _ rfl rfl rfl call45 (.cons rfl (.cons rfl Evs.nil)) ((Sel.perm (.there (.there (.there (.there (.there (.there Sel.here))))))).trans (.cons _ (Sel.perm (.there (.there Sel.here))))) (Y := fun _ => atAny [_, _]) (fun _ _ h => h) (fun w hk hm => place_ok (nth (ordS xs) i) (sl (ordS xs) a b i).2 qb B2 cb2 (-1) n w (hln.2.trans hb0) ((hm.perm ((Sel.perm (.there (.there (.there (.there (.there (.there Sel.here))))))).trans (.cons _ (Sel.perm (.there (.there Sel.here)))))).give (rs := [_, _])) (by rw [hln.2.trans hb0]; exact hspi) hsm hbd.2 (by rw [hln.2.trans hb0]; omega) (by rw [hln.2.trans hb0]; exact hdb) hlim)) ?_
          rintro ⟨v, m⟩ ⟨rfl, rfl⟩
          show Run _ _ _ _ _ _ _ ⟨(72, .tuple #[.int .i64 ((-1) * atS (nth (ordS xs) i) (sl (ordS xs) a b i).2), .int .i64 0]) :: _, _ :: _ :: _⟩
          refine run_q (.none rfl) rfl rfl (q_move rfl rfl) ?_
          refine run_q (.none rfl) rfl rfl (q_extract rfl rfl rfl) ?_
          refine run_q (.none rfl) rfl rfl (q_extract rfl rfl rfl) ?_
          refine run_q (.none rfl) rfl rfl (q_assign rfl rfl) ?_
          refine run_q (.none rfl) rfl rfl (q_assign rfl rfl) ?_
          refine run_nil ?_
          refine run_sub (subMk (.cons (s := 1) rfl (.cons (s := 2) rfl (.cons (s := 6) rfl (.cons (s := 7) rfl (.cons (s := 11) rfl (.cons (s := 12) rfl (.cons (s := 14) rfl (.cons (s := 15) rfl (.cons (s := 16) rfl (.cons (s := 60) rfl (.cons (s := 61) rfl (.cons (s := 62) rfl .nil)))))))))))) .refl) ?_
          refine run_seq ?_
          refine run_seq ?_
          refine run_region ?_
          refine run_q (.none rfl) rfl rfl (q_move rfl rfl) ?_
          refine run_q (.none rfl) rfl rfl (q_neq rfl rfl rfl) ?_
          refine run_nil ?_
          refine run_condF rfl rfl ?_
          refine run_skip ?_
          refine run_draw [(0, 0), (1, 0), (2, 0), (3, 0), (4, 0), (5, 0), (6, 0), (7, 0), (8, 0), (9, 0), (10, 0), (11, 0), (12, 0), (13, 0), (14, 0), (15, 0), (16, 0), (17, 0), (18, 0), (19, 0), (20, 0), (21, 0), (22, 0), (23, 1), (24, 2), (25, 2)] mixed (by kernel_rfl) .refl ?_
          refine d_q rfl rfl (.none rfl) rfl rfl (q_move rfl rfl) ?_
          refine d_q rfl rfl (.none rfl) rfl rfl (q_fieldB (d := 0) rfl Try.underlying25 rfl rfl sz3 rfl) ?_
          refine d_q rfl rfl (.none rfl) rfl rfl (q_loadB rfl one3 rfl (.there (.there Sel.here)) rfl) ?_
          refine d_q rfl rfl (.none rfl) rfl rfl (q_fieldB (d := 1) rfl Try.underlying25 rfl rfl sz3 rfl) ?_
          refine d_q rfl rfl (.none rfl) rfl rfl (q_loadB rfl one3 rfl (.there (.there Sel.here)) rfl) ?_
          refine d_q rfl rfl (.none rfl) rfl rfl (q_fieldB (d := 2) rfl Try.underlying25 rfl rfl sz3 rfl) ?_
          refine d_q rfl rfl (.none rfl) rfl rfl (q_loadB rfl one3 rfl (.there (.there Sel.here)) rfl) ?_
          refine d_q rfl rfl (.none rfl) rfl rfl (q_fieldB (d := 6) rfl Try.underlying25 rfl rfl sz3 rfl) ?_
          refine d_q rfl rfl (.none rfl) rfl rfl (q_loadB rfl one3 rfl (.there (.there Sel.here)) rfl) ?_
          refine d_q rfl rfl (.none rfl) rfl rfl (q_fieldB (d := 7) rfl Try.underlying25 rfl rfl sz3 rfl) ?_
          refine d_q rfl rfl (.none rfl) rfl rfl (q_loadB rfl one3 rfl (.there (.there Sel.here)) rfl) ?_
          refine d_q rfl rfl (.none rfl) rfl rfl (q_fieldB (d := 4) rfl Try.underlying25 rfl rfl sz23 rfl) ?_
          refine d_q rfl rfl (.none rfl) rfl rfl (q_loadBN rfl agg23 rfl (.there (.there Sel.here)) (.cons rfl (.cons rfl CellsAt.nil)) rfl) ?_
          refine d_q rfl rfl (.none rfl) rfl rfl (q_move rfl rfl) ?_
          refine d_q rfl rfl (.none rfl) rfl rfl (q_fieldB (d := 3) rfl Try.underlying25 rfl rfl sz3 rfl) ?_
          refine d_q rfl rfl (.none rfl) rfl rfl (q_loadB rfl one3 rfl (.there (.there Sel.here)) rfl) ?_
          refine d_q rfl rfl (.none rfl) rfl rfl (q_fieldB (d := 6) rfl Try.underlying25 rfl rfl sz3 rfl) ?_
          refine d_q rfl rfl (.none rfl) rfl rfl (q_loadB rfl one3 rfl (.there (.there Sel.here)) rfl) ?_
          refine d_q rfl rfl (.none rfl) rfl rfl (q_fieldB (d := 7) rfl Try.underlying25 rfl rfl sz3 rfl) ?_
          refine d_q rfl rfl (.none rfl) rfl rfl (q_loadB rfl one3 rfl (.there (.there Sel.here)) rfl) ?_
          refine d_q rfl rfl (.none rfl) rfl rfl (q_call rfl call17 (.cons rfl (.cons rfl Evs.nil)) (fun w hk hm => height_just (nth (ordS xs) i).fst (nth (ordS xs) i).lst w (by omega) (by omega))) ?_
          refine d_q rfl rfl (.none rfl) rfl rfl (q_call rfl call46 (.cons rfl (.cons rfl (.cons rfl Evs.nil))) (fun w hk hm => (by rw [hsm]; exact box_m ((-1) * atS (nth (ordS xs) i) (sl (ordS xs) a b i).2) (hS (nth (ordS xs) i)) w ⟨by omega, by omega⟩ ⟨by omega, by omega⟩))) ?_
          refine d_q rfl rfl (.none rfl) rfl rfl (q_build rfl (.cons rfl (.cons rfl (.cons rfl (.cons rfl (.cons rfl (.cons rfl (.cons rfl PV.nil))))))) (built49p0p1p2p3p4p6p7 _ _ _ _ _ _ _ _ _ _ _)) ?_
          refine d_h rfl rfl (.none rfl) (h_buildSlice rfl rfl rfl Try.underlying43 info49 (.cons rfl rfl rfl rfl Parts.nil) rfl (by omega)) (fun _ _ => (.sub (by repeat (first | exact List.Sublist.refl _ | apply List.Sublist.cons)))) ?_
          rintro b100 -
          refine d_t rfl rfl (.none rfl) (h_append rfl rfl rfl Try.underlying43 info49 rfl rfl (.there (.there (.there (.there (.there Sel.here))))) rfl (.own Sel.here) rfl (all1 rfl) (all1 rfl) (by omega) (by omega)) ?_
          rintro ⟨A101, c101⟩ -
          refine d_t rfl rfl (.none rfl) (.of_q rfl rfl (q_assign rfl rfl)) ?_
          rintro - -
          refine d_nil ?_
          refine run_sub (subMk (.cons (s := 1) rfl (.cons (s := 2) rfl (.cons (s := 6) rfl (.cons (s := 7) rfl (.cons (s := 11) rfl (.cons (s := 12) rfl (.cons (s := 60) rfl (.cons (s := 61) rfl (.cons (s := 62) rfl .nil))))))))) .refl) ?_
          refine run_blk ?_
          refine run_region ?_
          refine run_q (.none rfl) rfl rfl (q_add rfl rfl rfl (by omega)) ?_
          refine run_q (.none rfl) rfl rfl (q_move rfl rfl) ?_
          refine run_nil ?_
          exact run_again (i + 1, A101, c101) (by (try dsimp only); exact ⟨by omega, slEs_next hEs hbB⟩) (by (try dsimp only); omega) (subMk (.cons' (s := 62) rfl (vint (by omega)) (.cons' (s := 12) rfl (by rw [slMs_len, slMs_len]) (.cons (s := 1) rfl (.cons (s := 2) rfl (.cons (s := 6) rfl (.cons (s := 7) rfl (.cons (s := 11) rfl (.cons (s := 60) rfl (.cons (s := 61) rfl .nil))))))))) (.cons (.there (.there (.there (.there (.there Sel.here))))) (.own rfl rfl rfl (by rw [sl_b hsd])) (.cons (.there (.there (.there Sel.here))) (.own rfl rfl rfl (by rw [sl_b hsd])) (.cons Sel.here (.own (m' := (slMs (ordS xs) a b (i + 1)).length) (xs' := (slMs (ordS xs) a b (i + 1)).map Mk.enc) rfl (by rw [slMs_len, slMs_len]) rfl (by rw [slMs_next, slM1_m hsd, List.map_append, hsm]; rfl)) (.cons (.there (.there (.there Sel.here))) .refl (.cons (.there (.there (.there Sel.here))) .refl (.cons (.there Sel.here) .refl (.cons (.there (.there Sel.here)) .refl (.cons (.there (.there Sel.here)) .refl (.cons (.there (.there Sel.here)) .refl (.cons (.there (.there Sel.here)) .refl (.cons (.there (.there Sel.here)) .refl .nil))))))))))))
        · have hsm : (nth (ordS xs) i).side = -1 := by omega
          have hq : spB (nth (ordS xs) i) (sl (ordS xs) a b i).2 ≠ 0 := by rw [← rowS_b hsd]; exact hbB
          have hbad : 1048576 < atS (nth (ordS xs) i) (sl (ordS xs) a b i).2 + hS (nth (ordS xs) i) := by by_cases h : 1048576 < atS (nth (ordS xs) i) (sl (ordS xs) a b i).2 + hS (nth (ordS xs) i); (· exact h); (· exact absurd (spB_zero.2 h) hq)
          refine run_region ?_
          refine run_q (.none rfl) rfl rfl (q_loadBN rfl agg25 rfl Sel.here (.cons rfl (.cons rfl (.cons rfl (.cons rfl (.cons rfl (.cons rfl (.cons rfl (.cons rfl (.cons rfl (.cons rfl (.cons rfl (.cons rfl CellsAt.nil)))))))))))) rfl) ?_
          refine run_q (.none rfl) rfl rfl (q_move rfl rfl) ?_
          refine run_q (.none rfl) rfl rfl (q_fieldB (d := 3) rfl Try.underlying25 rfl rfl sz3 rfl) ?_
          refine run_q (.none rfl) rfl rfl (q_loadB rfl one3 rfl Sel.here rfl) ?_
          refine run_q (.none rfl) rfl rfl (q_lookup (j := 1) (v := .pointer (some ⟨qb, 0, none⟩)) rfl Try.underlying88 Try.underlying3 rfl rfl (.there (.there (.there (.there (.there Sel.here))))) (by rw [hsm]; rfl)) ?_
          refine run_h (.none rfl) (h_callX [_, _] _ rfl rfl rfl call45 (.cons rfl (.cons rfl Evs.nil)) ((Sel.perm (.there (.there (.there (.there (.there (.there Sel.here))))))).trans (.cons _ (Sel.perm (.there (.there Sel.here))))) (Y := fun _ => atAny [_, _]) (fun _ _ h => h) (fun w hk hm => place_bad (nth (ordS xs) i) (sl (ordS xs) a b i).2 qb B2 cb2 (-1) n w (hln.2.trans hb0) ((hm.perm ((Sel.perm (.there (.there (.there (.there (.there (.there Sel.here))))))).trans (.cons _ (Sel.perm (.there (.there Sel.here)))))).give (rs := [_, _])) (by rw [hln.2.trans hb0]; exact hspi) hsm hbd.2 (by rw [hln.2.trans hb0]; omega) (by rw [hln.2.trans hb0]; exact hdb) hbad)) ?_
          rintro ⟨v, m⟩ ⟨v1, e1, rfl, he, rfl⟩
          show Run _ _ _ _ _ _ _ ⟨(72, .tuple #[.int .i64 v1, .int .i64 e1]) :: _, _ :: _ :: _⟩
          refine run_q (.none rfl) rfl rfl (q_move rfl rfl) ?_
          refine run_q (.none rfl) rfl rfl (q_extract rfl rfl rfl) ?_
          refine run_q (.none rfl) rfl rfl (q_extract rfl rfl rfl) ?_
          refine run_q (.none rfl) rfl rfl (q_assign rfl rfl) ?_
          refine run_q (.none rfl) rfl rfl (q_assign rfl rfl) ?_
          refine run_nil ?_
          refine run_sub (subMk (.cons (s := 1) rfl (.cons (s := 2) rfl (.cons (s := 6) rfl (.cons (s := 7) rfl (.cons (s := 11) rfl (.cons (s := 12) rfl (.cons (s := 14) rfl (.cons (s := 15) rfl (.cons (s := 16) rfl (.cons (s := 60) rfl (.cons (s := 61) rfl (.cons (s := 62) rfl .nil)))))))))))) .refl) ?_
          refine run_seq ?_
          refine run_seq ?_
          refine run_region ?_
          refine run_q (.none rfl) rfl rfl (q_move rfl rfl) ?_
          refine run_q (.none rfl) rfl rfl (q_neq rfl rfl rfl) ?_
          refine run_nil ?_
          refine run_condT rfl (bne_iff_ne.2 he) ?_
          refine run_seq ?_
          refine run_region ?_
          refine run_q (.none rfl) rfl rfl (q_assign rfl rfl) ?_
          refine run_q (.none rfl) rfl rfl (q_assign rfl rfl) ?_
          refine run_nil ?_
          refine run_sub (subMk (.cons (s := 1) rfl (.cons (s := 2) rfl (.cons (s := 6) rfl (.cons (s := 7) rfl (.cons (s := 11) rfl (.cons (s := 12) rfl (.cons (s := 14) rfl (.cons (s := 15) rfl (.cons (s := 60) rfl (.cons (s := 61) rfl (.cons (s := 62) rfl .nil))))))))))) .refl) ?_
          refine run_ret ?_
          refine run_sub (subMk .refl (MemSub.nilOwn 49 12)) ?_
          refine run_sub (subMk .refl (.cons (.there (.there (.there (.there (.there (.there (.there (.there (.there Sel.here))))))))) (.blk (.cons (s := 0) rfl (.cons (s := 1) rfl (.nil)))) (.cons (.there (.there (.there (.there (.there (.there (.there (.there (.there Sel.here))))))))) .refl (.cons (.there (.there (.there (.there (.there (.there (.there (.there (.there Sel.here))))))))) (.blk (.cons (s := 0) rfl (.cons (s := 1) rfl (.nil)))) (.cons (.there (.there (.there (.there (.there (.there (.there (.there (.there Sel.here))))))))) .refl (.cons Sel.here .refl .nil)))))) ?_
          exact end2 rfl rfl rfl (by have hE2 := slpE_2 (xs := xs) (a := a) (b := b) hq0; rw [slEs_stay hEs hbB (show i < xs.length by omega), spB_nine hbB] at hE2; obtain ⟨e1, e2, e3⟩ := slp_err (xs := xs) (a := a) (b := b) (by rw [hE2]; decide); exact ⟨none, 0, by rw [e3, hE2]; rfl, by rw [e1, e2, e3]; rfl⟩)
    · have g63' := g63
      try simp only [decide_eq_true_eq, decide_eq_false_iff_not, beq_iff_eq, beq_eq_false_iff_ne, bne_iff_ne, bne_eq_false_iff_eq, Bool.not_eq_true', Bool.not_eq_false', ne_eq, Int.not_lt, Int.not_le, Decidable.not_not] at g63'
      have hln := sl_len (ys := ordS xs) (a := a) (b := b) (i := i)
      refine run_exit rfl ?_
      refine run_sub (subMk (.cons (s := 1) rfl (.cons (s := 2) rfl (.cons (s := 6) rfl (.cons (s := 7) rfl (.cons (s := 11) rfl (.cons (s := 12) rfl .nil)))))) .refl) ?_
      refine run_seq ?_
      refine run_region ?_
      refine run_q (.none rfl) rfl rfl (q_move rfl rfl) ?_
      refine run_q (.none rfl) rfl rfl (q_move rfl rfl) ?_
      refine run_q (.none rfl) rfl rfl (q_lookup (j := 0) (v := .pointer (some ⟨qa, 0, none⟩)) rfl Try.underlying88 Try.underlying3 rfl rfl (.there (.there (.there (.there Sel.here)))) rfl) ?_
      refine run_h (.none rfl) (h_callX [_, _, _, _] _ rfl rfl rfl call47 (.cons rfl (.cons rfl (.cons rfl Evs.nil))) ((Sel.perm (.there (.there (.there (.there (.there (.there (.there Sel.here)))))))).trans (.cons _ ((Sel.perm (.there (.there (.there (.there (.there (.there (.there Sel.here)))))))).trans (.cons _ ((Sel.perm (.there (.there (.there (.there (.there (.there Sel.here))))))).trans (.cons _ (Sel.perm Sel.here))))))) (Y := fun _ => atAny [_, _, _, _]) (fun _ _ h => h) (fun w hk hm => merge_ret a (sl (ordS xs) a b i).1 pa qa A A2 ca ca2 1 n w ha (hln.1.trans ha) ((hm.perm ((Sel.perm (.there (.there (.there (.there (.there (.there (.there Sel.here)))))))).trans (.cons _ ((Sel.perm (.there (.there (.there (.there (.there (.there (.there Sel.here)))))))).trans (.cons _ ((Sel.perm (.there (.there (.there (.there (.there (.there Sel.here))))))).trans (.cons _ (Sel.perm Sel.here)))))))).give (rs := [_, _, _, _])) hl6)) ?_
      rintro ⟨v, m⟩ ⟨rfl, rfl⟩
      show Run _ _ _ _ _ _ _ ⟨(106, .int .i64 0) :: _, _ :: _ :: _ :: _ :: _⟩
      refine run_nil ?_
      refine run_sub (subMk (.cons (s := 2) rfl (.cons (s := 6) rfl (.cons (s := 7) rfl (.cons (s := 11) rfl (.cons (s := 12) rfl .nil))))) .refl) ?_
      refine run_seq ?_
      refine run_region ?_
      refine run_q (.none rfl) rfl rfl (q_move rfl rfl) ?_
      refine run_q (.none rfl) rfl rfl (q_move rfl rfl) ?_
      refine run_q (.none rfl) rfl rfl (q_lookup (j := 1) (v := .pointer (some ⟨qb, 0, none⟩)) rfl Try.underlying88 Try.underlying3 rfl rfl (.there (.there (.there (.there (.there (.there (.there Sel.here))))))) rfl) ?_
      refine run_h (.none rfl) (h_callX [_, _, _, _] _ rfl rfl rfl call47 (.cons rfl (.cons rfl (.cons rfl Evs.nil))) ((Sel.perm (.there (.there (.there (.there (.there (.there (.there (.there (.there Sel.here)))))))))).trans (.cons _ ((Sel.perm (.there (.there (.there (.there (.there (.there (.there (.there (.there Sel.here)))))))))).trans (.cons _ ((Sel.perm (.there (.there (.there (.there (.there (.there (.there (.there Sel.here))))))))).trans (.cons _ (Sel.perm (.there (.there (.there (.there Sel.here))))))))))) (Y := fun _ => atAny [_, _, _, _]) (fun _ _ h => h) (fun w hk hm => merge_ret b (sl (ordS xs) a b i).2 pb qb B B2 cb cb2 (-1) n w hb0 (hln.2.trans hb0) ((hm.perm ((Sel.perm (.there (.there (.there (.there (.there (.there (.there (.there (.there Sel.here)))))))))).trans (.cons _ ((Sel.perm (.there (.there (.there (.there (.there (.there (.there (.there (.there Sel.here)))))))))).trans (.cons _ ((Sel.perm (.there (.there (.there (.there (.there (.there (.there (.there Sel.here))))))))).trans (.cons _ (Sel.perm (.there (.there (.there (.there Sel.here)))))))))))).give (rs := [_, _, _, _])) hl6)) ?_
      rintro ⟨v, m⟩ ⟨rfl, rfl⟩
      show Run _ _ _ _ _ _ _ ⟨(110, .int .i64 0) :: _, _ :: _ :: _ :: _ :: _⟩
      refine run_nil ?_
      refine run_sub (subMk (.cons (s := 6) rfl (.cons (s := 7) rfl (.cons (s := 12) rfl .nil))) .refl) ?_
      refine run_seq ?_
      refine run_region ?_
      refine run_q (.none rfl) rfl rfl (q_move rfl rfl) ?_
      refine run_q (.none rfl) rfl rfl (q_assign rfl rfl) ?_
      refine run_q (.none rfl) rfl rfl (q_assign rfl rfl) ?_
      refine run_nil ?_
      refine run_ret ?_
      refine run_sub (subMk .refl (.cons (.there (.there (.there (.there Sel.here)))) (.blk (.cons (s := 0) rfl (.cons (s := 1) rfl (.nil)))) (.cons (.there (.there (.there (.there Sel.here)))) (.own (xs' := (sl (ordS xs) a b i).1.map encI) rfl rfl rfl (by rw [mergeK_up (hln.1) (by omega) (fun j hj => sl_up.1 hj)])) (.cons Sel.here (.blk (.cons (s := 0) rfl (.cons (s := 1) rfl (.nil)))) (.cons Sel.here (.own (xs' := (sl (ordS xs) a b i).2.map encI) rfl rfl rfl (by rw [mergeK_up (hln.2) (by omega) (fun j hj => sl_up.2 hj)])) (.cons (.there (.there (.there (.there Sel.here)))) .refl .nil)))))) ?_
      exact end2 rfl rfl rfl (by have hi' : i = xs.length := (by omega); subst hi'; have hE2 := slpE_2 (xs := xs) (a := a) (b := b) hq0; rw [hEs] at hE2; obtain ⟨e1, e2, e3⟩ := slp_ok hE2; exact ⟨O2, c2, by rw [e3, hE2], by rw [e1, e2, e3]⟩)

end Go.Proofs.Ytomhegnaojejnaa
