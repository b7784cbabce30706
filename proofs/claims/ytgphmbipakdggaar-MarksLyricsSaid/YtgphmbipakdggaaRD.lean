/- Skylines raised, cloned and filled. -/
import Derived.Test.YtgphmbipakdggaaRC
set_option linter.unusedSimpArgs false
set_option linter.unusedVariables false
namespace Go.Proofs.YtgphmbipakdggaaR
open Go Go.RowKit Hr

theorem call66 : Hr.Callable Try.prog 66 := fun args w => by kernel_rfl
theorem call67 : Hr.Callable Try.prog 67 := fun args w => by kernel_rfl
theorem call50 : Hr.Callable Try.prog 50 := fun args w => by kernel_rfl
theorem call68 : Hr.Callable Try.prog 68 := fun args w => by kernel_rfl

set_option maxRecDepth 100000 in
theorem raise_ret (o : List Int) (p : Nat) (A : Option Addr) (c : Nat) (t : Int) (n : Nat) (f l h : Int) (W : World) (hon : o.length = n) (hm : Mem (atAny [.blk p 105 [(0, .int .i64 t), (1, .slice A n c)], .own 3 1 A n c ((o).map encI)]) W [.blk p 105 [(0, .int .i64 t), (1, .slice A n c)], .own 3 1 A n c ((o).map encI)] W) (hf : 0 ≤ f ∧ f ≤ l ∧ l < o.length) (hl6 : o.length ≤ 65536) (ht : t = 1 ∨ t = -1) (hh : -1048576 ≤ h ∧ h ≤ 1048576) : Calls Try.prog 66 #[.pointer (some ⟨p, 0, none⟩), .int .i64 f, .int .i64 l, .int .i64 h] W (Ret W (atAny [.blk p 105 [(0, .int .i64 t), (1, .slice A n c)], .own 3 1 A n c ((o).map encI)]) (fun v m => v = .tuple #[] ∧ m = [.blk p 105 [(0, .int .i64 t), (1, .slice A n c)], .own 3 1 A n c (((raiseN o f.toNat (l.toNat + 1) (t * h))).map encI)])) := by
  subst hon
  have hth := sgn_bd ht hh
  refine enterA (X := _) (vs := [.pointer (some ⟨p, 0, none⟩), .int .i64 f, .int .i64 l, .int .i64 h]) Try.func66 Try.ntmps66 rfl rfl hm ?_
  refine run_seq ?_
  refine run_region ?_
  refine run_q (.none rfl) rfl rfl (q_move rfl rfl) ?_
  refine run_q (.none rfl) rfl rfl (q_assign rfl rfl) ?_
  refine run_nil ?_
  refine run_block ?_
  refine run_sub (subMk (.cons (s := 8) rfl (.cons (s := 0) rfl (.cons (s := 2) rfl (.cons (s := 3) rfl .nil)))) (.cons (.there Sel.here) .refl (.cons Sel.here .refl .nil))) ?_
  refine run_loopC1M1 (ι := Nat) (fun k => f + (k : Int) ≤ l + 1) (fun k => .int .i64 (f + (k : Int))) (fun k => .own 3 1 A o.length c ((raiseN o f.toNat (f.toNat + k) (t * h)).map encI)) (fun k => l.toNat + 1 - k) 0 (by (try dsimp only); exact (by omega)) (vint (by omega)) (.own rfl rfl rfl (by rw [Nat.add_zero, raiseN_start])) ?_
  rintro k hk
  (try dsimp only at hk)
  show Run _ _ _ _ _ _ _ ⟨(8, .int .i64 (f + (k : Int))) :: _, .own 3 1 A o.length c ((raiseN o f.toNat (f.toNat + k) (t * h)).map encI) :: _⟩
  refine run_seq ?_
  refine run_seq ?_
  refine run_region ?_
  refine run_q (.none rfl) rfl rfl (q_move rfl rfl) ?_
  refine run_q (.none rfl) rfl rfl (q_move rfl rfl) ?_
  refine run_q (.none rfl) rfl rfl (q_leq rfl rfl rfl) ?_
  refine run_nil ?_
  refine run_cond rfl (fun g12 => ?_) (fun g12 => ?_)
  · have g12' := g12
    try simp only [decide_eq_true_eq, decide_eq_false_iff_not, beq_iff_eq, beq_eq_false_iff_ne, bne_iff_ne, bne_eq_false_iff_eq, Bool.not_eq_true', Bool.not_eq_false', ne_eq, Int.not_lt, Int.not_le, Decidable.not_not] at g12'
    refine run_skip ?_
    refine run_seq ?_
    refine run_block ?_
    refine run_draw [(0, 0), (1, 0), (2, 0), (3, 0), (4, 0), (5, 0), (6, 0), (7, 0), (8, 0), (9, 0), (10, 0), (11, 0), (12, 0), (13, 0), (14, 0), (15, 0), (16, 0), (17, 0), (18, 0), (19, 0), (20, 2)] mixed (by kernel_rfl) .refl ?_
    refine d_q rfl rfl (.none rfl) rfl rfl (q_move rfl rfl) ?_
    refine d_q rfl rfl (.none rfl) rfl rfl (q_nilCheck rfl rfl) ?_
    refine d_q rfl rfl (.none rfl) rfl rfl (q_fieldB (d := 1) rfl Try.underlying105 rfl rfl sz38 rfl) ?_
    refine d_q rfl rfl (.none rfl) rfl rfl (q_loadB rfl one38 rfl (.there Sel.here) rfl) ?_
    refine d_q rfl rfl (.none rfl) rfl rfl (q_move rfl rfl) ?_
    refine d_q rfl rfl (.none rfl) rfl rfl (q_move rfl rfl) ?_
    refine d_q rfl rfl (.none rfl) rfl rfl (q_nilCheck rfl rfl) ?_
    refine d_q rfl rfl (.none rfl) rfl rfl (q_fieldB (d := 1) rfl Try.underlying105 rfl rfl sz38 rfl) ?_
    refine d_q rfl rfl (.none rfl) rfl rfl (q_loadB rfl one38 rfl (.there Sel.here) rfl) ?_
    refine d_q rfl rfl (.none rfl) rfl rfl (q_move rfl rfl) ?_
    refine d_q rfl rfl (.none rfl) rfl rfl (q_indexS (q := (f.toNat + k)) rfl Try.underlying38 sz3 rfl rfl (.own Sel.here) (by rw [List.length_map, raiseN_len]) (by omega) (by omega)) ?_
    refine d_q rfl rfl (.none rfl) rfl rfl (q_loadC rfl one3 rfl (.own Sel.here) (getmap (by rw [raiseN_len]; omega))) ?_
    refine d_q rfl rfl (.none rfl) rfl rfl (q_move rfl rfl) ?_
    refine d_q rfl rfl (.none rfl) rfl rfl (q_nilCheck rfl rfl) ?_
    refine d_q rfl rfl (.none rfl) rfl rfl (q_fieldB (d := 0) rfl Try.underlying105 rfl rfl sz3 rfl) ?_
    refine d_q rfl rfl (.none rfl) rfl rfl (q_loadB rfl one3 rfl (.there Sel.here) rfl) ?_
    refine d_q rfl rfl (.none rfl) rfl rfl (q_move rfl rfl) ?_
    refine d_q rfl rfl (.none rfl) rfl rfl (q_mul rfl rfl rfl (by omega)) ?_
    refine d_q rfl rfl (.none rfl) rfl rfl (q_max2 rfl rfl rfl) ?_
    refine d_q rfl rfl (.none rfl) rfl rfl (q_indexS (q := (f.toNat + k)) rfl Try.underlying38 sz3 rfl rfl (.own Sel.here) (by rw [List.length_map, raiseN_len]) (by omega) (by omega)) ?_
    refine d_t rfl rfl (.none rfl) (h_storeE rfl rfl sz3 rfl rfl rfl rfl rfl Sel.here (by omega)) ?_
    rintro - -
    refine d_nil ?_
    refine run_sub (subMk (.cons (s := 0) rfl (.cons (s := 2) rfl (.cons (s := 3) rfl (.cons (s := 8) rfl .nil)))) .refl) ?_
    refine run_blk ?_
    refine run_region ?_
    refine run_q (.none rfl) rfl rfl (q_move rfl rfl) ?_
    refine run_q (.none rfl) rfl rfl (q_add rfl rfl rfl (by omega)) ?_
    refine run_q (.none rfl) rfl rfl (q_assign rfl rfl) ?_
    refine run_nil ?_
    exact run_again (k + 1) (by (try dsimp only); exact (by omega)) (by (try dsimp only); omega) (subMk (.cons' (s := 8) rfl (vint (by omega)) (.cons (s := 0) rfl (.cons (s := 2) rfl (.cons (s := 3) rfl .nil)))) (.cons Sel.here (.own rfl rfl rfl (by rw [raiseN_nth (by omega), ← Nat.add_assoc, ← raiseN_step (by omega) (by omega), List.map_set]; rfl)) (.cons Sel.here .refl .nil)))
  · have g12' := g12
    try simp only [decide_eq_true_eq, decide_eq_false_iff_not, beq_iff_eq, beq_eq_false_iff_ne, bne_iff_ne, bne_eq_false_iff_eq, Bool.not_eq_true', Bool.not_eq_false', ne_eq, Int.not_lt, Int.not_le, Decidable.not_not] at g12'
    refine run_exit rfl ?_
    refine run_sub (subMk .nil .refl) ?_
    refine run_sub (subMk .refl (.cons (.there Sel.here) (.blk (.cons (s := 0) rfl (.cons (s := 1) rfl (.nil)))) (.cons Sel.here (.own rfl rfl rfl (by rw [show f.toNat + k = l.toNat + 1 from by omega])) .nil))) ?_
    exact end0 rfl ⟨rfl, rfl⟩

set_option maxRecDepth 100000 in
theorem Raise_ret (o : List Int) (p : Nat) (A : Option Addr) (c : Nat) (t : Int) (n : Nat) (f l h : Int) (W : World) (hon : o.length = n) (hm : Mem (atAny [.blk p 105 [(0, .int .i64 t), (1, .slice A n c)], .own 3 1 A n c ((o).map encI)]) W [.blk p 105 [(0, .int .i64 t), (1, .slice A n c)], .own 3 1 A n c ((o).map encI)] W) (hf : 0 ≤ f ∧ f ≤ l ∧ l < o.length) (hl6 : o.length ≤ 65536) (ht : t = 1 ∨ t = -1) (hh : -1048576 ≤ h ∧ h ≤ 1048576) : Calls Try.prog 37 #[.pointer (some ⟨p, 0, none⟩), .int .i64 f, .int .i64 l, .int .i64 h] W (Ret W (atAny [.blk p 105 [(0, .int .i64 t), (1, .slice A n c)], .own 3 1 A n c ((o).map encI)]) (fun v m => v = .int .i64 0 ∧ m = [.blk p 105 [(0, .int .i64 t), (1, .slice A n c)], .own 3 1 A n c (((raiseN o f.toNat (l.toNat + 1) (t * h))).map encI)])) := by
  subst hon
  refine enterA (X := _) (vs := [.pointer (some ⟨p, 0, none⟩), .int .i64 f, .int .i64 l, .int .i64 h]) Try.func37 Try.ntmps37 rfl rfl hm ?_
  refine run_seq ?_
  refine run_region ?_
  refine run_q (.none rfl) rfl rfl (q_assign rfl rfl) ?_
  refine run_nil ?_
  refine run_seq ?_
  refine run_seq ?_
  refine run_region ?_
  refine run_q (.none rfl) rfl rfl (q_move rfl rfl) ?_
  refine run_q (.none rfl) rfl rfl (q_move rfl rfl) ?_
  refine run_q (.none rfl) rfl rfl (q_move rfl rfl) ?_
  refine run_q (.none rfl) rfl rfl (q_call rfl call65 (.cons rfl (.cons rfl (.cons rfl Evs.nil))) (fun w hk hm => columns_just o p A c t _ f l w rfl (rd_sky (Sel.here.holds hm)))) ?_
  refine run_q (.none rfl) rfl rfl (q_assign rfl rfl) ?_
  refine run_nil ?_
  refine run_sub (subMk (.cons (s := 0) rfl (.cons (s := 1) rfl (.cons (s := 2) rfl (.cons (s := 3) rfl (.cons (s := 8) rfl (.cons (s := 9) rfl .nil)))))) .refl) ?_
  refine run_seq ?_
  refine run_region ?_
  refine run_q (.none rfl) rfl rfl (q_move rfl rfl) ?_
  refine run_q (.none rfl) rfl rfl (q_neq rfl rfl rfl) ?_
  refine run_nil ?_
  refine run_condF rfl (by rw [colE, if_neg (by omega)]; rfl) ?_
  refine run_skip ?_
  refine run_seq ?_
  refine run_seq ?_
  refine run_region ?_
  refine run_q (.none rfl) rfl rfl (q_move rfl rfl) ?_
  refine run_q (.none rfl) rfl rfl (q_call rfl call48 (.cons rfl Evs.nil) (fun w hk hm => perm_just h w)) ?_
  refine run_q (.none rfl) rfl rfl (q_not rfl rfl) ?_
  refine run_nil ?_
  refine run_sub (subMk (.cons (s := 0) rfl (.cons (s := 1) rfl (.cons (s := 2) rfl (.cons (s := 3) rfl (.cons (s := 8) rfl (.cons (s := 19) rfl .nil)))))) .refl) ?_
  refine run_condF rfl (by rw [decide_eq_true hh]; rfl) ?_
  refine run_skip ?_
  refine run_seq ?_
  refine run_region ?_
  refine run_q (.none rfl) rfl rfl (q_move rfl rfl) ?_
  refine run_q (.none rfl) rfl rfl (q_move rfl rfl) ?_
  refine run_q (.none rfl) rfl rfl (q_move rfl rfl) ?_
  refine run_q (.none rfl) rfl rfl (q_move rfl rfl) ?_
  refine run_h (.none rfl) (h_callX [_, _] _ rfl rfl rfl call66 (.cons rfl (.cons rfl (.cons rfl (.cons rfl Evs.nil)))) ((Sel.perm Sel.here).trans (.cons _ (Sel.perm Sel.here))) (Y := fun _ => atAny [_, _]) (fun _ _ h => h) (fun w hk hm => raise_ret o p A c t _ f l h w rfl ((hm.perm ((Sel.perm Sel.here).trans (.cons _ (Sel.perm Sel.here)))).give (rs := [_, _])) hf hl6 ht hh)) ?_
  rintro ⟨v, m⟩ ⟨rfl, rfl⟩
  show Run _ _ _ _ _ _ _ ⟨(24, .tuple #[]) :: _, _ :: _ :: _⟩
  refine run_nil ?_
  refine run_sub (subMk (.cons (s := 8) rfl .nil) .refl) ?_
  refine run_seq ?_
  refine run_region ?_
  refine run_q (.none rfl) rfl rfl (q_assign rfl rfl) ?_
  refine run_nil ?_
  refine run_ret ?_
  refine run_sub (subMk .refl (.cons Sel.here .refl (.cons Sel.here .refl .nil))) ?_
  exact end1 rfl rfl ⟨rfl, rfl⟩

set_option maxRecDepth 100000 in
theorem cloneS_ret (o : List Int) (p : Nat) (A : Option Addr) (c : Nat) (t : Int) (n : Nat) (W : World) (hon : o.length = n) (hb : Rd W (some ⟨p, 0, none⟩) 2 [[.int .i64 t, .slice A n c]]) (hr : Rd W A 1 (o.map encI)) (hl6 : o.length ≤ 65536) : Calls Try.prog 41 #[.pointer (some ((adr (some ⟨p, 0, none⟩)).add (0 * 2)))] W (Ret W nX (fun v m => ∃ (q : Nat) (B : Option Addr) (d : Nat), v = .pointer (some ⟨q, 0, none⟩) ∧ n ≤ d ∧ m = [.blk q 105 [(0, .int .i64 t), (1, .slice B n d)], .own 3 1 B n d ((o).map encI)])) := by
  subst hon
  refine enterA (X := nX) (vs := [.pointer (some ((adr (some ⟨p, 0, none⟩)).add (0 * 2)))]) Try.func41 Try.ntmps41 rfl rfl Mem.nil ?_
  refine run_seq ?_
  refine run_region ?_
  refine run_q (.none rfl) rfl rfl (q_assign rfl rfl) ?_
  refine run_nil ?_
  refine run_seq ?_
  refine run_seq ?_
  refine run_region ?_
  refine run_q (.none rfl) rfl rfl (q_move rfl rfl) ?_
  refine run_q (.none rfl) rfl rfl (q_eqlPtr rfl rfl rfl Try.underlying41) ?_
  refine run_nil ?_
  refine run_condF rfl rfl ?_
  refine run_skip ?_
  refine run_seq ?_
  refine run_draw [(0, 0), (1, 0), (2, 0), (3, 0), (4, 0), (5, 0), (6, 0), (7, 0), (8, 1), (9, 0), (10, 2), (11, 2)] mixed (by kernel_rfl) .refl ?_
  refine d_q rfl rfl (.none rfl) rfl rfl (q_move rfl rfl) ?_
  refine d_q rfl rfl (.none rfl) rfl rfl (q_nilCheck rfl rfl) ?_
  refine d_q rfl rfl (.none rfl) rfl rfl (q_fieldAddr (d := 0) rfl Try.underlying105 rfl rfl sz3 rfl) ?_
  refine d_q rfl rfl (.none rfl) rfl rfl (q_loadF rfl one3 rfl (.inp hb .no) (show ([[.int .i64 t, .slice A o.length c]] : List (List Value))[0]? = some [.int .i64 t, .slice A o.length c] from rfl) rfl) ?_
  refine d_q rfl rfl (.none rfl) rfl rfl (q_move rfl rfl) ?_
  refine d_q rfl rfl (.none rfl) rfl rfl (q_nilCheck rfl rfl) ?_
  refine d_q rfl rfl (.none rfl) rfl rfl (q_fieldAddr (d := 1) rfl Try.underlying105 rfl rfl sz38 rfl) ?_
  refine d_q rfl rfl (.none rfl) rfl rfl (q_loadF rfl one38 rfl (.inp hb .no) (show ([[.int .i64 t, .slice A o.length c]] : List (List Value))[0]? = some [.int .i64 t, .slice A o.length c] from rfl) rfl) ?_
  refine d_h rfl rfl (.none rfl) (h_call rfl rfl rfl call67 (.cons rfl Evs.nil) (fun w hk hm => cloneI_ret o A c w (hr.kept0 hk) (by omega))) (fun _ _ => (.sub (List.sublist_append_right _ _))) ?_
  rintro ⟨v, m⟩ ⟨B, d, rfl, rfl⟩
  show RunD _ _ _ _ _ _ _ _ _ _ _ ⟨(13, .slice B o.length d) :: _, _ :: _⟩
  refine d_q rfl rfl (.none rfl) rfl rfl (q_build rfl (.cons rfl (.cons rfl PV.nil)) (built105p0p1 _ _ _ _)) ?_
  refine d_t rfl rfl (.none rfl) (h_box rfl rfl rfl rfl rfl) ?_
  rintro b15 -
  refine d_t rfl rfl (.none rfl) (.of_q rfl rfl (q_assign rfl rfl)) ?_
  rintro - -
  refine d_nil ?_
  refine run_sub (subMk (.cons (s := 2) rfl .nil) .refl) ?_
  refine run_ret ?_
  refine run_ownLe (.there Sel.here) (fun hle => ?_)
  refine run_sub (subMk .refl (.cons Sel.here (.blk (.cons (s := 0) rfl (.cons (s := 1) rfl (.nil)))) (.cons Sel.here .refl .nil))) ?_
  exact end1 rfl rfl ⟨b15, B, d, rfl, hle, rfl⟩

set_option maxRecDepth 100000 in
theorem at_just (o : List Int) (p : Nat) (A : Option Addr) (c : Nat) (t : Int) (n : Nat) (f : Int) (W : World) (hon : o.length = n) (hb : Rd W (some ⟨p, 0, none⟩) 2 [[.int .i64 t, .slice A n c]]) (hr : Rd W A 1 (o.map encI)) (hf : 0 ≤ f ∧ f < o.length) (hc : o.length ≤ c) (hl6 : o.length ≤ 65536) (hbd : Bd o) (ht : t = 1 ∨ t = -1) : Calls Try.prog 46 #[.pointer (some ((adr (some ⟨p, 0, none⟩)).add (0 * 2))), .int .i64 f] W (Hr.Just W (.tuple #[.int .i64 (t * nth o f.toNat), .int .i64 0])) := by
  subst hon
  refine Just.of_ret ?_
  refine enterA (X := nX) (vs := [.pointer (some ((adr (some ⟨p, 0, none⟩)).add (0 * 2))), .int .i64 f]) Try.func46 Try.ntmps46 rfl rfl Mem.nil ?_
  refine run_seq ?_
  refine run_region ?_
  refine run_q (.none rfl) rfl rfl (q_assign rfl rfl) ?_
  refine run_q (.none rfl) rfl rfl (q_assign rfl rfl) ?_
  refine run_nil ?_
  refine run_seq ?_
  refine run_region ?_
  refine run_q (.none rfl) rfl rfl (q_move rfl rfl) ?_
  refine run_q (.none rfl) rfl rfl (q_move rfl rfl) ?_
  refine run_q (.none rfl) rfl rfl (q_move rfl rfl) ?_
  refine run_q (.none rfl) rfl rfl (q_call rfl call50 (.cons rfl (.cons rfl (.cons rfl Evs.nil))) (fun w hk hm => most_just o p A c t _ f f w rfl (hb.kept0 hk) (hr.kept0 hk) ⟨hf.1, Int.le_refl _, hf.2⟩ hc hl6 hbd ht)) ?_
  refine run_q (.none rfl) rfl rfl (q_extract rfl rfl rfl) ?_
  refine run_q (.none rfl) rfl rfl (q_extract rfl rfl rfl) ?_
  refine run_q (.none rfl) rfl rfl (q_assign rfl rfl) ?_
  refine run_q (.none rfl) rfl rfl (q_assign rfl rfl) ?_
  refine run_nil ?_
  refine run_sub (subMk (.cons (s := 4) rfl (.cons (s := 5) rfl .nil)) .refl) ?_
  refine run_ret ?_
  exact end2 rfl rfl rfl (by rw [maxR_one]; rfl)

set_option maxRecDepth 100000 in
theorem placeS_ret (o : List Int) (p : Nat) (A : Option Addr) (c : Nat) (t : Int) (n : Nat) (f l near high : Int) (W : World) (hon : o.length = n) (hm : Mem (atAny [.blk p 105 [(0, .int .i64 t), (1, .slice A n c)], .own 3 1 A n c ((o).map encI)]) W [.blk p 105 [(0, .int .i64 t), (1, .slice A n c)], .own 3 1 A n c ((o).map encI)] W) (hf : 0 ≤ f ∧ f ≤ l ∧ l < o.length) (hc : o.length ≤ c) (hl6 : o.length ≤ 65536) (hbd : Bd o) (ht : t = 1 ∨ t = -1) (hn : -1048576 ≤ near ∧ near ≤ 1048576) (hh : 0 ≤ high ∧ high ≤ 65536) : Calls Try.prog 42 #[.pointer (some ⟨p, 0, none⟩), .int .i64 f, .int .i64 l, .int .i64 near, .int .i64 high, .int .i64 16] W (Ret W (atAny [.blk p 105 [(0, .int .i64 t), (1, .slice A n c)], .own 3 1 A n c ((o).map encI)]) (fun v m => v = .tuple #[.int .i64 (plV t o f.toNat l.toNat near high), .int .i64 (plE t o f.toNat l.toNat near high)] ∧ m = [.blk p 105 [(0, .int .i64 t), (1, .slice A n c)], .own 3 1 A n c (((plO t o f.toNat l.toNat near high)).map encI)])) := by
  subst hon
  have hmb := maxR_bd hbd (show f.toNat ≤ l.toNat by omega) (by omega)
  have hss := sgn_sgn ht (maxR o f.toNat l.toNat)
  have hmt := sgn_bd ht hmb
  have hnt := sgn_bd ht hn
  have heb := edgeO_bd (near := near) ht hbd (show f.toNat ≤ l.toNat by omega) (by omega) hn
  refine enterA (X := _) (vs := [.pointer (some ⟨p, 0, none⟩), .int .i64 f, .int .i64 l, .int .i64 near, .int .i64 high, .int .i64 16]) Try.func42 Try.ntmps42 rfl rfl hm ?_
  refine run_seq ?_
  refine run_region ?_
  refine run_q (.none rfl) rfl rfl (q_assign rfl rfl) ?_
  refine run_q (.none rfl) rfl rfl (q_assign rfl rfl) ?_
  refine run_nil ?_
  refine run_seq ?_
  refine run_region ?_
  refine run_q (.none rfl) rfl rfl (q_move rfl rfl) ?_
  refine run_q (.none rfl) rfl rfl (q_move rfl rfl) ?_
  refine run_q (.none rfl) rfl rfl (q_move rfl rfl) ?_
  refine run_q (.none rfl) rfl rfl (q_call rfl call50 (.cons rfl (.cons rfl (.cons rfl Evs.nil))) (fun w hk hm => most_just o p A c t _ f l w rfl (rd_sky (Sel.here.holds hm)) (own_rd ((Sel.there Sel.here).holds hm)) hf hc hl6 hbd ht)) ?_
  refine run_q (.none rfl) rfl rfl (q_move rfl rfl) ?_
  refine run_q (.none rfl) rfl rfl (q_extract rfl rfl rfl) ?_
  refine run_q (.none rfl) rfl rfl (q_extract rfl rfl rfl) ?_
  refine run_q (.none rfl) rfl rfl (q_assign rfl rfl) ?_
  refine run_q (.none rfl) rfl rfl (q_assign rfl rfl) ?_
  refine run_nil ?_
  refine run_sub (subMk (.cons (s := 0) rfl (.cons (s := 1) rfl (.cons (s := 2) rfl (.cons (s := 3) rfl (.cons (s := 4) rfl (.cons (s := 5) rfl (.cons (s := 12) rfl (.cons (s := 13) rfl (.cons (s := 14) rfl (.cons (s := 15) rfl .nil)))))))))) .refl) ?_
  refine run_seq ?_
  refine run_block ?_
  refine run_seq ?_
  refine run_region ?_
  refine run_q (.none rfl) rfl rfl (q_move rfl rfl) ?_
  refine run_q (.none rfl) rfl rfl (q_neq rfl rfl rfl) ?_
  refine run_q (.none rfl) rfl rfl (q_assign rfl rfl) ?_
  refine run_nil ?_
  refine run_condF rfl rfl ?_
  refine run_seq ?_
  refine run_region ?_
  refine run_q (.none rfl) rfl rfl (q_move rfl rfl) ?_
  refine run_q (.none rfl) rfl rfl (q_call rfl call48 (.cons rfl Evs.nil) (fun w hk hm => perm_just _ w)) ?_
  refine run_q (.none rfl) rfl rfl (q_not rfl rfl) ?_
  refine run_q (.none rfl) rfl rfl (q_move rfl rfl) ?_
  refine run_q (.on rfl rfl rfl (by simp; omega)) rfl rfl (q_move rfl rfl) ?_
  refine run_q (.on rfl rfl rfl (by simp; omega)) rfl rfl (q_call rfl call68 (.cons rfl Evs.nil) (fun w hk hm => size_just _ w)) ?_
  refine run_q (.on rfl rfl rfl (by simp; omega)) rfl rfl (q_not rfl rfl) ?_
  refine run_q (.none rfl) rfl rfl (q_pickF rfl rfl (by simp; omega) rfl) ?_
  refine run_q (.none rfl) rfl rfl (q_move rfl rfl) ?_
  refine run_q (.on rfl rfl rfl (by simp; omega)) rfl rfl (q_move rfl rfl) ?_
  refine run_q (.on rfl rfl rfl (by simp; omega)) rfl rfl (q_call rfl call68 (.cons rfl Evs.nil) (fun w hk hm => size_just _ w)) ?_
  refine run_q (.on rfl rfl rfl (by simp; omega)) rfl rfl (q_not rfl rfl) ?_
  refine run_q (.none rfl) rfl rfl (q_pickF rfl rfl (by simp; omega) rfl) ?_
  refine run_q (.none rfl) rfl rfl (q_assign rfl rfl) ?_
  refine run_nil ?_
  refine run_sub (subMk (.cons (s := 0) rfl (.cons (s := 1) rfl (.cons (s := 2) rfl (.cons (s := 3) rfl (.cons (s := 4) rfl (.cons (s := 5) rfl (.cons (s := 12) rfl (.cons (s := 13) rfl (.cons (s := 14) rfl (.cons (s := 28) rfl .nil)))))))))) .refl) ?_
  refine run_condF rfl rfl ?_
  refine run_skip ?_
  refine run_blk ?_
  refine run_seq ?_
  refine run_draw [(0, 0), (1, 0), (2, 0), (3, 0), (4, 0), (5, 0), (6, 0), (7, 0), (8, 0), (9, 0), (10, 0), (11, 0), (12, 0), (13, 0), (14, 0), (15, 0)] mixed (by kernel_rfl) .refl ?_
  refine d_q rfl rfl (.none rfl) rfl rfl (q_move rfl rfl) ?_
  refine d_q rfl rfl (.none rfl) rfl rfl (q_nilCheck rfl rfl) ?_
  refine d_q rfl rfl (.none rfl) rfl rfl (q_fieldB (d := 0) rfl Try.underlying105 rfl rfl sz3 rfl) ?_
  refine d_q rfl rfl (.none rfl) rfl rfl (q_loadB rfl one3 rfl Sel.here rfl) ?_
  refine d_q rfl rfl (.none rfl) rfl rfl (q_move rfl rfl) ?_
  refine d_q rfl rfl (.none rfl) rfl rfl (q_mul rfl rfl rfl (by omega)) ?_
  refine d_q rfl rfl (.none rfl) rfl rfl (q_move rfl rfl) ?_
  refine d_q rfl rfl (.none rfl) rfl rfl (q_nilCheck rfl rfl) ?_
  refine d_q rfl rfl (.none rfl) rfl rfl (q_fieldB (d := 0) rfl Try.underlying105 rfl rfl sz3 rfl) ?_
  refine d_q rfl rfl (.none rfl) rfl rfl (q_loadB rfl one3 rfl Sel.here rfl) ?_
  refine d_q rfl rfl (.none rfl) rfl rfl (q_move rfl rfl) ?_
  refine d_q rfl rfl (.none rfl) rfl rfl (q_mul rfl rfl rfl (by omega)) ?_
  refine d_q rfl rfl (.none rfl) rfl rfl (q_move rfl rfl) ?_
  refine d_q rfl rfl (.none rfl) rfl rfl (q_add rfl rfl rfl (by omega)) ?_
  refine d_q rfl rfl (.none rfl) rfl rfl (q_max2 rfl rfl rfl) ?_
  refine d_q rfl rfl (.none rfl) rfl rfl (q_assign rfl rfl) ?_
  refine d_nil ?_
  refine run_sub (subMk (.cons (s := 0) rfl (.cons (s := 1) rfl (.cons (s := 2) rfl (.cons (s := 4) rfl (.cons (s := 12) rfl (.cons (s := 13) rfl (.cons (s := 16) rfl .nil))))))) .refl) ?_
  refine run_seq ?_
  refine run_seq ?_
  refine run_sub (subMk (.cons (s := 0) rfl (.cons (s := 1) rfl (.cons (s := 2) rfl (.cons (s := 4) rfl (.cons (s := 12) rfl (.cons (s := 13) rfl (.cons' (s := 16) (v' := .int .i64 (edgeO t o f.toNat l.toNat near)) rfl (vint (by rw [sgn_sgn ht]; rfl)) .nil))))))) .refl) ?_
  refine run_region ?_
  refine run_q (.none rfl) rfl rfl (q_move rfl rfl) ?_
  refine run_q (.none rfl) rfl rfl (q_move rfl rfl) ?_
  refine run_q (.none rfl) rfl rfl (q_add rfl rfl rfl (by omega)) ?_
  refine run_q (.none rfl) rfl rfl (q_call rfl call48 (.cons rfl Evs.nil) (fun w hk hm => perm_just _ w)) ?_
  refine run_q (.none rfl) rfl rfl (q_not rfl rfl) ?_
  refine run_nil ?_
  refine run_sub (subMk (.cons (s := 0) rfl (.cons (s := 1) rfl (.cons (s := 2) rfl (.cons (s := 4) rfl (.cons (s := 12) rfl (.cons (s := 13) rfl (.cons (s := 16) rfl (.cons (s := 61) rfl .nil)))))))) .refl) ?_
  refine run_cond rfl (fun g61 => ?_) (fun g61 => ?_)
  · have g61' := g61
    try simp only [decide_eq_true_eq, decide_eq_false_iff_not, beq_iff_eq, beq_eq_false_iff_ne, bne_iff_ne, bne_eq_false_iff_eq, Bool.not_eq_true', Bool.not_eq_false', ne_eq, Int.not_lt, Int.not_le, Decidable.not_not] at g61'
    refine run_seq ?_
    refine run_region ?_
    refine run_q (.none rfl) rfl rfl (q_assign rfl rfl) ?_
    refine run_q (.none rfl) rfl rfl (q_assign rfl rfl) ?_
    refine run_nil ?_
    refine run_ret ?_
    refine run_sub (subMk .refl (.cons Sel.here (.blk (.cons (s := 0) rfl (.cons (s := 1) rfl (.nil)))) (.cons Sel.here (.own (xs' := (plO t o f.toNat l.toNat near high).map encI) rfl rfl rfl (by rw [plO, if_pos (by omega)])) .nil))) ?_
    exact end2 rfl rfl rfl ⟨by rw [plV, plE, if_pos (by omega), if_pos (by omega)], rfl⟩
  · have g61' := g61
    try simp only [decide_eq_true_eq, decide_eq_false_iff_not, beq_iff_eq, beq_eq_false_iff_ne, bne_iff_ne, bne_eq_false_iff_eq, Bool.not_eq_true', Bool.not_eq_false', ne_eq, Int.not_lt, Int.not_le, Decidable.not_not] at g61'
    refine run_skip ?_
    refine run_seq ?_
    have het := sgn_bd (b := 1048592) ht (x := edgeO t o f.toNat l.toNat near) (by omega)
    have het2 := sgn_bd (b := 1048576) ht (x := edgeO t o f.toNat l.toNat near + high) (by omega)
    refine run_region ?_
    refine run_q (.none rfl) rfl rfl (q_move rfl rfl) ?_
    refine run_q (.none rfl) rfl rfl (q_move rfl rfl) ?_
    refine run_q (.none rfl) rfl rfl (q_move rfl rfl) ?_
    refine run_q (.none rfl) rfl rfl (q_move rfl rfl) ?_
    refine run_q (.none rfl) rfl rfl (q_nilCheck rfl rfl) ?_
    refine run_q (.none rfl) rfl rfl (q_fieldB (d := 0) rfl Try.underlying105 rfl rfl sz3 rfl) ?_
    refine run_q (.none rfl) rfl rfl (q_loadB rfl one3 rfl Sel.here rfl) ?_
    refine run_q (.none rfl) rfl rfl (q_move rfl rfl) ?_
    refine run_q (.none rfl) rfl rfl (q_move rfl rfl) ?_
    refine run_q (.none rfl) rfl rfl (q_add rfl rfl rfl (by omega)) ?_
    refine run_q (.none rfl) rfl rfl (q_mul rfl rfl rfl (by omega)) ?_
    refine run_h (.none rfl) (h_callX [_, _] _ rfl rfl rfl call66 (.cons rfl (.cons rfl (.cons rfl (.cons rfl Evs.nil)))) ((Sel.perm Sel.here).trans (.cons _ (Sel.perm Sel.here))) (Y := fun _ => atAny [_, _]) (fun _ _ h => h) (fun w hk hm => raise_ret o p A c t _ f l (t * (edgeO t o f.toNat l.toNat near + high)) w rfl ((hm.perm ((Sel.perm Sel.here).trans (.cons _ (Sel.perm Sel.here)))).give (rs := [_, _])) ⟨hf.1, hf.2.1, hf.2.2⟩ hl6 ht (sgn_bd ht (by omega)))) ?_
    rintro ⟨v, m⟩ ⟨rfl, rfl⟩
    show Run _ _ _ _ _ _ _ ⟨(73, .tuple #[]) :: _, _ :: _ :: _⟩
    refine run_nil ?_
    refine run_sub (subMk (.cons (s := 0) rfl (.cons (s := 12) rfl (.cons (s := 13) rfl (.cons (s := 16) rfl .nil)))) .refl) ?_
    refine run_seq ?_
    refine run_region ?_
    refine run_q (.none rfl) rfl rfl (q_move rfl rfl) ?_
    refine run_q (.none rfl) rfl rfl (q_nilCheck rfl rfl) ?_
    refine run_q (.none rfl) rfl rfl (q_fieldB (d := 0) rfl Try.underlying105 rfl rfl sz3 rfl) ?_
    refine run_q (.none rfl) rfl rfl (q_loadB rfl one3 rfl Sel.here rfl) ?_
    refine run_q (.none rfl) rfl rfl (q_move rfl rfl) ?_
    refine run_q (.none rfl) rfl rfl (q_mul rfl rfl rfl (by omega)) ?_
    refine run_q (.none rfl) rfl rfl (q_assign rfl rfl) ?_
    refine run_q (.none rfl) rfl rfl (q_assign rfl rfl) ?_
    refine run_nil ?_
    refine run_sub (subMk (.cons (s := 12) rfl (.cons (s := 13) rfl .nil)) .refl) ?_
    refine run_ret ?_
    refine run_sub (subMk .refl (.cons Sel.here (.blk (.cons (s := 0) rfl (.cons (s := 1) rfl (.nil)))) (.cons Sel.here (.own (xs' := (plO t o f.toNat l.toNat near high).map encI) rfl rfl rfl (by rw [plO, if_neg (by omega), sgn_sgn ht])) .nil))) ?_
    exact end2 rfl rfl rfl ⟨by rw [plV, plE, if_neg (by omega), if_neg (by omega)], rfl⟩

end Go.Proofs.YtgphmbipakdggaaR
