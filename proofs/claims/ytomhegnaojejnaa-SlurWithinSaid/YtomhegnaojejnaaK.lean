/- The chapter's example, and the law on checks. -/
import Derived.Test.YtomhegnaojejnaaI
import Derived.Test.YtomhegnaojejnaaKeep
set_option linter.unusedSimpArgs false
set_option linter.unusedVariables false
namespace Go.Proofs.Ytomhegnaojejnaa
open Go Go.RowKit Hr

theorem call21 : Hr.Callable Try.prog 21 := fun args w => by kernel_rfl
theorem built25p0p3p6p7p8 (x0y : Int) (x3y : Int) (x6y : Int) (x7y : Int) (x8y : Int) : Try.prog.built 25 [(0, .int .i64 x0y), (3, .int .i64 x3y), (6, .int .i64 x6y), (7, .int .i64 x7y), (8, .int .i64 x8y)] = some #[.int .i64 x0y, .int .i64 0, .int .i64 0, .int .i64 x3y, .int .i64 0, .int .i64 0, .int .i64 0, .int .i64 x6y, .int .i64 x7y, .int .i64 x8y, .bool false, .bool false] := by kernel_rfl
theorem built25p0p3p5p6p7p8 (x0y : Int) (x3y : Int) (x5y : Int) (x6y : Int) (x7y : Int) (x8y : Int) : Try.prog.built 25 [(0, .int .i64 x0y), (3, .int .i64 x3y), (5, .int .i64 x5y), (6, .int .i64 x6y), (7, .int .i64 x7y), (8, .int .i64 x8y)] = some #[.int .i64 x0y, .int .i64 0, .int .i64 0, .int .i64 x3y, .int .i64 0, .int .i64 0, .int .i64 x5y, .int .i64 x6y, .int .i64 x7y, .int .i64 x8y, .bool false, .bool false] := by kernel_rfl
theorem call20 : Hr.Callable Try.prog 20 := fun args w => by kernel_rfl
theorem sz49 : Hr.Sz Try.prog 49 12 := Hr.Sz.of (by kernel_rfl)
theorem eqg47 : Try.prog.eqGuardType Try.prog.depth 47 = false := by kernel_rfl
theorem stood47 : Try.prog.stoodInHeld 47 = false := by kernel_rfl
theorem eqs47 (a0 a1 a2 a3 b0 b1 b2 b3 : Int) (w : World) : (Op.equalIn 10000 47 (.agg #[.int .i64 a0, .int .i64 a1, .int .i64 a2, .int .i64 a3]) (.agg #[.int .i64 b0, .int .i64 b1, .int .i64 b2, .int .i64 b3])).run Try.prog w = .ok (a0 == b0 && (a1 == b1 && (a2 == b2 && (a3 == b3)))) w := by
  rw [run_equalIn_struct w 9999 47 _ _ (by simp only [Program.fieldsOf, Try.underlying47]) stood47]
  have hz : ∀ (x y : Int) (w : World), (Op.equalIn 9999 3 (.int .i64 x) (.int .i64 y)).run Try.prog w = .ok (x == y) w := fun x y w => run_equalIn_int w 9998 3 .i64 .i64 x y Try.underlying3
  cases h0 : (a0 == b0) <;> cases h1 : (a1 == b1) <;> cases h2 : (a2 == b2) <;> cases h3 : (a3 == b3) <;> simp [Program.fieldsOf, Try.underlying47, Op.eqFields, part, one3.1, hz, h0, h1, h2, h3]
theorem call12 : Hr.Callable Try.prog 12 := fun args w => by kernel_rfl
theorem call14 : Hr.Callable Try.prog 14 := fun args w => by kernel_rfl

def kx : List Spn := [⟨41, 0, 0, 1, 0, 0, 0, 3, 100, 160, false, false⟩, ⟨40, 0, 0, -1, 0, 0, 1, 2, -32, -32, false, false⟩]
def ka : List Int := List.replicate 4 (1 * 128)
def kb : List Int := List.replicate 4 ((-1) * (-128))
def km : List Mk := [⟨40, 0, 0, 1, 2, 0, 0, 0, 0, -68, 0, -40⟩, ⟨41, 0, 0, 0, 3, 0, 0, 0, 0, 160, 0, 196⟩]
theorem known_E : slpE kx ka kb = 0 := by rfl
theorem known_M : slpM kx ka kb = km := by
  rw [(slp_ok known_E).2.2]; rfl

theorem place_known (X : Option Addr) (cx pa pb : Nat) (A B : Option Addr) (ca cb : Nat) (W : World) (hm : Mem (atAny [.blk pa 94 [(0, .int .i64 1), (1, .slice A 4 ca)], .own 3 1 A 4 ca ((ka).map encI), .blk pb 94 [(0, .int .i64 (-1)), (1, .slice B 4 cb)], .own 3 1 B 4 cb ((kb).map encI)]) W [.blk pa 94 [(0, .int .i64 1), (1, .slice A 4 ca)], .own 3 1 A 4 ca ((ka).map encI), .blk pb 94 [(0, .int .i64 (-1)), (1, .slice B 4 cb)], .own 3 1 B 4 cb ((kb).map encI)] W) (hx : ∀ w, Kept (atAny [.blk pa 94 [(0, .int .i64 1), (1, .slice A 4 ca)], .own 3 1 A 4 ca ((ka).map encI), .blk pb 94 [(0, .int .i64 (-1)), (1, .slice B 4 cb)], .own 3 1 B 4 cb ((kb).map encI)]) W w → Rd w X 12 (kx.map Spn.enc)) :
    Calls Try.prog 20 #[.slice X 2 cx, .pointer (some ⟨pa, 0, none⟩), .pointer (some ⟨pb, 0, none⟩)] W (Ret W (atAny [.blk pa 94 [(0, .int .i64 1), (1, .slice A 4 ca)], .own 3 1 A 4 ca ((ka).map encI), .blk pb 94 [(0, .int .i64 (-1)), (1, .slice B 4 cb)], .own 3 1 B 4 cb ((kb).map encI)]) (fun v m => ∃ O co, v = .tuple #[.slice O 2 co, .int .i64 0] ∧ m = [.blk pa 94 [(0, .int .i64 1), (1, .slice A 4 ca)], .own 3 1 A 4 ca (((slpA kx ka kb)).map encI), .blk pb 94 [(0, .int .i64 (-1)), (1, .slice B 4 cb)], .own 3 1 B 4 cb (((slpB kx ka kb)).map encI), .own 49 12 O 2 co (km.map Mk.enc)])) := by
  have h := Place_ret kx X cx ka kb pa pb A B ca cb 4 W rfl rfl hm hx (by decide) (by decide) (rep_bd (by decide)) (rep_bd (by decide))
  rw [known_E, known_M] at h; exact h

set_option maxHeartbeats 2000000 in
set_option maxRecDepth 100000 in
theorem known_just  (W : World)  : Calls Try.prog 12 #[] W (Hr.Just W (.bool true)) := by
  refine Just.of_ret ?_
  refine enterA (X := nX) (vs := []) Try.func12 Try.ntmps12 rfl rfl Mem.nil ?_
  refine run_seq ?_
  refine run_region ?_
  refine run_q (.none rfl) rfl rfl (q_assign rfl rfl) ?_
  refine run_nil ?_
  refine run_seq ?_
  refine run_region ?_
  refine run_h (.none rfl) (h_call rfl rfl rfl call21 (.cons rfl (.cons rfl (.cons rfl Evs.nil))) (fun w hk hm => new_ret 1 128 4 w (.inl rfl) (by decide) (by decide))) ?_
  rintro ⟨v, m⟩ ⟨pa, A, ca, rfl, hca, rfl⟩
  show Run _ _ _ _ _ _ _ ⟨(9, .tuple #[.pointer (some ⟨pa, 0, none⟩), .int .i64 0]) :: _, _ :: _ :: _⟩
  refine run_q (.none rfl) rfl rfl (q_move rfl rfl) ?_
  refine run_q (.none rfl) rfl rfl (q_extract rfl rfl rfl) ?_
  refine run_q (.none rfl) rfl rfl (q_extract rfl rfl rfl) ?_
  refine run_q (.none rfl) rfl rfl (q_assign rfl rfl) ?_
  refine run_q (.none rfl) rfl rfl (q_assign rfl rfl) ?_
  refine run_nil ?_
  refine run_sub (subMk (.cons (s := 0) rfl (.cons (s := 1) rfl (.cons (s := 2) rfl .nil))) .refl) ?_
  refine run_seq ?_
  refine run_region ?_
  refine run_h (.none rfl) (h_call rfl rfl rfl call21 (.cons rfl (.cons rfl (.cons rfl Evs.nil))) (fun w hk hm => new_ret (-1) (-128) 4 w (.inr rfl) (by decide) (by decide))) ?_
  rintro ⟨v, m⟩ ⟨pb, B, cb, rfl, hcb, rfl⟩
  show Run _ _ _ _ _ _ _ ⟨(13, .tuple #[.pointer (some ⟨pb, 0, none⟩), .int .i64 0]) :: _, _ :: _ :: _⟩
  refine run_q (.none rfl) rfl rfl (q_move rfl rfl) ?_
  refine run_q (.none rfl) rfl rfl (q_extract rfl rfl rfl) ?_
  refine run_q (.none rfl) rfl rfl (q_extract rfl rfl rfl) ?_
  refine run_q (.none rfl) rfl rfl (q_assign rfl rfl) ?_
  refine run_q (.none rfl) rfl rfl (q_assign rfl rfl) ?_
  refine run_nil ?_
  refine run_sub (subMk (.cons (s := 0) rfl (.cons (s := 1) rfl (.cons (s := 2) rfl (.cons (s := 3) rfl (.cons (s := 4) rfl .nil))))) .refl) ?_
  refine run_seq ?_
  refine run_seq ?_
  refine run_region ?_
  refine run_q (.none rfl) rfl rfl (q_move rfl rfl) ?_
  refine run_q (.none rfl) rfl rfl (q_neq rfl rfl rfl) ?_
  refine run_q (.none rfl) rfl rfl (q_move rfl rfl) ?_
  refine run_q (.on rfl rfl rfl rfl) rfl rfl (q_move rfl rfl) ?_
  refine run_q (.on rfl rfl rfl rfl) rfl rfl (q_neq rfl rfl rfl) ?_
  refine run_q (.none rfl) rfl rfl (q_pickF rfl rfl rfl rfl) ?_
  refine run_nil ?_
  refine run_sub (subMk (.cons (s := 0) rfl (.cons (s := 1) rfl (.cons (s := 3) rfl (.cons (s := 21) rfl .nil)))) .refl) ?_
  refine run_condF rfl rfl ?_
  refine run_skip ?_
  refine run_seq ?_
  refine run_region ?_
  refine run_q (.none rfl) rfl rfl (q_build rfl (.cons rfl (.cons rfl (.cons rfl (.cons rfl (.cons rfl PV.nil))))) (built25p0p3p6p7p8 _ _ _ _ _)) ?_
  refine run_q (.none rfl) rfl rfl (q_build rfl (.cons rfl (.cons rfl (.cons rfl (.cons rfl (.cons rfl (.cons rfl PV.nil)))))) (built25p0p3p5p6p7p8 _ _ _ _ _ _)) ?_
  refine run_h (.none rfl) (h_buildSlice rfl rfl rfl Try.underlying30 info25 (.cons rfl rfl rfl rfl (.cons rfl rfl rfl rfl Parts.nil)) rfl (by omega)) ?_
  rintro b24 -
  refine run_q (.none rfl) rfl rfl (q_assign rfl rfl) ?_
  refine run_nil ?_
  refine run_sub (subMk (.cons (s := 0) rfl (.cons (s := 1) rfl (.cons (s := 3) rfl (.cons (s := 5) rfl .nil)))) .refl) ?_
  refine run_seq ?_
  refine run_region ?_
  refine run_q (.none rfl) rfl rfl (q_move rfl rfl) ?_
  refine run_q (.none rfl) rfl rfl (q_move rfl rfl) ?_
  refine run_q (.none rfl) rfl rfl (q_move rfl rfl) ?_
  refine run_h (.none rfl) (h_callX [_, _, _, _] _ rfl rfl rfl call20 (.cons rfl (.cons rfl (.cons rfl Evs.nil))) ((Sel.perm (.there (.there (.there Sel.here)))).trans (.cons _ ((Sel.perm (.there (.there (.there Sel.here)))).trans (.cons _ ((Sel.perm (.there Sel.here)).trans (.cons _ (Sel.perm (.there Sel.here)))))))) (Y := fun _ => atAny [_, _, _, _]) (fun _ _ h => h) (fun w hk hm => place_known (some ⟨b24, 0, none⟩) 2 pa pb A B ca cb w ((hm.perm ((Sel.perm (.there (.there (.there Sel.here)))).trans (.cons _ ((Sel.perm (.there (.there (.there Sel.here)))).trans (.cons _ ((Sel.perm (.there Sel.here)).trans (.cons _ (Sel.perm (.there Sel.here))))))))).give (rs := [_, _, _, _])) (keep_own (hm.perm ((Sel.perm (.there (.there (.there Sel.here)))).trans (.cons _ ((Sel.perm (.there (.there (.there Sel.here)))).trans (.cons _ ((Sel.perm (.there Sel.here)).trans (.cons _ (Sel.perm (.there Sel.here))))))))) Sel.here))) ?_
  rintro ⟨v, m⟩ ⟨O, co, rfl, rfl⟩
  show Run _ _ _ _ _ _ _ ⟨(29, .tuple #[.slice O 2 co, .int .i64 0]) :: _, _ :: _ :: _ :: _ :: _ :: _⟩
  refine run_q (.none rfl) rfl rfl (q_move rfl rfl) ?_
  refine run_q (.none rfl) rfl rfl (q_extract rfl rfl rfl) ?_
  refine run_q (.none rfl) rfl rfl (q_extract rfl rfl rfl) ?_
  refine run_q (.none rfl) rfl rfl (q_assign rfl rfl) ?_
  refine run_q (.none rfl) rfl rfl (q_assign rfl rfl) ?_
  refine run_nil ?_
  refine run_sub (subMk (.cons (s := 0) rfl (.cons (s := 6) rfl (.cons (s := 7) rfl .nil))) .refl) ?_
  refine run_seq ?_
  refine run_region ?_
  refine run_q (.none rfl) rfl rfl (q_move rfl rfl) ?_
  refine run_q (.none rfl) rfl rfl (q_eql rfl rfl rfl) ?_
  refine run_q (.none rfl) rfl rfl (q_move rfl rfl) ?_
  refine run_q (.on rfl rfl rfl rfl) rfl rfl (q_move rfl rfl) ?_
  refine run_q (.on rfl rfl rfl rfl) rfl rfl (q_len rfl Try.underlying43 rfl) ?_
  refine run_q (.on rfl rfl rfl rfl) rfl rfl (q_eql rfl rfl rfl) ?_
  refine run_q (.none rfl) rfl rfl (q_pickT rfl rfl rfl rfl) ?_
  refine run_q (.none rfl) rfl rfl (q_move rfl rfl) ?_
  refine run_q (.on rfl rfl rfl rfl) rfl rfl (q_move rfl rfl) ?_
  refine run_q (.on rfl rfl rfl rfl) rfl rfl (q_indexS (q := 0) rfl Try.underlying43 sz49 rfl rfl (.own (.there (.there (.there (.there Sel.here))))) rfl rfl (by omega)) ?_
  refine run_q (.on rfl rfl rfl rfl) rfl rfl (q_fieldAddr (d := 0) rfl Try.underlying49 rfl rfl sz3 rfl) ?_
  refine run_q (.on rfl rfl rfl rfl) rfl rfl (q_loadF rfl one3 rfl (.own (.there (.there (.there (.there Sel.here))))) rfl rfl) ?_
  refine run_q (.on rfl rfl rfl rfl) rfl rfl (q_eql rfl rfl rfl) ?_
  refine run_q (.none rfl) rfl rfl (q_pickT rfl rfl rfl rfl) ?_
  refine run_q (.none rfl) rfl rfl (q_move rfl rfl) ?_
  refine run_q (.on rfl rfl rfl rfl) rfl rfl (q_move rfl rfl) ?_
  refine run_q (.on rfl rfl rfl rfl) rfl rfl (q_indexS (q := 0) rfl Try.underlying43 sz49 rfl rfl (.own (.there (.there (.there (.there Sel.here))))) rfl rfl (by omega)) ?_
  refine run_q (.on rfl rfl rfl rfl) rfl rfl (q_fieldAddr (d := 8) rfl Try.underlying49 rfl rfl sz47 rfl) ?_
  refine run_q (.on rfl rfl rfl rfl) rfl rfl (q_loadFN rfl agg47 rfl (.own (.there (.there (.there (.there Sel.here))))) rfl rfl rfl) ?_
  refine run_q (.on rfl rfl rfl rfl) rfl rfl (q_build rfl (.cons rfl (.cons rfl PV.nil)) (built47p1p3 _ _)) ?_
  refine run_q (.on rfl rfl rfl rfl) rfl rfl (q_eqlS rfl rfl rfl eqg47 (fun w => eqs47 _ _ _ _ _ _ _ _ w)) ?_
  refine run_q (.none rfl) rfl rfl (q_pickT rfl rfl rfl rfl) ?_
  refine run_q (.none rfl) rfl rfl (q_move rfl rfl) ?_
  refine run_q (.on rfl rfl rfl rfl) rfl rfl (q_move rfl rfl) ?_
  refine run_q (.on rfl rfl rfl rfl) rfl rfl (q_indexS (q := 1) rfl Try.underlying43 sz49 rfl rfl (.own (.there (.there (.there (.there Sel.here))))) rfl rfl (by omega)) ?_
  refine run_q (.on rfl rfl rfl rfl) rfl rfl (q_fieldAddr (d := 8) rfl Try.underlying49 rfl rfl sz47 rfl) ?_
  refine run_q (.on rfl rfl rfl rfl) rfl rfl (q_loadFN rfl agg47 rfl (.own (.there (.there (.there (.there Sel.here))))) rfl rfl rfl) ?_
  refine run_q (.on rfl rfl rfl rfl) rfl rfl (q_build rfl (.cons rfl (.cons rfl PV.nil)) (built47p1p3 _ _)) ?_
  refine run_q (.on rfl rfl rfl rfl) rfl rfl (q_eqlS rfl rfl rfl eqg47 (fun w => eqs47 _ _ _ _ _ _ _ _ w)) ?_
  refine run_q (.none rfl) rfl rfl (q_pickT rfl rfl rfl rfl) ?_
  refine run_q (.none rfl) rfl rfl (q_assign rfl rfl) ?_
  refine run_nil ?_
  refine run_sub (subMk (.cons (s := 0) rfl .nil) .refl) ?_
  refine run_ret ?_
  exact end1 rfl rfl rfl

set_option maxRecDepth 100000 in
theorem law3_just (x : Spn) (n : Int) (W : World)  : Calls Try.prog 3 #[x.val, .int .i64 n] W (Hr.Just W (.bool true)) := by
  refine Just.of_ret ?_
  refine enterA (X := nX) (vs := [x.val, .int .i64 n]) Try.func3 Try.ntmps3 rfl rfl Mem.nil ?_
  refine run_seq ?_
  refine run_region ?_
  refine run_h (.none rfl) (h_box rfl rfl rfl rfl rfl) ?_
  rintro b2 -
  refine run_q (.none rfl) rfl rfl (q_assign rfl rfl) ?_
  refine run_nil ?_
  refine run_seq ?_
  refine run_draw [(0, 0), (1, 0), (2, 0), (3, 0), (4, 0), (5, 0), (6, 0), (7, 0), (8, 0), (9, 0), (10, 0)] mixed (by kernel_rfl) .refl ?_
  refine d_q rfl rfl (.none rfl) rfl rfl (q_call rfl call12 Evs.nil (fun w hk hm => known_just w)) ?_
  refine d_q rfl rfl (.none rfl) rfl rfl (q_move rfl rfl) ?_
  refine d_q rfl rfl (.on rfl rfl rfl rfl) rfl rfl (q_loadBN rfl agg25 rfl Sel.here (.cons rfl (.cons rfl (.cons rfl (.cons rfl (.cons rfl (.cons rfl (.cons rfl (.cons rfl (.cons rfl (.cons rfl (.cons rfl (.cons rfl CellsAt.nil)))))))))))) rfl) ?_
  refine d_q rfl rfl (.on rfl rfl rfl rfl) rfl rfl (q_move rfl rfl) ?_
  refine d_q rfl rfl (.on rfl rfl rfl rfl) rfl rfl (q_call rfl call13 (.cons rfl (.cons rfl Evs.nil)) (fun w hk hm => check_just x n w)) ?_
  refine d_q rfl rfl (.on rfl rfl rfl rfl) rfl rfl (q_loadBN rfl agg25 rfl Sel.here (.cons rfl (.cons rfl (.cons rfl (.cons rfl (.cons rfl (.cons rfl (.cons rfl (.cons rfl (.cons rfl (.cons rfl (.cons rfl (.cons rfl CellsAt.nil)))))))))))) rfl) ?_
  refine d_q rfl rfl (.on rfl rfl rfl rfl) rfl rfl (q_move rfl rfl) ?_
  refine d_q rfl rfl (.on rfl rfl rfl rfl) rfl rfl (q_call rfl call14 (.cons rfl (.cons rfl Evs.nil)) (fun w hk hm => wrong_just x n w)) ?_
  refine d_q rfl rfl (.on rfl rfl rfl rfl) rfl rfl (q_eql rfl rfl rfl) ?_
  refine d_q rfl rfl (.none rfl) rfl rfl (q_pickT rfl rfl rfl rfl) ?_
  refine d_q rfl rfl (.none rfl) rfl rfl (q_assign rfl rfl) ?_
  refine d_nil ?_
  refine run_sub (subMk (.cons (s := 4) rfl .nil) .refl) ?_
  refine run_ret ?_
  exact end1 rfl rfl (by simp)

end Go.Proofs.Ytomhegnaojejnaa
