/- The chapter's first example. -/
import Derived.Test.YtgphmbipakdggaaRE
set_option linter.unusedSimpArgs false
set_option linter.unusedVariables false
namespace Go.Proofs.YtgphmbipakdggaaR
open Go Go.RowKit Hr

theorem call26 : Hr.Callable Try.prog 26 := fun args w => by kernel_rfl
theorem built23p0p1 (x0y : Int) (x1y : Int) : Try.prog.built 23 [(0, .int .i64 x0y), (1, .int .i64 x1y)] = some #[.int .i64 x0y, .int .i64 x1y] := by kernel_rfl
theorem call16 : Hr.Callable Try.prog 16 := fun args w => by kernel_rfl
theorem built25p0p3p4p5p6p11 (x0y : Int) (x3y : Int) (x4y : Int) (x5y : Int) (x6y : Int) (x11y : Int) : Try.prog.built 25 [(0, .int .i64 x0y), (3, .int .i64 x3y), (4, .int .i64 x4y), (5, .int .i64 x5y), (6, .int .i64 x6y), (11, .int .i64 x11y)] = some #[.int .i64 x0y, .int .i64 0, .int .i64 0, .int .i64 x3y, .int .i64 x4y, .int .i64 x5y, .int .i64 x6y, .int .i64 0, .int .i64 0, .int .i64 0, .int .i64 0, .int .i64 0, .int .i64 x11y] := by kernel_rfl
theorem call19 : Hr.Callable Try.prog 19 := fun args w => by kernel_rfl

def k0q : Req := ⟨55, 0, 0, 1, 3, -1, -136, 0, 1, 7, 0, 0, 32⟩
def kx : List Req := [k0q, ⟨54, 0, 0, 2, 2, -1, -136, 0, 0, 0, 0, 0, 50⟩]
def ka : List Int := List.replicate 4 (1 * 0)
def kb : List Int := List.replicate 4 ((-1) * 0)
def km0 : Mk := ⟨55, 0, 0, 1, 3, 0, 1, 7, 0, -168, 0, -136⟩
def km1 : Mk := ⟨54, 0, 0, 2, 2, 0, 0, 0, 0, -234, 0, -184⟩
theorem known_E : placeE kx ka kb = 0 := by decide
theorem known_M : placeM kx ka kb = [km0, km1] := by
  rw [(place_ok known_E).2.2]; rfl
theorem known_L : lineV 2 1 7 0 0 1 3 = (k0q, 0) := by rfl

theorem line_known (W : World) : Calls Try.prog 16 #[.int .i64 2, .agg #[.int .i64 1, .int .i64 7], .int .i64 0, .int .i64 0, .int .i64 1, .int .i64 3] W (Just W (.tuple #[k0q.val, .int .i64 0])) := by
  have h := line_just 2 1 7 0 0 1 3 W
  rw [known_L] at h; exact h
theorem place_known (X : Option Addr) (cx pa pb : Nat) (A B : Option Addr) (ca cb : Nat) (W : World) (hm : Mem (atAny [.blk pa 105 [(0, .int .i64 1), (1, .slice A 4 ca)], .own 3 1 A 4 ca ((ka).map encI), .blk pb 105 [(0, .int .i64 (-1)), (1, .slice B 4 cb)], .own 3 1 B 4 cb ((kb).map encI)]) W [.blk pa 105 [(0, .int .i64 1), (1, .slice A 4 ca)], .own 3 1 A 4 ca ((ka).map encI), .blk pb 105 [(0, .int .i64 (-1)), (1, .slice B 4 cb)], .own 3 1 B 4 cb ((kb).map encI)] W) (hx : ∀ w, Kept (atAny [.blk pa 105 [(0, .int .i64 1), (1, .slice A 4 ca)], .own 3 1 A 4 ca ((ka).map encI), .blk pb 105 [(0, .int .i64 (-1)), (1, .slice B 4 cb)], .own 3 1 B 4 cb ((kb).map encI)]) W w → Rd w X 13 (kx.map Req.enc)) (hca : 4 ≤ ca) (hcb : 4 ≤ cb) :
    Calls Try.prog 19 #[.slice X 2 cx, .pointer (some ⟨pa, 0, none⟩), .pointer (some ⟨pb, 0, none⟩)] W (Ret W (atAny [.blk pa 105 [(0, .int .i64 1), (1, .slice A 4 ca)], .own 3 1 A 4 ca ((ka).map encI), .blk pb 105 [(0, .int .i64 (-1)), (1, .slice B 4 cb)], .own 3 1 B 4 cb ((kb).map encI)]) (fun v m => ∃ A' ca' B' cb' O co, v = .tuple #[.slice O 2 co, .int .i64 0] ∧ 4 ≤ ca' ∧ 4 ≤ cb' ∧ m = [.blk pa 105 [(0, .int .i64 1), (1, .slice A' 4 ca')], .own 3 1 A' 4 ca' (((placeA kx ka kb)).map encI), .blk pb 105 [(0, .int .i64 (-1)), (1, .slice B' 4 cb')], .own 3 1 B' 4 cb' (((placeB kx ka kb)).map encI), .own 50 12 O 2 co [km0.enc, km1.enc]])) := by
  have h := Place_ret kx X cx ka kb pa pb A B ca cb W hm hx (by decide) rfl (by decide) hca hcb (rep_bd (by decide)) (rep_bd (by decide))
  rw [known_E, known_M] at h; exact h

set_option maxHeartbeats 2000000 in
set_option maxRecDepth 100000 in
theorem known_just  (W : World)  : Calls Try.prog 13 #[] W (Hr.Just W (.bool true)) := by
  refine Just.of_ret ?_
  refine enterA (X := nX) (vs := []) Try.func13 Try.ntmps13 rfl rfl Mem.nil ?_
  refine run_seq ?_
  refine run_region ?_
  refine run_q (.none rfl) rfl rfl (q_assign rfl rfl) ?_
  refine run_nil ?_
  refine run_seq ?_
  refine run_region ?_
  refine run_h (.none rfl) (h_call rfl rfl rfl call26 (.cons rfl (.cons rfl (.cons rfl Evs.nil))) (fun w hk hm => new_ret 1 0 4 w (.inl rfl) (by decide) (by decide))) ?_
  rintro ⟨v, m⟩ ⟨pa, A, ca, rfl, hca, rfl⟩
  show Run _ _ _ _ _ _ _ ⟨(11, .tuple #[.pointer (some ⟨pa, 0, none⟩), .int .i64 0]) :: _, _ :: _ :: _⟩
  refine run_q (.none rfl) rfl rfl (q_move rfl rfl) ?_
  refine run_q (.none rfl) rfl rfl (q_extract rfl rfl rfl) ?_
  refine run_q (.none rfl) rfl rfl (q_extract rfl rfl rfl) ?_
  refine run_q (.none rfl) rfl rfl (q_assign rfl rfl) ?_
  refine run_q (.none rfl) rfl rfl (q_assign rfl rfl) ?_
  refine run_nil ?_
  refine run_sub (subMk (.cons (s := 0) rfl (.cons (s := 1) rfl (.cons (s := 2) rfl .nil))) .refl) ?_
  refine run_seq ?_
  refine run_region ?_
  refine run_h (.none rfl) (h_call rfl rfl rfl call26 (.cons rfl (.cons rfl (.cons rfl Evs.nil))) (fun w hk hm => new_ret (-1) 0 4 w (.inr rfl) (by decide) (by decide))) ?_
  rintro ⟨v, m⟩ ⟨pb, B, cb, rfl, hcb, rfl⟩
  show Run _ _ _ _ _ _ _ ⟨(15, .tuple #[.pointer (some ⟨pb, 0, none⟩), .int .i64 0]) :: _, _ :: _ :: _⟩
  refine run_q (.none rfl) rfl rfl (q_move rfl rfl) ?_
  refine run_q (.none rfl) rfl rfl (q_extract rfl rfl rfl) ?_
  refine run_q (.none rfl) rfl rfl (q_extract rfl rfl rfl) ?_
  refine run_q (.none rfl) rfl rfl (q_assign rfl rfl) ?_
  refine run_q (.none rfl) rfl rfl (q_assign rfl rfl) ?_
  refine run_nil ?_
  refine run_sub (subMk (.cons (s := 0) rfl (.cons (s := 1) rfl (.cons (s := 2) rfl (.cons (s := 3) rfl (.cons (s := 4) rfl .nil))))) .refl) ?_
  refine run_seq ?_
  refine run_region ?_
  refine run_q (.none rfl) rfl rfl (q_build rfl (.cons rfl (.cons rfl PV.nil)) (built23p0p1 _ _)) ?_
  refine run_q (.none rfl) rfl rfl (q_call rfl call16 (.cons rfl (.cons rfl (.cons rfl (.cons rfl (.cons rfl (.cons rfl Evs.nil)))))) (fun w hk hm => line_known w)) ?_
  refine run_q (.none rfl) rfl rfl (q_move rfl rfl) ?_
  refine run_q (.none rfl) rfl rfl (q_extract rfl rfl rfl) ?_
  refine run_q (.none rfl) rfl rfl (q_extract rfl rfl rfl) ?_
  refine run_h (.none rfl) (h_alloc rfl rfl rfl info25) ?_
  rintro b5 -
  refine run_h (.none rfl) (h_storeB rfl rfl sz25 rfl rfl rfl rfl rfl Sel.here rfl) ?_
  rintro - -
  refine run_q (.none rfl) rfl rfl (q_assign rfl rfl) ?_
  refine run_nil ?_
  refine run_sub (subMk (.cons (s := 0) rfl (.cons (s := 1) rfl (.cons (s := 2) rfl (.cons (s := 3) rfl (.cons (s := 4) rfl (.cons (s := 5) rfl (.cons (s := 6) rfl .nil))))))) .refl) ?_
  refine run_seq ?_
  refine run_region ?_
  refine run_q (.none rfl) rfl rfl (q_build rfl (.cons rfl (.cons rfl (.cons rfl (.cons rfl (.cons rfl (.cons rfl PV.nil)))))) (built25p0p3p4p5p6p11 _ _ _ _ _ _)) ?_
  refine run_h (.none rfl) (h_alloc rfl rfl rfl info25) ?_
  rintro b7 -
  refine run_h (.none rfl) (h_storeB rfl rfl sz25 rfl rfl rfl rfl rfl Sel.here rfl) ?_
  rintro - -
  refine run_nil ?_
  refine run_seq ?_
  refine run_region ?_
  refine run_q (.none rfl) rfl rfl (q_loadBN rfl agg25 rfl (.there Sel.here) (.cons rfl (.cons rfl (.cons rfl (.cons rfl (.cons rfl (.cons rfl (.cons rfl (.cons rfl (.cons rfl (.cons rfl (.cons rfl (.cons rfl (.cons rfl CellsAt.nil))))))))))))) rfl) ?_
  refine run_q (.none rfl) rfl rfl (q_loadBN rfl agg25 rfl Sel.here (.cons rfl (.cons rfl (.cons rfl (.cons rfl (.cons rfl (.cons rfl (.cons rfl (.cons rfl (.cons rfl (.cons rfl (.cons rfl (.cons rfl (.cons rfl CellsAt.nil))))))))))))) rfl) ?_
  refine run_h (.none rfl) (h_buildSlice rfl rfl rfl Try.underlying37 info25 (.cons rfl rfl rfl rfl (.cons rfl rfl rfl rfl Parts.nil)) rfl (by omega)) ?_
  rintro b27 -
  refine run_q (.none rfl) rfl rfl (q_move rfl rfl) ?_
  refine run_q (.none rfl) rfl rfl (q_move rfl rfl) ?_
  refine run_h (.none rfl) (h_callX [_, _, _, _] _ rfl rfl rfl call19 (.cons rfl (.cons rfl (.cons rfl Evs.nil))) ((Sel.perm (.there (.there (.there (.there (.there Sel.here)))))).trans (.cons _ ((Sel.perm (.there (.there (.there (.there (.there Sel.here)))))).trans (.cons _ ((Sel.perm (.there (.there (.there Sel.here)))).trans (.cons _ (Sel.perm (.there (.there (.there Sel.here)))))))))) (Y := fun _ => atAny [_, _, _, _]) (fun _ _ h => h) (fun w hk hm => place_known (some ⟨b27, 0, none⟩) 2 pa pb A B ca cb w ((hm.perm ((Sel.perm (.there (.there (.there (.there (.there Sel.here)))))).trans (.cons _ ((Sel.perm (.there (.there (.there (.there (.there Sel.here)))))).trans (.cons _ ((Sel.perm (.there (.there (.there Sel.here)))).trans (.cons _ (Sel.perm (.there (.there (.there Sel.here))))))))))).give (rs := [_, _, _, _])) (keep_own (hm.perm ((Sel.perm (.there (.there (.there (.there (.there Sel.here)))))).trans (.cons _ ((Sel.perm (.there (.there (.there (.there (.there Sel.here)))))).trans (.cons _ ((Sel.perm (.there (.there (.there Sel.here)))).trans (.cons _ (Sel.perm (.there (.there (.there Sel.here))))))))))) Sel.here) hca hcb)) ?_
  rintro ⟨v, m⟩ ⟨A2, ca2, B2, cb2, O, co, rfl, -, -, rfl⟩
  show Run _ _ _ _ _ _ _ ⟨(30, .tuple #[.slice O 2 co, .int .i64 0]) :: _, _ :: _ :: _ :: _ :: _ :: _⟩
  refine run_q (.none rfl) rfl rfl (q_move rfl rfl) ?_
  refine run_q (.none rfl) rfl rfl (q_extract rfl rfl rfl) ?_
  refine run_q (.none rfl) rfl rfl (q_extract rfl rfl rfl) ?_
  refine run_q (.none rfl) rfl rfl (q_assign rfl rfl) ?_
  refine run_q (.none rfl) rfl rfl (q_assign rfl rfl) ?_
  refine run_nil ?_
  refine run_sub (subMk (.cons (s := 0) rfl (.cons (s := 2) rfl (.cons (s := 4) rfl (.cons (s := 6) rfl (.cons (s := 8) rfl (.cons (s := 9) rfl .nil)))))) .refl) ?_
  refine run_seq ?_
  refine run_region ?_
  refine run_q (.none rfl) rfl rfl (q_move rfl rfl) ?_
  refine run_q (.none rfl) rfl rfl (q_eql rfl rfl rfl) ?_
  refine run_q (.none rfl) rfl rfl (q_move rfl rfl) ?_
  refine run_q (.on rfl rfl rfl rfl) rfl rfl (q_move rfl rfl) ?_
  refine run_q (.on rfl rfl rfl rfl) rfl rfl (q_eql rfl rfl rfl) ?_
  refine run_q (.none rfl) rfl rfl (q_pickT rfl rfl rfl rfl) ?_
  refine run_q (.none rfl) rfl rfl (q_move rfl rfl) ?_
  refine run_q (.on rfl rfl rfl rfl) rfl rfl (q_move rfl rfl) ?_
  refine run_q (.on rfl rfl rfl rfl) rfl rfl (q_eql rfl rfl rfl) ?_
  refine run_q (.none rfl) rfl rfl (q_pickT rfl rfl rfl rfl) ?_
  refine run_q (.none rfl) rfl rfl (q_move rfl rfl) ?_
  refine run_q (.on rfl rfl rfl rfl) rfl rfl (q_move rfl rfl) ?_
  refine run_q (.on rfl rfl rfl rfl) rfl rfl (q_eql rfl rfl rfl) ?_
  refine run_q (.none rfl) rfl rfl (q_pickT rfl rfl rfl rfl) ?_
  refine run_q (.none rfl) rfl rfl (q_move rfl rfl) ?_
  refine run_q (.on rfl rfl rfl rfl) rfl rfl (q_move rfl rfl) ?_
  refine run_q (.on rfl rfl rfl rfl) rfl rfl (q_len rfl Try.underlying44 rfl) ?_
  refine run_q (.on rfl rfl rfl rfl) rfl rfl (q_eql rfl rfl rfl) ?_
  refine run_q (.none rfl) rfl rfl (q_pickT rfl rfl rfl rfl) ?_
  refine run_q (.none rfl) rfl rfl (q_move rfl rfl) ?_
  refine run_q (.on rfl rfl rfl rfl) rfl rfl (q_move rfl rfl) ?_
  refine run_q (.on rfl rfl rfl rfl) rfl rfl (q_indexS (q := 0) rfl Try.underlying44 sz50 rfl rfl (.own (.there (.there (.there (.there Sel.here))))) rfl rfl (by omega)) ?_
  refine run_q (.on rfl rfl rfl rfl) rfl rfl (q_fieldAddr (d := 8) rfl Try.underlying50 rfl rfl sz48 rfl) ?_
  refine run_q (.on rfl rfl rfl rfl) rfl rfl (q_fieldF (d2 := 11) rfl Try.underlying48 rfl rfl sz3 rfl) ?_
  refine run_q (.on rfl rfl rfl rfl) rfl rfl (q_loadF rfl one3 rfl (.own (.there (.there (.there (.there Sel.here))))) rfl rfl) ?_
  refine run_q (.on rfl rfl rfl rfl) rfl rfl (q_eql rfl rfl rfl) ?_
  refine run_q (.none rfl) rfl rfl (q_pickT rfl rfl rfl rfl) ?_
  refine run_q (.none rfl) rfl rfl (q_move rfl rfl) ?_
  refine run_q (.on rfl rfl rfl rfl) rfl rfl (q_move rfl rfl) ?_
  refine run_q (.on rfl rfl rfl rfl) rfl rfl (q_indexS (q := 0) rfl Try.underlying44 sz50 rfl rfl (.own (.there (.there (.there (.there Sel.here))))) rfl rfl (by omega)) ?_
  refine run_q (.on rfl rfl rfl rfl) rfl rfl (q_fieldAddr (d := 8) rfl Try.underlying50 rfl rfl sz48 rfl) ?_
  refine run_q (.on rfl rfl rfl rfl) rfl rfl (q_fieldF (d2 := 9) rfl Try.underlying48 rfl rfl sz3 rfl) ?_
  refine run_q (.on rfl rfl rfl rfl) rfl rfl (q_loadF rfl one3 rfl (.own (.there (.there (.there (.there Sel.here))))) rfl rfl) ?_
  refine run_q (.on rfl rfl rfl rfl) rfl rfl (q_eql rfl rfl rfl) ?_
  refine run_q (.none rfl) rfl rfl (q_pickT rfl rfl rfl rfl) ?_
  refine run_q (.none rfl) rfl rfl (q_move rfl rfl) ?_
  refine run_q (.on rfl rfl rfl rfl) rfl rfl (q_move rfl rfl) ?_
  refine run_q (.on rfl rfl rfl rfl) rfl rfl (q_indexS (q := 1) rfl Try.underlying44 sz50 rfl rfl (.own (.there (.there (.there (.there Sel.here))))) rfl rfl (by omega)) ?_
  refine run_q (.on rfl rfl rfl rfl) rfl rfl (q_fieldAddr (d := 8) rfl Try.underlying50 rfl rfl sz48 rfl) ?_
  refine run_q (.on rfl rfl rfl rfl) rfl rfl (q_fieldF (d2 := 11) rfl Try.underlying48 rfl rfl sz3 rfl) ?_
  refine run_q (.on rfl rfl rfl rfl) rfl rfl (q_loadF rfl one3 rfl (.own (.there (.there (.there (.there Sel.here))))) rfl rfl) ?_
  refine run_q (.on rfl rfl rfl rfl) rfl rfl (q_eql rfl rfl rfl) ?_
  refine run_q (.none rfl) rfl rfl (q_pickT rfl rfl rfl rfl) ?_
  refine run_q (.none rfl) rfl rfl (q_move rfl rfl) ?_
  refine run_q (.on rfl rfl rfl rfl) rfl rfl (q_move rfl rfl) ?_
  refine run_q (.on rfl rfl rfl rfl) rfl rfl (q_indexS (q := 0) rfl Try.underlying44 sz50 rfl rfl (.own (.there (.there (.there (.there Sel.here))))) rfl rfl (by omega)) ?_
  refine run_q (.on rfl rfl rfl rfl) rfl rfl (q_fieldAddr (d := 0) rfl Try.underlying50 rfl rfl sz3 rfl) ?_
  refine run_q (.on rfl rfl rfl rfl) rfl rfl (q_loadF rfl one3 rfl (.own (.there (.there (.there (.there Sel.here))))) rfl rfl) ?_
  refine run_q (.on rfl rfl rfl rfl) rfl rfl (q_eql rfl rfl rfl) ?_
  refine run_q (.none rfl) rfl rfl (q_pickT rfl rfl rfl rfl) ?_
  refine run_q (.none rfl) rfl rfl (q_assign rfl rfl) ?_
  refine run_nil ?_
  refine run_sub (subMk (.cons (s := 0) rfl .nil) .refl) ?_
  refine run_ret ?_
  exact end1 rfl rfl rfl

end Go.Proofs.YtgphmbipakdggaaR
