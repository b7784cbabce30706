/- The law on a common line, in the program. -/
import Derived.Test.YtgphmbipakdggaaRP
set_option linter.unusedSimpArgs false
set_option linter.unusedVariables false
namespace Go.Proofs.YtgphmbipakdggaaR
open Go Go.RowKit Hr

theorem call27 : Hr.Callable Try.prog 27 := fun args w => by kernel_rfl
theorem call28 : Hr.Callable Try.prog 28 := fun args w => by kernel_rfl

theorem refrow_okn (xs : List Req) (X : Option Addr) (cx : Nat) (b : List Int) (Q : Option Addr) (cq : Nat) (n : Nat) (W : World) (hon : b.length = n) (hx : Rd W X 13 (xs.map Req.enc)) (hxl : xs.length ≤ 1000000) (hQ : Rd W Q 1 ((negL b).map encI)) (hl6 : n ≤ 65536) (hbb : Bd b) (hE : rowE xs b = 0) : Calls Try.prog 28 #[.slice X xs.length cx, .slice Q n cq] W (Ret W nX (fun v m => ∃ O co A' ca', v = .tuple #[.slice O (rowM xs b).length co, .slice A' n ca', .int .i64 0] ∧ m = [.own 50 12 O (rowM xs b).length co ((rowM xs b).map Mk.enc), .own 3 1 A' n ca' ((negL (rowO xs b)).map encI)])) := by
  subst hon
  exact refrow_ok xs X cx b Q cq W hx hxl hQ hl6 hbb hE

theorem refrow_errn (xs : List Req) (X : Option Addr) (cx : Nat) (b : List Int) (Q : Option Addr) (cq : Nat) (n : Nat) (W : World) (hon : b.length = n) (hx : Rd W X 13 (xs.map Req.enc)) (hxl : xs.length ≤ 1000000) (hQ : Rd W Q 1 ((negL b).map encI)) (hl6 : n ≤ 65536) (hbb : Bd b) (hE : rowE xs b ≠ 0) : Calls Try.prog 28 #[.slice X xs.length cx, .slice Q n cq] W (Just W (.tuple #[.slice none 0 0, .slice Q n cq, .int .i64 (rowE xs b)])) := by
  subst hon
  by_cases h : reqsR b.length xs = 0
  · exact refrow_err2 xs X cx b Q cq W hx hxl hQ hl6 hbb h (by rw [rEd, ← rEd, ← rowE_2 h]; exact hE)
  · exact refrow_err1 xs X cx b Q cq W hx hxl hQ hl6 hbb h

set_option maxRecDepth 100000 in
theorem PlaceRow_side (X : Option Addr) (nx cx : Nat) (p : Nat) (A : Option Addr) (n c : Nat) (W : World) (o : List Int) (hon : o.length = n) (hb : Rd W (some ⟨p, 0, none⟩) 2 [[.int .i64 1, .slice A n c]]) : Calls Try.prog 27 #[.slice X nx cx, .pointer (some ((adr (some ⟨p, 0, none⟩)).add (0 * 2)))] W (Hr.Just W (.tuple #[.slice none 0 0, .int .i64 11])) := by
  refine Just.of_ret ?_
  refine enterA (X := nX) (vs := [.slice X nx cx, .pointer (some ((adr (some ⟨p, 0, none⟩)).add (0 * 2)))]) Try.func27 Try.ntmps27 rfl rfl Mem.nil ?_
  refine run_seq ?_
  refine run_region ?_
  refine run_q (.none rfl) rfl rfl (q_assign rfl rfl) ?_
  refine run_q (.none rfl) rfl rfl (q_assign rfl rfl) ?_
  refine run_nil ?_
  refine run_seq ?_
  refine run_block ?_
  refine run_seq ?_
  refine run_region ?_
  refine run_q (.none rfl) rfl rfl (q_move rfl rfl) ?_
  refine run_q (.none rfl) rfl rfl (q_eqlPtr rfl rfl rfl Try.underlying41) ?_
  refine run_q (.none rfl) rfl rfl (q_assign rfl rfl) ?_
  refine run_nil ?_
  refine run_condF rfl rfl ?_
  refine run_seq ?_
  refine run_region ?_
  refine run_q (.none rfl) rfl rfl (q_move rfl rfl) ?_
  refine run_q (.none rfl) rfl rfl (q_call rfl call38 (.cons rfl Evs.nil) (fun w hk hm => side_just o p A c 1 n w hon (hb.kept0 hk))) ?_
  refine run_q (.none rfl) rfl rfl (q_neq rfl rfl rfl) ?_
  refine run_q (.none rfl) rfl rfl (q_assign rfl rfl) ?_
  refine run_nil ?_
  refine run_sub (subMk (.cons (s := 0) rfl (.cons (s := 1) rfl (.cons (s := 4) rfl (.cons (s := 5) rfl (.cons (s := 21) rfl .nil))))) .refl) ?_
  refine run_condT rfl rfl ?_
  refine run_seq ?_
  refine run_region ?_
  refine run_q (.none rfl) rfl rfl (q_assign rfl rfl) ?_
  refine run_q (.none rfl) rfl rfl (q_assign rfl rfl) ?_
  refine run_nil ?_
  refine run_ret ?_
  exact end2 rfl rfl rfl rfl

set_option maxHeartbeats 4000000 in
set_option maxRecDepth 100000 in
theorem law10_ok (la lb : List Int) (LA LB : Option Addr) (gca gcb : Nat) (l : List Req) (X : Option Addr) (cx : Nat) (W : World) (hla : Rd W LA 1 (la.map encW)) (hlb : Rd W LB 1 (lb.map encW)) (hbA : ∀ x ∈ la, 0 ≤ x ∧ x ≤ 65535) (hbB : ∀ x ∈ lb, 0 ≤ x ∧ x ≤ 65535) (hca : la.length ≤ 9223372036854775807) (hcb : lb.length ≤ 9223372036854775807) (hr : Rd W X 13 (l.map Req.enc)) (hcx : l.length ≤ cx) (xs : List Req) (hxs : xs = l.take 10) (hE : (rowE xs (gs la lb lb (gN la lb))) = 0) : Calls Try.prog 10 #[.agg #[.slice LA la.length gca, .slice LB lb.length gcb], .slice X l.length cx] W (Hr.Just W (.bool true)) := by
  have hx := rd_take hr hxs
  have hxl : xs.length = min l.length 10 := by rw [hxs]; simp [Nat.min_comm]
  have hg := gN_bd (la := la) (lb := lb)
  have hbdA : Bd (gs la lb la (gN la lb)) := bd_of fun i => gs_bd
  have hbdB : Bd (gs la lb lb (gN la lb)) := bd_of fun i => gs_bd
  have hlA : (gs la lb la (gN la lb)).length = (gN la lb) := gs_len
  have hlB : (gs la lb lb (gN la lb)).length = (gN la lb) := gs_len
  obtain ⟨e1, e2⟩ := row_ok hE
  refine Just.of_ret ?_
  refine enterA (X := nX) (vs := [.agg #[.slice LA la.length gca, .slice LB lb.length gcb], .slice X l.length cx]) Try.func10 Try.ntmps10 rfl rfl Mem.nil ?_
  refine run_seq ?_
  refine run_region ?_
  refine run_h (.none rfl) (h_box rfl rfl rfl rfl rfl) ?_
  rintro b2 -
  refine run_q (.none rfl) rfl rfl (q_assign rfl rfl) ?_
  refine run_nil ?_
  refine run_seq ?_
  refine run_region ?_
  refine run_q (.none rfl) rfl rfl (q_move rfl rfl) ?_
  refine run_q (.none rfl) rfl rfl (q_move rfl rfl) ?_
  refine run_q (.none rfl) rfl rfl (q_len rfl Try.underlying37 rfl) ?_
  refine run_q (.none rfl) rfl rfl (q_min2 rfl rfl rfl) ?_
  refine run_q (.none rfl) rfl rfl (q_sliceH rfl Try.underlying37 sz25 rfl rfl (by omega)) ?_
  refine run_q (.none rfl) rfl rfl (q_assign rfl rfl) ?_
  refine run_nil ?_
  refine run_sub (subMk (.cons (s := 1) rfl (.cons (s := 2) rfl (.cons (s := 4) rfl .nil))) .refl) ?_
  refine run_seq ?_
  refine run_sub (subMk (.cons' (s := 1) (v' := .slice X xs.length cx) rfl (by rw [hxl]; congr 1; omega) (.cons (s := 2) rfl (.cons (s := 4) rfl .nil))) .refl) ?_
  refine run_region ?_
  refine run_q (.none rfl) rfl rfl (q_loadBN rfl agg36 rfl Sel.here (.cons rfl (.cons rfl CellsAt.nil)) rfl) ?_
  refine run_h (.none rfl) (h_call rfl rfl rfl call17 (.cons rfl Evs.nil) (fun w hk hm => heights_ret la lb LA LB gca gcb w (hla.kept0 hk) (hlb.kept0 hk) hbA hbB hca hcb)) ?_
  rintro ⟨v, m⟩ ⟨P, cp, Q, cq, rfl, rfl⟩
  show Run _ _ _ _ _ _ _ ⟨(24, .tuple #[.slice P (gN la lb) cp, .slice Q (gN la lb) cq]) :: _, _ :: _ :: _⟩
  refine run_q (.none rfl) rfl rfl (q_move rfl rfl) ?_
  refine run_q (.none rfl) rfl rfl (q_extract rfl rfl rfl) ?_
  refine run_q (.none rfl) rfl rfl (q_extract rfl rfl rfl) ?_
  refine run_q (.none rfl) rfl rfl (q_assign rfl rfl) ?_
  refine run_q (.none rfl) rfl rfl (q_assign rfl rfl) ?_
  refine run_nil ?_
  refine run_sub (subMk (.cons (s := 1) rfl (.cons (s := 4) rfl (.cons (s := 5) rfl (.cons (s := 6) rfl .nil)))) .refl) ?_
  refine run_seq ?_
  refine run_region ?_
  refine run_q (.none rfl) rfl rfl (q_move rfl rfl) ?_
  refine run_q (.none rfl) rfl rfl (q_move rfl rfl) ?_
  refine run_h (.none rfl) (h_call rfl rfl rfl call18 (.cons rfl (.cons rfl Evs.nil)) (fun w hk hm => skylines_ret (gs la lb la (gN la lb)) (gs la lb lb (gN la lb)) (gN la lb) P Q cp cq w (own_rd (Sel.here.holds hm)) (own_rd ((Sel.there Sel.here).holds hm)) gs_len gs_len ⟨by omega, by omega⟩ (fun i => gs_bd) (fun i => gs_bd))) ?_
  rintro ⟨v, m⟩ ⟨pa, pb, A, B, ca, cb, rfl, hcA, hcB, rfl⟩
  show Run _ _ _ _ _ _ _ ⟨(30, .tuple #[.pointer (some ⟨pa, 0, none⟩), .pointer (some ⟨pb, 0, none⟩), .bool true]) :: _, _ :: _ :: _ :: _ :: _⟩
  refine run_q (.none rfl) rfl rfl (q_move rfl rfl) ?_
  refine run_q (.none rfl) rfl rfl (q_extract rfl rfl rfl) ?_
  refine run_q (.none rfl) rfl rfl (q_extract rfl rfl rfl) ?_
  refine run_q (.none rfl) rfl rfl (q_extract rfl rfl rfl) ?_
  refine run_q (.none rfl) rfl rfl (q_assign rfl rfl) ?_
  refine run_q (.none rfl) rfl rfl (q_assign rfl rfl) ?_
  refine run_q (.none rfl) rfl rfl (q_assign rfl rfl) ?_
  refine run_nil ?_
  refine run_sub (subMk (.cons (s := 1) rfl (.cons (s := 4) rfl (.cons (s := 5) rfl (.cons (s := 6) rfl (.cons (s := 7) rfl (.cons (s := 8) rfl (.cons (s := 9) rfl .nil))))))) .refl) ?_
  refine run_seq ?_
  refine run_seq ?_
  refine run_region ?_
  refine run_q (.none rfl) rfl rfl (q_call rfl call13 Evs.nil (fun w hk hm => known_just w)) ?_
  refine run_q (.none rfl) rfl rfl (q_not rfl rfl) ?_
  refine run_q (.none rfl) rfl rfl (q_move rfl rfl) ?_
  refine run_q (.on rfl rfl rfl rfl) rfl rfl (q_move rfl rfl) ?_
  refine run_q (.on rfl rfl rfl rfl) rfl rfl (q_not rfl rfl) ?_
  refine run_q (.none rfl) rfl rfl (q_pickF rfl rfl rfl rfl) ?_
  refine run_nil ?_
  refine run_sub (subMk (.cons (s := 1) rfl (.cons (s := 4) rfl (.cons (s := 5) rfl (.cons (s := 6) rfl (.cons (s := 7) rfl (.cons (s := 8) rfl (.cons (s := 39) rfl .nil))))))) .refl) ?_
  refine run_condF rfl rfl ?_
  refine run_skip ?_
  refine run_seq ?_
  refine run_region ?_
  refine run_q (.none rfl) rfl rfl (q_move rfl rfl) ?_
  refine run_q (.none rfl) rfl rfl (q_move rfl rfl) ?_
  refine run_h (.none rfl) (h_callX [_, _] _ rfl rfl rfl call27 (.cons rfl (.cons rfl Evs.nil)) ((Sel.perm (.there (.there Sel.here))).trans (.cons _ (Sel.perm (.there (.there Sel.here))))) (Y := fun _ => atAny [_, _]) (fun _ _ h => h) (fun w hk hm => PlaceRow_ret xs X cx (gs la lb lb (gN la lb)) pb B cb (gN la lb) w gs_len ((hm.perm ((Sel.perm (.there (.there Sel.here))).trans (.cons _ (Sel.perm (.there (.there Sel.here)))))).give (rs := [_, _])) (keep_inp hx hk (hm.perm ((Sel.perm (.there (.there Sel.here))).trans (.cons _ (Sel.perm (.there (.there Sel.here))))))) (by omega) (by omega) hcB hbdB)) ?_
  rintro ⟨v, m⟩ ⟨B2, cb2, O, co, rfl, hcB2, rfl⟩
  show Run _ _ _ _ _ _ _ ⟨(43, .tuple #[.slice O (rowM xs (gs la lb lb (gN la lb))).length co, .int .i64 (rowE xs (gs la lb lb (gN la lb)))]) :: _, _ :: _ :: _ :: _⟩
  refine run_q (.none rfl) rfl rfl (q_move rfl rfl) ?_
  refine run_q (.none rfl) rfl rfl (q_extract rfl rfl rfl) ?_
  refine run_q (.none rfl) rfl rfl (q_extract rfl rfl rfl) ?_
  refine run_q (.none rfl) rfl rfl (q_assign rfl rfl) ?_
  refine run_q (.none rfl) rfl rfl (q_assign rfl rfl) ?_
  refine run_nil ?_
  refine run_sub (subMk (.cons (s := 1) rfl (.cons (s := 4) rfl (.cons (s := 5) rfl (.cons (s := 6) rfl (.cons (s := 7) rfl (.cons (s := 8) rfl (.cons (s := 10) rfl (.cons (s := 11) rfl .nil)))))))) .refl) ?_
  refine run_seq ?_
  refine run_region ?_
  refine run_q (.none rfl) rfl rfl (q_move rfl rfl) ?_
  refine run_q (.none rfl) rfl rfl (q_move rfl rfl) ?_
  refine run_h (.none rfl) (h_call rfl rfl rfl call28 (.cons rfl (.cons rfl Evs.nil)) (fun w hk hm => refrow_okn xs X cx (gs la lb lb (gN la lb)) Q cq (gN la lb) w gs_len (hx.kept0 hk) (by omega) (own_rd ((Sel.there (Sel.there (Sel.there (Sel.there (Sel.there (Sel.there Sel.here)))))).holds hm)) (by omega) hbdB hE)) ?_
  rintro ⟨v, m⟩ ⟨O3, co3, B3, cb3, rfl, rfl⟩
  show Run _ _ _ _ _ _ _ ⟨(49, .tuple #[.slice O3 (rowM xs (gs la lb lb (gN la lb))).length co3, .slice B3 (gN la lb) cb3, .int .i64 0]) :: _, _ :: _ :: _⟩
  refine run_q (.none rfl) rfl rfl (q_move rfl rfl) ?_
  refine run_q (.none rfl) rfl rfl (q_extract rfl rfl rfl) ?_
  refine run_q (.none rfl) rfl rfl (q_extract rfl rfl rfl) ?_
  refine run_q (.none rfl) rfl rfl (q_extract rfl rfl rfl) ?_
  refine run_q (.none rfl) rfl rfl (q_assign rfl rfl) ?_
  refine run_q (.none rfl) rfl rfl (q_assign rfl rfl) ?_
  refine run_q (.none rfl) rfl rfl (q_assign rfl rfl) ?_
  refine run_nil ?_
  refine run_sub (subMk (.cons (s := 1) rfl (.cons (s := 4) rfl (.cons (s := 5) rfl (.cons (s := 7) rfl (.cons (s := 8) rfl (.cons (s := 10) rfl (.cons (s := 11) rfl (.cons (s := 12) rfl (.cons (s := 13) rfl (.cons (s := 14) rfl .nil)))))))))) .refl) ?_
  refine run_seq ?_
  refine run_region ?_
  refine run_q (.none rfl) rfl rfl (q_move rfl rfl) ?_
  refine run_q (.none rfl) rfl rfl (q_move rfl rfl) ?_
  refine run_q (.none rfl) rfl rfl (q_call rfl call27 (.cons rfl (.cons rfl Evs.nil)) (fun w hk hm => PlaceRow_side X _ cx pa A (gN la lb) ca w (gs la lb la (gN la lb)) gs_len (rd_sky ((Sel.there (Sel.there (Sel.there (Sel.there (Sel.there Sel.here))))).holds hm)))) ?_
  refine run_q (.none rfl) rfl rfl (q_move rfl rfl) ?_
  refine run_q (.none rfl) rfl rfl (q_extract rfl rfl rfl) ?_
  refine run_q (.none rfl) rfl rfl (q_extract rfl rfl rfl) ?_
  refine run_q (.none rfl) rfl rfl (q_assign rfl rfl) ?_
  refine run_q (.none rfl) rfl rfl (q_assign rfl rfl) ?_
  refine run_nil ?_
  refine run_sub (subMk (.cons (s := 4) rfl (.cons (s := 5) rfl (.cons (s := 7) rfl (.cons (s := 8) rfl (.cons (s := 10) rfl (.cons (s := 11) rfl (.cons (s := 12) rfl (.cons (s := 13) rfl (.cons (s := 14) rfl (.cons (s := 16) rfl .nil)))))))))) .refl) ?_
  refine run_seq ?_
  refine run_region ?_
  refine run_q (.none rfl) rfl rfl (q_move rfl rfl) ?_
  refine run_q (.none rfl) rfl rfl (q_move rfl rfl) ?_
  refine run_q (.none rfl) rfl rfl (q_eql rfl rfl rfl) ?_
  refine run_q (.none rfl) rfl rfl (q_move rfl rfl) ?_
  refine run_q (.on rfl rfl rfl (by rw [hE]; rfl)) rfl rfl (q_move rfl rfl) ?_
  refine run_q (.on rfl rfl rfl (by rw [hE]; rfl)) rfl rfl (q_move rfl rfl) ?_
  refine run_q (.on rfl rfl rfl (by rw [hE]; rfl)) rfl rfl (q_call rfl call21 (.cons rfl (.cons rfl Evs.nil)) (fun w hk hm => sameMarks_just (rowM xs (gs la lb lb (gN la lb))) O O3 co co3 w (own_rd ((Sel.there (Sel.there (Sel.there (Sel.there Sel.here)))).holds hm)) (own_rd (Sel.here.holds hm)) (by rw [e2, rwM_len]; omega))) ?_
  refine run_q (.none rfl) rfl rfl (q_pickT rfl rfl (by rw [hE]; rfl) rfl) ?_
  refine run_q (.none rfl) rfl rfl (q_move rfl rfl) ?_
  refine run_q (.on rfl rfl rfl rfl) rfl rfl (q_move rfl rfl) ?_
  refine run_q (.on rfl rfl rfl rfl) rfl rfl (q_move rfl rfl) ?_
  refine run_q (.on rfl rfl rfl rfl) rfl rfl (q_call rfl call22 (.cons rfl (.cons rfl Evs.nil)) (fun w hk hm => equal_just (rowO xs (gs la lb lb (gN la lb))) pb B2 cb2 (-1) (gN la lb) B3 cb3 w (by rw [row_len]; exact gs_len) (rd_sky ((Sel.there (Sel.there Sel.here)).holds hm)) (own_rd ((Sel.there (Sel.there (Sel.there Sel.here))).holds hm)) (by rw [sgL_neg]; exact (own_rd ((Sel.there Sel.here).holds hm))) (by rw [row_len, gs_len]; exact hcB2) (by rw [row_len, gs_len]; omega) (row_bd hbdB) (.inr rfl))) ?_
  refine run_q (.none rfl) rfl rfl (q_pickT rfl rfl rfl rfl) ?_
  refine run_q (.none rfl) rfl rfl (q_move rfl rfl) ?_
  refine run_q (.on rfl rfl rfl rfl) rfl rfl (q_move rfl rfl) ?_
  refine run_q (.on rfl rfl rfl rfl) rfl rfl (q_eql rfl rfl rfl) ?_
  refine run_q (.none rfl) rfl rfl (q_pickT rfl rfl rfl rfl) ?_
  refine run_q (.none rfl) rfl rfl (q_move rfl rfl) ?_
  refine run_q (.on rfl rfl rfl rfl) rfl rfl (q_move rfl rfl) ?_
  refine run_q (.on rfl rfl rfl rfl) rfl rfl (q_move rfl rfl) ?_
  refine run_q (.on rfl rfl rfl rfl) rfl rfl (q_call rfl call22 (.cons rfl (.cons rfl Evs.nil)) (fun w hk hm => equal_just (gs la lb la (gN la lb)) pa A ca 1 (gN la lb) P cp w gs_len (rd_sky ((Sel.there (Sel.there (Sel.there (Sel.there (Sel.there Sel.here))))).holds hm)) (own_rd ((Sel.there (Sel.there (Sel.there (Sel.there (Sel.there (Sel.there Sel.here)))))).holds hm)) (by rw [sgL_one]; exact (own_rd ((Sel.there (Sel.there (Sel.there (Sel.there (Sel.there (Sel.there (Sel.there Sel.here))))))).holds hm))) (by rw [gs_len]; exact hcA) (by rw [gs_len]; omega) hbdA (.inl rfl))) ?_
  refine run_q (.none rfl) rfl rfl (q_pickT rfl rfl rfl rfl) ?_
  refine run_q (.none rfl) rfl rfl (q_assign rfl rfl) ?_
  refine run_nil ?_
  refine run_sub (subMk (.cons (s := 4) rfl .nil) .refl) ?_
  refine run_ret ?_
  exact end1 rfl rfl rfl

set_option maxHeartbeats 4000000 in
set_option maxRecDepth 100000 in
theorem law10_err (la lb : List Int) (LA LB : Option Addr) (gca gcb : Nat) (l : List Req) (X : Option Addr) (cx : Nat) (W : World) (hla : Rd W LA 1 (la.map encW)) (hlb : Rd W LB 1 (lb.map encW)) (hbA : ∀ x ∈ la, 0 ≤ x ∧ x ≤ 65535) (hbB : ∀ x ∈ lb, 0 ≤ x ∧ x ≤ 65535) (hca : la.length ≤ 9223372036854775807) (hcb : lb.length ≤ 9223372036854775807) (hr : Rd W X 13 (l.map Req.enc)) (hcx : l.length ≤ cx) (xs : List Req) (hxs : xs = l.take 10) (hE : (rowE xs (gs la lb lb (gN la lb))) ≠ 0) : Calls Try.prog 10 #[.agg #[.slice LA la.length gca, .slice LB lb.length gcb], .slice X l.length cx] W (Hr.Just W (.bool true)) := by
  have hx := rd_take hr hxs
  have hxl : xs.length = min l.length 10 := by rw [hxs]; simp [Nat.min_comm]
  have hg := gN_bd (la := la) (lb := lb)
  have hbdA : Bd (gs la lb la (gN la lb)) := bd_of fun i => gs_bd
  have hbdB : Bd (gs la lb lb (gN la lb)) := bd_of fun i => gs_bd
  have hlA : (gs la lb la (gN la lb)).length = (gN la lb) := gs_len
  have hlB : (gs la lb lb (gN la lb)).length = (gN la lb) := gs_len
  obtain ⟨e1, e2⟩ := row_err hE
  refine Just.of_ret ?_
  refine enterA (X := nX) (vs := [.agg #[.slice LA la.length gca, .slice LB lb.length gcb], .slice X l.length cx]) Try.func10 Try.ntmps10 rfl rfl Mem.nil ?_
  refine run_seq ?_
  refine run_region ?_
  refine run_h (.none rfl) (h_box rfl rfl rfl rfl rfl) ?_
  rintro b2 -
  refine run_q (.none rfl) rfl rfl (q_assign rfl rfl) ?_
  refine run_nil ?_
  refine run_seq ?_
  refine run_region ?_
  refine run_q (.none rfl) rfl rfl (q_move rfl rfl) ?_
  refine run_q (.none rfl) rfl rfl (q_move rfl rfl) ?_
  refine run_q (.none rfl) rfl rfl (q_len rfl Try.underlying37 rfl) ?_
  refine run_q (.none rfl) rfl rfl (q_min2 rfl rfl rfl) ?_
  refine run_q (.none rfl) rfl rfl (q_sliceH rfl Try.underlying37 sz25 rfl rfl (by omega)) ?_
  refine run_q (.none rfl) rfl rfl (q_assign rfl rfl) ?_
  refine run_nil ?_
  refine run_sub (subMk (.cons (s := 1) rfl (.cons (s := 2) rfl (.cons (s := 4) rfl .nil))) .refl) ?_
  refine run_seq ?_
  refine run_sub (subMk (.cons' (s := 1) (v' := .slice X xs.length cx) rfl (by rw [hxl]; congr 1; omega) (.cons (s := 2) rfl (.cons (s := 4) rfl .nil))) .refl) ?_
  refine run_region ?_
  refine run_q (.none rfl) rfl rfl (q_loadBN rfl agg36 rfl Sel.here (.cons rfl (.cons rfl CellsAt.nil)) rfl) ?_
  refine run_h (.none rfl) (h_call rfl rfl rfl call17 (.cons rfl Evs.nil) (fun w hk hm => heights_ret la lb LA LB gca gcb w (hla.kept0 hk) (hlb.kept0 hk) hbA hbB hca hcb)) ?_
  rintro ⟨v, m⟩ ⟨P, cp, Q, cq, rfl, rfl⟩
  show Run _ _ _ _ _ _ _ ⟨(24, .tuple #[.slice P (gN la lb) cp, .slice Q (gN la lb) cq]) :: _, _ :: _ :: _⟩
  refine run_q (.none rfl) rfl rfl (q_move rfl rfl) ?_
  refine run_q (.none rfl) rfl rfl (q_extract rfl rfl rfl) ?_
  refine run_q (.none rfl) rfl rfl (q_extract rfl rfl rfl) ?_
  refine run_q (.none rfl) rfl rfl (q_assign rfl rfl) ?_
  refine run_q (.none rfl) rfl rfl (q_assign rfl rfl) ?_
  refine run_nil ?_
  refine run_sub (subMk (.cons (s := 1) rfl (.cons (s := 4) rfl (.cons (s := 5) rfl (.cons (s := 6) rfl .nil)))) .refl) ?_
  refine run_seq ?_
  refine run_region ?_
  refine run_q (.none rfl) rfl rfl (q_move rfl rfl) ?_
  refine run_q (.none rfl) rfl rfl (q_move rfl rfl) ?_
  refine run_h (.none rfl) (h_call rfl rfl rfl call18 (.cons rfl (.cons rfl Evs.nil)) (fun w hk hm => skylines_ret (gs la lb la (gN la lb)) (gs la lb lb (gN la lb)) (gN la lb) P Q cp cq w (own_rd (Sel.here.holds hm)) (own_rd ((Sel.there Sel.here).holds hm)) gs_len gs_len ⟨by omega, by omega⟩ (fun i => gs_bd) (fun i => gs_bd))) ?_
  rintro ⟨v, m⟩ ⟨pa, pb, A, B, ca, cb, rfl, hcA, hcB, rfl⟩
  show Run _ _ _ _ _ _ _ ⟨(30, .tuple #[.pointer (some ⟨pa, 0, none⟩), .pointer (some ⟨pb, 0, none⟩), .bool true]) :: _, _ :: _ :: _ :: _ :: _⟩
  refine run_q (.none rfl) rfl rfl (q_move rfl rfl) ?_
  refine run_q (.none rfl) rfl rfl (q_extract rfl rfl rfl) ?_
  refine run_q (.none rfl) rfl rfl (q_extract rfl rfl rfl) ?_
  refine run_q (.none rfl) rfl rfl (q_extract rfl rfl rfl) ?_
  refine run_q (.none rfl) rfl rfl (q_assign rfl rfl) ?_
  refine run_q (.none rfl) rfl rfl (q_assign rfl rfl) ?_
  refine run_q (.none rfl) rfl rfl (q_assign rfl rfl) ?_
  refine run_nil ?_
  refine run_sub (subMk (.cons (s := 1) rfl (.cons (s := 4) rfl (.cons (s := 5) rfl (.cons (s := 6) rfl (.cons (s := 7) rfl (.cons (s := 8) rfl (.cons (s := 9) rfl .nil))))))) .refl) ?_
  refine run_seq ?_
  refine run_seq ?_
  refine run_region ?_
  refine run_q (.none rfl) rfl rfl (q_call rfl call13 Evs.nil (fun w hk hm => known_just w)) ?_
  refine run_q (.none rfl) rfl rfl (q_not rfl rfl) ?_
  refine run_q (.none rfl) rfl rfl (q_move rfl rfl) ?_
  refine run_q (.on rfl rfl rfl rfl) rfl rfl (q_move rfl rfl) ?_
  refine run_q (.on rfl rfl rfl rfl) rfl rfl (q_not rfl rfl) ?_
  refine run_q (.none rfl) rfl rfl (q_pickF rfl rfl rfl rfl) ?_
  refine run_nil ?_
  refine run_sub (subMk (.cons (s := 1) rfl (.cons (s := 4) rfl (.cons (s := 5) rfl (.cons (s := 6) rfl (.cons (s := 7) rfl (.cons (s := 8) rfl (.cons (s := 39) rfl .nil))))))) .refl) ?_
  refine run_condF rfl rfl ?_
  refine run_skip ?_
  refine run_seq ?_
  refine run_region ?_
  refine run_q (.none rfl) rfl rfl (q_move rfl rfl) ?_
  refine run_q (.none rfl) rfl rfl (q_move rfl rfl) ?_
  refine run_h (.none rfl) (h_callX [_, _] _ rfl rfl rfl call27 (.cons rfl (.cons rfl Evs.nil)) ((Sel.perm (.there (.there Sel.here))).trans (.cons _ (Sel.perm (.there (.there Sel.here))))) (Y := fun _ => atAny [_, _]) (fun _ _ h => h) (fun w hk hm => PlaceRow_ret xs X cx (gs la lb lb (gN la lb)) pb B cb (gN la lb) w gs_len ((hm.perm ((Sel.perm (.there (.there Sel.here))).trans (.cons _ (Sel.perm (.there (.there Sel.here)))))).give (rs := [_, _])) (keep_inp hx hk (hm.perm ((Sel.perm (.there (.there Sel.here))).trans (.cons _ (Sel.perm (.there (.there Sel.here))))))) (by omega) (by omega) hcB hbdB)) ?_
  rintro ⟨v, m⟩ ⟨B2, cb2, O, co, rfl, hcB2, rfl⟩
  show Run _ _ _ _ _ _ _ ⟨(43, .tuple #[.slice O (rowM xs (gs la lb lb (gN la lb))).length co, .int .i64 (rowE xs (gs la lb lb (gN la lb)))]) :: _, _ :: _ :: _ :: _⟩
  refine run_q (.none rfl) rfl rfl (q_move rfl rfl) ?_
  refine run_q (.none rfl) rfl rfl (q_extract rfl rfl rfl) ?_
  refine run_q (.none rfl) rfl rfl (q_extract rfl rfl rfl) ?_
  refine run_q (.none rfl) rfl rfl (q_assign rfl rfl) ?_
  refine run_q (.none rfl) rfl rfl (q_assign rfl rfl) ?_
  refine run_nil ?_
  refine run_sub (subMk (.cons (s := 1) rfl (.cons (s := 4) rfl (.cons (s := 5) rfl (.cons (s := 6) rfl (.cons (s := 7) rfl (.cons (s := 8) rfl (.cons (s := 10) rfl (.cons (s := 11) rfl .nil)))))))) .refl) ?_
  refine run_seq ?_
  refine run_region ?_
  refine run_q (.none rfl) rfl rfl (q_move rfl rfl) ?_
  refine run_q (.none rfl) rfl rfl (q_move rfl rfl) ?_
  refine run_q (.none rfl) rfl rfl (q_call rfl call28 (.cons rfl (.cons rfl Evs.nil)) (fun w hk hm => refrow_errn xs X cx (gs la lb lb (gN la lb)) Q cq (gN la lb) w gs_len (hx.kept0 hk) (by omega) (own_rd ((Sel.there (Sel.there (Sel.there (Sel.there (Sel.there (Sel.there Sel.here)))))).holds hm)) (by omega) hbdB hE)) ?_
  refine run_q (.none rfl) rfl rfl (q_move rfl rfl) ?_
  refine run_q (.none rfl) rfl rfl (q_extract rfl rfl rfl) ?_
  refine run_q (.none rfl) rfl rfl (q_extract rfl rfl rfl) ?_
  refine run_q (.none rfl) rfl rfl (q_extract rfl rfl rfl) ?_
  refine run_q (.none rfl) rfl rfl (q_assign rfl rfl) ?_
  refine run_q (.none rfl) rfl rfl (q_assign rfl rfl) ?_
  refine run_q (.none rfl) rfl rfl (q_assign rfl rfl) ?_
  refine run_nil ?_
  refine run_sub (subMk (.cons (s := 1) rfl (.cons (s := 4) rfl (.cons (s := 5) rfl (.cons (s := 7) rfl (.cons (s := 8) rfl (.cons (s := 10) rfl (.cons (s := 11) rfl (.cons (s := 12) rfl (.cons (s := 13) rfl (.cons (s := 14) rfl .nil)))))))))) .refl) ?_
  refine run_seq ?_
  refine run_region ?_
  refine run_q (.none rfl) rfl rfl (q_move rfl rfl) ?_
  refine run_q (.none rfl) rfl rfl (q_move rfl rfl) ?_
  refine run_q (.none rfl) rfl rfl (q_call rfl call27 (.cons rfl (.cons rfl Evs.nil)) (fun w hk hm => PlaceRow_side X _ cx pa A (gN la lb) ca w (gs la lb la (gN la lb)) gs_len (rd_sky ((Sel.there (Sel.there (Sel.there Sel.here))).holds hm)))) ?_
  refine run_q (.none rfl) rfl rfl (q_move rfl rfl) ?_
  refine run_q (.none rfl) rfl rfl (q_extract rfl rfl rfl) ?_
  refine run_q (.none rfl) rfl rfl (q_extract rfl rfl rfl) ?_
  refine run_q (.none rfl) rfl rfl (q_assign rfl rfl) ?_
  refine run_q (.none rfl) rfl rfl (q_assign rfl rfl) ?_
  refine run_nil ?_
  refine run_sub (subMk (.cons (s := 4) rfl (.cons (s := 5) rfl (.cons (s := 7) rfl (.cons (s := 8) rfl (.cons (s := 10) rfl (.cons (s := 11) rfl (.cons (s := 12) rfl (.cons (s := 13) rfl (.cons (s := 14) rfl (.cons (s := 16) rfl .nil)))))))))) .refl) ?_
  refine run_seq ?_
  refine run_sub (subMk (.cons (s := 4) rfl (.cons (s := 5) rfl (.cons (s := 7) rfl (.cons (s := 8) rfl (.cons' (s := 10) (v' := .slice O 0 co) rfl (by rw [e2]; rfl) (.cons (s := 11) rfl (.cons (s := 12) rfl (.cons (s := 13) rfl (.cons (s := 14) rfl (.cons (s := 16) rfl .nil)))))))))) .refl) ?_
  refine run_region ?_
  refine run_q (.none rfl) rfl rfl (q_move rfl rfl) ?_
  refine run_q (.none rfl) rfl rfl (q_move rfl rfl) ?_
  refine run_q (.none rfl) rfl rfl (q_eql rfl rfl rfl) ?_
  refine run_q (.none rfl) rfl rfl (q_move rfl rfl) ?_
  refine run_q (.on rfl rfl rfl (by simp)) rfl rfl (q_move rfl rfl) ?_
  refine run_q (.on rfl rfl rfl (by simp)) rfl rfl (q_move rfl rfl) ?_
  refine run_q (.on rfl rfl rfl (by simp)) rfl rfl (q_call rfl call21 (.cons rfl (.cons rfl Evs.nil)) (fun w hk hm => sameMarks_just [] O none co 0 w (.inl rfl) (.inl rfl) (by simp))) ?_
  refine run_q (.none rfl) rfl rfl (q_pickT rfl rfl (by simp) rfl) ?_
  refine run_q (.none rfl) rfl rfl (q_move rfl rfl) ?_
  refine run_q (.on rfl rfl rfl rfl) rfl rfl (q_move rfl rfl) ?_
  refine run_q (.on rfl rfl rfl rfl) rfl rfl (q_move rfl rfl) ?_
  refine run_q (.on rfl rfl rfl rfl) rfl rfl (q_call rfl call22 (.cons rfl (.cons rfl Evs.nil)) (fun w hk hm => equal_just (rowO xs (gs la lb lb (gN la lb))) pb B2 cb2 (-1) (gN la lb) Q cq w (by rw [row_len]; exact gs_len) (rd_sky (Sel.here.holds hm)) (own_rd ((Sel.there Sel.here).holds hm)) (by rw [sgL_neg, e1]; exact (own_rd ((Sel.there (Sel.there (Sel.there (Sel.there (Sel.there (Sel.there Sel.here)))))).holds hm))) (by rw [row_len, gs_len]; exact hcB2) (by rw [row_len, gs_len]; omega) (row_bd hbdB) (.inr rfl))) ?_
  refine run_q (.none rfl) rfl rfl (q_pickT rfl rfl rfl rfl) ?_
  refine run_q (.none rfl) rfl rfl (q_move rfl rfl) ?_
  refine run_q (.on rfl rfl rfl rfl) rfl rfl (q_move rfl rfl) ?_
  refine run_q (.on rfl rfl rfl rfl) rfl rfl (q_eql rfl rfl rfl) ?_
  refine run_q (.none rfl) rfl rfl (q_pickT rfl rfl rfl rfl) ?_
  refine run_q (.none rfl) rfl rfl (q_move rfl rfl) ?_
  refine run_q (.on rfl rfl rfl rfl) rfl rfl (q_move rfl rfl) ?_
  refine run_q (.on rfl rfl rfl rfl) rfl rfl (q_move rfl rfl) ?_
  refine run_q (.on rfl rfl rfl rfl) rfl rfl (q_call rfl call22 (.cons rfl (.cons rfl Evs.nil)) (fun w hk hm => equal_just (gs la lb la (gN la lb)) pa A ca 1 (gN la lb) P cp w gs_len (rd_sky ((Sel.there (Sel.there (Sel.there Sel.here))).holds hm)) (own_rd ((Sel.there (Sel.there (Sel.there (Sel.there Sel.here)))).holds hm)) (by rw [sgL_one]; exact (own_rd ((Sel.there (Sel.there (Sel.there (Sel.there (Sel.there Sel.here))))).holds hm))) (by rw [gs_len]; exact hcA) (by rw [gs_len]; omega) hbdA (.inl rfl))) ?_
  refine run_q (.none rfl) rfl rfl (q_pickT rfl rfl rfl rfl) ?_
  refine run_q (.none rfl) rfl rfl (q_assign rfl rfl) ?_
  refine run_nil ?_
  refine run_sub (subMk (.cons (s := 4) rfl .nil) .refl) ?_
  refine run_ret ?_
  exact end1 rfl rfl rfl

theorem law10_just (la lb : List Int) (LA LB : Option Addr) (gca gcb : Nat) (l : List Req) (X : Option Addr) (cx : Nat) (W : World) (hla : Rd W LA 1 (la.map encW)) (hlb : Rd W LB 1 (lb.map encW)) (hbA : ∀ x ∈ la, 0 ≤ x ∧ x ≤ 65535) (hbB : ∀ x ∈ lb, 0 ≤ x ∧ x ≤ 65535) (hca : la.length ≤ 9223372036854775807) (hcb : lb.length ≤ 9223372036854775807) (hr : Rd W X 13 (l.map Req.enc)) (hcx : l.length ≤ cx) (xs : List Req) (hxs : xs = l.take 10) : Calls Try.prog 10 #[.agg #[.slice LA la.length gca, .slice LB lb.length gcb], .slice X l.length cx] W (Just W (.bool true)) := by
  by_cases hE : (rowE xs (gs la lb lb (gN la lb))) = 0
  · exact law10_ok la lb LA LB gca gcb l X cx W hla hlb hbA hbB hca hcb hr hcx xs hxs hE
  · exact law10_err la lb LA LB gca gcb l X cx W hla hlb hbA hbB hca hcb hr hcx xs hxs hE

end Go.Proofs.YtgphmbipakdggaaR
