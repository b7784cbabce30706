/- The law on places, in the program. -/
import Derived.Test.YtgphmbipakdggaaRL
set_option linter.unusedSimpArgs false
set_option linter.unusedVariables false
namespace Go.Proofs.YtgphmbipakdggaaR
open Go Go.RowKit Hr

theorem agg36 : Hr.Agg Try.prog 36 2 := ⟨fun w => by simp [isAgg, run_underlying Try.underlying36], Hr.Sz.of (by kernel_rfl)⟩
theorem call17 : Hr.Callable Try.prog 17 := fun args w => by kernel_rfl
theorem call18 : Hr.Callable Try.prog 18 := fun args w => by kernel_rfl
theorem call20 : Hr.Callable Try.prog 20 := fun args w => by kernel_rfl
theorem call21 : Hr.Callable Try.prog 21 := fun args w => by kernel_rfl
theorem call22 : Hr.Callable Try.prog 22 := fun args w => by kernel_rfl

theorem Place_n (xs : List Req) (X : Option Addr) (cx : Nat) (a b : List Int) (pa pb : Nat) (A B : Option Addr) (ca cb n : Nat) (W : World) (hn : a.length = n) (hbn : b.length = n) (hm : Mem (atAny [.blk pa 105 [(0, .int .i64 1), (1, .slice A n ca)], .own 3 1 A n ca ((a).map encI), .blk pb 105 [(0, .int .i64 (-1)), (1, .slice B n cb)], .own 3 1 B n cb ((b).map encI)]) W [.blk pa 105 [(0, .int .i64 1), (1, .slice A n ca)], .own 3 1 A n ca ((a).map encI), .blk pb 105 [(0, .int .i64 (-1)), (1, .slice B n cb)], .own 3 1 B n cb ((b).map encI)] W) (hx : ∀ w, Kept (atAny [.blk pa 105 [(0, .int .i64 1), (1, .slice A n ca)], .own 3 1 A n ca ((a).map encI), .blk pb 105 [(0, .int .i64 (-1)), (1, .slice B n cb)], .own 3 1 B n cb ((b).map encI)]) W w → Rd w X 13 (xs.map Req.enc)) (hxl : xs.length ≤ 1000000) (hl6 : n ≤ 65536) (hca : n ≤ ca) (hcb : n ≤ cb) (hba : Bd a) (hbb : Bd b) :
    Calls Try.prog 19 #[.slice X xs.length cx, .pointer (some ⟨pa, 0, none⟩), .pointer (some ⟨pb, 0, none⟩)] W (Ret W (atAny [.blk pa 105 [(0, .int .i64 1), (1, .slice A n ca)], .own 3 1 A n ca ((a).map encI), .blk pb 105 [(0, .int .i64 (-1)), (1, .slice B n cb)], .own 3 1 B n cb ((b).map encI)]) (fun v m => ∃ A' ca' B' cb' O co, v = .tuple #[.slice O (placeM xs a b).length co, .int .i64 (placeE xs a b)] ∧ n ≤ ca' ∧ n ≤ cb' ∧ m = [.blk pa 105 [(0, .int .i64 1), (1, .slice A' n ca')], .own 3 1 A' n ca' (((placeA xs a b)).map encI), .blk pb 105 [(0, .int .i64 (-1)), (1, .slice B' n cb')], .own 3 1 B' n cb' (((placeB xs a b)).map encI), .own 50 12 O (placeM xs a b).length co ((placeM xs a b).map Mk.enc)])) := by
  subst hn
  have h := Place_ret xs X cx a b pa pb A B ca cb W (by rw [hbn]; exact hm) (by rw [hbn]; exact hx) hxl hbn.symm hl6 hca (by rw [hbn]; exact hcb) hba hbb
  rw [hbn] at h; exact h
theorem refplace_okn (xs : List Req) (X : Option Addr) (cx : Nat) (a b : List Int) (P Q : Option Addr) (cp cq : Nat) (n : Nat) (W : World) (hn : a.length = n) (hbn : b.length = n) (hx : Rd W X 13 (xs.map Req.enc)) (hxl : xs.length ≤ 1000000) (hP : Rd W P 1 (a.map encI)) (hQ : Rd W Q 1 ((negL b).map encI)) (hl6 : n ≤ 65536) (hba : Bd a) (hbb : Bd b) (hE : placeE xs a b = 0) : Calls Try.prog 20 #[.slice X xs.length cx, .slice P n cp, .slice Q n cq] W (Ret W nX (fun v m => ∃ O co A' ca' B' cb', v = .tuple #[.slice O (placeM xs a b).length co, .slice A' n ca', .slice B' n cb', .int .i64 0] ∧ m = [.own 50 12 O (placeM xs a b).length co ((placeM xs a b).map Mk.enc), .own 3 1 A' n ca' ((placeA xs a b).map encI), .own 3 1 B' n cb' ((negL (placeB xs a b)).map encI)])) := by
  subst hn
  exact refplace_ok xs X cx a b P Q cp cq W hx hxl hP hQ hbn.symm hl6 hba hbb hE
theorem refplace_errn (xs : List Req) (X : Option Addr) (cx : Nat) (a b : List Int) (P Q : Option Addr) (cp cq : Nat) (n : Nat) (W : World) (hn : a.length = n) (hbn : b.length = n) (hx : Rd W X 13 (xs.map Req.enc)) (hxl : xs.length ≤ 1000000) (hP : Rd W P 1 (a.map encI)) (hQ : Rd W Q 1 ((negL b).map encI)) (hl6 : n ≤ 65536) (hba : Bd a) (hbb : Bd b) (hE : placeE xs a b ≠ 0) : Calls Try.prog 20 #[.slice X xs.length cx, .slice P n cp, .slice Q n cq] W (Just W (.tuple #[.slice none 0 0, .slice P n cp, .slice Q n cq, .int .i64 (placeE xs a b)])) := by
  subst hn
  by_cases h : reqsE a.length xs = 0
  · exact refplace_err2 xs X cx a b P Q cp cq W hx hxl hP hQ hbn.symm hl6 hba hbb h (by rw [← placeE_2 h]; exact hE)
  · exact refplace_err1 xs X cx a b P Q cp cq W hx hxl hP hQ hbn.symm hl6 hba hbb h

set_option maxHeartbeats 4000000 in
set_option maxRecDepth 100000 in
theorem law6_ok (la lb : List Int) (LA LB : Option Addr) (gca gcb : Nat) (l : List Req) (X : Option Addr) (cx : Nat) (W : World) (hla : Rd W LA 1 (la.map encW)) (hlb : Rd W LB 1 (lb.map encW)) (hbA : ∀ x ∈ la, 0 ≤ x ∧ x ≤ 65535) (hbB : ∀ x ∈ lb, 0 ≤ x ∧ x ≤ 65535) (hca : la.length ≤ 9223372036854775807) (hcb : lb.length ≤ 9223372036854775807) (hr : Rd W X 13 (l.map Req.enc)) (hcx : l.length ≤ cx) (xs : List Req) (hxs : xs = l.take 10) (hE : (placeE xs (gs la lb la (gN la lb)) (gs la lb lb (gN la lb))) = 0) : Calls Try.prog 6 #[.agg #[.slice LA la.length gca, .slice LB lb.length gcb], .slice X l.length cx] W (Hr.Just W (.bool true)) := by
  have hx := rd_take hr hxs
  have hxl : xs.length = min l.length 10 := by rw [hxs]; simp [Nat.min_comm]
  have hg := gN_bd (la := la) (lb := lb)
  have hbdA : Bd (gs la lb la (gN la lb)) := bd_of fun i => gs_bd
  have hbdB : Bd (gs la lb lb (gN la lb)) := bd_of fun i => gs_bd
  have hpl := place_len (xs := xs) (a := (gs la lb la (gN la lb))) (b := (gs la lb lb (gN la lb)))
  have hpbd := place_bd (xs := xs) hbdA hbdB
  have hlA : (gs la lb la (gN la lb)).length = (gN la lb) := gs_len
  have hlB : (gs la lb lb (gN la lb)).length = (gN la lb) := gs_len
  obtain ⟨e1, e2, e3⟩ := place_ok hE
  refine Just.of_ret ?_
  refine enterA (X := nX) (vs := [.agg #[.slice LA la.length gca, .slice LB lb.length gcb], .slice X l.length cx]) Try.func6 Try.ntmps6 rfl rfl Mem.nil ?_
  refine run_seq ?_
  refine run_region ?_
  refine run_h (.none rfl) (h_box rfl rfl rfl rfl rfl) ?_
  rintro b2 -
  refine run_q (.none rfl) rfl rfl (q_assign rfl rfl) ?_
  refine run_nil ?_
  refine run_seq ?_
  refine run_region ?_
  refine run_q (.none rfl) rfl rfl (q_move rfl rfl) ?_
  refine run_q (.none rfl) rfl rfl (q_move rfl rfl) ?_
  refine run_q (.none rfl) rfl rfl (q_len rfl Try.underlying37 rfl) ?_
  refine run_q (.none rfl) rfl rfl (q_min2 rfl rfl rfl) ?_
  refine run_q (.none rfl) rfl rfl (q_sliceH rfl Try.underlying37 sz25 rfl rfl (by omega)) ?_
  refine run_q (.none rfl) rfl rfl (q_assign rfl rfl) ?_
  refine run_nil ?_
  refine run_sub (subMk (.cons (s := 1) rfl (.cons (s := 2) rfl (.cons (s := 4) rfl .nil))) .refl) ?_
  refine run_seq ?_
  refine run_sub (subMk (.cons' (s := 1) (v' := .slice X xs.length cx) rfl (by rw [hxl]; congr 1; omega) (.cons (s := 2) rfl (.cons (s := 4) rfl .nil))) .refl) ?_
  refine run_region ?_
  refine run_q (.none rfl) rfl rfl (q_loadBN rfl agg36 rfl Sel.here (.cons rfl (.cons rfl CellsAt.nil)) rfl) ?_
  refine run_h (.none rfl) (h_call rfl rfl rfl call17 (.cons rfl Evs.nil) (fun w hk hm => heights_ret la lb LA LB gca gcb w (hla.kept0 hk) (hlb.kept0 hk) hbA hbB hca hcb)) ?_
  rintro ⟨v, m⟩ ⟨P, cp, Q, cq, rfl, rfl⟩
  show Run _ _ _ _ _ _ _ ⟨(23, .tuple #[.slice P (gN la lb) cp, .slice Q (gN la lb) cq]) :: _, _ :: _ :: _⟩
  refine run_q (.none rfl) rfl rfl (q_move rfl rfl) ?_
  refine run_q (.none rfl) rfl rfl (q_extract rfl rfl rfl) ?_
  refine run_q (.none rfl) rfl rfl (q_extract rfl rfl rfl) ?_
  refine run_q (.none rfl) rfl rfl (q_assign rfl rfl) ?_
  refine run_q (.none rfl) rfl rfl (q_assign rfl rfl) ?_
  refine run_nil ?_
  refine run_sub (subMk (.cons (s := 1) rfl (.cons (s := 4) rfl (.cons (s := 5) rfl (.cons (s := 6) rfl .nil)))) .refl) ?_
  refine run_seq ?_
  refine run_region ?_
  refine run_q (.none rfl) rfl rfl (q_move rfl rfl) ?_
  refine run_q (.none rfl) rfl rfl (q_move rfl rfl) ?_
  refine run_h (.none rfl) (h_call rfl rfl rfl call18 (.cons rfl (.cons rfl Evs.nil)) (fun w hk hm => skylines_ret (gs la lb la (gN la lb)) (gs la lb lb (gN la lb)) (gN la lb) P Q cp cq w (own_rd (Sel.here.holds hm)) (own_rd ((Sel.there Sel.here).holds hm)) gs_len gs_len ⟨by omega, by omega⟩ (fun i => gs_bd) (fun i => gs_bd))) ?_
  rintro ⟨v, m⟩ ⟨pa, pb, A, B, ca, cb, rfl, hcA, hcB, rfl⟩
  show Run _ _ _ _ _ _ _ ⟨(29, .tuple #[.pointer (some ⟨pa, 0, none⟩), .pointer (some ⟨pb, 0, none⟩), .bool true]) :: _, _ :: _ :: _ :: _ :: _⟩
  refine run_q (.none rfl) rfl rfl (q_move rfl rfl) ?_
  refine run_q (.none rfl) rfl rfl (q_extract rfl rfl rfl) ?_
  refine run_q (.none rfl) rfl rfl (q_extract rfl rfl rfl) ?_
  refine run_q (.none rfl) rfl rfl (q_extract rfl rfl rfl) ?_
  refine run_q (.none rfl) rfl rfl (q_assign rfl rfl) ?_
  refine run_q (.none rfl) rfl rfl (q_assign rfl rfl) ?_
  refine run_q (.none rfl) rfl rfl (q_assign rfl rfl) ?_
  refine run_nil ?_
  refine run_sub (subMk (.cons (s := 1) rfl (.cons (s := 4) rfl (.cons (s := 5) rfl (.cons (s := 6) rfl (.cons (s := 7) rfl (.cons (s := 8) rfl (.cons (s := 9) rfl .nil))))))) .refl) ?_
  refine run_seq ?_
  refine run_seq ?_
  refine run_region ?_
  refine run_q (.none rfl) rfl rfl (q_call rfl call13 Evs.nil (fun w hk hm => known_just w)) ?_
  refine run_q (.none rfl) rfl rfl (q_not rfl rfl) ?_
  refine run_q (.none rfl) rfl rfl (q_move rfl rfl) ?_
  refine run_q (.on rfl rfl rfl rfl) rfl rfl (q_move rfl rfl) ?_
  refine run_q (.on rfl rfl rfl rfl) rfl rfl (q_not rfl rfl) ?_
  refine run_q (.none rfl) rfl rfl (q_pickF rfl rfl rfl rfl) ?_
  refine run_nil ?_
  refine run_sub (subMk (.cons (s := 1) rfl (.cons (s := 4) rfl (.cons (s := 5) rfl (.cons (s := 6) rfl (.cons (s := 7) rfl (.cons (s := 8) rfl (.cons (s := 38) rfl .nil))))))) .refl) ?_
  refine run_condF rfl rfl ?_
  refine run_skip ?_
  refine run_seq ?_
  refine run_region ?_
  refine run_q (.none rfl) rfl rfl (q_move rfl rfl) ?_
  refine run_q (.none rfl) rfl rfl (q_move rfl rfl) ?_
  refine run_q (.none rfl) rfl rfl (q_move rfl rfl) ?_
  refine run_h (.none rfl) (h_callX [_, _, _, _] _ rfl rfl rfl call19 (.cons rfl (.cons rfl (.cons rfl Evs.nil))) ((Sel.perm Sel.here).trans (.cons _ ((Sel.perm Sel.here).trans (.cons _ ((Sel.perm Sel.here).trans (.cons _ (Sel.perm Sel.here))))))) (Y := fun _ => atAny [_, _, _, _]) (fun _ _ h => h) (fun w hk hm => Place_n xs X cx (gs la lb la (gN la lb)) (gs la lb lb (gN la lb)) pa pb A B ca cb (gN la lb) w gs_len gs_len ((hm.perm ((Sel.perm Sel.here).trans (.cons _ ((Sel.perm Sel.here).trans (.cons _ ((Sel.perm Sel.here).trans (.cons _ (Sel.perm Sel.here)))))))).give (rs := [_, _, _, _])) (keep_inp hx hk (hm.perm ((Sel.perm Sel.here).trans (.cons _ ((Sel.perm Sel.here).trans (.cons _ ((Sel.perm Sel.here).trans (.cons _ (Sel.perm Sel.here))))))))) (by omega) (by omega) hcA hcB hbdA hbdB)) ?_
  rintro ⟨v, m⟩ ⟨A2, ca2, B2, cb2, O, co, rfl, hcA2, hcB2, rfl⟩
  show Run _ _ _ _ _ _ _ ⟨(43, .tuple #[.slice O (placeM xs (gs la lb la (gN la lb)) (gs la lb lb (gN la lb))).length co, .int .i64 (placeE xs (gs la lb la (gN la lb)) (gs la lb lb (gN la lb)))]) :: _, _ :: _ :: _ :: _ :: _ :: _⟩
  refine run_q (.none rfl) rfl rfl (q_move rfl rfl) ?_
  refine run_q (.none rfl) rfl rfl (q_extract rfl rfl rfl) ?_
  refine run_q (.none rfl) rfl rfl (q_extract rfl rfl rfl) ?_
  refine run_q (.none rfl) rfl rfl (q_assign rfl rfl) ?_
  refine run_q (.none rfl) rfl rfl (q_assign rfl rfl) ?_
  refine run_nil ?_
  refine run_sub (subMk (.cons (s := 1) rfl (.cons (s := 4) rfl (.cons (s := 5) rfl (.cons (s := 6) rfl (.cons (s := 7) rfl (.cons (s := 8) rfl (.cons (s := 10) rfl (.cons (s := 11) rfl .nil)))))))) .refl) ?_
  refine run_seq ?_
  refine run_region ?_
  refine run_q (.none rfl) rfl rfl (q_move rfl rfl) ?_
  refine run_q (.none rfl) rfl rfl (q_move rfl rfl) ?_
  refine run_q (.none rfl) rfl rfl (q_move rfl rfl) ?_
  refine run_h (.none rfl) (h_call rfl rfl rfl call20 (.cons rfl (.cons rfl (.cons rfl Evs.nil))) (fun w hk hm => refplace_okn xs X cx (gs la lb la (gN la lb)) (gs la lb lb (gN la lb)) P Q cp cq (gN la lb) w gs_len gs_len (hx.kept0 hk) (by omega) (own_rd ((Sel.there (Sel.there (Sel.there (Sel.there (Sel.there Sel.here))))).holds hm)) (own_rd ((Sel.there (Sel.there (Sel.there (Sel.there (Sel.there (Sel.there Sel.here)))))).holds hm)) (by omega) hbdA hbdB hE)) ?_
  rintro ⟨v, m⟩ ⟨O3, co3, A3, ca3, B3, cb3, rfl, rfl⟩
  show Run _ _ _ _ _ _ _ ⟨(50, .tuple #[.slice O3 (placeM xs (gs la lb la (gN la lb)) (gs la lb lb (gN la lb))).length co3, .slice A3 (gN la lb) ca3, .slice B3 (gN la lb) cb3, .int .i64 0]) :: _, _ :: _ :: _ :: _⟩
  refine run_q (.none rfl) rfl rfl (q_move rfl rfl) ?_
  refine run_q (.none rfl) rfl rfl (q_extract rfl rfl rfl) ?_
  refine run_q (.none rfl) rfl rfl (q_extract rfl rfl rfl) ?_
  refine run_q (.none rfl) rfl rfl (q_extract rfl rfl rfl) ?_
  refine run_q (.none rfl) rfl rfl (q_extract rfl rfl rfl) ?_
  refine run_q (.none rfl) rfl rfl (q_assign rfl rfl) ?_
  refine run_q (.none rfl) rfl rfl (q_assign rfl rfl) ?_
  refine run_q (.none rfl) rfl rfl (q_assign rfl rfl) ?_
  refine run_q (.none rfl) rfl rfl (q_assign rfl rfl) ?_
  refine run_nil ?_
  refine run_sub (subMk (.cons (s := 4) rfl (.cons (s := 7) rfl (.cons (s := 8) rfl (.cons (s := 10) rfl (.cons (s := 11) rfl (.cons (s := 12) rfl (.cons (s := 13) rfl (.cons (s := 14) rfl (.cons (s := 15) rfl .nil))))))))) .refl) ?_
  refine run_seq ?_
  refine run_region ?_
  refine run_q (.none rfl) rfl rfl (q_move rfl rfl) ?_
  refine run_q (.none rfl) rfl rfl (q_move rfl rfl) ?_
  refine run_q (.none rfl) rfl rfl (q_eql rfl rfl rfl) ?_
  refine run_q (.none rfl) rfl rfl (q_move rfl rfl) ?_
  refine run_q (.on rfl rfl rfl (by rw [hE]; rfl)) rfl rfl (q_move rfl rfl) ?_
  refine run_q (.on rfl rfl rfl (by rw [hE]; rfl)) rfl rfl (q_move rfl rfl) ?_
  refine run_q (.on rfl rfl rfl (by rw [hE]; rfl)) rfl rfl (q_call rfl call21 (.cons rfl (.cons rfl Evs.nil)) (fun w hk hm => sameMarks_just (placeM xs (gs la lb la (gN la lb)) (gs la lb lb (gN la lb))) O O3 co co3 w (own_rd ((Sel.there (Sel.there (Sel.there (Sel.there (Sel.there (Sel.there (Sel.there Sel.here))))))).holds hm)) (own_rd (Sel.here.holds hm)) (by rw [e3, plMs_len]; omega))) ?_
  refine run_q (.none rfl) rfl rfl (q_pickT rfl rfl (by rw [hE]; rfl) rfl) ?_
  refine run_q (.none rfl) rfl rfl (q_move rfl rfl) ?_
  refine run_q (.on rfl rfl rfl rfl) rfl rfl (q_move rfl rfl) ?_
  refine run_q (.on rfl rfl rfl rfl) rfl rfl (q_move rfl rfl) ?_
  refine run_q (.on rfl rfl rfl rfl) rfl rfl (q_call rfl call22 (.cons rfl (.cons rfl Evs.nil)) (fun w hk hm => equal_just (placeA xs (gs la lb la (gN la lb)) (gs la lb lb (gN la lb))) pa A2 ca2 1 (gN la lb) A3 ca3 w (by rw [hpl.1]; exact gs_len) (rd_sky ((Sel.there (Sel.there (Sel.there Sel.here))).holds hm)) (own_rd ((Sel.there (Sel.there (Sel.there (Sel.there Sel.here)))).holds hm)) (by rw [sgL_one]; exact (own_rd ((Sel.there Sel.here).holds hm))) (by rw [hpl.1, gs_len]; exact hcA2) (by rw [hpl.1, gs_len]; omega) hpbd.1 (.inl rfl))) ?_
  refine run_q (.none rfl) rfl rfl (q_pickT rfl rfl rfl rfl) ?_
  refine run_q (.none rfl) rfl rfl (q_move rfl rfl) ?_
  refine run_q (.on rfl rfl rfl rfl) rfl rfl (q_move rfl rfl) ?_
  refine run_q (.on rfl rfl rfl rfl) rfl rfl (q_move rfl rfl) ?_
  refine run_q (.on rfl rfl rfl rfl) rfl rfl (q_call rfl call22 (.cons rfl (.cons rfl Evs.nil)) (fun w hk hm => equal_just (placeB xs (gs la lb la (gN la lb)) (gs la lb lb (gN la lb))) pb B2 cb2 (-1) (gN la lb) B3 cb3 w (by rw [hpl.2]; exact gs_len) (rd_sky ((Sel.there (Sel.there (Sel.there (Sel.there (Sel.there Sel.here))))).holds hm)) (own_rd ((Sel.there (Sel.there (Sel.there (Sel.there (Sel.there (Sel.there Sel.here)))))).holds hm)) (by rw [sgL_neg]; exact (own_rd ((Sel.there (Sel.there Sel.here)).holds hm))) (by rw [hpl.2, gs_len]; exact hcB2) (by rw [hpl.2, gs_len]; omega) hpbd.2 (.inr rfl))) ?_
  refine run_q (.none rfl) rfl rfl (q_pickT rfl rfl rfl rfl) ?_
  refine run_q (.none rfl) rfl rfl (q_assign rfl rfl) ?_
  refine run_nil ?_
  refine run_sub (subMk (.cons (s := 4) rfl .nil) .refl) ?_
  refine run_ret ?_
  exact end1 rfl rfl rfl

set_option maxHeartbeats 4000000 in
set_option maxRecDepth 100000 in
theorem law6_err (la lb : List Int) (LA LB : Option Addr) (gca gcb : Nat) (l : List Req) (X : Option Addr) (cx : Nat) (W : World) (hla : Rd W LA 1 (la.map encW)) (hlb : Rd W LB 1 (lb.map encW)) (hbA : ∀ x ∈ la, 0 ≤ x ∧ x ≤ 65535) (hbB : ∀ x ∈ lb, 0 ≤ x ∧ x ≤ 65535) (hca : la.length ≤ 9223372036854775807) (hcb : lb.length ≤ 9223372036854775807) (hr : Rd W X 13 (l.map Req.enc)) (hcx : l.length ≤ cx) (xs : List Req) (hxs : xs = l.take 10) (hE : (placeE xs (gs la lb la (gN la lb)) (gs la lb lb (gN la lb))) ≠ 0) : Calls Try.prog 6 #[.agg #[.slice LA la.length gca, .slice LB lb.length gcb], .slice X l.length cx] W (Hr.Just W (.bool true)) := by
  have hx := rd_take hr hxs
  have hxl : xs.length = min l.length 10 := by rw [hxs]; simp [Nat.min_comm]
  have hg := gN_bd (la := la) (lb := lb)
  have hbdA : Bd (gs la lb la (gN la lb)) := bd_of fun i => gs_bd
  have hbdB : Bd (gs la lb lb (gN la lb)) := bd_of fun i => gs_bd
  have hpl := place_len (xs := xs) (a := (gs la lb la (gN la lb))) (b := (gs la lb lb (gN la lb)))
  have hpbd := place_bd (xs := xs) hbdA hbdB
  have hlA : (gs la lb la (gN la lb)).length = (gN la lb) := gs_len
  have hlB : (gs la lb lb (gN la lb)).length = (gN la lb) := gs_len
  obtain ⟨e1, e2, e3⟩ := place_err hE
  refine Just.of_ret ?_
  refine enterA (X := nX) (vs := [.agg #[.slice LA la.length gca, .slice LB lb.length gcb], .slice X l.length cx]) Try.func6 Try.ntmps6 rfl rfl Mem.nil ?_
  refine run_seq ?_
  refine run_region ?_
  refine run_h (.none rfl) (h_box rfl rfl rfl rfl rfl) ?_
  rintro b2 -
  refine run_q (.none rfl) rfl rfl (q_assign rfl rfl) ?_
  refine run_nil ?_
  refine run_seq ?_
  refine run_region ?_
  refine run_q (.none rfl) rfl rfl (q_move rfl rfl) ?_
  refine run_q (.none rfl) rfl rfl (q_move rfl rfl) ?_
  refine run_q (.none rfl) rfl rfl (q_len rfl Try.underlying37 rfl) ?_
  refine run_q (.none rfl) rfl rfl (q_min2 rfl rfl rfl) ?_
  refine run_q (.none rfl) rfl rfl (q_sliceH rfl Try.underlying37 sz25 rfl rfl (by omega)) ?_
  refine run_q (.none rfl) rfl rfl (q_assign rfl rfl) ?_
  refine run_nil ?_
  refine run_sub (subMk (.cons (s := 1) rfl (.cons (s := 2) rfl (.cons (s := 4) rfl .nil))) .refl) ?_
  refine run_seq ?_
  refine run_sub (subMk (.cons' (s := 1) (v' := .slice X xs.length cx) rfl (by rw [hxl]; congr 1; omega) (.cons (s := 2) rfl (.cons (s := 4) rfl .nil))) .refl) ?_
  refine run_region ?_
  refine run_q (.none rfl) rfl rfl (q_loadBN rfl agg36 rfl Sel.here (.cons rfl (.cons rfl CellsAt.nil)) rfl) ?_
  refine run_h (.none rfl) (h_call rfl rfl rfl call17 (.cons rfl Evs.nil) (fun w hk hm => heights_ret la lb LA LB gca gcb w (hla.kept0 hk) (hlb.kept0 hk) hbA hbB hca hcb)) ?_
  rintro ⟨v, m⟩ ⟨P, cp, Q, cq, rfl, rfl⟩
  show Run _ _ _ _ _ _ _ ⟨(23, .tuple #[.slice P (gN la lb) cp, .slice Q (gN la lb) cq]) :: _, _ :: _ :: _⟩
  refine run_q (.none rfl) rfl rfl (q_move rfl rfl) ?_
  refine run_q (.none rfl) rfl rfl (q_extract rfl rfl rfl) ?_
  refine run_q (.none rfl) rfl rfl (q_extract rfl rfl rfl) ?_
  refine run_q (.none rfl) rfl rfl (q_assign rfl rfl) ?_
  refine run_q (.none rfl) rfl rfl (q_assign rfl rfl) ?_
  refine run_nil ?_
  refine run_sub (subMk (.cons (s := 1) rfl (.cons (s := 4) rfl (.cons (s := 5) rfl (.cons (s := 6) rfl .nil)))) .refl) ?_
  refine run_seq ?_
  refine run_region ?_
  refine run_q (.none rfl) rfl rfl (q_move rfl rfl) ?_
  refine run_q (.none rfl) rfl rfl (q_move rfl rfl) ?_
  refine run_h (.none rfl) (h_call rfl rfl rfl call18 (.cons rfl (.cons rfl Evs.nil)) (fun w hk hm => skylines_ret (gs la lb la (gN la lb)) (gs la lb lb (gN la lb)) (gN la lb) P Q cp cq w (own_rd (Sel.here.holds hm)) (own_rd ((Sel.there Sel.here).holds hm)) gs_len gs_len ⟨by omega, by omega⟩ (fun i => gs_bd) (fun i => gs_bd))) ?_
  rintro ⟨v, m⟩ ⟨pa, pb, A, B, ca, cb, rfl, hcA, hcB, rfl⟩
  show Run _ _ _ _ _ _ _ ⟨(29, .tuple #[.pointer (some ⟨pa, 0, none⟩), .pointer (some ⟨pb, 0, none⟩), .bool true]) :: _, _ :: _ :: _ :: _ :: _⟩
  refine run_q (.none rfl) rfl rfl (q_move rfl rfl) ?_
  refine run_q (.none rfl) rfl rfl (q_extract rfl rfl rfl) ?_
  refine run_q (.none rfl) rfl rfl (q_extract rfl rfl rfl) ?_
  refine run_q (.none rfl) rfl rfl (q_extract rfl rfl rfl) ?_
  refine run_q (.none rfl) rfl rfl (q_assign rfl rfl) ?_
  refine run_q (.none rfl) rfl rfl (q_assign rfl rfl) ?_
  refine run_q (.none rfl) rfl rfl (q_assign rfl rfl) ?_
  refine run_nil ?_
  refine run_sub (subMk (.cons (s := 1) rfl (.cons (s := 4) rfl (.cons (s := 5) rfl (.cons (s := 6) rfl (.cons (s := 7) rfl (.cons (s := 8) rfl (.cons (s := 9) rfl .nil))))))) .refl) ?_
  refine run_seq ?_
  refine run_seq ?_
  refine run_region ?_
  refine run_q (.none rfl) rfl rfl (q_call rfl call13 Evs.nil (fun w hk hm => known_just w)) ?_
  refine run_q (.none rfl) rfl rfl (q_not rfl rfl) ?_
  refine run_q (.none rfl) rfl rfl (q_move rfl rfl) ?_
  refine run_q (.on rfl rfl rfl rfl) rfl rfl (q_move rfl rfl) ?_
  refine run_q (.on rfl rfl rfl rfl) rfl rfl (q_not rfl rfl) ?_
  refine run_q (.none rfl) rfl rfl (q_pickF rfl rfl rfl rfl) ?_
  refine run_nil ?_
  refine run_sub (subMk (.cons (s := 1) rfl (.cons (s := 4) rfl (.cons (s := 5) rfl (.cons (s := 6) rfl (.cons (s := 7) rfl (.cons (s := 8) rfl (.cons (s := 38) rfl .nil))))))) .refl) ?_
  refine run_condF rfl rfl ?_
  refine run_skip ?_
  refine run_seq ?_
  refine run_region ?_
  refine run_q (.none rfl) rfl rfl (q_move rfl rfl) ?_
  refine run_q (.none rfl) rfl rfl (q_move rfl rfl) ?_
  refine run_q (.none rfl) rfl rfl (q_move rfl rfl) ?_
  refine run_h (.none rfl) (h_callX [_, _, _, _] _ rfl rfl rfl call19 (.cons rfl (.cons rfl (.cons rfl Evs.nil))) ((Sel.perm Sel.here).trans (.cons _ ((Sel.perm Sel.here).trans (.cons _ ((Sel.perm Sel.here).trans (.cons _ (Sel.perm Sel.here))))))) (Y := fun _ => atAny [_, _, _, _]) (fun _ _ h => h) (fun w hk hm => Place_n xs X cx (gs la lb la (gN la lb)) (gs la lb lb (gN la lb)) pa pb A B ca cb (gN la lb) w gs_len gs_len ((hm.perm ((Sel.perm Sel.here).trans (.cons _ ((Sel.perm Sel.here).trans (.cons _ ((Sel.perm Sel.here).trans (.cons _ (Sel.perm Sel.here)))))))).give (rs := [_, _, _, _])) (keep_inp hx hk (hm.perm ((Sel.perm Sel.here).trans (.cons _ ((Sel.perm Sel.here).trans (.cons _ ((Sel.perm Sel.here).trans (.cons _ (Sel.perm Sel.here))))))))) (by omega) (by omega) hcA hcB hbdA hbdB)) ?_
  rintro ⟨v, m⟩ ⟨A2, ca2, B2, cb2, O, co, rfl, hcA2, hcB2, rfl⟩
  show Run _ _ _ _ _ _ _ ⟨(43, .tuple #[.slice O (placeM xs (gs la lb la (gN la lb)) (gs la lb lb (gN la lb))).length co, .int .i64 (placeE xs (gs la lb la (gN la lb)) (gs la lb lb (gN la lb)))]) :: _, _ :: _ :: _ :: _ :: _ :: _⟩
  refine run_q (.none rfl) rfl rfl (q_move rfl rfl) ?_
  refine run_q (.none rfl) rfl rfl (q_extract rfl rfl rfl) ?_
  refine run_q (.none rfl) rfl rfl (q_extract rfl rfl rfl) ?_
  refine run_q (.none rfl) rfl rfl (q_assign rfl rfl) ?_
  refine run_q (.none rfl) rfl rfl (q_assign rfl rfl) ?_
  refine run_nil ?_
  refine run_sub (subMk (.cons (s := 1) rfl (.cons (s := 4) rfl (.cons (s := 5) rfl (.cons (s := 6) rfl (.cons (s := 7) rfl (.cons (s := 8) rfl (.cons (s := 10) rfl (.cons (s := 11) rfl .nil)))))))) .refl) ?_
  refine run_seq ?_
  refine run_region ?_
  refine run_q (.none rfl) rfl rfl (q_move rfl rfl) ?_
  refine run_q (.none rfl) rfl rfl (q_move rfl rfl) ?_
  refine run_q (.none rfl) rfl rfl (q_move rfl rfl) ?_
  refine run_q (.none rfl) rfl rfl (q_call rfl call20 (.cons rfl (.cons rfl (.cons rfl Evs.nil))) (fun w hk hm => refplace_errn xs X cx (gs la lb la (gN la lb)) (gs la lb lb (gN la lb)) P Q cp cq (gN la lb) w gs_len gs_len (hx.kept0 hk) (by omega) (own_rd ((Sel.there (Sel.there (Sel.there (Sel.there (Sel.there Sel.here))))).holds hm)) (own_rd ((Sel.there (Sel.there (Sel.there (Sel.there (Sel.there (Sel.there Sel.here)))))).holds hm)) (by omega) hbdA hbdB hE)) ?_
  refine run_q (.none rfl) rfl rfl (q_move rfl rfl) ?_
  refine run_q (.none rfl) rfl rfl (q_extract rfl rfl rfl) ?_
  refine run_q (.none rfl) rfl rfl (q_extract rfl rfl rfl) ?_
  refine run_q (.none rfl) rfl rfl (q_extract rfl rfl rfl) ?_
  refine run_q (.none rfl) rfl rfl (q_extract rfl rfl rfl) ?_
  refine run_q (.none rfl) rfl rfl (q_assign rfl rfl) ?_
  refine run_q (.none rfl) rfl rfl (q_assign rfl rfl) ?_
  refine run_q (.none rfl) rfl rfl (q_assign rfl rfl) ?_
  refine run_q (.none rfl) rfl rfl (q_assign rfl rfl) ?_
  refine run_nil ?_
  refine run_sub (subMk (.cons (s := 4) rfl (.cons (s := 7) rfl (.cons (s := 8) rfl (.cons (s := 10) rfl (.cons (s := 11) rfl (.cons (s := 12) rfl (.cons (s := 13) rfl (.cons (s := 14) rfl (.cons (s := 15) rfl .nil))))))))) .refl) ?_
  refine run_seq ?_
  refine run_sub (subMk (.cons (s := 4) rfl (.cons (s := 7) rfl (.cons (s := 8) rfl (.cons' (s := 10) (v' := .slice O 0 co) rfl (by rw [e3]; rfl) (.cons (s := 11) rfl (.cons (s := 12) rfl (.cons (s := 13) rfl (.cons (s := 14) rfl (.cons (s := 15) rfl .nil))))))))) .refl) ?_
  refine run_region ?_
  refine run_q (.none rfl) rfl rfl (q_move rfl rfl) ?_
  refine run_q (.none rfl) rfl rfl (q_move rfl rfl) ?_
  refine run_q (.none rfl) rfl rfl (q_eql rfl rfl rfl) ?_
  refine run_q (.none rfl) rfl rfl (q_move rfl rfl) ?_
  refine run_q (.on rfl rfl rfl (by simp)) rfl rfl (q_move rfl rfl) ?_
  refine run_q (.on rfl rfl rfl (by simp)) rfl rfl (q_move rfl rfl) ?_
  refine run_q (.on rfl rfl rfl (by simp)) rfl rfl (q_call rfl call21 (.cons rfl (.cons rfl Evs.nil)) (fun w hk hm => sameMarks_just [] O none co 0 w (.inl rfl) (.inl rfl) (by simp))) ?_
  refine run_q (.none rfl) rfl rfl (q_pickT rfl rfl (by simp) rfl) ?_
  refine run_q (.none rfl) rfl rfl (q_move rfl rfl) ?_
  refine run_q (.on rfl rfl rfl rfl) rfl rfl (q_move rfl rfl) ?_
  refine run_q (.on rfl rfl rfl rfl) rfl rfl (q_move rfl rfl) ?_
  refine run_q (.on rfl rfl rfl rfl) rfl rfl (q_call rfl call22 (.cons rfl (.cons rfl Evs.nil)) (fun w hk hm => equal_just (placeA xs (gs la lb la (gN la lb)) (gs la lb lb (gN la lb))) pa A2 ca2 1 (gN la lb) P cp w (by rw [hpl.1]; exact gs_len) (rd_sky (Sel.here.holds hm)) (own_rd ((Sel.there Sel.here).holds hm)) (by rw [sgL_one, e1]; exact (own_rd ((Sel.there (Sel.there (Sel.there (Sel.there (Sel.there Sel.here))))).holds hm))) (by rw [hpl.1, gs_len]; exact hcA2) (by rw [hpl.1, gs_len]; omega) hpbd.1 (.inl rfl))) ?_
  refine run_q (.none rfl) rfl rfl (q_pickT rfl rfl rfl rfl) ?_
  refine run_q (.none rfl) rfl rfl (q_move rfl rfl) ?_
  refine run_q (.on rfl rfl rfl rfl) rfl rfl (q_move rfl rfl) ?_
  refine run_q (.on rfl rfl rfl rfl) rfl rfl (q_move rfl rfl) ?_
  refine run_q (.on rfl rfl rfl rfl) rfl rfl (q_call rfl call22 (.cons rfl (.cons rfl Evs.nil)) (fun w hk hm => equal_just (placeB xs (gs la lb la (gN la lb)) (gs la lb lb (gN la lb))) pb B2 cb2 (-1) (gN la lb) Q cq w (by rw [hpl.2]; exact gs_len) (rd_sky ((Sel.there (Sel.there Sel.here)).holds hm)) (own_rd ((Sel.there (Sel.there (Sel.there Sel.here))).holds hm)) (by rw [sgL_neg, e2]; exact (own_rd ((Sel.there (Sel.there (Sel.there (Sel.there (Sel.there (Sel.there Sel.here)))))).holds hm))) (by rw [hpl.2, gs_len]; exact hcB2) (by rw [hpl.2, gs_len]; omega) hpbd.2 (.inr rfl))) ?_
  refine run_q (.none rfl) rfl rfl (q_pickT rfl rfl rfl rfl) ?_
  refine run_q (.none rfl) rfl rfl (q_assign rfl rfl) ?_
  refine run_nil ?_
  refine run_sub (subMk (.cons (s := 4) rfl .nil) .refl) ?_
  refine run_ret ?_
  exact end1 rfl rfl rfl

theorem law6_just (la lb : List Int) (LA LB : Option Addr) (gca gcb : Nat) (l : List Req) (X : Option Addr) (cx : Nat) (W : World) (hla : Rd W LA 1 (la.map encW)) (hlb : Rd W LB 1 (lb.map encW)) (hbA : ∀ x ∈ la, 0 ≤ x ∧ x ≤ 65535) (hbB : ∀ x ∈ lb, 0 ≤ x ∧ x ≤ 65535) (hca : la.length ≤ 9223372036854775807) (hcb : lb.length ≤ 9223372036854775807) (hr : Rd W X 13 (l.map Req.enc)) (hcx : l.length ≤ cx) (xs : List Req) (hxs : xs = l.take 10) : Calls Try.prog 6 #[.agg #[.slice LA la.length gca, .slice LB lb.length gcb], .slice X l.length cx] W (Just W (.bool true)) := by
  by_cases hE : (placeE xs (gs la lb la (gN la lb)) (gs la lb lb (gN la lb))) = 0
  · exact law6_ok la lb LA LB gca gcb l X cx W hla hlb hbA hbB hca hcb hr hcx xs hxs hE
  · exact law6_err la lb LA LB gca gcb l X cx W hla hlb hbA hbB hca hcb hr hcx xs hxs hE

end Go.Proofs.YtgphmbipakdggaaR
