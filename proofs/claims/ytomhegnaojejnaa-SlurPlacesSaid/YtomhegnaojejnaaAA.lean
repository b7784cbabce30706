/- The law on places. -/
import Derived.Test.YtomhegnaojejnaaZ
import Derived.Test.YtomhegnaojejnaaT
set_option linter.unusedSimpArgs false
set_option linter.unusedVariables false
namespace Go.Proofs.Ytomhegnaojejnaa
open Go Go.RowKit Hr

theorem call22 : Hr.Callable Try.prog 22 := fun args w => by kernel_rfl
theorem call24 : Hr.Callable Try.prog 24 := fun args w => by kernel_rfl
theorem call23 : Hr.Callable Try.prog 23 := fun args w => by kernel_rfl
theorem eqg49 : Try.prog.eqGuardType Try.prog.depth 49 = false := by kernel_rfl
theorem stood49 : Try.prog.stoodInHeld 49 = false := by kernel_rfl
set_option maxRecDepth 100000 in
theorem eqs47d9999 (a0 a1 a2 a3 b0 b1 b2 b3 : Int) (w : World) : (Op.equalIn 9999 47 (.agg #[.int .i64 a0, .int .i64 a1, .int .i64 a2, .int .i64 a3]) (.agg #[.int .i64 b0, .int .i64 b1, .int .i64 b2, .int .i64 b3])).run Try.prog w = .ok (a0 == b0 && (a1 == b1 && (a2 == b2 && (a3 == b3)))) w := by
  rw [run_equalIn_struct w 9998 47 _ _ (by simp only [Program.fieldsOf, Try.underlying47]) stood47]
  simp only [Program.fieldsOf, Try.underlying47]
  exact Eq.trans (eqF_cons (by decide) (part_one one3 rfl) (part_one one3 rfl) (run_equalIn_int w 9997 3 .i64 .i64 a0 b0 Try.underlying3) (eqF_cons (by decide) (part_one one3 rfl) (part_one one3 rfl) (run_equalIn_int w 9997 3 .i64 .i64 a1 b1 Try.underlying3) (eqF_cons (by decide) (part_one one3 rfl) (part_one one3 rfl) (run_equalIn_int w 9997 3 .i64 .i64 a2 b2 Try.underlying3) (eqF_cons (by decide) (part_one one3 rfl) (part_one one3 rfl) (run_equalIn_int w 9997 3 .i64 .i64 a3 b3 Try.underlying3) eqF_nil)))) (by simp only [Bool.and_true, Bool.and_assoc])
set_option maxRecDepth 100000 in
theorem eqs49 (a0 a1 a2 a3 a4 a5 a6 a7 a8 a9 a10 a11 b0 b1 b2 b3 b4 b5 b6 b7 b8 b9 b10 b11 : Int) (w : World) : (Op.equalIn 10000 49 (.agg #[.int .i64 a0, .int .i64 a1, .int .i64 a2, .int .i64 a3, .int .i64 a4, .int .i64 a5, .int .i64 a6, .int .i64 a7, .int .i64 a8, .int .i64 a9, .int .i64 a10, .int .i64 a11]) (.agg #[.int .i64 b0, .int .i64 b1, .int .i64 b2, .int .i64 b3, .int .i64 b4, .int .i64 b5, .int .i64 b6, .int .i64 b7, .int .i64 b8, .int .i64 b9, .int .i64 b10, .int .i64 b11])).run Try.prog w = .ok (a0 == b0 && (a1 == b1 && (a2 == b2 && (a3 == b3 && (a4 == b4 && (a5 == b5 && (a6 == b6 && (a7 == b7 && (a8 == b8 && (a9 == b9 && (a10 == b10 && (a11 == b11)))))))))))) w := by
  rw [run_equalIn_struct w 9999 49 _ _ (by simp only [Program.fieldsOf, Try.underlying49]) stood49]
  simp only [Program.fieldsOf, Try.underlying49]
  exact Eq.trans (eqF_cons (by decide) (part_one one3 rfl) (part_one one3 rfl) (run_equalIn_int w 9998 3 .i64 .i64 a0 b0 Try.underlying3) (eqF_cons (by decide) (part_one one3 rfl) (part_one one3 rfl) (run_equalIn_int w 9998 3 .i64 .i64 a1 b1 Try.underlying3) (eqF_cons (by decide) (part_one one3 rfl) (part_one one3 rfl) (run_equalIn_int w 9998 3 .i64 .i64 a2 b2 Try.underlying3) (eqF_cons (by decide) (part_one one3 rfl) (part_one one3 rfl) (run_equalIn_int w 9998 3 .i64 .i64 a3 b3 Try.underlying3) (eqF_cons (by decide) (part_one one3 rfl) (part_one one3 rfl) (run_equalIn_int w 9998 3 .i64 .i64 a4 b4 Try.underlying3) (eqF_cons (by decide) (part_one one3 rfl) (part_one one3 rfl) (run_equalIn_int w 9998 3 .i64 .i64 a5 b5 Try.underlying3) (eqF_cons (by decide) (part_agg agg23 rfl) (part_agg agg23 rfl) (eqs23d9999 a6 a7 b6 b7 w) (eqF_cons (by decide) (part_agg agg47 rfl) (part_agg agg47 rfl) (eqs47d9999 a8 a9 a10 a11 b8 b9 b10 b11 w) eqF_nil)))))))) (by simp only [Bool.and_true, Bool.and_assoc])

theorem slEs_nine {ys : List Spn} {a b : List Int} : ∀ {n : Nat}, slEs ys a b n ≠ 0 → slEs ys a b n = 9
  | 0, h => absurd rfl h
  | n + 1, h => by
    rw [slEs] at h ⊢
    by_cases e : slEs ys a b n = 0
    · rw [if_pos e] at h ⊢; exact spB_nine h
    · rw [if_neg e] at h ⊢; exact slEs_nine h

set_option maxHeartbeats 8000000 in
set_option maxRecDepth 100000 in
theorem law7_err1 (la lb : List Int) (LA LB : Option Addr) (ca0 cb0 : Nat) (xs : List Spn) (X : Option Addr) (cx : Nat) (W : World) (hla : Rd W LA 1 (la.map encH)) (hlb : Rd W LB 1 (lb.map encH)) (hbA : ∀ x ∈ la, -32768 ≤ x ∧ x ≤ 32767) (hbB : ∀ x ∈ lb, -32768 ≤ x ∧ x ≤ 32767) (hca0 : la.length ≤ 9223372036854775807) (hcb0 : lb.length ≤ 9223372036854775807) (hx : Rd W X 12 (xs.map Spn.enc)) (h12 : xs.length ≤ 12) (h1 : spsE ((gN la) : Int) xs ≠ 0) : Calls Try.prog 7 #[.agg #[.slice LA la.length ca0, .slice LB lb.length cb0], .slice X xs.length cx] W (Hr.Just W (.bool true)) := by
  have hgn : ((gN la) : Int) = max 1 (min 30 (la.length : Int)) := by unfold gN; omega
  have hgl : (((gs la (gN la)).length : Nat) : Int) = ((gN la) : Int) := by rw [gs_len]
  have h1' : spsE (gs la (gN la)).length xs ≠ 0 := by rw [hgl]; exact h1
  have hE : slpE xs (gs la (gN la)) (negL (gs lb (gN la))) = spsE ((gN la) : Int) xs := by rw [slpE_1 h1', hgl]
  obtain ⟨e1, e2, e3⟩ := slp_err (xs := xs) (a := (gs la (gN la))) (b := (negL (gs lb (gN la)))) (by rw [hE]; exact h1)
  refine Just.of_ret ?_
  refine enterA (X := nX) (vs := [.agg #[.slice LA la.length ca0, .slice LB lb.length cb0], .slice X xs.length cx]) Try.func7 Try.ntmps7 rfl rfl Mem.nil ?_
  refine run_seq ?_
  refine run_region ?_
  refine run_h (.none rfl) (h_box rfl rfl rfl rfl rfl) ?_
  rintro b2 -
  refine run_q (.none rfl) rfl rfl (q_assign rfl rfl) ?_
  refine run_nil ?_
  refine run_seq ?_
  refine run_seq ?_
  refine run_region ?_
  refine run_q (.none rfl) rfl rfl (q_call rfl call12 Evs.nil (fun w hk hm => known_just w)) ?_
  refine run_q (.none rfl) rfl rfl (q_not rfl rfl) ?_
  refine run_q (.none rfl) rfl rfl (q_move rfl rfl) ?_
  refine run_q (.on rfl rfl rfl rfl) rfl rfl (q_move rfl rfl) ?_
  refine run_q (.on rfl rfl rfl rfl) rfl rfl (q_len rfl Try.underlying30 rfl) ?_
  refine run_q (.on rfl rfl rfl rfl) rfl rfl (q_gtr rfl rfl rfl) ?_
  refine run_q (.none rfl) rfl rfl (q_pickF rfl rfl rfl rfl) ?_
  refine run_nil ?_
  refine run_sub (subMk (.cons (s := 1) rfl (.cons (s := 2) rfl (.cons (s := 4) rfl (.cons (s := 25) rfl .nil)))) .refl) ?_
  refine run_condF rfl (decide_eq_false (by omega)) ?_
  refine run_skip ?_
  refine run_seq ?_
  refine run_region ?_
  refine run_q (.none rfl) rfl rfl (q_loadBN rfl agg36 rfl Sel.here (.cons rfl (.cons rfl CellsAt.nil)) rfl) ?_
  refine run_h (.none rfl) (h_call rfl rfl rfl call19 (.cons rfl Evs.nil) (fun w hk hm => lay_ret la lb LA LB ca0 cb0 w (hla.kept0 hk) (hlb.kept0 hk) hbA hbB hca0 hcb0)) ?_
  rintro ⟨v, m⟩ ⟨pa, pb, A, B, ca, cb, P, cp, Q, cq, rfl, hca, hcb, rfl⟩
  show Run _ _ _ _ _ _ _ ⟨(29, .tuple #[.pointer (some ⟨pa, 0, none⟩), .pointer (some ⟨pb, 0, none⟩), .agg #[.int .i64 1, .slice P (gN la) cp], .agg #[.int .i64 (-1), .slice Q (gN la) cq]]) :: _, _ :: _ :: _ :: _ :: _ :: _ :: _⟩
  refine run_q (.none rfl) rfl rfl (q_move rfl rfl) ?_
  refine run_q (.none rfl) rfl rfl (q_extract rfl rfl rfl) ?_
  refine run_q (.none rfl) rfl rfl (q_extract rfl rfl rfl) ?_
  refine run_q (.none rfl) rfl rfl (q_extract rfl rfl rfl) ?_
  refine run_q (.none rfl) rfl rfl (q_extract rfl rfl rfl) ?_
  refine run_h (.none rfl) (h_alloc rfl rfl rfl info40) ?_
  rintro b7 -
  refine run_h (.none rfl) (h_alloc rfl rfl rfl info40) ?_
  rintro b8 -
  refine run_q (.none rfl) rfl rfl (q_assign rfl rfl) ?_
  refine run_q (.none rfl) rfl rfl (q_assign rfl rfl) ?_
  refine run_h (.none rfl) (h_storeB rfl rfl sz40 rfl rfl rfl rfl rfl (.there Sel.here) rfl) ?_
  rintro - -
  refine run_h (.none rfl) (h_storeB rfl rfl sz40 rfl rfl rfl rfl rfl (.there Sel.here) rfl) ?_
  rintro - -
  refine run_nil ?_
  refine run_sub (subMk (.cons (s := 1) rfl (.cons (s := 2) rfl (.cons (s := 4) rfl (.cons (s := 5) rfl (.cons (s := 6) rfl (.cons (s := 7) rfl (.cons (s := 8) rfl .nil))))))) .refl) ?_
  refine run_seq ?_
  refine run_region ?_
  refine run_q (.none rfl) rfl rfl (q_move rfl rfl) ?_
  refine run_q (.none rfl) rfl rfl (q_move rfl rfl) ?_
  refine run_q (.none rfl) rfl rfl (q_move rfl rfl) ?_
  refine run_h (.none rfl) (h_callX [_, _, _, _] _ rfl rfl rfl call20 (.cons rfl (.cons rfl (.cons rfl Evs.nil))) ((Sel.perm (.there (.there Sel.here))).trans (.cons _ ((Sel.perm (.there (.there Sel.here))).trans (.cons _ ((Sel.perm (.there (.there Sel.here))).trans (.cons _ (Sel.perm (.there (.there Sel.here))))))))) (Y := fun _ => atAny [_, _, _, _]) (fun _ _ h => h) (fun w hk hm => Place_ret xs X cx (gs la (gN la)) (negL (gs lb (gN la))) pa pb A B ca cb (gN la) w gs_len (by rw [negL_len, gs_len]) ((hm.perm ((Sel.perm (.there (.there Sel.here))).trans (.cons _ ((Sel.perm (.there (.there Sel.here))).trans (.cons _ ((Sel.perm (.there (.there Sel.here))).trans (.cons _ (Sel.perm (.there (.there Sel.here)))))))))).give (rs := [_, _, _, _])) (fun w' hk' => keep_inp hx hk (hm.perm ((Sel.perm (.there (.there Sel.here))).trans (.cons _ ((Sel.perm (.there (.there Sel.here))).trans (.cons _ ((Sel.perm (.there (.there Sel.here))).trans (.cons _ (Sel.perm (.there (.there Sel.here)))))))))) w' hk') (by omega) (by omega) (ground_bd (fun i => gs_bd hbA _ i)) (neg_bd (fun i => gs_bd hbB _ i)))) ?_
  rintro ⟨v, m⟩ ⟨O, co, rfl, rfl⟩
  show Run _ _ _ _ _ _ _ ⟨(38, .tuple #[.slice O (slpM xs (gs la (gN la)) (negL (gs lb (gN la)))).length co, .int .i64 (slpE xs (gs la (gN la)) (negL (gs lb (gN la))))]) :: _, _ :: _ :: _ :: _ :: _ :: _⟩
  refine run_q (.none rfl) rfl rfl (q_move rfl rfl) ?_
  refine run_q (.none rfl) rfl rfl (q_extract rfl rfl rfl) ?_
  refine run_q (.none rfl) rfl rfl (q_extract rfl rfl rfl) ?_
  refine run_q (.none rfl) rfl rfl (q_assign rfl rfl) ?_
  refine run_q (.none rfl) rfl rfl (q_assign rfl rfl) ?_
  refine run_nil ?_
  refine run_sub (subMk (.cons (s := 1) rfl (.cons (s := 2) rfl (.cons (s := 4) rfl (.cons (s := 5) rfl (.cons (s := 6) rfl (.cons (s := 7) rfl (.cons (s := 8) rfl (.cons (s := 9) rfl (.cons (s := 10) rfl .nil))))))))) .refl) ?_
  refine run_seq ?_
  refine run_sub (subMk .refl (.cons (.there Sel.here) (.own (xs' := (gs la (gN la)).map encI) rfl rfl rfl (by rw [e1])) (.cons (.there (.there Sel.here)) (.own (xs' := (negL (gs lb (gN la))).map encI) rfl rfl rfl (by rw [e2])) (.cons Sel.here .refl (.cons Sel.here .refl (.cons Sel.here .refl (.cons Sel.here .refl (.cons Sel.here .refl (.cons Sel.here .refl (.cons Sel.here .refl (.cons Sel.here .refl .nil))))))))))) ?_
  refine run_sub (subMk (.cons (s := 1) rfl (.cons (s := 2) rfl (.cons (s := 4) rfl (.cons (s := 5) rfl (.cons (s := 6) rfl (.cons (s := 7) rfl (.cons (s := 8) rfl (.cons' (s := 9) (v' := .slice O 0 co) rfl (by rw [e3]; rfl) (.cons (s := 10) rfl .nil))))))))) .refl) ?_
  refine run_region ?_
  refine run_q (.none rfl) rfl rfl (q_move rfl rfl) ?_
  refine run_q (.none rfl) rfl rfl (q_fieldB (d := 1) rfl Try.underlying40 rfl rfl sz38 rfl) ?_
  refine run_q (.none rfl) rfl rfl (q_loadB rfl one38 rfl (.there (.there (.there (.there (.there (.there Sel.here)))))) rfl) ?_
  refine run_q (.none rfl) rfl rfl (q_len rfl Try.underlying38 rfl) ?_
  refine run_q (.none rfl) rfl rfl (q_call rfl call22 (.cons rfl (.cons rfl Evs.nil)) (fun w hk hm => first_just xs X cx ((gN la) : Int) w (hx.kept0 hk) (by omega))) ?_
  refine run_q (.none rfl) rfl rfl (q_assign rfl rfl) ?_
  refine run_nil ?_
  refine run_sub (subMk (.cons (s := 1) rfl (.cons (s := 2) rfl (.cons (s := 4) rfl (.cons (s := 5) rfl (.cons (s := 6) rfl (.cons (s := 7) rfl (.cons (s := 8) rfl (.cons (s := 9) rfl (.cons (s := 10) rfl (.cons (s := 11) rfl .nil)))))))))) .refl) ?_
  refine run_seq ?_
  refine run_region ?_
  refine run_q (.none rfl) rfl rfl (q_loadBN rfl agg36 rfl (.there (.there (.there (.there (.there (.there (.there (.there (.there Sel.here))))))))) (.cons rfl (.cons rfl CellsAt.nil)) rfl) ?_
  refine run_h (.none rfl) (h_call rfl rfl rfl call19 (.cons rfl Evs.nil) (fun w hk hm => lay_ret la lb LA LB ca0 cb0 w (hla.kept0 hk) (hlb.kept0 hk) hbA hbB hca0 hcb0)) ?_
  rintro ⟨v, m⟩ ⟨qa, qb, A2, B2, ca2, cb2, P2, cp2, Q2, cq2, rfl, hca2, hcb2, rfl⟩
  show Run _ _ _ _ _ _ _ ⟨(48, .tuple #[.pointer (some ⟨qa, 0, none⟩), .pointer (some ⟨qb, 0, none⟩), .agg #[.int .i64 1, .slice P2 (gN la) cp2], .agg #[.int .i64 (-1), .slice Q2 (gN la) cq2]]) :: _, _ :: _ :: _ :: _ :: _ :: _ :: _⟩
  refine run_q (.none rfl) rfl rfl (q_move rfl rfl) ?_
  refine run_q (.none rfl) rfl rfl (q_extract rfl rfl rfl) ?_
  refine run_q (.none rfl) rfl rfl (q_extract rfl rfl rfl) ?_
  refine run_q (.none rfl) rfl rfl (q_extract rfl rfl rfl) ?_
  refine run_q (.none rfl) rfl rfl (q_extract rfl rfl rfl) ?_
  refine run_h (.none rfl) (h_alloc rfl rfl rfl info40) ?_
  rintro b14 -
  refine run_h (.none rfl) (h_alloc rfl rfl rfl info40) ?_
  rintro b15 -
  refine run_q (.none rfl) rfl rfl (q_assign rfl rfl) ?_
  refine run_q (.none rfl) rfl rfl (q_assign rfl rfl) ?_
  refine run_h (.none rfl) (h_storeB rfl rfl sz40 rfl rfl rfl rfl rfl (.there Sel.here) rfl) ?_
  rintro - -
  refine run_h (.none rfl) (h_storeB rfl rfl sz40 rfl rfl rfl rfl rfl (.there Sel.here) rfl) ?_
  rintro - -
  refine run_nil ?_
  refine run_sub (subMk (.cons (s := 1) rfl (.cons (s := 4) rfl (.cons (s := 5) rfl (.cons (s := 6) rfl (.cons (s := 7) rfl (.cons (s := 8) rfl (.cons (s := 9) rfl (.cons (s := 10) rfl (.cons (s := 11) rfl (.cons (s := 14) rfl (.cons (s := 15) rfl .nil))))))))))) .refl) ?_
  refine run_seq ?_
  refine run_region ?_
  refine run_h (.none rfl) (h_buildSlice rfl rfl rfl Try.underlying43 info49 Parts.nil rfl (by omega)) ?_
  rintro b53 -
  refine run_q (.none rfl) rfl rfl (q_assign rfl rfl) ?_
  refine run_q (.none rfl) rfl rfl (q_assign rfl rfl) ?_
  refine run_nil ?_
  refine run_seq ?_
  refine run_seq ?_
  refine run_region ?_
  refine run_q (.none rfl) rfl rfl (q_move rfl rfl) ?_
  refine run_q (.none rfl) rfl rfl (q_eql rfl rfl rfl) ?_
  refine run_nil ?_
  refine run_condF rfl (beq_false_of_ne h1) ?_
  refine run_skip ?_
  refine run_seq ?_
  refine run_seq ?_
  refine run_region ?_
  refine run_q (.none rfl) rfl rfl (q_move rfl rfl) ?_
  refine run_q (.none rfl) rfl rfl (q_neq rfl rfl rfl) ?_
  refine run_nil ?_
  refine run_sub (subMk (.cons (s := 4) rfl (.cons (s := 5) rfl (.cons (s := 6) rfl (.cons (s := 7) rfl (.cons (s := 8) rfl (.cons (s := 9) rfl (.cons (s := 10) rfl (.cons (s := 11) rfl (.cons (s := 14) rfl (.cons (s := 15) rfl (.cons (s := 16) rfl (.cons (s := 66) rfl .nil)))))))))))) .refl) ?_
  refine run_condT rfl (bne_iff_ne.2 h1) ?_
  refine run_seq ?_
  refine run_region ?_
  refine run_q (.none rfl) rfl rfl (q_move rfl rfl) ?_
  refine run_q (.none rfl) rfl rfl (q_len rfl Try.underlying43 rfl) ?_
  refine run_q (.none rfl) rfl rfl (q_eql rfl rfl rfl) ?_
  refine run_q (.none rfl) rfl rfl (q_move rfl rfl) ?_
  refine run_q (.on rfl rfl rfl rfl) rfl rfl (q_move rfl rfl) ?_
  refine run_q (.on rfl rfl rfl rfl) rfl rfl (q_move rfl rfl) ?_
  refine run_q (.on rfl rfl rfl rfl) rfl rfl (q_eql rfl rfl rfl) ?_
  refine run_q (.none rfl) rfl rfl (q_pickT rfl rfl rfl rfl) ?_
  refine run_q (.none rfl) rfl rfl (q_move rfl rfl) ?_
  refine run_q (.on rfl rfl rfl (beq_iff_eq.2 hE)) rfl rfl (q_loadBN rfl agg40 rfl (.there (.there (.there (.there (.there (.there (.there (.there (.there (.there (.there (.there (.there (.there (.there Sel.here))))))))))))))) (.cons rfl (.cons rfl CellsAt.nil)) rfl) ?_
  refine run_q (.on rfl rfl rfl (beq_iff_eq.2 hE)) rfl rfl (q_move rfl rfl) ?_
  refine run_q (.on rfl rfl rfl (beq_iff_eq.2 hE)) rfl rfl (q_call rfl call24 (.cons rfl (.cons rfl Evs.nil)) (fun w hk hm => is_just (gs la (gN la)) pa A ca 1 (gN la) P cp 1 w gs_len (rd_sky ((Sel.there (Sel.there (Sel.there (Sel.there (Sel.there (Sel.there (Sel.there (Sel.there (Sel.there (Sel.there (Sel.there Sel.here))))))))))).holds hm)) (own_rd ((Sel.there (Sel.there (Sel.there (Sel.there (Sel.there (Sel.there (Sel.there (Sel.there (Sel.there Sel.here))))))))).holds hm)) (by rw [sgL_one]; exact (own_rd ((Sel.there (Sel.there (Sel.there (Sel.there (Sel.there (Sel.there (Sel.there (Sel.there (Sel.there (Sel.there (Sel.there (Sel.there (Sel.there (Sel.there (Sel.there (Sel.there Sel.here)))))))))))))))).holds hm))) (Nat.le_trans (Nat.le_of_eq gs_len) hca) (Nat.le_trans (Nat.le_of_eq gs_len) (by omega)) (ground_bd (fun i => gs_bd hbA _ i)) (.inl rfl))) ?_
  refine run_q (.none rfl) rfl rfl (q_pickT rfl rfl (beq_iff_eq.2 hE) rfl) ?_
  refine run_q (.none rfl) rfl rfl (q_move rfl rfl) ?_
  refine run_q (.on rfl rfl rfl rfl) rfl rfl (q_loadBN rfl agg40 rfl (.there (.there (.there (.there (.there (.there (.there (.there (.there (.there (.there (.there (.there (.there Sel.here)))))))))))))) (.cons rfl (.cons rfl CellsAt.nil)) rfl) ?_
  refine run_q (.on rfl rfl rfl rfl) rfl rfl (q_move rfl rfl) ?_
  refine run_q (.on rfl rfl rfl rfl) rfl rfl (q_call rfl call24 (.cons rfl (.cons rfl Evs.nil)) (fun w hk hm => is_just (negL (gs lb (gN la))) pb B cb (-1) (gN la) Q cq (-1) w (by rw [negL_len, gs_len]) (rd_sky ((Sel.there (Sel.there (Sel.there (Sel.there (Sel.there (Sel.there (Sel.there (Sel.there (Sel.there (Sel.there (Sel.there (Sel.there Sel.here)))))))))))).holds hm)) (own_rd ((Sel.there (Sel.there (Sel.there (Sel.there (Sel.there (Sel.there (Sel.there (Sel.there (Sel.there (Sel.there Sel.here)))))))))).holds hm)) (by rw [sgL_neg]; exact (own_rd ((Sel.there (Sel.there (Sel.there (Sel.there (Sel.there (Sel.there (Sel.there (Sel.there (Sel.there (Sel.there (Sel.there (Sel.there (Sel.there (Sel.there (Sel.there (Sel.there (Sel.there Sel.here))))))))))))))))).holds hm))) (Nat.le_trans (Nat.le_of_eq (by rw [negL_len, gs_len])) hcb) (Nat.le_trans (Nat.le_of_eq (by rw [negL_len, gs_len])) (by omega)) (neg_bd (fun i => gs_bd hbB _ i)) (.inr rfl))) ?_
  refine run_q (.none rfl) rfl rfl (q_pickT rfl rfl rfl rfl) ?_
  refine run_q (.none rfl) rfl rfl (q_assign rfl rfl) ?_
  refine run_nil ?_
  refine run_sub (subMk (.cons (s := 4) rfl (.cons (s := 5) rfl (.cons (s := 6) rfl (.cons (s := 9) rfl (.cons (s := 10) rfl (.cons (s := 14) rfl (.cons (s := 15) rfl (.cons (s := 16) rfl .nil)))))))) .refl) ?_
  refine run_ret ?_
  exact end1 rfl rfl rfl

set_option maxHeartbeats 8000000 in
set_option maxRecDepth 100000 in
theorem law7_err2 (la lb : List Int) (LA LB : Option Addr) (ca0 cb0 : Nat) (xs : List Spn) (X : Option Addr) (cx : Nat) (W : World) (hla : Rd W LA 1 (la.map encH)) (hlb : Rd W LB 1 (lb.map encH)) (hbA : ∀ x ∈ la, -32768 ≤ x ∧ x ≤ 32767) (hbB : ∀ x ∈ lb, -32768 ≤ x ∧ x ≤ 32767) (hca0 : la.length ≤ 9223372036854775807) (hcb0 : lb.length ≤ 9223372036854775807) (hx : Rd W X 12 (xs.map Spn.enc)) (h12 : xs.length ≤ 12) (h1 : spsE ((gN la) : Int) xs = 0) (hEs : slEs (ordS xs) (gs la (gN la)) (negL (gs lb (gN la))) xs.length ≠ 0) : Calls Try.prog 7 #[.agg #[.slice LA la.length ca0, .slice LB lb.length cb0], .slice X xs.length cx] W (Hr.Just W (.bool true)) := by
  have hgn : ((gN la) : Int) = max 1 (min 30 (la.length : Int)) := by unfold gN; omega
  have hgl : (((gs la (gN la)).length : Nat) : Int) = ((gN la) : Int) := by rw [gs_len]
  have h1' : spsE (gs la (gN la)).length xs = 0 := by rw [hgl]; exact h1
  have hall : ∀ x ∈ xs, spE x ((gN la) : Int) = 0 := spsE_mem h1
  have hE : slpE xs (gs la (gN la)) (negL (gs lb (gN la))) = slEs (ordS xs) (gs la (gN la)) (negL (gs lb (gN la))) xs.length := slpE_2 h1'
  have h9 : slpE xs (gs la (gN la)) (negL (gs lb (gN la))) = 9 := by rw [hE]; exact slEs_nine hEs
  obtain ⟨e1, e2, e3⟩ := slp_err (xs := xs) (a := (gs la (gN la))) (b := (negL (gs lb (gN la)))) (by rw [hE]; exact hEs)
  refine Just.of_ret ?_
  refine enterA (X := nX) (vs := [.agg #[.slice LA la.length ca0, .slice LB lb.length cb0], .slice X xs.length cx]) Try.func7 Try.ntmps7 rfl rfl Mem.nil ?_
  refine run_seq ?_
  refine run_region ?_
  refine run_h (.none rfl) (h_box rfl rfl rfl rfl rfl) ?_
  rintro b2 -
  refine run_q (.none rfl) rfl rfl (q_assign rfl rfl) ?_
  refine run_nil ?_
  refine run_seq ?_
  refine run_seq ?_
  refine run_region ?_
  refine run_q (.none rfl) rfl rfl (q_call rfl call12 Evs.nil (fun w hk hm => known_just w)) ?_
  refine run_q (.none rfl) rfl rfl (q_not rfl rfl) ?_
  refine run_q (.none rfl) rfl rfl (q_move rfl rfl) ?_
  refine run_q (.on rfl rfl rfl rfl) rfl rfl (q_move rfl rfl) ?_
  refine run_q (.on rfl rfl rfl rfl) rfl rfl (q_len rfl Try.underlying30 rfl) ?_
  refine run_q (.on rfl rfl rfl rfl) rfl rfl (q_gtr rfl rfl rfl) ?_
  refine run_q (.none rfl) rfl rfl (q_pickF rfl rfl rfl rfl) ?_
  refine run_nil ?_
  refine run_sub (subMk (.cons (s := 1) rfl (.cons (s := 2) rfl (.cons (s := 4) rfl (.cons (s := 25) rfl .nil)))) .refl) ?_
  refine run_condF rfl (decide_eq_false (by omega)) ?_
  refine run_skip ?_
  refine run_seq ?_
  refine run_region ?_
  refine run_q (.none rfl) rfl rfl (q_loadBN rfl agg36 rfl Sel.here (.cons rfl (.cons rfl CellsAt.nil)) rfl) ?_
  refine run_h (.none rfl) (h_call rfl rfl rfl call19 (.cons rfl Evs.nil) (fun w hk hm => lay_ret la lb LA LB ca0 cb0 w (hla.kept0 hk) (hlb.kept0 hk) hbA hbB hca0 hcb0)) ?_
  rintro ⟨v, m⟩ ⟨pa, pb, A, B, ca, cb, P, cp, Q, cq, rfl, hca, hcb, rfl⟩
  show Run _ _ _ _ _ _ _ ⟨(29, .tuple #[.pointer (some ⟨pa, 0, none⟩), .pointer (some ⟨pb, 0, none⟩), .agg #[.int .i64 1, .slice P (gN la) cp], .agg #[.int .i64 (-1), .slice Q (gN la) cq]]) :: _, _ :: _ :: _ :: _ :: _ :: _ :: _⟩
  refine run_q (.none rfl) rfl rfl (q_move rfl rfl) ?_
  refine run_q (.none rfl) rfl rfl (q_extract rfl rfl rfl) ?_
  refine run_q (.none rfl) rfl rfl (q_extract rfl rfl rfl) ?_
  refine run_q (.none rfl) rfl rfl (q_extract rfl rfl rfl) ?_
  refine run_q (.none rfl) rfl rfl (q_extract rfl rfl rfl) ?_
  refine run_h (.none rfl) (h_alloc rfl rfl rfl info40) ?_
  rintro b7 -
  refine run_h (.none rfl) (h_alloc rfl rfl rfl info40) ?_
  rintro b8 -
  refine run_q (.none rfl) rfl rfl (q_assign rfl rfl) ?_
  refine run_q (.none rfl) rfl rfl (q_assign rfl rfl) ?_
  refine run_h (.none rfl) (h_storeB rfl rfl sz40 rfl rfl rfl rfl rfl (.there Sel.here) rfl) ?_
  rintro - -
  refine run_h (.none rfl) (h_storeB rfl rfl sz40 rfl rfl rfl rfl rfl (.there Sel.here) rfl) ?_
  rintro - -
  refine run_nil ?_
  refine run_sub (subMk (.cons (s := 1) rfl (.cons (s := 2) rfl (.cons (s := 4) rfl (.cons (s := 5) rfl (.cons (s := 6) rfl (.cons (s := 7) rfl (.cons (s := 8) rfl .nil))))))) .refl) ?_
  refine run_seq ?_
  refine run_region ?_
  refine run_q (.none rfl) rfl rfl (q_move rfl rfl) ?_
  refine run_q (.none rfl) rfl rfl (q_move rfl rfl) ?_
  refine run_q (.none rfl) rfl rfl (q_move rfl rfl) ?_
  refine run_h (.none rfl) (h_callX [_, _, _, _] _ rfl rfl rfl call20 (.cons rfl (.cons rfl (.cons rfl Evs.nil))) ((Sel.perm (.there (.there Sel.here))).trans (.cons _ ((Sel.perm (.there (.there Sel.here))).trans (.cons _ ((Sel.perm (.there (.there Sel.here))).trans (.cons _ (Sel.perm (.there (.there Sel.here))))))))) (Y := fun _ => atAny [_, _, _, _]) (fun _ _ h => h) (fun w hk hm => Place_ret xs X cx (gs la (gN la)) (negL (gs lb (gN la))) pa pb A B ca cb (gN la) w gs_len (by rw [negL_len, gs_len]) ((hm.perm ((Sel.perm (.there (.there Sel.here))).trans (.cons _ ((Sel.perm (.there (.there Sel.here))).trans (.cons _ ((Sel.perm (.there (.there Sel.here))).trans (.cons _ (Sel.perm (.there (.there Sel.here)))))))))).give (rs := [_, _, _, _])) (fun w' hk' => keep_inp hx hk (hm.perm ((Sel.perm (.there (.there Sel.here))).trans (.cons _ ((Sel.perm (.there (.there Sel.here))).trans (.cons _ ((Sel.perm (.there (.there Sel.here))).trans (.cons _ (Sel.perm (.there (.there Sel.here)))))))))) w' hk') (by omega) (by omega) (ground_bd (fun i => gs_bd hbA _ i)) (neg_bd (fun i => gs_bd hbB _ i)))) ?_
  rintro ⟨v, m⟩ ⟨O, co, rfl, rfl⟩
  show Run _ _ _ _ _ _ _ ⟨(38, .tuple #[.slice O (slpM xs (gs la (gN la)) (negL (gs lb (gN la)))).length co, .int .i64 (slpE xs (gs la (gN la)) (negL (gs lb (gN la))))]) :: _, _ :: _ :: _ :: _ :: _ :: _⟩
  refine run_q (.none rfl) rfl rfl (q_move rfl rfl) ?_
  refine run_q (.none rfl) rfl rfl (q_extract rfl rfl rfl) ?_
  refine run_q (.none rfl) rfl rfl (q_extract rfl rfl rfl) ?_
  refine run_q (.none rfl) rfl rfl (q_assign rfl rfl) ?_
  refine run_q (.none rfl) rfl rfl (q_assign rfl rfl) ?_
  refine run_nil ?_
  refine run_sub (subMk (.cons (s := 1) rfl (.cons (s := 2) rfl (.cons (s := 4) rfl (.cons (s := 5) rfl (.cons (s := 6) rfl (.cons (s := 7) rfl (.cons (s := 8) rfl (.cons (s := 9) rfl (.cons (s := 10) rfl .nil))))))))) .refl) ?_
  refine run_seq ?_
  refine run_sub (subMk .refl (.cons (.there Sel.here) (.own (xs' := (gs la (gN la)).map encI) rfl rfl rfl (by rw [e1])) (.cons (.there (.there Sel.here)) (.own (xs' := (negL (gs lb (gN la))).map encI) rfl rfl rfl (by rw [e2])) (.cons Sel.here .refl (.cons Sel.here .refl (.cons Sel.here .refl (.cons Sel.here .refl (.cons Sel.here .refl (.cons Sel.here .refl (.cons Sel.here .refl (.cons Sel.here .refl .nil))))))))))) ?_
  refine run_sub (subMk (.cons (s := 1) rfl (.cons (s := 2) rfl (.cons (s := 4) rfl (.cons (s := 5) rfl (.cons (s := 6) rfl (.cons (s := 7) rfl (.cons (s := 8) rfl (.cons' (s := 9) (v' := .slice O 0 co) rfl (by rw [e3]; rfl) (.cons (s := 10) rfl .nil))))))))) .refl) ?_
  refine run_region ?_
  refine run_q (.none rfl) rfl rfl (q_move rfl rfl) ?_
  refine run_q (.none rfl) rfl rfl (q_fieldB (d := 1) rfl Try.underlying40 rfl rfl sz38 rfl) ?_
  refine run_q (.none rfl) rfl rfl (q_loadB rfl one38 rfl (.there (.there (.there (.there (.there (.there Sel.here)))))) rfl) ?_
  refine run_q (.none rfl) rfl rfl (q_len rfl Try.underlying38 rfl) ?_
  refine run_q (.none rfl) rfl rfl (q_call rfl call22 (.cons rfl (.cons rfl Evs.nil)) (fun w hk hm => first_just xs X cx ((gN la) : Int) w (hx.kept0 hk) (by omega))) ?_
  refine run_q (.none rfl) rfl rfl (q_assign rfl rfl) ?_
  refine run_nil ?_
  refine run_sub (subMk (.cons (s := 1) rfl (.cons (s := 2) rfl (.cons (s := 4) rfl (.cons (s := 5) rfl (.cons (s := 6) rfl (.cons (s := 7) rfl (.cons (s := 8) rfl (.cons (s := 9) rfl (.cons (s := 10) rfl (.cons (s := 11) rfl .nil)))))))))) .refl) ?_
  refine run_seq ?_
  refine run_region ?_
  refine run_q (.none rfl) rfl rfl (q_loadBN rfl agg36 rfl (.there (.there (.there (.there (.there (.there (.there (.there (.there Sel.here))))))))) (.cons rfl (.cons rfl CellsAt.nil)) rfl) ?_
  refine run_h (.none rfl) (h_call rfl rfl rfl call19 (.cons rfl Evs.nil) (fun w hk hm => lay_ret la lb LA LB ca0 cb0 w (hla.kept0 hk) (hlb.kept0 hk) hbA hbB hca0 hcb0)) ?_
  rintro ⟨v, m⟩ ⟨qa, qb, A2, B2, ca2, cb2, P2, cp2, Q2, cq2, rfl, hca2, hcb2, rfl⟩
  show Run _ _ _ _ _ _ _ ⟨(48, .tuple #[.pointer (some ⟨qa, 0, none⟩), .pointer (some ⟨qb, 0, none⟩), .agg #[.int .i64 1, .slice P2 (gN la) cp2], .agg #[.int .i64 (-1), .slice Q2 (gN la) cq2]]) :: _, _ :: _ :: _ :: _ :: _ :: _ :: _⟩
  refine run_q (.none rfl) rfl rfl (q_move rfl rfl) ?_
  refine run_q (.none rfl) rfl rfl (q_extract rfl rfl rfl) ?_
  refine run_q (.none rfl) rfl rfl (q_extract rfl rfl rfl) ?_
  refine run_q (.none rfl) rfl rfl (q_extract rfl rfl rfl) ?_
  refine run_q (.none rfl) rfl rfl (q_extract rfl rfl rfl) ?_
  refine run_h (.none rfl) (h_alloc rfl rfl rfl info40) ?_
  rintro b14 -
  refine run_h (.none rfl) (h_alloc rfl rfl rfl info40) ?_
  rintro b15 -
  refine run_q (.none rfl) rfl rfl (q_assign rfl rfl) ?_
  refine run_q (.none rfl) rfl rfl (q_assign rfl rfl) ?_
  refine run_h (.none rfl) (h_storeB rfl rfl sz40 rfl rfl rfl rfl rfl (.there Sel.here) rfl) ?_
  rintro - -
  refine run_h (.none rfl) (h_storeB rfl rfl sz40 rfl rfl rfl rfl rfl (.there Sel.here) rfl) ?_
  rintro - -
  refine run_nil ?_
  refine run_sub (subMk (.cons (s := 1) rfl (.cons (s := 4) rfl (.cons (s := 5) rfl (.cons (s := 6) rfl (.cons (s := 7) rfl (.cons (s := 8) rfl (.cons (s := 9) rfl (.cons (s := 10) rfl (.cons (s := 11) rfl (.cons (s := 14) rfl (.cons (s := 15) rfl .nil))))))))))) .refl) ?_
  refine run_seq ?_
  refine run_region ?_
  refine run_h (.none rfl) (h_buildSlice rfl rfl rfl Try.underlying43 info49 Parts.nil rfl (by omega)) ?_
  rintro b53 -
  refine run_q (.none rfl) rfl rfl (q_assign rfl rfl) ?_
  refine run_q (.none rfl) rfl rfl (q_assign rfl rfl) ?_
  refine run_nil ?_
  refine run_seq ?_
  refine run_seq ?_
  refine run_region ?_
  refine run_q (.none rfl) rfl rfl (q_move rfl rfl) ?_
  refine run_q (.none rfl) rfl rfl (q_eql rfl rfl rfl) ?_
  refine run_nil ?_
  refine run_condT rfl (by rw [h1]; rfl) ?_
  refine run_seq ?_
  refine run_sub (subMk .refl (.cons (.there (.there (.there (.there (.there (.there (.there Sel.here))))))) (.own (xs' := (sgL 1 (gs la (gN la))).map encI) rfl rfl rfl (by rw [sgL_one])) (.cons (.there (.there (.there (.there (.there (.there (.there Sel.here))))))) (.own (xs' := (sgL (-1) (negL (gs lb (gN la)))).map encI) rfl rfl rfl (by rw [sgL_neg])) (.cons Sel.here .refl (.cons Sel.here .refl (.cons Sel.here .refl (.cons Sel.here .refl (.cons Sel.here .refl (.cons Sel.here .refl (.cons Sel.here .refl (.cons Sel.here .refl (.cons Sel.here .refl (.cons Sel.here .refl (.cons Sel.here .refl (.cons Sel.here .refl (.cons Sel.here .refl (.cons Sel.here .refl (.cons Sel.here .refl (.cons Sel.here .refl (.cons Sel.here .refl .nil)))))))))))))))))))) ?_
  refine run_region ?_
  refine run_q (.none rfl) rfl rfl (q_move rfl rfl) ?_
  refine run_q (.none rfl) rfl rfl (q_loadBN rfl agg40 rfl (.there (.there (.there (.there Sel.here)))) (.cons rfl (.cons rfl CellsAt.nil)) rfl) ?_
  refine run_q (.none rfl) rfl rfl (q_loadBN rfl agg40 rfl (.there (.there (.there Sel.here))) (.cons rfl (.cons rfl CellsAt.nil)) rfl) ?_
  refine run_h (.none rfl) (h_callX [_, _] _ rfl rfl rfl call23 (.cons rfl (.cons rfl (.cons rfl Evs.nil))) ((Sel.perm Sel.here).trans (.cons _ (Sel.perm Sel.here))) (Y := fun _ => atAny [_, _]) (fun _ _ h => h) (fun w hk hm => placeAll_err xs X cx (gs la (gN la)) (negL (gs lb (gN la))) P2 Q2 cp2 cq2 (gN la) w gs_len (by rw [negL_len, gs_len]) ((hm.perm ((Sel.perm Sel.here).trans (.cons _ (Sel.perm Sel.here)))).give (rs := [_, _])) (keep_inp hx hk (hm.perm ((Sel.perm Sel.here).trans (.cons _ (Sel.perm Sel.here))))) (by omega) (by omega) (ground_bd (fun i => gs_bd hbA _ i)) (neg_bd (fun i => gs_bd hbB _ i)) hall hEs)) ?_
  rintro ⟨v, m⟩ ⟨rfl, rfl⟩
  show Run _ _ _ _ _ _ _ ⟨(60, .tuple #[.slice none 0 0, .bool false]) :: _, _⟩
  refine run_q (.none rfl) rfl rfl (q_move rfl rfl) ?_
  refine run_q (.none rfl) rfl rfl (q_extract rfl rfl rfl) ?_
  refine run_q (.none rfl) rfl rfl (q_extract rfl rfl rfl) ?_
  refine run_q (.none rfl) rfl rfl (q_assign rfl rfl) ?_
  refine run_q (.none rfl) rfl rfl (q_assign rfl rfl) ?_
  refine run_nil ?_
  refine run_sub (subMk (.cons (s := 4) rfl (.cons (s := 5) rfl (.cons (s := 6) rfl (.cons (s := 7) rfl (.cons (s := 8) rfl (.cons (s := 9) rfl (.cons (s := 10) rfl (.cons (s := 11) rfl (.cons (s := 14) rfl (.cons (s := 15) rfl (.cons (s := 16) rfl (.cons (s := 17) rfl .nil)))))))))))) .refl) ?_
  refine run_seq ?_
  refine run_region ?_
  refine run_q (.none rfl) rfl rfl (q_move rfl rfl) ?_
  refine run_q (.none rfl) rfl rfl (q_not rfl rfl) ?_
  refine run_nil ?_
  refine run_condT rfl rfl ?_
  refine run_region ?_
  refine run_q (.none rfl) rfl rfl (q_assign rfl rfl) ?_
  refine run_nil ?_
  refine run_sub (subMk (.cons (s := 4) rfl (.cons (s := 5) rfl (.cons (s := 6) rfl (.cons (s := 7) rfl (.cons (s := 8) rfl (.cons (s := 9) rfl (.cons (s := 10) rfl (.cons (s := 11) rfl (.cons (s := 14) rfl (.cons (s := 15) rfl (.cons (s := 16) rfl .nil))))))))))) .refl) ?_
  refine run_seq ?_
  refine run_seq ?_
  refine run_region ?_
  refine run_q (.none rfl) rfl rfl (q_move rfl rfl) ?_
  refine run_q (.none rfl) rfl rfl (q_neq rfl rfl rfl) ?_
  refine run_nil ?_
  refine run_condT rfl rfl ?_
  refine run_seq ?_
  refine run_region ?_
  refine run_q (.none rfl) rfl rfl (q_move rfl rfl) ?_
  refine run_q (.none rfl) rfl rfl (q_len rfl Try.underlying43 rfl) ?_
  refine run_q (.none rfl) rfl rfl (q_eql rfl rfl rfl) ?_
  refine run_q (.none rfl) rfl rfl (q_move rfl rfl) ?_
  refine run_q (.on rfl rfl rfl rfl) rfl rfl (q_move rfl rfl) ?_
  refine run_q (.on rfl rfl rfl rfl) rfl rfl (q_move rfl rfl) ?_
  refine run_q (.on rfl rfl rfl rfl) rfl rfl (q_eql rfl rfl rfl) ?_
  refine run_q (.none rfl) rfl rfl (q_pickT rfl rfl rfl rfl) ?_
  refine run_q (.none rfl) rfl rfl (q_move rfl rfl) ?_
  refine run_q (.on rfl rfl rfl (beq_iff_eq.2 h9)) rfl rfl (q_loadBN rfl agg40 rfl (.there (.there (.there (.there (.there (.there (.there (.there (.there (.there (.there (.there (.there Sel.here))))))))))))) (.cons rfl (.cons rfl CellsAt.nil)) rfl) ?_
  refine run_q (.on rfl rfl rfl (beq_iff_eq.2 h9)) rfl rfl (q_move rfl rfl) ?_
  refine run_q (.on rfl rfl rfl (beq_iff_eq.2 h9)) rfl rfl (q_call rfl call24 (.cons rfl (.cons rfl Evs.nil)) (fun w hk hm => is_just (gs la (gN la)) pa A ca 1 (gN la) P cp 1 w gs_len (rd_sky ((Sel.there (Sel.there (Sel.there (Sel.there (Sel.there (Sel.there (Sel.there (Sel.there (Sel.there Sel.here))))))))).holds hm)) (own_rd ((Sel.there (Sel.there (Sel.there (Sel.there (Sel.there (Sel.there (Sel.there Sel.here))))))).holds hm)) (by rw [sgL_one]; exact (own_rd ((Sel.there (Sel.there (Sel.there (Sel.there (Sel.there (Sel.there (Sel.there (Sel.there (Sel.there (Sel.there (Sel.there (Sel.there (Sel.there (Sel.there Sel.here)))))))))))))).holds hm))) (Nat.le_trans (Nat.le_of_eq gs_len) hca) (Nat.le_trans (Nat.le_of_eq gs_len) (by omega)) (ground_bd (fun i => gs_bd hbA _ i)) (.inl rfl))) ?_
  refine run_q (.none rfl) rfl rfl (q_pickT rfl rfl (beq_iff_eq.2 h9) rfl) ?_
  refine run_q (.none rfl) rfl rfl (q_move rfl rfl) ?_
  refine run_q (.on rfl rfl rfl rfl) rfl rfl (q_loadBN rfl agg40 rfl (.there (.there (.there (.there (.there (.there (.there (.there (.there (.there (.there (.there Sel.here)))))))))))) (.cons rfl (.cons rfl CellsAt.nil)) rfl) ?_
  refine run_q (.on rfl rfl rfl rfl) rfl rfl (q_move rfl rfl) ?_
  refine run_q (.on rfl rfl rfl rfl) rfl rfl (q_call rfl call24 (.cons rfl (.cons rfl Evs.nil)) (fun w hk hm => is_just (negL (gs lb (gN la))) pb B cb (-1) (gN la) Q cq (-1) w (by rw [negL_len, gs_len]) (rd_sky ((Sel.there (Sel.there (Sel.there (Sel.there (Sel.there (Sel.there (Sel.there (Sel.there (Sel.there (Sel.there Sel.here)))))))))).holds hm)) (own_rd ((Sel.there (Sel.there (Sel.there (Sel.there (Sel.there (Sel.there (Sel.there (Sel.there Sel.here)))))))).holds hm)) (by rw [sgL_neg]; exact (own_rd ((Sel.there (Sel.there (Sel.there (Sel.there (Sel.there (Sel.there (Sel.there (Sel.there (Sel.there (Sel.there (Sel.there (Sel.there (Sel.there (Sel.there (Sel.there Sel.here))))))))))))))).holds hm))) (Nat.le_trans (Nat.le_of_eq (by rw [negL_len, gs_len])) hcb) (Nat.le_trans (Nat.le_of_eq (by rw [negL_len, gs_len])) (by omega)) (neg_bd (fun i => gs_bd hbB _ i)) (.inr rfl))) ?_
  refine run_q (.none rfl) rfl rfl (q_pickT rfl rfl rfl rfl) ?_
  refine run_q (.none rfl) rfl rfl (q_assign rfl rfl) ?_
  refine run_nil ?_
  refine run_sub (subMk (.cons (s := 4) rfl (.cons (s := 5) rfl (.cons (s := 6) rfl (.cons (s := 9) rfl (.cons (s := 10) rfl (.cons (s := 14) rfl (.cons (s := 15) rfl (.cons (s := 16) rfl .nil)))))))) .refl) ?_
  refine run_ret ?_
  exact end1 rfl rfl rfl

set_option maxHeartbeats 8000000 in
set_option maxRecDepth 100000 in
theorem law7_ok (la lb : List Int) (LA LB : Option Addr) (ca0 cb0 : Nat) (xs : List Spn) (X : Option Addr) (cx : Nat) (W : World) (hla : Rd W LA 1 (la.map encH)) (hlb : Rd W LB 1 (lb.map encH)) (hbA : ∀ x ∈ la, -32768 ≤ x ∧ x ≤ 32767) (hbB : ∀ x ∈ lb, -32768 ≤ x ∧ x ≤ 32767) (hca0 : la.length ≤ 9223372036854775807) (hcb0 : lb.length ≤ 9223372036854775807) (hx : Rd W X 12 (xs.map Spn.enc)) (h12 : xs.length ≤ 12) (h1 : spsE ((gN la) : Int) xs = 0) (hEs : slEs (ordS xs) (gs la (gN la)) (negL (gs lb (gN la))) xs.length = 0) : Calls Try.prog 7 #[.agg #[.slice LA la.length ca0, .slice LB lb.length cb0], .slice X xs.length cx] W (Hr.Just W (.bool true)) := by
  have hgn : ((gN la) : Int) = max 1 (min 30 (la.length : Int)) := by unfold gN; omega
  have hgl : (((gs la (gN la)).length : Nat) : Int) = ((gN la) : Int) := by rw [gs_len]
  have h1' : spsE (gs la (gN la)).length xs = 0 := by rw [hgl]; exact h1
  have hall : ∀ x ∈ xs, spE x ((gN la) : Int) = 0 := spsE_mem h1
  have hE : slpE xs (gs la (gN la)) (negL (gs lb (gN la))) = slEs (ordS xs) (gs la (gN la)) (negL (gs lb (gN la))) xs.length := slpE_2 h1'
  have hE0 : slpE xs (gs la (gN la)) (negL (gs lb (gN la))) = 0 := by rw [hE]; exact hEs
  obtain ⟨e1, e2, e3⟩ := slp_ok hE0
  have hl12 : (sl (ordS xs) (gs la (gN la)) (negL (gs lb (gN la))) xs.length).1.length = (gN la) ∧ (sl (ordS xs) (gs la (gN la)) (negL (gs lb (gN la))) xs.length).2.length = (gN la) := by (have h := sl_len (ys := ordS xs) (a := (gs la (gN la))) (b := (negL (gs lb (gN la)))) (i := xs.length); exact ⟨by rw [h.1, gs_len], by rw [h.2, negL_len, gs_len]⟩)
  have hbd12 := sl_bd (ys := ordS xs) (a := (gs la (gN la))) (b := (negL (gs lb (gN la)))) (ground_bd (fun i => gs_bd hbA _ i)) (neg_bd (fun i => gs_bd hbB _ i)) (i := xs.length)
  refine Just.of_ret ?_
  refine enterA (X := nX) (vs := [.agg #[.slice LA la.length ca0, .slice LB lb.length cb0], .slice X xs.length cx]) Try.func7 Try.ntmps7 rfl rfl Mem.nil ?_
  refine run_seq ?_
  refine run_region ?_
  refine run_h (.none rfl) (h_box rfl rfl rfl rfl rfl) ?_
  rintro b2 -
  refine run_q (.none rfl) rfl rfl (q_assign rfl rfl) ?_
  refine run_nil ?_
  refine run_seq ?_
  refine run_seq ?_
  refine run_region ?_
  refine run_q (.none rfl) rfl rfl (q_call rfl call12 Evs.nil (fun w hk hm => known_just w)) ?_
  refine run_q (.none rfl) rfl rfl (q_not rfl rfl) ?_
  refine run_q (.none rfl) rfl rfl (q_move rfl rfl) ?_
  refine run_q (.on rfl rfl rfl rfl) rfl rfl (q_move rfl rfl) ?_
  refine run_q (.on rfl rfl rfl rfl) rfl rfl (q_len rfl Try.underlying30 rfl) ?_
  refine run_q (.on rfl rfl rfl rfl) rfl rfl (q_gtr rfl rfl rfl) ?_
  refine run_q (.none rfl) rfl rfl (q_pickF rfl rfl rfl rfl) ?_
  refine run_nil ?_
  refine run_sub (subMk (.cons (s := 1) rfl (.cons (s := 2) rfl (.cons (s := 4) rfl (.cons (s := 25) rfl .nil)))) .refl) ?_
  refine run_condF rfl (decide_eq_false (by omega)) ?_
  refine run_skip ?_
  refine run_seq ?_
  refine run_region ?_
  refine run_q (.none rfl) rfl rfl (q_loadBN rfl agg36 rfl Sel.here (.cons rfl (.cons rfl CellsAt.nil)) rfl) ?_
  refine run_h (.none rfl) (h_call rfl rfl rfl call19 (.cons rfl Evs.nil) (fun w hk hm => lay_ret la lb LA LB ca0 cb0 w (hla.kept0 hk) (hlb.kept0 hk) hbA hbB hca0 hcb0)) ?_
  rintro ⟨v, m⟩ ⟨pa, pb, A, B, ca, cb, P, cp, Q, cq, rfl, hca, hcb, rfl⟩
  show Run _ _ _ _ _ _ _ ⟨(29, .tuple #[.pointer (some ⟨pa, 0, none⟩), .pointer (some ⟨pb, 0, none⟩), .agg #[.int .i64 1, .slice P (gN la) cp], .agg #[.int .i64 (-1), .slice Q (gN la) cq]]) :: _, _ :: _ :: _ :: _ :: _ :: _ :: _⟩
  refine run_q (.none rfl) rfl rfl (q_move rfl rfl) ?_
  refine run_q (.none rfl) rfl rfl (q_extract rfl rfl rfl) ?_
  refine run_q (.none rfl) rfl rfl (q_extract rfl rfl rfl) ?_
  refine run_q (.none rfl) rfl rfl (q_extract rfl rfl rfl) ?_
  refine run_q (.none rfl) rfl rfl (q_extract rfl rfl rfl) ?_
  refine run_h (.none rfl) (h_alloc rfl rfl rfl info40) ?_
  rintro b7 -
  refine run_h (.none rfl) (h_alloc rfl rfl rfl info40) ?_
  rintro b8 -
  refine run_q (.none rfl) rfl rfl (q_assign rfl rfl) ?_
  refine run_q (.none rfl) rfl rfl (q_assign rfl rfl) ?_
  refine run_h (.none rfl) (h_storeB rfl rfl sz40 rfl rfl rfl rfl rfl (.there Sel.here) rfl) ?_
  rintro - -
  refine run_h (.none rfl) (h_storeB rfl rfl sz40 rfl rfl rfl rfl rfl (.there Sel.here) rfl) ?_
  rintro - -
  refine run_nil ?_
  refine run_sub (subMk (.cons (s := 1) rfl (.cons (s := 2) rfl (.cons (s := 4) rfl (.cons (s := 5) rfl (.cons (s := 6) rfl (.cons (s := 7) rfl (.cons (s := 8) rfl .nil))))))) .refl) ?_
  refine run_seq ?_
  refine run_region ?_
  refine run_q (.none rfl) rfl rfl (q_move rfl rfl) ?_
  refine run_q (.none rfl) rfl rfl (q_move rfl rfl) ?_
  refine run_q (.none rfl) rfl rfl (q_move rfl rfl) ?_
  refine run_h (.none rfl) (h_callX [_, _, _, _] _ rfl rfl rfl call20 (.cons rfl (.cons rfl (.cons rfl Evs.nil))) ((Sel.perm (.there (.there Sel.here))).trans (.cons _ ((Sel.perm (.there (.there Sel.here))).trans (.cons _ ((Sel.perm (.there (.there Sel.here))).trans (.cons _ (Sel.perm (.there (.there Sel.here))))))))) (Y := fun _ => atAny [_, _, _, _]) (fun _ _ h => h) (fun w hk hm => Place_ret xs X cx (gs la (gN la)) (negL (gs lb (gN la))) pa pb A B ca cb (gN la) w gs_len (by rw [negL_len, gs_len]) ((hm.perm ((Sel.perm (.there (.there Sel.here))).trans (.cons _ ((Sel.perm (.there (.there Sel.here))).trans (.cons _ ((Sel.perm (.there (.there Sel.here))).trans (.cons _ (Sel.perm (.there (.there Sel.here)))))))))).give (rs := [_, _, _, _])) (fun w' hk' => keep_inp hx hk (hm.perm ((Sel.perm (.there (.there Sel.here))).trans (.cons _ ((Sel.perm (.there (.there Sel.here))).trans (.cons _ ((Sel.perm (.there (.there Sel.here))).trans (.cons _ (Sel.perm (.there (.there Sel.here)))))))))) w' hk') (by omega) (by omega) (ground_bd (fun i => gs_bd hbA _ i)) (neg_bd (fun i => gs_bd hbB _ i)))) ?_
  rintro ⟨v, m⟩ ⟨O, co, rfl, rfl⟩
  show Run _ _ _ _ _ _ _ ⟨(38, .tuple #[.slice O (slpM xs (gs la (gN la)) (negL (gs lb (gN la)))).length co, .int .i64 (slpE xs (gs la (gN la)) (negL (gs lb (gN la))))]) :: _, _ :: _ :: _ :: _ :: _ :: _⟩
  refine run_q (.none rfl) rfl rfl (q_move rfl rfl) ?_
  refine run_q (.none rfl) rfl rfl (q_extract rfl rfl rfl) ?_
  refine run_q (.none rfl) rfl rfl (q_extract rfl rfl rfl) ?_
  refine run_q (.none rfl) rfl rfl (q_assign rfl rfl) ?_
  refine run_q (.none rfl) rfl rfl (q_assign rfl rfl) ?_
  refine run_nil ?_
  refine run_sub (subMk (.cons (s := 1) rfl (.cons (s := 2) rfl (.cons (s := 4) rfl (.cons (s := 5) rfl (.cons (s := 6) rfl (.cons (s := 7) rfl (.cons (s := 8) rfl (.cons (s := 9) rfl (.cons (s := 10) rfl .nil))))))))) .refl) ?_
  refine run_seq ?_
  refine run_sub (subMk .refl (.cons (.there Sel.here) (.own (xs' := (sl (ordS xs) (gs la (gN la)) (negL (gs lb (gN la))) xs.length).1.map encI) rfl rfl rfl (by rw [e1])) (.cons (.there (.there Sel.here)) (.own (xs' := (sl (ordS xs) (gs la (gN la)) (negL (gs lb (gN la))) xs.length).2.map encI) rfl rfl rfl (by rw [e2])) (.cons (.there (.there Sel.here)) (.own (m' := xs.length) (xs' := (slMs (ordS xs) (gs la (gN la)) (negL (gs lb (gN la))) xs.length).map Mk.enc) rfl (by rw [e3, slMs_len]) rfl (by rw [e3])) (.cons Sel.here .refl (.cons Sel.here .refl (.cons Sel.here .refl (.cons Sel.here .refl (.cons Sel.here .refl (.cons Sel.here .refl (.cons Sel.here .refl .nil))))))))))) ?_
  refine run_sub (subMk (.cons (s := 1) rfl (.cons (s := 2) rfl (.cons (s := 4) rfl (.cons (s := 5) rfl (.cons (s := 6) rfl (.cons (s := 7) rfl (.cons (s := 8) rfl (.cons' (s := 9) (v' := .slice O xs.length co) rfl (by rw [e3, slMs_len]; rfl) (.cons (s := 10) rfl .nil))))))))) .refl) ?_
  refine run_region ?_
  refine run_q (.none rfl) rfl rfl (q_move rfl rfl) ?_
  refine run_q (.none rfl) rfl rfl (q_fieldB (d := 1) rfl Try.underlying40 rfl rfl sz38 rfl) ?_
  refine run_q (.none rfl) rfl rfl (q_loadB rfl one38 rfl (.there (.there (.there (.there (.there (.there Sel.here)))))) rfl) ?_
  refine run_q (.none rfl) rfl rfl (q_len rfl Try.underlying38 rfl) ?_
  refine run_q (.none rfl) rfl rfl (q_call rfl call22 (.cons rfl (.cons rfl Evs.nil)) (fun w hk hm => first_just xs X cx ((gN la) : Int) w (hx.kept0 hk) (by omega))) ?_
  refine run_q (.none rfl) rfl rfl (q_assign rfl rfl) ?_
  refine run_nil ?_
  refine run_sub (subMk (.cons (s := 1) rfl (.cons (s := 2) rfl (.cons (s := 4) rfl (.cons (s := 5) rfl (.cons (s := 6) rfl (.cons (s := 7) rfl (.cons (s := 8) rfl (.cons (s := 9) rfl (.cons (s := 10) rfl (.cons (s := 11) rfl .nil)))))))))) .refl) ?_
  refine run_seq ?_
  refine run_region ?_
  refine run_q (.none rfl) rfl rfl (q_loadBN rfl agg36 rfl (.there (.there (.there (.there (.there (.there (.there (.there (.there Sel.here))))))))) (.cons rfl (.cons rfl CellsAt.nil)) rfl) ?_
  refine run_h (.none rfl) (h_call rfl rfl rfl call19 (.cons rfl Evs.nil) (fun w hk hm => lay_ret la lb LA LB ca0 cb0 w (hla.kept0 hk) (hlb.kept0 hk) hbA hbB hca0 hcb0)) ?_
  rintro ⟨v, m⟩ ⟨qa, qb, A2, B2, ca2, cb2, P2, cp2, Q2, cq2, rfl, hca2, hcb2, rfl⟩
  show Run _ _ _ _ _ _ _ ⟨(48, .tuple #[.pointer (some ⟨qa, 0, none⟩), .pointer (some ⟨qb, 0, none⟩), .agg #[.int .i64 1, .slice P2 (gN la) cp2], .agg #[.int .i64 (-1), .slice Q2 (gN la) cq2]]) :: _, _ :: _ :: _ :: _ :: _ :: _ :: _⟩
  refine run_q (.none rfl) rfl rfl (q_move rfl rfl) ?_
  refine run_q (.none rfl) rfl rfl (q_extract rfl rfl rfl) ?_
  refine run_q (.none rfl) rfl rfl (q_extract rfl rfl rfl) ?_
  refine run_q (.none rfl) rfl rfl (q_extract rfl rfl rfl) ?_
  refine run_q (.none rfl) rfl rfl (q_extract rfl rfl rfl) ?_
  refine run_h (.none rfl) (h_alloc rfl rfl rfl info40) ?_
  rintro b14 -
  refine run_h (.none rfl) (h_alloc rfl rfl rfl info40) ?_
  rintro b15 -
  refine run_q (.none rfl) rfl rfl (q_assign rfl rfl) ?_
  refine run_q (.none rfl) rfl rfl (q_assign rfl rfl) ?_
  refine run_h (.none rfl) (h_storeB rfl rfl sz40 rfl rfl rfl rfl rfl (.there Sel.here) rfl) ?_
  rintro - -
  refine run_h (.none rfl) (h_storeB rfl rfl sz40 rfl rfl rfl rfl rfl (.there Sel.here) rfl) ?_
  rintro - -
  refine run_nil ?_
  refine run_sub (subMk (.cons (s := 1) rfl (.cons (s := 4) rfl (.cons (s := 5) rfl (.cons (s := 6) rfl (.cons (s := 7) rfl (.cons (s := 8) rfl (.cons (s := 9) rfl (.cons (s := 10) rfl (.cons (s := 11) rfl (.cons (s := 14) rfl (.cons (s := 15) rfl .nil))))))))))) .refl) ?_
  refine run_seq ?_
  refine run_region ?_
  refine run_h (.none rfl) (h_buildSlice rfl rfl rfl Try.underlying43 info49 Parts.nil rfl (by omega)) ?_
  rintro b53 -
  refine run_q (.none rfl) rfl rfl (q_assign rfl rfl) ?_
  refine run_q (.none rfl) rfl rfl (q_assign rfl rfl) ?_
  refine run_nil ?_
  refine run_seq ?_
  refine run_seq ?_
  refine run_region ?_
  refine run_q (.none rfl) rfl rfl (q_move rfl rfl) ?_
  refine run_q (.none rfl) rfl rfl (q_eql rfl rfl rfl) ?_
  refine run_nil ?_
  refine run_condT rfl (by rw [h1]; rfl) ?_
  refine run_seq ?_
  refine run_sub (subMk .refl (.cons (.there (.there (.there (.there (.there (.there (.there Sel.here))))))) (.own (xs' := (sgL 1 (gs la (gN la))).map encI) rfl rfl rfl (by rw [sgL_one])) (.cons (.there (.there (.there (.there (.there (.there (.there Sel.here))))))) (.own (xs' := (sgL (-1) (negL (gs lb (gN la)))).map encI) rfl rfl rfl (by rw [sgL_neg])) (.cons Sel.here .refl (.cons Sel.here .refl (.cons Sel.here .refl (.cons Sel.here .refl (.cons Sel.here .refl (.cons Sel.here .refl (.cons Sel.here .refl (.cons Sel.here .refl (.cons Sel.here .refl (.cons Sel.here .refl (.cons Sel.here .refl (.cons Sel.here .refl (.cons Sel.here .refl (.cons Sel.here .refl (.cons Sel.here .refl (.cons Sel.here .refl (.cons Sel.here .refl .nil)))))))))))))))))))) ?_
  refine run_region ?_
  refine run_q (.none rfl) rfl rfl (q_move rfl rfl) ?_
  refine run_q (.none rfl) rfl rfl (q_loadBN rfl agg40 rfl (.there (.there (.there (.there Sel.here)))) (.cons rfl (.cons rfl CellsAt.nil)) rfl) ?_
  refine run_q (.none rfl) rfl rfl (q_loadBN rfl agg40 rfl (.there (.there (.there Sel.here))) (.cons rfl (.cons rfl CellsAt.nil)) rfl) ?_
  refine run_h (.none rfl) (h_callX [_, _] _ rfl rfl rfl call23 (.cons rfl (.cons rfl (.cons rfl Evs.nil))) ((Sel.perm Sel.here).trans (.cons _ (Sel.perm Sel.here))) (Y := fun _ => atAny [_, _]) (fun _ _ h => h) (fun w hk hm => placeAll_ok xs X cx (gs la (gN la)) (negL (gs lb (gN la))) P2 Q2 cp2 cq2 (gN la) w gs_len (by rw [negL_len, gs_len]) ((hm.perm ((Sel.perm Sel.here).trans (.cons _ (Sel.perm Sel.here)))).give (rs := [_, _])) (keep_inp hx hk (hm.perm ((Sel.perm Sel.here).trans (.cons _ (Sel.perm Sel.here))))) (by omega) (by omega) (ground_bd (fun i => gs_bd hbA _ i)) (neg_bd (fun i => gs_bd hbB _ i)) hall hEs)) ?_
  rintro ⟨v, m⟩ ⟨O3, co3, rfl, rfl⟩
  show Run _ _ _ _ _ _ _ ⟨(60, .tuple #[.slice O3 xs.length co3, .bool true]) :: _, _ :: _ :: _ :: _⟩
  refine run_q (.none rfl) rfl rfl (q_move rfl rfl) ?_
  refine run_q (.none rfl) rfl rfl (q_extract rfl rfl rfl) ?_
  refine run_q (.none rfl) rfl rfl (q_extract rfl rfl rfl) ?_
  refine run_q (.none rfl) rfl rfl (q_assign rfl rfl) ?_
  refine run_q (.none rfl) rfl rfl (q_assign rfl rfl) ?_
  refine run_nil ?_
  refine run_sub (subMk (.cons (s := 4) rfl (.cons (s := 5) rfl (.cons (s := 6) rfl (.cons (s := 7) rfl (.cons (s := 8) rfl (.cons (s := 9) rfl (.cons (s := 10) rfl (.cons (s := 11) rfl (.cons (s := 14) rfl (.cons (s := 15) rfl (.cons (s := 16) rfl (.cons (s := 17) rfl .nil)))))))))))) .refl) ?_
  refine run_seq ?_
  refine run_region ?_
  refine run_q (.none rfl) rfl rfl (q_move rfl rfl) ?_
  refine run_q (.none rfl) rfl rfl (q_not rfl rfl) ?_
  refine run_nil ?_
  refine run_condF rfl rfl ?_
  refine run_skip ?_
  refine run_seq ?_
  refine run_seq ?_
  refine run_region ?_
  refine run_q (.none rfl) rfl rfl (q_move rfl rfl) ?_
  refine run_q (.none rfl) rfl rfl (q_neq rfl rfl rfl) ?_
  refine run_nil ?_
  refine run_sub (subMk (.cons (s := 4) rfl (.cons (s := 5) rfl (.cons (s := 6) rfl (.cons (s := 7) rfl (.cons (s := 8) rfl (.cons (s := 9) rfl (.cons (s := 10) rfl (.cons (s := 11) rfl (.cons (s := 14) rfl (.cons (s := 15) rfl (.cons (s := 16) rfl (.cons (s := 66) rfl .nil)))))))))))) .refl) ?_
  refine run_condF rfl (by rw [h1]; rfl) ?_
  refine run_skip ?_
  refine run_seq ?_
  refine run_seq ?_
  refine run_region ?_
  refine run_q (.none rfl) rfl rfl (q_move rfl rfl) ?_
  refine run_q (.none rfl) rfl rfl (q_neq rfl rfl rfl) ?_
  refine run_q (.none rfl) rfl rfl (q_move rfl rfl) ?_
  refine run_q (.on rfl rfl rfl (by rw [hE0]; rfl)) rfl rfl (q_move rfl rfl) ?_
  refine run_q (.on rfl rfl rfl (by rw [hE0]; rfl)) rfl rfl (q_len rfl Try.underlying43 rfl) ?_
  refine run_q (.on rfl rfl rfl (by rw [hE0]; rfl)) rfl rfl (q_move rfl rfl) ?_
  refine run_q (.on rfl rfl rfl (by rw [hE0]; rfl)) rfl rfl (q_len rfl Try.underlying43 rfl) ?_
  refine run_q (.on rfl rfl rfl (by rw [hE0]; rfl)) rfl rfl (q_neq rfl rfl rfl) ?_
  refine run_q (.none rfl) rfl rfl (q_pickF rfl rfl (by rw [hE0]; rfl) rfl) ?_
  refine run_nil ?_
  refine run_sub (subMk (.cons (s := 4) rfl (.cons (s := 5) rfl (.cons (s := 6) rfl (.cons (s := 9) rfl (.cons (s := 14) rfl (.cons (s := 15) rfl (.cons (s := 16) rfl (.cons (s := 93) rfl .nil)))))))) .refl) ?_
  refine run_condF rfl (by simp) ?_
  refine run_skip ?_
  refine run_seq ?_
  refine run_seq ?_
  refine run_region ?_
  refine run_q (.none rfl) rfl rfl (q_assign rfl rfl) ?_
  refine run_nil ?_
  refine run_block ?_
  refine run_sub (subMk (.cons (s := 18) rfl (.cons (s := 4) rfl (.cons (s := 5) rfl (.cons (s := 6) rfl (.cons (s := 9) rfl (.cons (s := 14) rfl (.cons (s := 15) rfl (.cons (s := 16) rfl .nil)))))))) (.cons Sel.here .refl (.cons Sel.here .refl (.cons Sel.here .refl (.cons Sel.here .refl (.cons Sel.here .refl (.cons Sel.here .refl (.cons Sel.here .refl (.cons Sel.here .refl (.cons Sel.here .refl (.cons Sel.here .refl (.cons Sel.here .refl (.cons Sel.here .refl (.cons Sel.here .refl (.cons Sel.here .refl (.cons Sel.here .refl (.cons Sel.here .refl (.cons Sel.here .refl (.cons Sel.here .refl (.cons Sel.here .refl (.cons Sel.here .refl .nil))))))))))))))))))))) ?_
  refine run_loopC1M0 (ι := Nat) (fun i => i ≤ xs.length) (fun i => .int .i64 (i : Int))  (fun i => xs.length - i) 0 (by (try dsimp only); exact (by omega)) rfl  ?_
  rintro i hi
  (try dsimp only at hi)
  show Run _ _ _ _ _ _ _ ⟨(18, .int .i64 (i : Int)) :: _, _⟩
  refine run_seq ?_
  refine run_seq ?_
  refine run_region ?_
  refine run_q (.none rfl) rfl rfl (q_move rfl rfl) ?_
  refine run_q (.none rfl) rfl rfl (q_move rfl rfl) ?_
  refine run_q (.none rfl) rfl rfl (q_len rfl Try.underlying43 rfl) ?_
  refine run_q (.none rfl) rfl rfl (q_lss rfl rfl rfl) ?_
  refine run_nil ?_
  refine run_sub (subMk (.cons (s := 4) rfl (.cons (s := 5) rfl (.cons (s := 6) rfl (.cons (s := 9) rfl (.cons (s := 14) rfl (.cons (s := 15) rfl (.cons (s := 16) rfl (.cons (s := 18) rfl (.cons (s := 97) rfl .nil))))))))) .refl) ?_
  refine run_cond rfl (fun g97 => ?_) (fun g97 => ?_)
  · have g97' := g97
    try simp only [decide_eq_true_eq, decide_eq_false_iff_not, beq_iff_eq, beq_eq_false_iff_ne, bne_iff_ne, bne_eq_false_iff_eq, Bool.not_eq_true', Bool.not_eq_false', ne_eq, Int.not_lt, Int.not_le, Decidable.not_not] at g97'
    refine run_skip ?_
    refine run_seq ?_
    refine run_block ?_
    refine run_seq ?_
    refine run_fork mixed (by kernel_rfl) .refl ?_
    refine b_q (i := 0) rfl (by kernel_rfl) (.none rfl) rfl rfl (q_move rfl rfl) ?_
    refine b_q (i := 1) rfl (by kernel_rfl) (.none rfl) rfl rfl (q_move rfl rfl) ?_
    refine b_q (i := 2) rfl (by kernel_rfl) (.none rfl) rfl rfl (q_indexS (q := i) rfl Try.underlying43 sz49 rfl rfl (.own (.there (.there (.there (.there (.there (.there (.there (.there (.there (.there (.there (.there Sel.here))))))))))))) (by rw [List.length_map, slMs_len]) rfl (by omega)) ?_
    refine b_q (i := 3) rfl (by kernel_rfl) (.none rfl) rfl rfl (q_loadE rfl agg49 rfl (.own (.there (.there (.there (.there (.there (.there (.there (.there (.there (.there (.there (.there Sel.here))))))))))))) (at_mk (by omega)) rfl) ?_
    refine b_q (i := 4) rfl (by kernel_rfl) (.none rfl) rfl rfl (q_move rfl rfl) ?_
    refine b_q (i := 5) rfl (by kernel_rfl) (.none rfl) rfl rfl (q_move rfl rfl) ?_
    refine b_q (i := 6) rfl (by kernel_rfl) (.none rfl) rfl rfl (q_indexS (q := i) rfl Try.underlying43 sz49 rfl rfl (.own (.there (.there Sel.here))) (by rw [List.length_map, slMs_len]) rfl (by omega)) ?_
    refine b_q (i := 7) rfl (by kernel_rfl) (.none rfl) rfl rfl (q_loadE rfl agg49 rfl (.own (.there (.there Sel.here))) (at_mk (by omega)) rfl) ?_
    refine b_q (i := 8) rfl (by kernel_rfl) (.none rfl) rfl rfl (q_neqS rfl rfl rfl eqg49 (fun w => eqs49 _ _ _ _ _ _ _ _ _ _ _ _ _ _ _ _ _ _ _ _ _ _ _ _ w)) ?_
    refine b_nil (by kernel_rfl) ?_
    refine run_sub (subMk (.cons (s := 4) rfl (.cons (s := 5) rfl (.cons (s := 6) rfl (.cons (s := 9) rfl (.cons (s := 14) rfl (.cons (s := 15) rfl (.cons (s := 16) rfl (.cons (s := 18) rfl (.cons (s := 108) rfl .nil))))))))) .refl) ?_
    refine run_condF rfl (by simp) ?_
    refine run_skip ?_
    refine run_blk ?_
    refine run_region ?_
    refine run_q (.none rfl) rfl rfl (q_move rfl rfl) ?_
    refine run_q (.none rfl) rfl rfl (q_add rfl rfl rfl (by omega)) ?_
    refine run_q (.none rfl) rfl rfl (q_assign rfl rfl) ?_
    refine run_nil ?_
    refine run_sub (subMk (.cons (s := 4) rfl (.cons (s := 5) rfl (.cons (s := 6) rfl (.cons (s := 9) rfl (.cons (s := 14) rfl (.cons (s := 15) rfl (.cons (s := 16) rfl (.cons (s := 18) rfl .nil)))))))) .refl) ?_
    exact run_again (i + 1) (by (try dsimp only); exact (by omega)) (by (try dsimp only); omega) (subMk (.cons' (s := 18) rfl (vint (by omega)) (.cons (s := 4) rfl (.cons (s := 5) rfl (.cons (s := 6) rfl (.cons (s := 9) rfl (.cons (s := 14) rfl (.cons (s := 15) rfl (.cons (s := 16) rfl .nil)))))))) (.cons Sel.here .refl (.cons Sel.here .refl (.cons Sel.here .refl (.cons Sel.here .refl (.cons Sel.here .refl (.cons Sel.here .refl (.cons Sel.here .refl (.cons Sel.here .refl (.cons Sel.here .refl (.cons Sel.here .refl (.cons Sel.here .refl (.cons Sel.here .refl (.cons Sel.here .refl (.cons Sel.here .refl (.cons Sel.here .refl (.cons Sel.here .refl (.cons Sel.here .refl (.cons Sel.here .refl (.cons Sel.here .refl (.cons Sel.here .refl .nil)))))))))))))))))))))
  · have g97' := g97
    try simp only [decide_eq_true_eq, decide_eq_false_iff_not, beq_iff_eq, beq_eq_false_iff_ne, bne_iff_ne, bne_eq_false_iff_eq, Bool.not_eq_true', Bool.not_eq_false', ne_eq, Int.not_lt, Int.not_le, Decidable.not_not] at g97'
    refine run_exit rfl ?_
    refine run_sub (subMk (.cons (s := 4) rfl (.cons (s := 5) rfl (.cons (s := 6) rfl (.cons (s := 14) rfl (.cons (s := 15) rfl .nil))))) .refl) ?_
    refine run_seq ?_
    refine run_region ?_
    refine run_q (.none rfl) rfl rfl (q_loadBN rfl agg40 rfl (.there (.there (.there (.there (.there Sel.here))))) (.cons rfl (.cons rfl CellsAt.nil)) rfl) ?_
    refine run_q (.none rfl) rfl rfl (q_move rfl rfl) ?_
    refine run_q (.none rfl) rfl rfl (q_call rfl call24 (.cons rfl (.cons rfl Evs.nil)) (fun w hk hm => is_just (sl (ordS xs) (gs la (gN la)) (negL (gs lb (gN la))) xs.length).1 pa A ca 1 (gN la) P2 cp2 1 w hl12.1 (rd_sky ((Sel.there (Sel.there (Sel.there (Sel.there (Sel.there (Sel.there (Sel.there (Sel.there (Sel.there (Sel.there (Sel.there (Sel.there (Sel.there Sel.here))))))))))))).holds hm)) (own_rd ((Sel.there (Sel.there (Sel.there (Sel.there (Sel.there (Sel.there (Sel.there (Sel.there (Sel.there (Sel.there Sel.here)))))))))).holds hm)) (own_rd (Sel.here.holds hm)) (Nat.le_trans (Nat.le_of_eq hl12.1) hca) (Nat.le_trans (Nat.le_of_eq hl12.1) (by omega)) hbd12.1 (.inl rfl))) ?_
    refine run_q (.none rfl) rfl rfl (q_move rfl rfl) ?_
    refine run_q (.on rfl rfl rfl rfl) rfl rfl (q_loadBN rfl agg40 rfl (.there (.there (.there (.there Sel.here)))) (.cons rfl (.cons rfl CellsAt.nil)) rfl) ?_
    refine run_q (.on rfl rfl rfl rfl) rfl rfl (q_move rfl rfl) ?_
    refine run_q (.on rfl rfl rfl rfl) rfl rfl (q_call rfl call24 (.cons rfl (.cons rfl Evs.nil)) (fun w hk hm => is_just (sl (ordS xs) (gs la (gN la)) (negL (gs lb (gN la))) xs.length).2 pb B cb (-1) (gN la) Q2 cq2 (-1) w hl12.2 (rd_sky ((Sel.there (Sel.there (Sel.there (Sel.there (Sel.there (Sel.there (Sel.there (Sel.there (Sel.there (Sel.there (Sel.there (Sel.there (Sel.there (Sel.there Sel.here)))))))))))))).holds hm)) (own_rd ((Sel.there (Sel.there (Sel.there (Sel.there (Sel.there (Sel.there (Sel.there (Sel.there (Sel.there (Sel.there (Sel.there Sel.here))))))))))).holds hm)) (own_rd ((Sel.there Sel.here).holds hm)) (Nat.le_trans (Nat.le_of_eq hl12.2) hcb) (Nat.le_trans (Nat.le_of_eq hl12.2) (by omega)) hbd12.2 (.inr rfl))) ?_
    refine run_q (.none rfl) rfl rfl (q_pickT rfl rfl rfl rfl) ?_
    refine run_q (.none rfl) rfl rfl (q_assign rfl rfl) ?_
    refine run_nil ?_
    refine run_sub (subMk (.cons (s := 4) rfl .nil) .refl) ?_
    refine run_ret ?_
    exact end1 rfl rfl rfl

end Go.Proofs.Ytomhegnaojejnaa
