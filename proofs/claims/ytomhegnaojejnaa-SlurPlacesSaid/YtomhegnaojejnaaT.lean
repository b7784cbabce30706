/- The law on nests. -/
import Derived.Test.YtomhegnaojejnaaR
import Derived.Test.YtomhegnaojejnaaNest
import Derived.Test.YtomhegnaojejnaaKeep
set_option linter.unusedSimpArgs false
set_option linter.unusedVariables false
namespace Go.Proofs.Ytomhegnaojejnaa
open Go Go.RowKit Hr

theorem agg36 : Hr.Agg Try.prog 36 2 := ⟨fun w => by simp [isAgg, run_underlying Try.underlying36], Hr.Sz.of (by kernel_rfl)⟩
theorem call19 : Hr.Callable Try.prog 19 := fun args w => by kernel_rfl

set_option maxHeartbeats 8000000 in
set_option maxRecDepth 100000 in
theorem law5_just (la lb : List Int) (LA LB : Option Addr) (ca0 cb0 : Nat) (xs : List Spn) (X : Option Addr) (cx : Nat) (W : World) (hla : Rd W LA 1 (la.map encH)) (hlb : Rd W LB 1 (lb.map encH)) (hbA : ∀ x ∈ la, -32768 ≤ x ∧ x ≤ 32767) (hbB : ∀ x ∈ lb, -32768 ≤ x ∧ x ≤ 32767) (hca0 : la.length ≤ 9223372036854775807) (hcb0 : lb.length ≤ 9223372036854775807) (hx : Rd W X 12 (xs.map Spn.enc)) : Calls Try.prog 5 #[.agg #[.slice LA la.length ca0, .slice LB lb.length cb0], .slice X xs.length cx] W (Hr.Just W (.bool true)) := by
  have hgn : ((gN la) : Int) = max 1 (min 30 (la.length : Int)) := by unfold gN; omega
  refine Just.of_ret ?_
  refine enterA (X := nX) (vs := [.agg #[.slice LA la.length ca0, .slice LB lb.length cb0], .slice X xs.length cx]) Try.func5 Try.ntmps5 rfl rfl Mem.nil ?_
  refine run_seq ?_
  refine run_region ?_
  refine run_h (.none rfl) (h_box rfl rfl rfl rfl rfl) ?_
  rintro b2 -
  refine run_q (.none rfl) rfl rfl (q_assign rfl rfl) ?_
  refine run_nil ?_
  refine run_seq ?_
  refine run_seq ?_
  refine run_region ?_
  refine run_q (.none rfl) rfl rfl (q_call rfl call12 Evs.nil (fun w hk hm => known_just w)) ?_
  refine run_q (.none rfl) rfl rfl (q_not rfl rfl) ?_
  refine run_q (.none rfl) rfl rfl (q_move rfl rfl) ?_
  refine run_q (.on rfl rfl rfl rfl) rfl rfl (q_move rfl rfl) ?_
  refine run_q (.on rfl rfl rfl rfl) rfl rfl (q_len rfl Try.underlying30 rfl) ?_
  refine run_q (.on rfl rfl rfl rfl) rfl rfl (q_gtr rfl rfl rfl) ?_
  refine run_q (.none rfl) rfl rfl (q_pickF rfl rfl rfl rfl) ?_
  refine run_nil ?_
  refine run_sub (subMk (.cons (s := 1) rfl (.cons (s := 2) rfl (.cons (s := 4) rfl (.cons (s := 22) rfl .nil)))) .refl) ?_
  refine run_cond rfl (fun g22 => ?_) (fun g22 => ?_)
  · have g22' := g22
    try simp only [decide_eq_true_eq, decide_eq_false_iff_not, beq_iff_eq, beq_eq_false_iff_ne, bne_iff_ne, bne_eq_false_iff_eq, Bool.not_eq_true', Bool.not_eq_false', ne_eq, Int.not_lt, Int.not_le, Decidable.not_not] at g22'
    refine run_seq ?_
    refine run_region ?_
    refine run_q (.none rfl) rfl rfl (q_call rfl call12 Evs.nil (fun w hk hm => known_just w)) ?_
    refine run_q (.none rfl) rfl rfl (q_assign rfl rfl) ?_
    refine run_nil ?_
    refine run_ret ?_
    exact end1 rfl rfl (by simp)
  · have g22' := g22
    try simp only [decide_eq_true_eq, decide_eq_false_iff_not, beq_iff_eq, beq_eq_false_iff_ne, bne_iff_ne, bne_eq_false_iff_eq, Bool.not_eq_true', Bool.not_eq_false', ne_eq, Int.not_lt, Int.not_le, Decidable.not_not] at g22'
    refine run_skip ?_
    refine run_seq ?_
    refine run_region ?_
    refine run_q (.none rfl) rfl rfl (q_loadBN rfl agg36 rfl Sel.here (.cons rfl (.cons rfl CellsAt.nil)) rfl) ?_
    refine run_h (.none rfl) (h_call rfl rfl rfl call19 (.cons rfl Evs.nil) (fun w hk hm => lay_ret la lb LA LB ca0 cb0 w (hla.kept0 hk) (hlb.kept0 hk) hbA hbB hca0 hcb0)) ?_
    rintro ⟨v, m⟩ ⟨pa, pb, A, B, ca, cb, P, cp, Q, cq, rfl, hca, hcb, rfl⟩
    show Run _ _ _ _ _ _ _ ⟨(26, .tuple #[.pointer (some ⟨pa, 0, none⟩), .pointer (some ⟨pb, 0, none⟩), .agg #[.int .i64 1, .slice P (gN la) cp], .agg #[.int .i64 (-1), .slice Q (gN la) cq]]) :: _, _ :: _ :: _ :: _ :: _ :: _ :: _⟩
    refine run_q (.none rfl) rfl rfl (q_move rfl rfl) ?_
    refine run_q (.none rfl) rfl rfl (q_extract rfl rfl rfl) ?_
    refine run_q (.none rfl) rfl rfl (q_extract rfl rfl rfl) ?_
    refine run_q (.none rfl) rfl rfl (q_extract rfl rfl rfl) ?_
    refine run_q (.none rfl) rfl rfl (q_extract rfl rfl rfl) ?_
    refine run_h (.none rfl) (h_alloc rfl rfl rfl info40) ?_
    rintro b7 -
    refine run_h (.none rfl) (h_alloc rfl rfl rfl info40) ?_
    rintro b8 -
    refine run_q (.none rfl) rfl rfl (q_assign rfl rfl) ?_
    refine run_q (.none rfl) rfl rfl (q_assign rfl rfl) ?_
    refine run_h (.none rfl) (h_storeB rfl rfl sz40 rfl rfl rfl rfl rfl (.there Sel.here) rfl) ?_
    rintro - -
    refine run_h (.none rfl) (h_storeB rfl rfl sz40 rfl rfl rfl rfl rfl (.there Sel.here) rfl) ?_
    rintro - -
    refine run_nil ?_
    refine run_sub (subMk (.cons (s := 1) rfl (.cons (s := 4) rfl (.cons (s := 5) rfl (.cons (s := 6) rfl .nil)))) .refl) ?_
    refine run_seq ?_
    refine run_region ?_
    refine run_q (.none rfl) rfl rfl (q_move rfl rfl) ?_
    refine run_q (.none rfl) rfl rfl (q_move rfl rfl) ?_
    refine run_q (.none rfl) rfl rfl (q_move rfl rfl) ?_
    refine run_h (.none rfl) (h_callX [_, _, _, _] _ rfl rfl rfl call20 (.cons rfl (.cons rfl (.cons rfl Evs.nil))) ((Sel.perm (.there (.there Sel.here))).trans (.cons _ ((Sel.perm (.there (.there Sel.here))).trans (.cons _ ((Sel.perm (.there (.there Sel.here))).trans (.cons _ (Sel.perm (.there (.there Sel.here))))))))) (Y := fun _ => atAny [_, _, _, _]) (fun _ _ h => h) (fun w hk hm => Place_ret xs X cx (gs la (gN la)) (negL (gs lb (gN la))) pa pb A B ca cb (gN la) w gs_len (by rw [negL_len, gs_len]) ((hm.perm ((Sel.perm (.there (.there Sel.here))).trans (.cons _ ((Sel.perm (.there (.there Sel.here))).trans (.cons _ ((Sel.perm (.there (.there Sel.here))).trans (.cons _ (Sel.perm (.there (.there Sel.here)))))))))).give (rs := [_, _, _, _])) (fun w' hk' => keep_inp hx hk (hm.perm ((Sel.perm (.there (.there Sel.here))).trans (.cons _ ((Sel.perm (.there (.there Sel.here))).trans (.cons _ ((Sel.perm (.there (.there Sel.here))).trans (.cons _ (Sel.perm (.there (.there Sel.here)))))))))) w' hk') (by omega) (by omega) (ground_bd (fun i => gs_bd hbA _ i)) (neg_bd (fun i => gs_bd hbB _ i)))) ?_
    rintro ⟨v, m⟩ ⟨O, co, rfl, rfl⟩
    show Run _ _ _ _ _ _ _ ⟨(35, .tuple #[.slice O (slpM xs (gs la (gN la)) (negL (gs lb (gN la)))).length co, .int .i64 (slpE xs (gs la (gN la)) (negL (gs lb (gN la))))]) :: _, _ :: _ :: _ :: _ :: _ :: _⟩
    refine run_q (.none rfl) rfl rfl (q_move rfl rfl) ?_
    refine run_q (.none rfl) rfl rfl (q_extract rfl rfl rfl) ?_
    refine run_q (.none rfl) rfl rfl (q_extract rfl rfl rfl) ?_
    refine run_q (.none rfl) rfl rfl (q_assign rfl rfl) ?_
    refine run_q (.none rfl) rfl rfl (q_assign rfl rfl) ?_
    refine run_nil ?_
    refine run_sub (subMk (.cons (s := 1) rfl (.cons (s := 4) rfl (.cons (s := 9) rfl (.cons (s := 10) rfl .nil)))) .refl) ?_
    refine run_seq ?_
    refine run_seq ?_
    refine run_region ?_
    refine run_q (.none rfl) rfl rfl (q_move rfl rfl) ?_
    refine run_q (.none rfl) rfl rfl (q_neq rfl rfl rfl) ?_
    refine run_nil ?_
    refine run_cond rfl (fun g39 => ?_) (fun g39 => ?_)
    · have g39' := g39
      try simp only [decide_eq_true_eq, decide_eq_false_iff_not, beq_iff_eq, beq_eq_false_iff_ne, bne_iff_ne, bne_eq_false_iff_eq, Bool.not_eq_true', Bool.not_eq_false', ne_eq, Int.not_lt, Int.not_le, Decidable.not_not] at g39'
      refine run_seq ?_
      refine run_region ?_
      refine run_q (.none rfl) rfl rfl (q_assign rfl rfl) ?_
      refine run_nil ?_
      refine run_sub (subMk (.cons (s := 1) rfl (.cons (s := 4) rfl (.cons (s := 9) rfl .nil))) .refl) ?_
      refine run_ret ?_
      exact end1 rfl rfl (by simp)
    · have g39' := g39
      try simp only [decide_eq_true_eq, decide_eq_false_iff_not, beq_iff_eq, beq_eq_false_iff_ne, bne_iff_ne, bne_eq_false_iff_eq, Bool.not_eq_true', Bool.not_eq_false', ne_eq, Int.not_lt, Int.not_le, Decidable.not_not] at g39'
      refine run_skip ?_
      refine run_seq ?_
      have hE0 : slpE xs (gs la (gN la)) (negL (gs lb (gN la))) = 0 := by omega
      have hq0 : spsE (gs la (gN la)).length xs = 0 := by (by_cases hq : spsE (gs la (gN la)).length xs = 0; (· exact hq); (· rw [slpE_1 hq] at hE0; exact hE0))
      have hEs : slEs (ordS xs) (gs la (gN la)) (negL (gs lb (gN la))) xs.length = 0 := by rw [← slpE_2 hq0]; exact hE0
      have hall : ∀ x ∈ xs, spE x ((gs la (gN la)).length : Int) = 0 := spsE_mem hq0
      have hgl : (gs la (gN la)).length = (gN la) := gs_len
      have hgl2 : (gs la (gN la)).length = (negL (gs lb (gN la))).length := by rw [negL_len, gs_len, gs_len]
      have hN : ∀ x ∈ xs, NN x := fun x hx' => spE_NN (hall x hx') (by omega)
      obtain ⟨e1, e2, e3⟩ := slp_ok hE0
      refine run_sub (subMk .refl (.cons (.there (.there (.there (.there Sel.here)))) (.own (m' := xs.length) (xs' := (slMs (ordS xs) (gs la (gN la)) (negL (gs lb (gN la))) xs.length).map Mk.enc) rfl (by rw [e3, slMs_len]) rfl (by rw [e3])) (.cons Sel.here .refl (.cons Sel.here .refl (.cons Sel.here .refl (.cons Sel.here .refl (.cons Sel.here .refl (.cons Sel.here .refl (.cons Sel.here .refl (.cons Sel.here .refl (.cons Sel.here .refl .nil))))))))))) ?_
      refine run_sub (subMk (.cons (s := 1) rfl (.cons (s := 4) rfl (.cons' (s := 9) (v' := .slice O xs.length co) rfl (by rw [e3, slMs_len]; rfl) (.cons (s := 10) rfl (.cons (s := 38) rfl (.cons (s := 39) rfl .nil)))))) .refl) ?_
      refine run_region ?_
      refine run_q (.none rfl) rfl rfl (q_move rfl rfl) ?_
      refine run_h (.none rfl) (h_call rfl rfl rfl call15 (.cons rfl Evs.nil) (fun w hk hm => order_ret xs X cx w (hx.kept0 hk) (by omega) hN)) ?_
      rintro ⟨v, m⟩ ⟨Oy, cy, rfl, rfl⟩
      show Run _ _ _ _ _ _ _ ⟨(41, .slice Oy xs.length cy) :: _, _ :: _⟩
      refine run_q (.none rfl) rfl rfl (q_assign rfl rfl) ?_
      refine run_nil ?_
      refine run_sub (subMk (.cons (s := 1) rfl (.cons (s := 4) rfl (.cons (s := 9) rfl (.cons (s := 11) rfl .nil)))) .refl) ?_
      refine run_seq ?_
      refine run_seq ?_
      refine run_region ?_
      refine run_q (.none rfl) rfl rfl (q_assign rfl rfl) ?_
      refine run_nil ?_
      refine run_block ?_
      refine run_sub (subMk (.cons (s := 12) rfl (.cons (s := 1) rfl (.cons (s := 4) rfl (.cons (s := 9) rfl (.cons (s := 11) rfl .nil))))) (.cons Sel.here .refl (.cons Sel.here .refl (.cons Sel.here .refl (.cons Sel.here .refl (.cons Sel.here .refl (.cons Sel.here .refl (.cons Sel.here .refl (.cons Sel.here .refl (.cons Sel.here .refl (.cons Sel.here .refl (.cons Sel.here .refl .nil)))))))))))) ?_
      refine run_loopC1M0 (ι := Nat) (fun i => i ≤ xs.length) (fun i => .int .i64 (i : Int))  (fun i => xs.length - i) 0 (by (try dsimp only); exact (by omega)) rfl  ?_
      rintro i hi
      (try dsimp only at hi)
      show Run _ _ _ _ _ _ _ ⟨(12, .int .i64 (i : Int)) :: _, _⟩
      refine run_seq ?_
      refine run_seq ?_
      refine run_region ?_
      refine run_q (.none rfl) rfl rfl (q_move rfl rfl) ?_
      refine run_q (.none rfl) rfl rfl (q_move rfl rfl) ?_
      refine run_q (.none rfl) rfl rfl (q_len rfl Try.underlying43 rfl) ?_
      refine run_q (.none rfl) rfl rfl (q_lss rfl rfl rfl) ?_
      refine run_nil ?_
      refine run_sub (subMk (.cons (s := 1) rfl (.cons (s := 4) rfl (.cons (s := 9) rfl (.cons (s := 11) rfl (.cons (s := 12) rfl (.cons (s := 45) rfl .nil)))))) .refl) ?_
      refine run_cond rfl (fun g45 => ?_) (fun g45 => ?_)
      · have g45' := g45
        try simp only [decide_eq_true_eq, decide_eq_false_iff_not, beq_iff_eq, beq_eq_false_iff_ne, bne_iff_ne, bne_eq_false_iff_eq, Bool.not_eq_true', Bool.not_eq_false', ne_eq, Int.not_lt, Int.not_le, Decidable.not_not] at g45'
        refine run_skip ?_
        refine run_seq ?_
        refine run_block ?_
        refine run_seq ?_
        refine run_region ?_
        refine run_q (.none rfl) rfl rfl (q_assign rfl rfl) ?_
        refine run_nil ?_
        refine run_block ?_
        refine run_sub (subMk (.cons (s := 13) rfl (.cons (s := 1) rfl (.cons (s := 4) rfl (.cons (s := 9) rfl (.cons (s := 11) rfl (.cons (s := 12) rfl .nil)))))) (.cons Sel.here .refl (.cons Sel.here .refl (.cons Sel.here .refl (.cons Sel.here .refl (.cons Sel.here .refl (.cons Sel.here .refl (.cons Sel.here .refl (.cons Sel.here .refl (.cons Sel.here .refl (.cons Sel.here .refl (.cons Sel.here .refl .nil)))))))))))) ?_
        refine run_loopC1M0 (ι := Nat) (fun j => j ≤ i) (fun j => .int .i64 (j : Int))  (fun j => i - j) 0 (by (try dsimp only); exact (by omega)) rfl  ?_
        rintro j hj
        (try dsimp only at hj)
        show Run _ _ _ _ _ _ _ ⟨(13, .int .i64 (j : Int)) :: _, _⟩
        refine run_seq ?_
        refine run_seq ?_
        refine run_region ?_
        refine run_q (.none rfl) rfl rfl (q_move rfl rfl) ?_
        refine run_q (.none rfl) rfl rfl (q_move rfl rfl) ?_
        refine run_q (.none rfl) rfl rfl (q_lss rfl rfl rfl) ?_
        refine run_nil ?_
        refine run_cond rfl (fun g50 => ?_) (fun g50 => ?_)
        · have g50' := g50
          try simp only [decide_eq_true_eq, decide_eq_false_iff_not, beq_iff_eq, beq_eq_false_iff_ne, bne_iff_ne, bne_eq_false_iff_eq, Bool.not_eq_true', Bool.not_eq_false', ne_eq, Int.not_lt, Int.not_le, Decidable.not_not] at g50'
          refine run_skip ?_
          refine run_seq ?_
          refine run_block ?_
          refine run_seq ?_
          have hni := hall (nth (ordS xs) i) (ordS_mem (by omega))
          have hnj := hall (nth (ordS xs) j) (ordS_mem (by omega))
          have hbi := mk_bd (i := i) hgl2 rfl (by omega) hni (ground_bd (fun i => gs_bd hbA _ i)) (neg_bd (fun i => gs_bd hbB _ i))
          have hbj := mk_bd (i := j) hgl2 rfl (by omega) hnj (ground_bd (fun i => gs_bd hbA _ i)) (neg_bd (fun i => gs_bd hbB _ i))
          refine run_fork mixed (by kernel_rfl) .refl ?_
          refine b_q (i := 0) rfl (by kernel_rfl) (.none rfl) rfl rfl (q_move rfl rfl) ?_
          refine b_q (i := 1) rfl (by kernel_rfl) (.none rfl) rfl rfl (q_move rfl rfl) ?_
          refine b_q (i := 2) rfl (by kernel_rfl) (.none rfl) rfl rfl (q_indexS (q := j) rfl Try.underlying30 sz25 rfl rfl (.own Sel.here) (by rw [List.length_map, ordS_len]) rfl (by omega)) ?_
          refine b_q (i := 3) rfl (by kernel_rfl) (.none rfl) rfl rfl (q_loadE rfl agg25 rfl (.own Sel.here) (getmap (by rw [ordS_len]; omega)) rfl) ?_
          refine b_q (i := 4) rfl (by kernel_rfl) (.none rfl) rfl rfl (q_move rfl rfl) ?_
          refine b_q (i := 5) rfl (by kernel_rfl) (.none rfl) rfl rfl (q_move rfl rfl) ?_
          refine b_q (i := 6) rfl (by kernel_rfl) (.none rfl) rfl rfl (q_indexS (q := i) rfl Try.underlying30 sz25 rfl rfl (.own Sel.here) (by rw [List.length_map, ordS_len]) rfl (by omega)) ?_
          refine b_q (i := 7) rfl (by kernel_rfl) (.none rfl) rfl rfl (q_loadE rfl agg25 rfl (.own Sel.here) (getmap (by rw [ordS_len]; omega)) rfl) ?_
          refine b_two 8 9 (by kernel_rfl) ?_ ?_
          · refine b_h rfl (.none rfl) (h_alloc rfl rfl rfl info25) (fun _ _ => (.sub (by repeat (first | exact List.Sublist.refl _ | apply List.Sublist.cons)))) ?_
            rintro b14 -
            refine b_one 9 (by kernel_rfl) ?_
            refine b_h rfl (.none rfl) (h_alloc rfl rfl rfl info25) (fun _ _ => (.sub (by repeat (first | exact List.Sublist.refl _ | apply List.Sublist.cons)))) ?_
            rintro b15 -
            refine b_one 10 (by kernel_rfl) ?_
            refine b_h rfl (.none rfl) (h_storeB rfl rfl sz25 rfl rfl rfl rfl rfl (.there Sel.here) rfl) (fun _ _ => (.sub (by repeat (first | exact List.Sublist.refl _ | apply List.Sublist.cons)))) ?_
            rintro - -
            refine b_one 11 (by kernel_rfl) ?_
            refine b_h rfl (.none rfl) (h_storeB rfl rfl sz25 rfl rfl rfl rfl rfl (.there Sel.here) rfl) (fun _ _ => (.sub (by repeat (first | exact List.Sublist.refl _ | apply List.Sublist.cons)))) ?_
            rintro - -
            refine b_nil (by kernel_rfl) ?_
            refine run_sub (subMk (.cons (s := 1) rfl (.cons (s := 4) rfl (.cons (s := 9) rfl (.cons (s := 11) rfl (.cons (s := 12) rfl (.cons (s := 13) rfl (.cons (s := 14) rfl (.cons (s := 15) rfl .nil)))))))) .refl) ?_
            refine run_seq ?_
            refine run_seq ?_
            refine run_region ?_
            refine run_q (.none rfl) rfl rfl (q_fieldB (d := 0) rfl Try.underlying25 rfl rfl sz3 rfl) ?_
            refine run_q (.none rfl) rfl rfl (q_loadB rfl one3 rfl Sel.here rfl) ?_
            refine run_q (.none rfl) rfl rfl (q_neq rfl rfl rfl) ?_
            refine run_q (.none rfl) rfl rfl (q_move rfl rfl) ?_
            refine run_split 64 rfl (fun g64 => ?_) (fun g64 => ?_)
            · have g64' := g64
              try simp only [decide_eq_true_eq, decide_eq_false_iff_not, beq_iff_eq, beq_eq_false_iff_ne, bne_iff_ne, bne_eq_false_iff_eq, Bool.not_eq_true', Bool.not_eq_false', ne_eq, Int.not_lt, Int.not_le, Decidable.not_not] at g64'
              refine run_off (.no rfl rfl rfl g64) rfl rfl ?_
              refine run_off (.no rfl rfl rfl g64) rfl rfl ?_
              refine run_off (.no rfl rfl rfl g64) rfl rfl ?_
              refine run_off (.no rfl rfl rfl g64) rfl rfl ?_
              refine run_off (.no rfl rfl rfl g64) rfl rfl ?_
              refine run_q (.none rfl) rfl rfl (q_pickT rfl rfl g64 rfl) ?_
              refine run_q (.none rfl) rfl rfl (q_move rfl rfl) ?_
              refine run_off (.no rfl rfl rfl rfl) rfl rfl ?_
              refine run_off (.no rfl rfl rfl rfl) rfl rfl ?_
              refine run_off (.no rfl rfl rfl rfl) rfl rfl ?_
              refine run_off (.no rfl rfl rfl rfl) rfl rfl ?_
              refine run_off (.no rfl rfl rfl rfl) rfl rfl ?_
              refine run_q (.none rfl) rfl rfl (q_pickT rfl rfl rfl rfl) ?_
              refine run_q (.none rfl) rfl rfl (q_move rfl rfl) ?_
              refine run_off (.no rfl rfl rfl rfl) rfl rfl ?_
              refine run_off (.no rfl rfl rfl rfl) rfl rfl ?_
              refine run_off (.no rfl rfl rfl rfl) rfl rfl ?_
              refine run_off (.no rfl rfl rfl rfl) rfl rfl ?_
              refine run_off (.no rfl rfl rfl rfl) rfl rfl ?_
              refine run_q (.none rfl) rfl rfl (q_pickT rfl rfl rfl rfl) ?_
              refine run_nil ?_
              refine run_sub (subMk (.cons (s := 1) rfl (.cons (s := 4) rfl (.cons (s := 9) rfl (.cons (s := 11) rfl (.cons (s := 12) rfl (.cons (s := 13) rfl (.cons (s := 14) rfl (.cons (s := 84) rfl .nil)))))))) .refl) ?_
              refine run_condT rfl rfl ?_
              refine run_exit rfl ?_
              refine run_region ?_
              refine run_q (.none rfl) rfl rfl (q_move rfl rfl) ?_
              refine run_q (.none rfl) rfl rfl (q_add rfl rfl rfl (by omega)) ?_
              refine run_q (.none rfl) rfl rfl (q_assign rfl rfl) ?_
              refine run_nil ?_
              refine run_sub (subMk (.cons (s := 1) rfl (.cons (s := 4) rfl (.cons (s := 9) rfl (.cons (s := 11) rfl (.cons (s := 12) rfl (.cons (s := 13) rfl .nil)))))) .refl) ?_
              exact run_again (j + 1) (by (try dsimp only); exact (by omega)) (by (try dsimp only); omega) (subMk (.cons' (s := 13) rfl (vint (by omega)) (.cons (s := 1) rfl (.cons (s := 4) rfl (.cons (s := 9) rfl (.cons (s := 11) rfl (.cons (s := 12) rfl .nil)))))) (.cons (.there (.there Sel.here)) .refl (.cons (.there (.there Sel.here)) .refl (.cons (.there (.there Sel.here)) .refl (.cons (.there (.there Sel.here)) .refl (.cons (.there (.there Sel.here)) .refl (.cons (.there (.there Sel.here)) .refl (.cons (.there (.there Sel.here)) .refl (.cons (.there (.there Sel.here)) .refl (.cons (.there (.there Sel.here)) .refl (.cons (.there (.there Sel.here)) .refl (.cons (.there (.there Sel.here)) .refl .nil))))))))))))
            · have g64' := g64
              try simp only [decide_eq_true_eq, decide_eq_false_iff_not, beq_iff_eq, beq_eq_false_iff_ne, bne_iff_ne, bne_eq_false_iff_eq, Bool.not_eq_true', Bool.not_eq_false', ne_eq, Int.not_lt, Int.not_le, Decidable.not_not] at g64'
              refine run_q (.on rfl rfl rfl g64) rfl rfl (q_fieldB (d := 3) rfl Try.underlying25 rfl rfl sz3 rfl) ?_
              refine run_q (.on rfl rfl rfl g64) rfl rfl (q_loadB rfl one3 rfl (.there Sel.here) rfl) ?_
              refine run_q (.on rfl rfl rfl g64) rfl rfl (q_fieldB (d := 3) rfl Try.underlying25 rfl rfl sz3 rfl) ?_
              refine run_q (.on rfl rfl rfl g64) rfl rfl (q_loadB rfl one3 rfl Sel.here rfl) ?_
              refine run_q (.on rfl rfl rfl g64) rfl rfl (q_neq rfl rfl rfl) ?_
              refine run_q (.none rfl) rfl rfl (q_pickF rfl rfl g64 rfl) ?_
              refine run_q (.none rfl) rfl rfl (q_move rfl rfl) ?_
              refine run_split 71 rfl (fun g71 => ?_) (fun g71 => ?_)
              · have g71' := g71
                try simp only [decide_eq_true_eq, decide_eq_false_iff_not, beq_iff_eq, beq_eq_false_iff_ne, bne_iff_ne, bne_eq_false_iff_eq, Bool.not_eq_true', Bool.not_eq_false', ne_eq, Int.not_lt, Int.not_le, Decidable.not_not] at g71'
                refine run_off (.no rfl rfl rfl g71) rfl rfl ?_
                refine run_off (.no rfl rfl rfl g71) rfl rfl ?_
                refine run_off (.no rfl rfl rfl g71) rfl rfl ?_
                refine run_off (.no rfl rfl rfl g71) rfl rfl ?_
                refine run_off (.no rfl rfl rfl g71) rfl rfl ?_
                refine run_q (.none rfl) rfl rfl (q_pickT rfl rfl g71 rfl) ?_
                refine run_q (.none rfl) rfl rfl (q_move rfl rfl) ?_
                refine run_off (.no rfl rfl rfl rfl) rfl rfl ?_
                refine run_off (.no rfl rfl rfl rfl) rfl rfl ?_
                refine run_off (.no rfl rfl rfl rfl) rfl rfl ?_
                refine run_off (.no rfl rfl rfl rfl) rfl rfl ?_
                refine run_off (.no rfl rfl rfl rfl) rfl rfl ?_
                refine run_q (.none rfl) rfl rfl (q_pickT rfl rfl rfl rfl) ?_
                refine run_nil ?_
                refine run_sub (subMk (.cons (s := 1) rfl (.cons (s := 4) rfl (.cons (s := 9) rfl (.cons (s := 11) rfl (.cons (s := 12) rfl (.cons (s := 13) rfl (.cons (s := 14) rfl (.cons (s := 84) rfl .nil)))))))) .refl) ?_
                refine run_condT rfl rfl ?_
                refine run_exit rfl ?_
                refine run_region ?_
                refine run_q (.none rfl) rfl rfl (q_move rfl rfl) ?_
                refine run_q (.none rfl) rfl rfl (q_add rfl rfl rfl (by omega)) ?_
                refine run_q (.none rfl) rfl rfl (q_assign rfl rfl) ?_
                refine run_nil ?_
                refine run_sub (subMk (.cons (s := 1) rfl (.cons (s := 4) rfl (.cons (s := 9) rfl (.cons (s := 11) rfl (.cons (s := 12) rfl (.cons (s := 13) rfl .nil)))))) .refl) ?_
                exact run_again (j + 1) (by (try dsimp only); exact (by omega)) (by (try dsimp only); omega) (subMk (.cons' (s := 13) rfl (vint (by omega)) (.cons (s := 1) rfl (.cons (s := 4) rfl (.cons (s := 9) rfl (.cons (s := 11) rfl (.cons (s := 12) rfl .nil)))))) (.cons (.there (.there Sel.here)) .refl (.cons (.there (.there Sel.here)) .refl (.cons (.there (.there Sel.here)) .refl (.cons (.there (.there Sel.here)) .refl (.cons (.there (.there Sel.here)) .refl (.cons (.there (.there Sel.here)) .refl (.cons (.there (.there Sel.here)) .refl (.cons (.there (.there Sel.here)) .refl (.cons (.there (.there Sel.here)) .refl (.cons (.there (.there Sel.here)) .refl (.cons (.there (.there Sel.here)) .refl .nil))))))))))))
              · have g71' := g71
                try simp only [decide_eq_true_eq, decide_eq_false_iff_not, beq_iff_eq, beq_eq_false_iff_ne, bne_iff_ne, bne_eq_false_iff_eq, Bool.not_eq_true', Bool.not_eq_false', ne_eq, Int.not_lt, Int.not_le, Decidable.not_not] at g71'
                refine run_q (.on rfl rfl rfl g71) rfl rfl (q_fieldB (d := 7) rfl Try.underlying25 rfl rfl sz3 rfl) ?_
                refine run_q (.on rfl rfl rfl g71) rfl rfl (q_loadB rfl one3 rfl (.there Sel.here) rfl) ?_
                refine run_q (.on rfl rfl rfl g71) rfl rfl (q_fieldB (d := 6) rfl Try.underlying25 rfl rfl sz3 rfl) ?_
                refine run_q (.on rfl rfl rfl g71) rfl rfl (q_loadB rfl one3 rfl Sel.here rfl) ?_
                refine run_q (.on rfl rfl rfl g71) rfl rfl (q_lss rfl rfl rfl) ?_
                refine run_q (.none rfl) rfl rfl (q_pickF rfl rfl g71 rfl) ?_
                refine run_q (.none rfl) rfl rfl (q_move rfl rfl) ?_
                refine run_split 78 rfl (fun g78 => ?_) (fun g78 => ?_)
                · have g78' := g78
                  try simp only [decide_eq_true_eq, decide_eq_false_iff_not, beq_iff_eq, beq_eq_false_iff_ne, bne_iff_ne, bne_eq_false_iff_eq, Bool.not_eq_true', Bool.not_eq_false', ne_eq, Int.not_lt, Int.not_le, Decidable.not_not] at g78'
                  refine run_off (.no rfl rfl rfl g78) rfl rfl ?_
                  refine run_off (.no rfl rfl rfl g78) rfl rfl ?_
                  refine run_off (.no rfl rfl rfl g78) rfl rfl ?_
                  refine run_off (.no rfl rfl rfl g78) rfl rfl ?_
                  refine run_off (.no rfl rfl rfl g78) rfl rfl ?_
                  refine run_q (.none rfl) rfl rfl (q_pickT rfl rfl g78 rfl) ?_
                  refine run_nil ?_
                  refine run_sub (subMk (.cons (s := 1) rfl (.cons (s := 4) rfl (.cons (s := 9) rfl (.cons (s := 11) rfl (.cons (s := 12) rfl (.cons (s := 13) rfl (.cons (s := 14) rfl (.cons (s := 84) rfl .nil)))))))) .refl) ?_
                  refine run_condT rfl rfl ?_
                  refine run_exit rfl ?_
                  refine run_region ?_
                  refine run_q (.none rfl) rfl rfl (q_move rfl rfl) ?_
                  refine run_q (.none rfl) rfl rfl (q_add rfl rfl rfl (by omega)) ?_
                  refine run_q (.none rfl) rfl rfl (q_assign rfl rfl) ?_
                  refine run_nil ?_
                  refine run_sub (subMk (.cons (s := 1) rfl (.cons (s := 4) rfl (.cons (s := 9) rfl (.cons (s := 11) rfl (.cons (s := 12) rfl (.cons (s := 13) rfl .nil)))))) .refl) ?_
                  exact run_again (j + 1) (by (try dsimp only); exact (by omega)) (by (try dsimp only); omega) (subMk (.cons' (s := 13) rfl (vint (by omega)) (.cons (s := 1) rfl (.cons (s := 4) rfl (.cons (s := 9) rfl (.cons (s := 11) rfl (.cons (s := 12) rfl .nil)))))) (.cons (.there (.there Sel.here)) .refl (.cons (.there (.there Sel.here)) .refl (.cons (.there (.there Sel.here)) .refl (.cons (.there (.there Sel.here)) .refl (.cons (.there (.there Sel.here)) .refl (.cons (.there (.there Sel.here)) .refl (.cons (.there (.there Sel.here)) .refl (.cons (.there (.there Sel.here)) .refl (.cons (.there (.there Sel.here)) .refl (.cons (.there (.there Sel.here)) .refl (.cons (.there (.there Sel.here)) .refl .nil))))))))))))
                · have g78' := g78
                  try simp only [decide_eq_true_eq, decide_eq_false_iff_not, beq_iff_eq, beq_eq_false_iff_ne, bne_iff_ne, bne_eq_false_iff_eq, Bool.not_eq_true', Bool.not_eq_false', ne_eq, Int.not_lt, Int.not_le, Decidable.not_not] at g78'
                  refine run_q (.on rfl rfl rfl g78) rfl rfl (q_fieldB (d := 7) rfl Try.underlying25 rfl rfl sz3 rfl) ?_
                  refine run_q (.on rfl rfl rfl g78) rfl rfl (q_loadB rfl one3 rfl Sel.here rfl) ?_
                  refine run_q (.on rfl rfl rfl g78) rfl rfl (q_fieldB (d := 6) rfl Try.underlying25 rfl rfl sz3 rfl) ?_
                  refine run_q (.on rfl rfl rfl g78) rfl rfl (q_loadB rfl one3 rfl (.there Sel.here) rfl) ?_
                  refine run_q (.on rfl rfl rfl g78) rfl rfl (q_lss rfl rfl rfl) ?_
                  refine run_q (.none rfl) rfl rfl (q_pickF rfl rfl g78 rfl) ?_
                  refine run_nil ?_
                  refine run_sub (subMk (.cons (s := 1) rfl (.cons (s := 4) rfl (.cons (s := 9) rfl (.cons (s := 11) rfl (.cons (s := 12) rfl (.cons (s := 13) rfl (.cons (s := 14) rfl (.cons (s := 84) rfl .nil)))))))) .refl) ?_
                  refine run_cond rfl (fun g84 => ?_) (fun g84 => ?_)
                  · have g84' := g84
                    try simp only [decide_eq_true_eq, decide_eq_false_iff_not, beq_iff_eq, beq_eq_false_iff_ne, bne_iff_ne, bne_eq_false_iff_eq, Bool.not_eq_true', Bool.not_eq_false', ne_eq, Int.not_lt, Int.not_le, Decidable.not_not] at g84'
                    refine run_exit rfl ?_
                    refine run_region ?_
                    refine run_q (.none rfl) rfl rfl (q_move rfl rfl) ?_
                    refine run_q (.none rfl) rfl rfl (q_add rfl rfl rfl (by omega)) ?_
                    refine run_q (.none rfl) rfl rfl (q_assign rfl rfl) ?_
                    refine run_nil ?_
                    refine run_sub (subMk (.cons (s := 1) rfl (.cons (s := 4) rfl (.cons (s := 9) rfl (.cons (s := 11) rfl (.cons (s := 12) rfl (.cons (s := 13) rfl .nil)))))) .refl) ?_
                    exact run_again (j + 1) (by (try dsimp only); exact (by omega)) (by (try dsimp only); omega) (subMk (.cons' (s := 13) rfl (vint (by omega)) (.cons (s := 1) rfl (.cons (s := 4) rfl (.cons (s := 9) rfl (.cons (s := 11) rfl (.cons (s := 12) rfl .nil)))))) (.cons (.there (.there Sel.here)) .refl (.cons (.there (.there Sel.here)) .refl (.cons (.there (.there Sel.here)) .refl (.cons (.there (.there Sel.here)) .refl (.cons (.there (.there Sel.here)) .refl (.cons (.there (.there Sel.here)) .refl (.cons (.there (.there Sel.here)) .refl (.cons (.there (.there Sel.here)) .refl (.cons (.there (.there Sel.here)) .refl (.cons (.there (.there Sel.here)) .refl (.cons (.there (.there Sel.here)) .refl .nil))))))))))))
                  · have g84' := g84
                    try simp only [decide_eq_true_eq, decide_eq_false_iff_not, beq_iff_eq, beq_eq_false_iff_ne, bne_iff_ne, bne_eq_false_iff_eq, Bool.not_eq_true', Bool.not_eq_false', ne_eq, Int.not_lt, Int.not_le, Decidable.not_not] at g84'
                    refine run_skip ?_
                    refine run_seq ?_
                    have hnp := nest_mk (ys := ordS xs) (a := (gs la (gN la))) (b := (negL (gs lb (gN la)))) hgl2 rfl (show j < i by omega) (show i < xs.length by omega) hEs (by omega) (by omega) hni hnj (by omega) (by omega)
                    refine run_fork mixed (by kernel_rfl) .refl ?_
                    refine b_q (i := 0) rfl (by kernel_rfl) (.none rfl) rfl rfl (q_fieldB (d := 3) rfl Try.underlying25 rfl rfl sz3 rfl) ?_
                    refine b_q (i := 1) rfl (by kernel_rfl) (.none rfl) rfl rfl (q_loadB rfl one3 rfl (.there Sel.here) rfl) ?_
                    refine b_q (i := 2) rfl (by kernel_rfl) (.none rfl) rfl rfl (q_gtr rfl rfl rfl) ?_
                    refine b_q (i := 3) rfl (by kernel_rfl) (.none rfl) rfl rfl (q_move rfl rfl) ?_
                    refine b_split 88 rfl (fun g88 => ?_) (fun g88 => ?_)
                    · have g88' := g88
                      try simp only [decide_eq_true_eq, decide_eq_false_iff_not, beq_iff_eq, beq_eq_false_iff_ne, bne_iff_ne, bne_eq_false_iff_eq, Bool.not_eq_true', Bool.not_eq_false', ne_eq, Int.not_lt, Int.not_le, Decidable.not_not] at g88'
                      refine b_q (i := 4) rfl (by kernel_rfl) (.on rfl rfl rfl g88) rfl rfl (q_move rfl rfl) ?_
                      refine b_q (i := 5) rfl (by kernel_rfl) (.on rfl rfl rfl g88) rfl rfl (q_move rfl rfl) ?_
                      refine b_q (i := 6) rfl (by kernel_rfl) (.on rfl rfl rfl g88) rfl rfl (q_indexS (q := i) rfl Try.underlying43 sz49 rfl rfl (.own (.there (.there (.there Sel.here)))) (by rw [List.length_map, slMs_len]) rfl (by omega)) ?_
                      refine b_q (i := 7) rfl (by kernel_rfl) (.on rfl rfl rfl g88) rfl rfl (q_fieldAddr (d := 8) rfl Try.underlying49 rfl rfl sz47 rfl) ?_
                      refine b_q (i := 8) rfl (by kernel_rfl) (.on rfl rfl rfl g88) rfl rfl (q_fieldF (d2 := 9) rfl Try.underlying47 rfl rfl sz3 rfl) ?_
                      refine b_q (i := 9) rfl (by kernel_rfl) (.on rfl rfl rfl g88) rfl rfl (q_loadF rfl one3 rfl (.own (.there (.there (.there Sel.here)))) (at_mk (by omega)) rfl) ?_
                      refine b_q (i := 10) rfl (by kernel_rfl) (.on rfl rfl rfl g88) rfl rfl (q_move rfl rfl) ?_
                      refine b_q (i := 11) rfl (by kernel_rfl) (.on rfl rfl rfl g88) rfl rfl (q_move rfl rfl) ?_
                      refine b_q (i := 12) rfl (by kernel_rfl) (.on rfl rfl rfl g88) rfl rfl (q_indexS (q := j) rfl Try.underlying43 sz49 rfl rfl (.own (.there (.there (.there Sel.here)))) (by rw [List.length_map, slMs_len]) rfl (by omega)) ?_
                      refine b_q (i := 13) rfl (by kernel_rfl) (.on rfl rfl rfl g88) rfl rfl (q_fieldAddr (d := 8) rfl Try.underlying49 rfl rfl sz47 rfl) ?_
                      refine b_q (i := 14) rfl (by kernel_rfl) (.on rfl rfl rfl g88) rfl rfl (q_fieldF (d2 := 11) rfl Try.underlying47 rfl rfl sz3 rfl) ?_
                      refine b_q (i := 15) rfl (by kernel_rfl) (.on rfl rfl rfl g88) rfl rfl (q_loadF rfl one3 rfl (.own (.there (.there (.there Sel.here)))) (at_mk (by omega)) rfl) ?_
                      refine b_q (i := 16) rfl (by kernel_rfl) (.on rfl rfl rfl g88) rfl rfl (q_add rfl rfl rfl (by omega)) ?_
                      refine b_q (i := 17) rfl (by kernel_rfl) (.on rfl rfl rfl g88) rfl rfl (q_lss rfl rfl rfl) ?_
                      refine b_q (i := 18) rfl (by kernel_rfl) (.none rfl) rfl rfl (q_pickT rfl rfl g88 rfl) ?_
                      refine b_q (i := 19) rfl (by kernel_rfl) (.none rfl) rfl rfl (q_move rfl rfl) ?_
                      refine b_q (i := 20) rfl (by kernel_rfl) (.on rfl rfl rfl (decide_eq_false (by have := hnp.1 (by omega); omega))) rfl rfl (q_fieldB (d := 3) rfl Try.underlying25 rfl rfl sz3 rfl) ?_
                      refine b_q (i := 21) rfl (by kernel_rfl) (.on rfl rfl rfl (decide_eq_false (by have := hnp.1 (by omega); omega))) rfl rfl (q_loadB rfl one3 rfl (.there Sel.here) rfl) ?_
                      refine b_q (i := 22) rfl (by kernel_rfl) (.on rfl rfl rfl (decide_eq_false (by have := hnp.1 (by omega); omega))) rfl rfl (q_lss rfl rfl rfl) ?_
                      refine b_q (i := 23) rfl (by kernel_rfl) (.on rfl rfl rfl (decide_eq_false (by have := hnp.1 (by omega); omega))) rfl rfl (q_move rfl rfl) ?_
                      refine b_split 108 rfl (fun g108 => ?_) (fun g108 => ?_)
                      · have g108' := g108
                        try simp only [decide_eq_true_eq, decide_eq_false_iff_not, beq_iff_eq, beq_eq_false_iff_ne, bne_iff_ne, bne_eq_false_iff_eq, Bool.not_eq_true', Bool.not_eq_false', ne_eq, Int.not_lt, Int.not_le, Decidable.not_not] at g108'
                        refine b_q (i := 24) rfl (by kernel_rfl) (.on rfl rfl rfl g108) rfl rfl (q_move rfl rfl) ?_
                        refine b_q (i := 25) rfl (by kernel_rfl) (.on rfl rfl rfl g108) rfl rfl (q_move rfl rfl) ?_
                        refine b_q (i := 26) rfl (by kernel_rfl) (.on rfl rfl rfl g108) rfl rfl (q_indexS (q := i) rfl Try.underlying43 sz49 rfl rfl (.own (.there (.there (.there Sel.here)))) (by rw [List.length_map, slMs_len]) rfl (by omega)) ?_
                        refine b_q (i := 27) rfl (by kernel_rfl) (.on rfl rfl rfl g108) rfl rfl (q_fieldAddr (d := 8) rfl Try.underlying49 rfl rfl sz47 rfl) ?_
                        refine b_q (i := 28) rfl (by kernel_rfl) (.on rfl rfl rfl g108) rfl rfl (q_fieldF (d2 := 11) rfl Try.underlying47 rfl rfl sz3 rfl) ?_
                        refine b_q (i := 29) rfl (by kernel_rfl) (.on rfl rfl rfl g108) rfl rfl (q_loadF rfl one3 rfl (.own (.there (.there (.there Sel.here)))) (at_mk (by omega)) rfl) ?_
                        refine b_q (i := 30) rfl (by kernel_rfl) (.on rfl rfl rfl g108) rfl rfl (q_move rfl rfl) ?_
                        refine b_q (i := 31) rfl (by kernel_rfl) (.on rfl rfl rfl g108) rfl rfl (q_move rfl rfl) ?_
                        refine b_q (i := 32) rfl (by kernel_rfl) (.on rfl rfl rfl g108) rfl rfl (q_indexS (q := j) rfl Try.underlying43 sz49 rfl rfl (.own (.there (.there (.there Sel.here)))) (by rw [List.length_map, slMs_len]) rfl (by omega)) ?_
                        refine b_q (i := 33) rfl (by kernel_rfl) (.on rfl rfl rfl g108) rfl rfl (q_fieldAddr (d := 8) rfl Try.underlying49 rfl rfl sz47 rfl) ?_
                        refine b_q (i := 34) rfl (by kernel_rfl) (.on rfl rfl rfl g108) rfl rfl (q_fieldF (d2 := 9) rfl Try.underlying47 rfl rfl sz3 rfl) ?_
                        refine b_q (i := 35) rfl (by kernel_rfl) (.on rfl rfl rfl g108) rfl rfl (q_loadF rfl one3 rfl (.own (.there (.there (.there Sel.here)))) (at_mk (by omega)) rfl) ?_
                        refine b_q (i := 36) rfl (by kernel_rfl) (.on rfl rfl rfl g108) rfl rfl (q_sub rfl rfl rfl (by omega)) ?_
                        refine b_q (i := 37) rfl (by kernel_rfl) (.on rfl rfl rfl g108) rfl rfl (q_gtr rfl rfl rfl) ?_
                        refine b_q (i := 38) rfl (by kernel_rfl) (.on rfl rfl rfl (decide_eq_false (by have := hnp.1 (by omega); omega))) rfl rfl (q_pickT rfl rfl g108 rfl) ?_
                        refine b_q (i := 39) rfl (by kernel_rfl) (.none rfl) rfl rfl (q_pickF rfl rfl (decide_eq_false (by have := hnp.1 (by omega); omega)) rfl) ?_
                        refine b_nil (by kernel_rfl) ?_
                        refine run_sub (subMk (.cons (s := 1) rfl (.cons (s := 4) rfl (.cons (s := 9) rfl (.cons (s := 11) rfl (.cons (s := 12) rfl (.cons (s := 13) rfl (.cons (s := 124) rfl .nil))))))) .refl) ?_
                        refine run_condF rfl (decide_eq_false (by have := hnp.1 (by omega); omega)) ?_
                        refine run_skip ?_
                        refine run_blk ?_
                        refine run_region ?_
                        refine run_q (.none rfl) rfl rfl (q_move rfl rfl) ?_
                        refine run_q (.none rfl) rfl rfl (q_add rfl rfl rfl (by omega)) ?_
                        refine run_q (.none rfl) rfl rfl (q_assign rfl rfl) ?_
                        refine run_nil ?_
                        refine run_sub (subMk (.cons (s := 1) rfl (.cons (s := 4) rfl (.cons (s := 9) rfl (.cons (s := 11) rfl (.cons (s := 12) rfl (.cons (s := 13) rfl .nil)))))) .refl) ?_
                        exact run_again (j + 1) (by (try dsimp only); exact (by omega)) (by (try dsimp only); omega) (subMk (.cons' (s := 13) rfl (vint (by omega)) (.cons (s := 1) rfl (.cons (s := 4) rfl (.cons (s := 9) rfl (.cons (s := 11) rfl (.cons (s := 12) rfl .nil)))))) (.cons (.there (.there Sel.here)) .refl (.cons (.there (.there Sel.here)) .refl (.cons (.there (.there Sel.here)) .refl (.cons (.there (.there Sel.here)) .refl (.cons (.there (.there Sel.here)) .refl (.cons (.there (.there Sel.here)) .refl (.cons (.there (.there Sel.here)) .refl (.cons (.there (.there Sel.here)) .refl (.cons (.there (.there Sel.here)) .refl (.cons (.there (.there Sel.here)) .refl (.cons (.there (.there Sel.here)) .refl .nil))))))))))))
                      · have g108' := g108
                        try simp only [decide_eq_true_eq, decide_eq_false_iff_not, beq_iff_eq, beq_eq_false_iff_ne, bne_iff_ne, bne_eq_false_iff_eq, Bool.not_eq_true', Bool.not_eq_false', ne_eq, Int.not_lt, Int.not_le, Decidable.not_not] at g108'
                        refine b_off (i := 24) rfl (by kernel_rfl) (.no rfl rfl rfl g108) rfl rfl ?_
                        refine b_off (i := 25) rfl (by kernel_rfl) (.no rfl rfl rfl g108) rfl rfl ?_
                        refine b_off (i := 26) rfl (by kernel_rfl) (.no rfl rfl rfl g108) rfl rfl ?_
                        refine b_off (i := 27) rfl (by kernel_rfl) (.no rfl rfl rfl g108) rfl rfl ?_
                        refine b_off (i := 28) rfl (by kernel_rfl) (.no rfl rfl rfl g108) rfl rfl ?_
                        refine b_off (i := 29) rfl (by kernel_rfl) (.no rfl rfl rfl g108) rfl rfl ?_
                        refine b_off (i := 30) rfl (by kernel_rfl) (.no rfl rfl rfl g108) rfl rfl ?_
                        refine b_off (i := 31) rfl (by kernel_rfl) (.no rfl rfl rfl g108) rfl rfl ?_
                        refine b_off (i := 32) rfl (by kernel_rfl) (.no rfl rfl rfl g108) rfl rfl ?_
                        refine b_off (i := 33) rfl (by kernel_rfl) (.no rfl rfl rfl g108) rfl rfl ?_
                        refine b_off (i := 34) rfl (by kernel_rfl) (.no rfl rfl rfl g108) rfl rfl ?_
                        refine b_off (i := 35) rfl (by kernel_rfl) (.no rfl rfl rfl g108) rfl rfl ?_
                        refine b_off (i := 36) rfl (by kernel_rfl) (.no rfl rfl rfl g108) rfl rfl ?_
                        refine b_off (i := 37) rfl (by kernel_rfl) (.no rfl rfl rfl g108) rfl rfl ?_
                        refine b_q (i := 38) rfl (by kernel_rfl) (.on rfl rfl rfl (decide_eq_false (by have := hnp.1 (by omega); omega))) rfl rfl (q_pickF rfl rfl g108 rfl) ?_
                        refine b_q (i := 39) rfl (by kernel_rfl) (.none rfl) rfl rfl (q_pickF rfl rfl (decide_eq_false (by have := hnp.1 (by omega); omega)) rfl) ?_
                        refine b_nil (by kernel_rfl) ?_
                        refine run_sub (subMk (.cons (s := 1) rfl (.cons (s := 4) rfl (.cons (s := 9) rfl (.cons (s := 11) rfl (.cons (s := 12) rfl (.cons (s := 13) rfl (.cons (s := 124) rfl .nil))))))) .refl) ?_
                        refine run_condF rfl rfl ?_
                        refine run_skip ?_
                        refine run_blk ?_
                        refine run_region ?_
                        refine run_q (.none rfl) rfl rfl (q_move rfl rfl) ?_
                        refine run_q (.none rfl) rfl rfl (q_add rfl rfl rfl (by omega)) ?_
                        refine run_q (.none rfl) rfl rfl (q_assign rfl rfl) ?_
                        refine run_nil ?_
                        refine run_sub (subMk (.cons (s := 1) rfl (.cons (s := 4) rfl (.cons (s := 9) rfl (.cons (s := 11) rfl (.cons (s := 12) rfl (.cons (s := 13) rfl .nil)))))) .refl) ?_
                        exact run_again (j + 1) (by (try dsimp only); exact (by omega)) (by (try dsimp only); omega) (subMk (.cons' (s := 13) rfl (vint (by omega)) (.cons (s := 1) rfl (.cons (s := 4) rfl (.cons (s := 9) rfl (.cons (s := 11) rfl (.cons (s := 12) rfl .nil)))))) (.cons (.there (.there Sel.here)) .refl (.cons (.there (.there Sel.here)) .refl (.cons (.there (.there Sel.here)) .refl (.cons (.there (.there Sel.here)) .refl (.cons (.there (.there Sel.here)) .refl (.cons (.there (.there Sel.here)) .refl (.cons (.there (.there Sel.here)) .refl (.cons (.there (.there Sel.here)) .refl (.cons (.there (.there Sel.here)) .refl (.cons (.there (.there Sel.here)) .refl (.cons (.there (.there Sel.here)) .refl .nil))))))))))))
                    · have g88' := g88
                      try simp only [decide_eq_true_eq, decide_eq_false_iff_not, beq_iff_eq, beq_eq_false_iff_ne, bne_iff_ne, bne_eq_false_iff_eq, Bool.not_eq_true', Bool.not_eq_false', ne_eq, Int.not_lt, Int.not_le, Decidable.not_not] at g88'
                      refine b_off (i := 4) rfl (by kernel_rfl) (.no rfl rfl rfl g88) rfl rfl ?_
                      refine b_off (i := 5) rfl (by kernel_rfl) (.no rfl rfl rfl g88) rfl rfl ?_
                      refine b_off (i := 6) rfl (by kernel_rfl) (.no rfl rfl rfl g88) rfl rfl ?_
                      refine b_off (i := 7) rfl (by kernel_rfl) (.no rfl rfl rfl g88) rfl rfl ?_
                      refine b_off (i := 8) rfl (by kernel_rfl) (.no rfl rfl rfl g88) rfl rfl ?_
                      refine b_off (i := 9) rfl (by kernel_rfl) (.no rfl rfl rfl g88) rfl rfl ?_
                      refine b_off (i := 10) rfl (by kernel_rfl) (.no rfl rfl rfl g88) rfl rfl ?_
                      refine b_off (i := 11) rfl (by kernel_rfl) (.no rfl rfl rfl g88) rfl rfl ?_
                      refine b_off (i := 12) rfl (by kernel_rfl) (.no rfl rfl rfl g88) rfl rfl ?_
                      refine b_off (i := 13) rfl (by kernel_rfl) (.no rfl rfl rfl g88) rfl rfl ?_
                      refine b_off (i := 14) rfl (by kernel_rfl) (.no rfl rfl rfl g88) rfl rfl ?_
                      refine b_off (i := 15) rfl (by kernel_rfl) (.no rfl rfl rfl g88) rfl rfl ?_
                      refine b_off (i := 16) rfl (by kernel_rfl) (.no rfl rfl rfl g88) rfl rfl ?_
                      refine b_off (i := 17) rfl (by kernel_rfl) (.no rfl rfl rfl g88) rfl rfl ?_
                      refine b_q (i := 18) rfl (by kernel_rfl) (.none rfl) rfl rfl (q_pickF rfl rfl g88 rfl) ?_
                      refine b_q (i := 19) rfl (by kernel_rfl) (.none rfl) rfl rfl (q_move rfl rfl) ?_
                      refine b_q (i := 20) rfl (by kernel_rfl) (.on rfl rfl rfl rfl) rfl rfl (q_fieldB (d := 3) rfl Try.underlying25 rfl rfl sz3 rfl) ?_
                      refine b_q (i := 21) rfl (by kernel_rfl) (.on rfl rfl rfl rfl) rfl rfl (q_loadB rfl one3 rfl (.there Sel.here) rfl) ?_
                      refine b_q (i := 22) rfl (by kernel_rfl) (.on rfl rfl rfl rfl) rfl rfl (q_lss rfl rfl rfl) ?_
                      refine b_q (i := 23) rfl (by kernel_rfl) (.on rfl rfl rfl rfl) rfl rfl (q_move rfl rfl) ?_
                      refine b_split 108 rfl (fun g108 => ?_) (fun g108 => ?_)
                      · have g108' := g108
                        try simp only [decide_eq_true_eq, decide_eq_false_iff_not, beq_iff_eq, beq_eq_false_iff_ne, bne_iff_ne, bne_eq_false_iff_eq, Bool.not_eq_true', Bool.not_eq_false', ne_eq, Int.not_lt, Int.not_le, Decidable.not_not] at g108'
                        refine b_q (i := 24) rfl (by kernel_rfl) (.on rfl rfl rfl g108) rfl rfl (q_move rfl rfl) ?_
                        refine b_q (i := 25) rfl (by kernel_rfl) (.on rfl rfl rfl g108) rfl rfl (q_move rfl rfl) ?_
                        refine b_q (i := 26) rfl (by kernel_rfl) (.on rfl rfl rfl g108) rfl rfl (q_indexS (q := i) rfl Try.underlying43 sz49 rfl rfl (.own (.there (.there (.there Sel.here)))) (by rw [List.length_map, slMs_len]) rfl (by omega)) ?_
                        refine b_q (i := 27) rfl (by kernel_rfl) (.on rfl rfl rfl g108) rfl rfl (q_fieldAddr (d := 8) rfl Try.underlying49 rfl rfl sz47 rfl) ?_
                        refine b_q (i := 28) rfl (by kernel_rfl) (.on rfl rfl rfl g108) rfl rfl (q_fieldF (d2 := 11) rfl Try.underlying47 rfl rfl sz3 rfl) ?_
                        refine b_q (i := 29) rfl (by kernel_rfl) (.on rfl rfl rfl g108) rfl rfl (q_loadF rfl one3 rfl (.own (.there (.there (.there Sel.here)))) (at_mk (by omega)) rfl) ?_
                        refine b_q (i := 30) rfl (by kernel_rfl) (.on rfl rfl rfl g108) rfl rfl (q_move rfl rfl) ?_
                        refine b_q (i := 31) rfl (by kernel_rfl) (.on rfl rfl rfl g108) rfl rfl (q_move rfl rfl) ?_
                        refine b_q (i := 32) rfl (by kernel_rfl) (.on rfl rfl rfl g108) rfl rfl (q_indexS (q := j) rfl Try.underlying43 sz49 rfl rfl (.own (.there (.there (.there Sel.here)))) (by rw [List.length_map, slMs_len]) rfl (by omega)) ?_
                        refine b_q (i := 33) rfl (by kernel_rfl) (.on rfl rfl rfl g108) rfl rfl (q_fieldAddr (d := 8) rfl Try.underlying49 rfl rfl sz47 rfl) ?_
                        refine b_q (i := 34) rfl (by kernel_rfl) (.on rfl rfl rfl g108) rfl rfl (q_fieldF (d2 := 9) rfl Try.underlying47 rfl rfl sz3 rfl) ?_
                        refine b_q (i := 35) rfl (by kernel_rfl) (.on rfl rfl rfl g108) rfl rfl (q_loadF rfl one3 rfl (.own (.there (.there (.there Sel.here)))) (at_mk (by omega)) rfl) ?_
                        refine b_q (i := 36) rfl (by kernel_rfl) (.on rfl rfl rfl g108) rfl rfl (q_sub rfl rfl rfl (by omega)) ?_
                        refine b_q (i := 37) rfl (by kernel_rfl) (.on rfl rfl rfl g108) rfl rfl (q_gtr rfl rfl rfl) ?_
                        refine b_q (i := 38) rfl (by kernel_rfl) (.on rfl rfl rfl rfl) rfl rfl (q_pickT rfl rfl g108 rfl) ?_
                        refine b_q (i := 39) rfl (by kernel_rfl) (.none rfl) rfl rfl (q_pickF rfl rfl rfl rfl) ?_
                        refine b_nil (by kernel_rfl) ?_
                        refine run_sub (subMk (.cons (s := 1) rfl (.cons (s := 4) rfl (.cons (s := 9) rfl (.cons (s := 11) rfl (.cons (s := 12) rfl (.cons (s := 13) rfl (.cons (s := 124) rfl .nil))))))) .refl) ?_
                        refine run_condF rfl (decide_eq_false (by have := hnp.2 (by omega); omega)) ?_
                        refine run_skip ?_
                        refine run_blk ?_
                        refine run_region ?_
                        refine run_q (.none rfl) rfl rfl (q_move rfl rfl) ?_
                        refine run_q (.none rfl) rfl rfl (q_add rfl rfl rfl (by omega)) ?_
                        refine run_q (.none rfl) rfl rfl (q_assign rfl rfl) ?_
                        refine run_nil ?_
                        refine run_sub (subMk (.cons (s := 1) rfl (.cons (s := 4) rfl (.cons (s := 9) rfl (.cons (s := 11) rfl (.cons (s := 12) rfl (.cons (s := 13) rfl .nil)))))) .refl) ?_
                        exact run_again (j + 1) (by (try dsimp only); exact (by omega)) (by (try dsimp only); omega) (subMk (.cons' (s := 13) rfl (vint (by omega)) (.cons (s := 1) rfl (.cons (s := 4) rfl (.cons (s := 9) rfl (.cons (s := 11) rfl (.cons (s := 12) rfl .nil)))))) (.cons (.there (.there Sel.here)) .refl (.cons (.there (.there Sel.here)) .refl (.cons (.there (.there Sel.here)) .refl (.cons (.there (.there Sel.here)) .refl (.cons (.there (.there Sel.here)) .refl (.cons (.there (.there Sel.here)) .refl (.cons (.there (.there Sel.here)) .refl (.cons (.there (.there Sel.here)) .refl (.cons (.there (.there Sel.here)) .refl (.cons (.there (.there Sel.here)) .refl (.cons (.there (.there Sel.here)) .refl .nil))))))))))))
                      · have g108' := g108
                        try simp only [decide_eq_true_eq, decide_eq_false_iff_not, beq_iff_eq, beq_eq_false_iff_ne, bne_iff_ne, bne_eq_false_iff_eq, Bool.not_eq_true', Bool.not_eq_false', ne_eq, Int.not_lt, Int.not_le, Decidable.not_not] at g108'
                        refine b_off (i := 24) rfl (by kernel_rfl) (.no rfl rfl rfl g108) rfl rfl ?_
                        refine b_off (i := 25) rfl (by kernel_rfl) (.no rfl rfl rfl g108) rfl rfl ?_
                        refine b_off (i := 26) rfl (by kernel_rfl) (.no rfl rfl rfl g108) rfl rfl ?_
                        refine b_off (i := 27) rfl (by kernel_rfl) (.no rfl rfl rfl g108) rfl rfl ?_
                        refine b_off (i := 28) rfl (by kernel_rfl) (.no rfl rfl rfl g108) rfl rfl ?_
                        refine b_off (i := 29) rfl (by kernel_rfl) (.no rfl rfl rfl g108) rfl rfl ?_
                        refine b_off (i := 30) rfl (by kernel_rfl) (.no rfl rfl rfl g108) rfl rfl ?_
                        refine b_off (i := 31) rfl (by kernel_rfl) (.no rfl rfl rfl g108) rfl rfl ?_
                        refine b_off (i := 32) rfl (by kernel_rfl) (.no rfl rfl rfl g108) rfl rfl ?_
                        refine b_off (i := 33) rfl (by kernel_rfl) (.no rfl rfl rfl g108) rfl rfl ?_
                        refine b_off (i := 34) rfl (by kernel_rfl) (.no rfl rfl rfl g108) rfl rfl ?_
                        refine b_off (i := 35) rfl (by kernel_rfl) (.no rfl rfl rfl g108) rfl rfl ?_
                        refine b_off (i := 36) rfl (by kernel_rfl) (.no rfl rfl rfl g108) rfl rfl ?_
                        refine b_off (i := 37) rfl (by kernel_rfl) (.no rfl rfl rfl g108) rfl rfl ?_
                        refine b_q (i := 38) rfl (by kernel_rfl) (.on rfl rfl rfl rfl) rfl rfl (q_pickF rfl rfl g108 rfl) ?_
                        refine b_q (i := 39) rfl (by kernel_rfl) (.none rfl) rfl rfl (q_pickF rfl rfl rfl rfl) ?_
                        refine b_nil (by kernel_rfl) ?_
                        refine run_sub (subMk (.cons (s := 1) rfl (.cons (s := 4) rfl (.cons (s := 9) rfl (.cons (s := 11) rfl (.cons (s := 12) rfl (.cons (s := 13) rfl (.cons (s := 124) rfl .nil))))))) .refl) ?_
                        refine run_condF rfl rfl ?_
                        refine run_skip ?_
                        refine run_blk ?_
                        refine run_region ?_
                        refine run_q (.none rfl) rfl rfl (q_move rfl rfl) ?_
                        refine run_q (.none rfl) rfl rfl (q_add rfl rfl rfl (by omega)) ?_
                        refine run_q (.none rfl) rfl rfl (q_assign rfl rfl) ?_
                        refine run_nil ?_
                        refine run_sub (subMk (.cons (s := 1) rfl (.cons (s := 4) rfl (.cons (s := 9) rfl (.cons (s := 11) rfl (.cons (s := 12) rfl (.cons (s := 13) rfl .nil)))))) .refl) ?_
                        exact run_again (j + 1) (by (try dsimp only); exact (by omega)) (by (try dsimp only); omega) (subMk (.cons' (s := 13) rfl (vint (by omega)) (.cons (s := 1) rfl (.cons (s := 4) rfl (.cons (s := 9) rfl (.cons (s := 11) rfl (.cons (s := 12) rfl .nil)))))) (.cons (.there (.there Sel.here)) .refl (.cons (.there (.there Sel.here)) .refl (.cons (.there (.there Sel.here)) .refl (.cons (.there (.there Sel.here)) .refl (.cons (.there (.there Sel.here)) .refl (.cons (.there (.there Sel.here)) .refl (.cons (.there (.there Sel.here)) .refl (.cons (.there (.there Sel.here)) .refl (.cons (.there (.there Sel.here)) .refl (.cons (.there (.there Sel.here)) .refl (.cons (.there (.there Sel.here)) .refl .nil))))))))))))
          · refine b_h rfl (.none rfl) (h_alloc rfl rfl rfl info25) (fun _ _ => (.sub (by repeat (first | exact List.Sublist.refl _ | apply List.Sublist.cons)))) ?_
            rintro b15 -
            refine b_one 8 (by kernel_rfl) ?_
            refine b_h rfl (.none rfl) (h_alloc rfl rfl rfl info25) (fun _ _ => (.sub (by repeat (first | exact List.Sublist.refl _ | apply List.Sublist.cons)))) ?_
            rintro b14 -
            refine b_one 10 (by kernel_rfl) ?_
            refine b_h rfl (.none rfl) (h_storeB rfl rfl sz25 rfl rfl rfl rfl rfl Sel.here rfl) (fun _ _ => (.sub (by repeat (first | exact List.Sublist.refl _ | apply List.Sublist.cons)))) ?_
            rintro - -
            refine b_one 11 (by kernel_rfl) ?_
            refine b_h rfl (.none rfl) (h_storeB rfl rfl sz25 rfl rfl rfl rfl rfl (.there Sel.here) rfl) (fun _ _ => (.sub (by repeat (first | exact List.Sublist.refl _ | apply List.Sublist.cons)))) ?_
            rintro - -
            refine b_nil (by kernel_rfl) ?_
            refine run_sub (subMk (.cons (s := 1) rfl (.cons (s := 4) rfl (.cons (s := 9) rfl (.cons (s := 11) rfl (.cons (s := 12) rfl (.cons (s := 13) rfl (.cons (s := 14) rfl (.cons (s := 15) rfl .nil)))))))) .refl) ?_
            refine run_seq ?_
            refine run_seq ?_
            refine run_region ?_
            refine run_q (.none rfl) rfl rfl (q_fieldB (d := 0) rfl Try.underlying25 rfl rfl sz3 rfl) ?_
            refine run_q (.none rfl) rfl rfl (q_loadB rfl one3 rfl Sel.here rfl) ?_
            refine run_q (.none rfl) rfl rfl (q_neq rfl rfl rfl) ?_
            refine run_q (.none rfl) rfl rfl (q_move rfl rfl) ?_
            refine run_split 64 rfl (fun g64 => ?_) (fun g64 => ?_)
            · have g64' := g64
              try simp only [decide_eq_true_eq, decide_eq_false_iff_not, beq_iff_eq, beq_eq_false_iff_ne, bne_iff_ne, bne_eq_false_iff_eq, Bool.not_eq_true', Bool.not_eq_false', ne_eq, Int.not_lt, Int.not_le, Decidable.not_not] at g64'
              refine run_off (.no rfl rfl rfl g64) rfl rfl ?_
              refine run_off (.no rfl rfl rfl g64) rfl rfl ?_
              refine run_off (.no rfl rfl rfl g64) rfl rfl ?_
              refine run_off (.no rfl rfl rfl g64) rfl rfl ?_
              refine run_off (.no rfl rfl rfl g64) rfl rfl ?_
              refine run_q (.none rfl) rfl rfl (q_pickT rfl rfl g64 rfl) ?_
              refine run_q (.none rfl) rfl rfl (q_move rfl rfl) ?_
              refine run_off (.no rfl rfl rfl rfl) rfl rfl ?_
              refine run_off (.no rfl rfl rfl rfl) rfl rfl ?_
              refine run_off (.no rfl rfl rfl rfl) rfl rfl ?_
              refine run_off (.no rfl rfl rfl rfl) rfl rfl ?_
              refine run_off (.no rfl rfl rfl rfl) rfl rfl ?_
              refine run_q (.none rfl) rfl rfl (q_pickT rfl rfl rfl rfl) ?_
              refine run_q (.none rfl) rfl rfl (q_move rfl rfl) ?_
              refine run_off (.no rfl rfl rfl rfl) rfl rfl ?_
              refine run_off (.no rfl rfl rfl rfl) rfl rfl ?_
              refine run_off (.no rfl rfl rfl rfl) rfl rfl ?_
              refine run_off (.no rfl rfl rfl rfl) rfl rfl ?_
              refine run_off (.no rfl rfl rfl rfl) rfl rfl ?_
              refine run_q (.none rfl) rfl rfl (q_pickT rfl rfl rfl rfl) ?_
              refine run_nil ?_
              refine run_sub (subMk (.cons (s := 1) rfl (.cons (s := 4) rfl (.cons (s := 9) rfl (.cons (s := 11) rfl (.cons (s := 12) rfl (.cons (s := 13) rfl (.cons (s := 14) rfl (.cons (s := 84) rfl .nil)))))))) .refl) ?_
              refine run_condT rfl rfl ?_
              refine run_exit rfl ?_
              refine run_region ?_
              refine run_q (.none rfl) rfl rfl (q_move rfl rfl) ?_
              refine run_q (.none rfl) rfl rfl (q_add rfl rfl rfl (by omega)) ?_
              refine run_q (.none rfl) rfl rfl (q_assign rfl rfl) ?_
              refine run_nil ?_
              refine run_sub (subMk (.cons (s := 1) rfl (.cons (s := 4) rfl (.cons (s := 9) rfl (.cons (s := 11) rfl (.cons (s := 12) rfl (.cons (s := 13) rfl .nil)))))) .refl) ?_
              exact run_again (j + 1) (by (try dsimp only); exact (by omega)) (by (try dsimp only); omega) (subMk (.cons' (s := 13) rfl (vint (by omega)) (.cons (s := 1) rfl (.cons (s := 4) rfl (.cons (s := 9) rfl (.cons (s := 11) rfl (.cons (s := 12) rfl .nil)))))) (.cons (.there (.there Sel.here)) .refl (.cons (.there (.there Sel.here)) .refl (.cons (.there (.there Sel.here)) .refl (.cons (.there (.there Sel.here)) .refl (.cons (.there (.there Sel.here)) .refl (.cons (.there (.there Sel.here)) .refl (.cons (.there (.there Sel.here)) .refl (.cons (.there (.there Sel.here)) .refl (.cons (.there (.there Sel.here)) .refl (.cons (.there (.there Sel.here)) .refl (.cons (.there (.there Sel.here)) .refl .nil))))))))))))
            · have g64' := g64
              try simp only [decide_eq_true_eq, decide_eq_false_iff_not, beq_iff_eq, beq_eq_false_iff_ne, bne_iff_ne, bne_eq_false_iff_eq, Bool.not_eq_true', Bool.not_eq_false', ne_eq, Int.not_lt, Int.not_le, Decidable.not_not] at g64'
              refine run_q (.on rfl rfl rfl g64) rfl rfl (q_fieldB (d := 3) rfl Try.underlying25 rfl rfl sz3 rfl) ?_
              refine run_q (.on rfl rfl rfl g64) rfl rfl (q_loadB rfl one3 rfl (.there Sel.here) rfl) ?_
              refine run_q (.on rfl rfl rfl g64) rfl rfl (q_fieldB (d := 3) rfl Try.underlying25 rfl rfl sz3 rfl) ?_
              refine run_q (.on rfl rfl rfl g64) rfl rfl (q_loadB rfl one3 rfl Sel.here rfl) ?_
              refine run_q (.on rfl rfl rfl g64) rfl rfl (q_neq rfl rfl rfl) ?_
              refine run_q (.none rfl) rfl rfl (q_pickF rfl rfl g64 rfl) ?_
              refine run_q (.none rfl) rfl rfl (q_move rfl rfl) ?_
              refine run_split 71 rfl (fun g71 => ?_) (fun g71 => ?_)
              · have g71' := g71
                try simp only [decide_eq_true_eq, decide_eq_false_iff_not, beq_iff_eq, beq_eq_false_iff_ne, bne_iff_ne, bne_eq_false_iff_eq, Bool.not_eq_true', Bool.not_eq_false', ne_eq, Int.not_lt, Int.not_le, Decidable.not_not] at g71'
                refine run_off (.no rfl rfl rfl g71) rfl rfl ?_
                refine run_off (.no rfl rfl rfl g71) rfl rfl ?_
                refine run_off (.no rfl rfl rfl g71) rfl rfl ?_
                refine run_off (.no rfl rfl rfl g71) rfl rfl ?_
                refine run_off (.no rfl rfl rfl g71) rfl rfl ?_
                refine run_q (.none rfl) rfl rfl (q_pickT rfl rfl g71 rfl) ?_
                refine run_q (.none rfl) rfl rfl (q_move rfl rfl) ?_
                refine run_off (.no rfl rfl rfl rfl) rfl rfl ?_
                refine run_off (.no rfl rfl rfl rfl) rfl rfl ?_
                refine run_off (.no rfl rfl rfl rfl) rfl rfl ?_
                refine run_off (.no rfl rfl rfl rfl) rfl rfl ?_
                refine run_off (.no rfl rfl rfl rfl) rfl rfl ?_
                refine run_q (.none rfl) rfl rfl (q_pickT rfl rfl rfl rfl) ?_
                refine run_nil ?_
                refine run_sub (subMk (.cons (s := 1) rfl (.cons (s := 4) rfl (.cons (s := 9) rfl (.cons (s := 11) rfl (.cons (s := 12) rfl (.cons (s := 13) rfl (.cons (s := 14) rfl (.cons (s := 84) rfl .nil)))))))) .refl) ?_
                refine run_condT rfl rfl ?_
                refine run_exit rfl ?_
                refine run_region ?_
                refine run_q (.none rfl) rfl rfl (q_move rfl rfl) ?_
                refine run_q (.none rfl) rfl rfl (q_add rfl rfl rfl (by omega)) ?_
                refine run_q (.none rfl) rfl rfl (q_assign rfl rfl) ?_
                refine run_nil ?_
                refine run_sub (subMk (.cons (s := 1) rfl (.cons (s := 4) rfl (.cons (s := 9) rfl (.cons (s := 11) rfl (.cons (s := 12) rfl (.cons (s := 13) rfl .nil)))))) .refl) ?_
                exact run_again (j + 1) (by (try dsimp only); exact (by omega)) (by (try dsimp only); omega) (subMk (.cons' (s := 13) rfl (vint (by omega)) (.cons (s := 1) rfl (.cons (s := 4) rfl (.cons (s := 9) rfl (.cons (s := 11) rfl (.cons (s := 12) rfl .nil)))))) (.cons (.there (.there Sel.here)) .refl (.cons (.there (.there Sel.here)) .refl (.cons (.there (.there Sel.here)) .refl (.cons (.there (.there Sel.here)) .refl (.cons (.there (.there Sel.here)) .refl (.cons (.there (.there Sel.here)) .refl (.cons (.there (.there Sel.here)) .refl (.cons (.there (.there Sel.here)) .refl (.cons (.there (.there Sel.here)) .refl (.cons (.there (.there Sel.here)) .refl (.cons (.there (.there Sel.here)) .refl .nil))))))))))))
              · have g71' := g71
                try simp only [decide_eq_true_eq, decide_eq_false_iff_not, beq_iff_eq, beq_eq_false_iff_ne, bne_iff_ne, bne_eq_false_iff_eq, Bool.not_eq_true', Bool.not_eq_false', ne_eq, Int.not_lt, Int.not_le, Decidable.not_not] at g71'
                refine run_q (.on rfl rfl rfl g71) rfl rfl (q_fieldB (d := 7) rfl Try.underlying25 rfl rfl sz3 rfl) ?_
                refine run_q (.on rfl rfl rfl g71) rfl rfl (q_loadB rfl one3 rfl (.there Sel.here) rfl) ?_
                refine run_q (.on rfl rfl rfl g71) rfl rfl (q_fieldB (d := 6) rfl Try.underlying25 rfl rfl sz3 rfl) ?_
                refine run_q (.on rfl rfl rfl g71) rfl rfl (q_loadB rfl one3 rfl Sel.here rfl) ?_
                refine run_q (.on rfl rfl rfl g71) rfl rfl (q_lss rfl rfl rfl) ?_
                refine run_q (.none rfl) rfl rfl (q_pickF rfl rfl g71 rfl) ?_
                refine run_q (.none rfl) rfl rfl (q_move rfl rfl) ?_
                refine run_split 78 rfl (fun g78 => ?_) (fun g78 => ?_)
                · have g78' := g78
                  try simp only [decide_eq_true_eq, decide_eq_false_iff_not, beq_iff_eq, beq_eq_false_iff_ne, bne_iff_ne, bne_eq_false_iff_eq, Bool.not_eq_true', Bool.not_eq_false', ne_eq, Int.not_lt, Int.not_le, Decidable.not_not] at g78'
                  refine run_off (.no rfl rfl rfl g78) rfl rfl ?_
                  refine run_off (.no rfl rfl rfl g78) rfl rfl ?_
                  refine run_off (.no rfl rfl rfl g78) rfl rfl ?_
                  refine run_off (.no rfl rfl rfl g78) rfl rfl ?_
                  refine run_off (.no rfl rfl rfl g78) rfl rfl ?_
                  refine run_q (.none rfl) rfl rfl (q_pickT rfl rfl g78 rfl) ?_
                  refine run_nil ?_
                  refine run_sub (subMk (.cons (s := 1) rfl (.cons (s := 4) rfl (.cons (s := 9) rfl (.cons (s := 11) rfl (.cons (s := 12) rfl (.cons (s := 13) rfl (.cons (s := 14) rfl (.cons (s := 84) rfl .nil)))))))) .refl) ?_
                  refine run_condT rfl rfl ?_
                  refine run_exit rfl ?_
                  refine run_region ?_
                  refine run_q (.none rfl) rfl rfl (q_move rfl rfl) ?_
                  refine run_q (.none rfl) rfl rfl (q_add rfl rfl rfl (by omega)) ?_
                  refine run_q (.none rfl) rfl rfl (q_assign rfl rfl) ?_
                  refine run_nil ?_
                  refine run_sub (subMk (.cons (s := 1) rfl (.cons (s := 4) rfl (.cons (s := 9) rfl (.cons (s := 11) rfl (.cons (s := 12) rfl (.cons (s := 13) rfl .nil)))))) .refl) ?_
                  exact run_again (j + 1) (by (try dsimp only); exact (by omega)) (by (try dsimp only); omega) (subMk (.cons' (s := 13) rfl (vint (by omega)) (.cons (s := 1) rfl (.cons (s := 4) rfl (.cons (s := 9) rfl (.cons (s := 11) rfl (.cons (s := 12) rfl .nil)))))) (.cons (.there (.there Sel.here)) .refl (.cons (.there (.there Sel.here)) .refl (.cons (.there (.there Sel.here)) .refl (.cons (.there (.there Sel.here)) .refl (.cons (.there (.there Sel.here)) .refl (.cons (.there (.there Sel.here)) .refl (.cons (.there (.there Sel.here)) .refl (.cons (.there (.there Sel.here)) .refl (.cons (.there (.there Sel.here)) .refl (.cons (.there (.there Sel.here)) .refl (.cons (.there (.there Sel.here)) .refl .nil))))))))))))
                · have g78' := g78
                  try simp only [decide_eq_true_eq, decide_eq_false_iff_not, beq_iff_eq, beq_eq_false_iff_ne, bne_iff_ne, bne_eq_false_iff_eq, Bool.not_eq_true', Bool.not_eq_false', ne_eq, Int.not_lt, Int.not_le, Decidable.not_not] at g78'
                  refine run_q (.on rfl rfl rfl g78) rfl rfl (q_fieldB (d := 7) rfl Try.underlying25 rfl rfl sz3 rfl) ?_
                  refine run_q (.on rfl rfl rfl g78) rfl rfl (q_loadB rfl one3 rfl Sel.here rfl) ?_
                  refine run_q (.on rfl rfl rfl g78) rfl rfl (q_fieldB (d := 6) rfl Try.underlying25 rfl rfl sz3 rfl) ?_
                  refine run_q (.on rfl rfl rfl g78) rfl rfl (q_loadB rfl one3 rfl (.there Sel.here) rfl) ?_
                  refine run_q (.on rfl rfl rfl g78) rfl rfl (q_lss rfl rfl rfl) ?_
                  refine run_q (.none rfl) rfl rfl (q_pickF rfl rfl g78 rfl) ?_
                  refine run_nil ?_
                  refine run_sub (subMk (.cons (s := 1) rfl (.cons (s := 4) rfl (.cons (s := 9) rfl (.cons (s := 11) rfl (.cons (s := 12) rfl (.cons (s := 13) rfl (.cons (s := 14) rfl (.cons (s := 84) rfl .nil)))))))) .refl) ?_
                  refine run_cond rfl (fun g84 => ?_) (fun g84 => ?_)
                  · have g84' := g84
                    try simp only [decide_eq_true_eq, decide_eq_false_iff_not, beq_iff_eq, beq_eq_false_iff_ne, bne_iff_ne, bne_eq_false_iff_eq, Bool.not_eq_true', Bool.not_eq_false', ne_eq, Int.not_lt, Int.not_le, Decidable.not_not] at g84'
                    refine run_exit rfl ?_
                    refine run_region ?_
                    refine run_q (.none rfl) rfl rfl (q_move rfl rfl) ?_
                    refine run_q (.none rfl) rfl rfl (q_add rfl rfl rfl (by omega)) ?_
                    refine run_q (.none rfl) rfl rfl (q_assign rfl rfl) ?_
                    refine run_nil ?_
                    refine run_sub (subMk (.cons (s := 1) rfl (.cons (s := 4) rfl (.cons (s := 9) rfl (.cons (s := 11) rfl (.cons (s := 12) rfl (.cons (s := 13) rfl .nil)))))) .refl) ?_
                    exact run_again (j + 1) (by (try dsimp only); exact (by omega)) (by (try dsimp only); omega) (subMk (.cons' (s := 13) rfl (vint (by omega)) (.cons (s := 1) rfl (.cons (s := 4) rfl (.cons (s := 9) rfl (.cons (s := 11) rfl (.cons (s := 12) rfl .nil)))))) (.cons (.there (.there Sel.here)) .refl (.cons (.there (.there Sel.here)) .refl (.cons (.there (.there Sel.here)) .refl (.cons (.there (.there Sel.here)) .refl (.cons (.there (.there Sel.here)) .refl (.cons (.there (.there Sel.here)) .refl (.cons (.there (.there Sel.here)) .refl (.cons (.there (.there Sel.here)) .refl (.cons (.there (.there Sel.here)) .refl (.cons (.there (.there Sel.here)) .refl (.cons (.there (.there Sel.here)) .refl .nil))))))))))))
                  · have g84' := g84
                    try simp only [decide_eq_true_eq, decide_eq_false_iff_not, beq_iff_eq, beq_eq_false_iff_ne, bne_iff_ne, bne_eq_false_iff_eq, Bool.not_eq_true', Bool.not_eq_false', ne_eq, Int.not_lt, Int.not_le, Decidable.not_not] at g84'
                    refine run_skip ?_
                    refine run_seq ?_
                    have hnp := nest_mk (ys := ordS xs) (a := (gs la (gN la))) (b := (negL (gs lb (gN la)))) hgl2 rfl (show j < i by omega) (show i < xs.length by omega) hEs (by omega) (by omega) hni hnj (by omega) (by omega)
                    refine run_fork mixed (by kernel_rfl) .refl ?_
                    refine b_q (i := 0) rfl (by kernel_rfl) (.none rfl) rfl rfl (q_fieldB (d := 3) rfl Try.underlying25 rfl rfl sz3 rfl) ?_
                    refine b_q (i := 1) rfl (by kernel_rfl) (.none rfl) rfl rfl (q_loadB rfl one3 rfl (.there Sel.here) rfl) ?_
                    refine b_q (i := 2) rfl (by kernel_rfl) (.none rfl) rfl rfl (q_gtr rfl rfl rfl) ?_
                    refine b_q (i := 3) rfl (by kernel_rfl) (.none rfl) rfl rfl (q_move rfl rfl) ?_
                    refine b_split 88 rfl (fun g88 => ?_) (fun g88 => ?_)
                    · have g88' := g88
                      try simp only [decide_eq_true_eq, decide_eq_false_iff_not, beq_iff_eq, beq_eq_false_iff_ne, bne_iff_ne, bne_eq_false_iff_eq, Bool.not_eq_true', Bool.not_eq_false', ne_eq, Int.not_lt, Int.not_le, Decidable.not_not] at g88'
                      refine b_q (i := 4) rfl (by kernel_rfl) (.on rfl rfl rfl g88) rfl rfl (q_move rfl rfl) ?_
                      refine b_q (i := 5) rfl (by kernel_rfl) (.on rfl rfl rfl g88) rfl rfl (q_move rfl rfl) ?_
                      refine b_q (i := 6) rfl (by kernel_rfl) (.on rfl rfl rfl g88) rfl rfl (q_indexS (q := i) rfl Try.underlying43 sz49 rfl rfl (.own (.there (.there (.there Sel.here)))) (by rw [List.length_map, slMs_len]) rfl (by omega)) ?_
                      refine b_q (i := 7) rfl (by kernel_rfl) (.on rfl rfl rfl g88) rfl rfl (q_fieldAddr (d := 8) rfl Try.underlying49 rfl rfl sz47 rfl) ?_
                      refine b_q (i := 8) rfl (by kernel_rfl) (.on rfl rfl rfl g88) rfl rfl (q_fieldF (d2 := 9) rfl Try.underlying47 rfl rfl sz3 rfl) ?_
                      refine b_q (i := 9) rfl (by kernel_rfl) (.on rfl rfl rfl g88) rfl rfl (q_loadF rfl one3 rfl (.own (.there (.there (.there Sel.here)))) (at_mk (by omega)) rfl) ?_
                      refine b_q (i := 10) rfl (by kernel_rfl) (.on rfl rfl rfl g88) rfl rfl (q_move rfl rfl) ?_
                      refine b_q (i := 11) rfl (by kernel_rfl) (.on rfl rfl rfl g88) rfl rfl (q_move rfl rfl) ?_
                      refine b_q (i := 12) rfl (by kernel_rfl) (.on rfl rfl rfl g88) rfl rfl (q_indexS (q := j) rfl Try.underlying43 sz49 rfl rfl (.own (.there (.there (.there Sel.here)))) (by rw [List.length_map, slMs_len]) rfl (by omega)) ?_
                      refine b_q (i := 13) rfl (by kernel_rfl) (.on rfl rfl rfl g88) rfl rfl (q_fieldAddr (d := 8) rfl Try.underlying49 rfl rfl sz47 rfl) ?_
                      refine b_q (i := 14) rfl (by kernel_rfl) (.on rfl rfl rfl g88) rfl rfl (q_fieldF (d2 := 11) rfl Try.underlying47 rfl rfl sz3 rfl) ?_
                      refine b_q (i := 15) rfl (by kernel_rfl) (.on rfl rfl rfl g88) rfl rfl (q_loadF rfl one3 rfl (.own (.there (.there (.there Sel.here)))) (at_mk (by omega)) rfl) ?_
                      refine b_q (i := 16) rfl (by kernel_rfl) (.on rfl rfl rfl g88) rfl rfl (q_add rfl rfl rfl (by omega)) ?_
                      refine b_q (i := 17) rfl (by kernel_rfl) (.on rfl rfl rfl g88) rfl rfl (q_lss rfl rfl rfl) ?_
                      refine b_q (i := 18) rfl (by kernel_rfl) (.none rfl) rfl rfl (q_pickT rfl rfl g88 rfl) ?_
                      refine b_q (i := 19) rfl (by kernel_rfl) (.none rfl) rfl rfl (q_move rfl rfl) ?_
                      refine b_q (i := 20) rfl (by kernel_rfl) (.on rfl rfl rfl (decide_eq_false (by have := hnp.1 (by omega); omega))) rfl rfl (q_fieldB (d := 3) rfl Try.underlying25 rfl rfl sz3 rfl) ?_
                      refine b_q (i := 21) rfl (by kernel_rfl) (.on rfl rfl rfl (decide_eq_false (by have := hnp.1 (by omega); omega))) rfl rfl (q_loadB rfl one3 rfl (.there Sel.here) rfl) ?_
                      refine b_q (i := 22) rfl (by kernel_rfl) (.on rfl rfl rfl (decide_eq_false (by have := hnp.1 (by omega); omega))) rfl rfl (q_lss rfl rfl rfl) ?_
                      refine b_q (i := 23) rfl (by kernel_rfl) (.on rfl rfl rfl (decide_eq_false (by have := hnp.1 (by omega); omega))) rfl rfl (q_move rfl rfl) ?_
                      refine b_split 108 rfl (fun g108 => ?_) (fun g108 => ?_)
                      · have g108' := g108
                        try simp only [decide_eq_true_eq, decide_eq_false_iff_not, beq_iff_eq, beq_eq_false_iff_ne, bne_iff_ne, bne_eq_false_iff_eq, Bool.not_eq_true', Bool.not_eq_false', ne_eq, Int.not_lt, Int.not_le, Decidable.not_not] at g108'
                        refine b_q (i := 24) rfl (by kernel_rfl) (.on rfl rfl rfl g108) rfl rfl (q_move rfl rfl) ?_
                        refine b_q (i := 25) rfl (by kernel_rfl) (.on rfl rfl rfl g108) rfl rfl (q_move rfl rfl) ?_
                        refine b_q (i := 26) rfl (by kernel_rfl) (.on rfl rfl rfl g108) rfl rfl (q_indexS (q := i) rfl Try.underlying43 sz49 rfl rfl (.own (.there (.there (.there Sel.here)))) (by rw [List.length_map, slMs_len]) rfl (by omega)) ?_
                        refine b_q (i := 27) rfl (by kernel_rfl) (.on rfl rfl rfl g108) rfl rfl (q_fieldAddr (d := 8) rfl Try.underlying49 rfl rfl sz47 rfl) ?_
                        refine b_q (i := 28) rfl (by kernel_rfl) (.on rfl rfl rfl g108) rfl rfl (q_fieldF (d2 := 11) rfl Try.underlying47 rfl rfl sz3 rfl) ?_
                        refine b_q (i := 29) rfl (by kernel_rfl) (.on rfl rfl rfl g108) rfl rfl (q_loadF rfl one3 rfl (.own (.there (.there (.there Sel.here)))) (at_mk (by omega)) rfl) ?_
                        refine b_q (i := 30) rfl (by kernel_rfl) (.on rfl rfl rfl g108) rfl rfl (q_move rfl rfl) ?_
                        refine b_q (i := 31) rfl (by kernel_rfl) (.on rfl rfl rfl g108) rfl rfl (q_move rfl rfl) ?_
                        refine b_q (i := 32) rfl (by kernel_rfl) (.on rfl rfl rfl g108) rfl rfl (q_indexS (q := j) rfl Try.underlying43 sz49 rfl rfl (.own (.there (.there (.there Sel.here)))) (by rw [List.length_map, slMs_len]) rfl (by omega)) ?_
                        refine b_q (i := 33) rfl (by kernel_rfl) (.on rfl rfl rfl g108) rfl rfl (q_fieldAddr (d := 8) rfl Try.underlying49 rfl rfl sz47 rfl) ?_
                        refine b_q (i := 34) rfl (by kernel_rfl) (.on rfl rfl rfl g108) rfl rfl (q_fieldF (d2 := 9) rfl Try.underlying47 rfl rfl sz3 rfl) ?_
                        refine b_q (i := 35) rfl (by kernel_rfl) (.on rfl rfl rfl g108) rfl rfl (q_loadF rfl one3 rfl (.own (.there (.there (.there Sel.here)))) (at_mk (by omega)) rfl) ?_
                        refine b_q (i := 36) rfl (by kernel_rfl) (.on rfl rfl rfl g108) rfl rfl (q_sub rfl rfl rfl (by omega)) ?_
                        refine b_q (i := 37) rfl (by kernel_rfl) (.on rfl rfl rfl g108) rfl rfl (q_gtr rfl rfl rfl) ?_
                        refine b_q (i := 38) rfl (by kernel_rfl) (.on rfl rfl rfl (decide_eq_false (by have := hnp.1 (by omega); omega))) rfl rfl (q_pickT rfl rfl g108 rfl) ?_
                        refine b_q (i := 39) rfl (by kernel_rfl) (.none rfl) rfl rfl (q_pickF rfl rfl (decide_eq_false (by have := hnp.1 (by omega); omega)) rfl) ?_
                        refine b_nil (by kernel_rfl) ?_
                        refine run_sub (subMk (.cons (s := 1) rfl (.cons (s := 4) rfl (.cons (s := 9) rfl (.cons (s := 11) rfl (.cons (s := 12) rfl (.cons (s := 13) rfl (.cons (s := 124) rfl .nil))))))) .refl) ?_
                        refine run_condF rfl (decide_eq_false (by have := hnp.1 (by omega); omega)) ?_
                        refine run_skip ?_
                        refine run_blk ?_
                        refine run_region ?_
                        refine run_q (.none rfl) rfl rfl (q_move rfl rfl) ?_
                        refine run_q (.none rfl) rfl rfl (q_add rfl rfl rfl (by omega)) ?_
                        refine run_q (.none rfl) rfl rfl (q_assign rfl rfl) ?_
                        refine run_nil ?_
                        refine run_sub (subMk (.cons (s := 1) rfl (.cons (s := 4) rfl (.cons (s := 9) rfl (.cons (s := 11) rfl (.cons (s := 12) rfl (.cons (s := 13) rfl .nil)))))) .refl) ?_
                        exact run_again (j + 1) (by (try dsimp only); exact (by omega)) (by (try dsimp only); omega) (subMk (.cons' (s := 13) rfl (vint (by omega)) (.cons (s := 1) rfl (.cons (s := 4) rfl (.cons (s := 9) rfl (.cons (s := 11) rfl (.cons (s := 12) rfl .nil)))))) (.cons (.there (.there Sel.here)) .refl (.cons (.there (.there Sel.here)) .refl (.cons (.there (.there Sel.here)) .refl (.cons (.there (.there Sel.here)) .refl (.cons (.there (.there Sel.here)) .refl (.cons (.there (.there Sel.here)) .refl (.cons (.there (.there Sel.here)) .refl (.cons (.there (.there Sel.here)) .refl (.cons (.there (.there Sel.here)) .refl (.cons (.there (.there Sel.here)) .refl (.cons (.there (.there Sel.here)) .refl .nil))))))))))))
                      · have g108' := g108
                        try simp only [decide_eq_true_eq, decide_eq_false_iff_not, beq_iff_eq, beq_eq_false_iff_ne, bne_iff_ne, bne_eq_false_iff_eq, Bool.not_eq_true', Bool.not_eq_false', ne_eq, Int.not_lt, Int.not_le, Decidable.not_not] at g108'
                        refine b_off (i := 24) rfl (by kernel_rfl) (.no rfl rfl rfl g108) rfl rfl ?_
                        refine b_off (i := 25) rfl (by kernel_rfl) (.no rfl rfl rfl g108) rfl rfl ?_
                        refine b_off (i := 26) rfl (by kernel_rfl) (.no rfl rfl rfl g108) rfl rfl ?_
                        refine b_off (i := 27) rfl (by kernel_rfl) (.no rfl rfl rfl g108) rfl rfl ?_
                        refine b_off (i := 28) rfl (by kernel_rfl) (.no rfl rfl rfl g108) rfl rfl ?_
                        refine b_off (i := 29) rfl (by kernel_rfl) (.no rfl rfl rfl g108) rfl rfl ?_
                        refine b_off (i := 30) rfl (by kernel_rfl) (.no rfl rfl rfl g108) rfl rfl ?_
                        refine b_off (i := 31) rfl (by kernel_rfl) (.no rfl rfl rfl g108) rfl rfl ?_
                        refine b_off (i := 32) rfl (by kernel_rfl) (.no rfl rfl rfl g108) rfl rfl ?_
                        refine b_off (i := 33) rfl (by kernel_rfl) (.no rfl rfl rfl g108) rfl rfl ?_
                        refine b_off (i := 34) rfl (by kernel_rfl) (.no rfl rfl rfl g108) rfl rfl ?_
                        refine b_off (i := 35) rfl (by kernel_rfl) (.no rfl rfl rfl g108) rfl rfl ?_
                        refine b_off (i := 36) rfl (by kernel_rfl) (.no rfl rfl rfl g108) rfl rfl ?_
                        refine b_off (i := 37) rfl (by kernel_rfl) (.no rfl rfl rfl g108) rfl rfl ?_
                        refine b_q (i := 38) rfl (by kernel_rfl) (.on rfl rfl rfl (decide_eq_false (by have := hnp.1 (by omega); omega))) rfl rfl (q_pickF rfl rfl g108 rfl) ?_
                        refine b_q (i := 39) rfl (by kernel_rfl) (.none rfl) rfl rfl (q_pickF rfl rfl (decide_eq_false (by have := hnp.1 (by omega); omega)) rfl) ?_
                        refine b_nil (by kernel_rfl) ?_
                        refine run_sub (subMk (.cons (s := 1) rfl (.cons (s := 4) rfl (.cons (s := 9) rfl (.cons (s := 11) rfl (.cons (s := 12) rfl (.cons (s := 13) rfl (.cons (s := 124) rfl .nil))))))) .refl) ?_
                        refine run_condF rfl rfl ?_
                        refine run_skip ?_
                        refine run_blk ?_
                        refine run_region ?_
                        refine run_q (.none rfl) rfl rfl (q_move rfl rfl) ?_
                        refine run_q (.none rfl) rfl rfl (q_add rfl rfl rfl (by omega)) ?_
                        refine run_q (.none rfl) rfl rfl (q_assign rfl rfl) ?_
                        refine run_nil ?_
                        refine run_sub (subMk (.cons (s := 1) rfl (.cons (s := 4) rfl (.cons (s := 9) rfl (.cons (s := 11) rfl (.cons (s := 12) rfl (.cons (s := 13) rfl .nil)))))) .refl) ?_
                        exact run_again (j + 1) (by (try dsimp only); exact (by omega)) (by (try dsimp only); omega) (subMk (.cons' (s := 13) rfl (vint (by omega)) (.cons (s := 1) rfl (.cons (s := 4) rfl (.cons (s := 9) rfl (.cons (s := 11) rfl (.cons (s := 12) rfl .nil)))))) (.cons (.there (.there Sel.here)) .refl (.cons (.there (.there Sel.here)) .refl (.cons (.there (.there Sel.here)) .refl (.cons (.there (.there Sel.here)) .refl (.cons (.there (.there Sel.here)) .refl (.cons (.there (.there Sel.here)) .refl (.cons (.there (.there Sel.here)) .refl (.cons (.there (.there Sel.here)) .refl (.cons (.there (.there Sel.here)) .refl (.cons (.there (.there Sel.here)) .refl (.cons (.there (.there Sel.here)) .refl .nil))))))))))))
                    · have g88' := g88
                      try simp only [decide_eq_true_eq, decide_eq_false_iff_not, beq_iff_eq, beq_eq_false_iff_ne, bne_iff_ne, bne_eq_false_iff_eq, Bool.not_eq_true', Bool.not_eq_false', ne_eq, Int.not_lt, Int.not_le, Decidable.not_not] at g88'
                      refine b_off (i := 4) rfl (by kernel_rfl) (.no rfl rfl rfl g88) rfl rfl ?_
                      refine b_off (i := 5) rfl (by kernel_rfl) (.no rfl rfl rfl g88) rfl rfl ?_
                      refine b_off (i := 6) rfl (by kernel_rfl) (.no rfl rfl rfl g88) rfl rfl ?_
                      refine b_off (i := 7) rfl (by kernel_rfl) (.no rfl rfl rfl g88) rfl rfl ?_
                      refine b_off (i := 8) rfl (by kernel_rfl) (.no rfl rfl rfl g88) rfl rfl ?_
                      refine b_off (i := 9) rfl (by kernel_rfl) (.no rfl rfl rfl g88) rfl rfl ?_
                      refine b_off (i := 10) rfl (by kernel_rfl) (.no rfl rfl rfl g88) rfl rfl ?_
                      refine b_off (i := 11) rfl (by kernel_rfl) (.no rfl rfl rfl g88) rfl rfl ?_
                      refine b_off (i := 12) rfl (by kernel_rfl) (.no rfl rfl rfl g88) rfl rfl ?_
                      refine b_off (i := 13) rfl (by kernel_rfl) (.no rfl rfl rfl g88) rfl rfl ?_
                      refine b_off (i := 14) rfl (by kernel_rfl) (.no rfl rfl rfl g88) rfl rfl ?_
                      refine b_off (i := 15) rfl (by kernel_rfl) (.no rfl rfl rfl g88) rfl rfl ?_
                      refine b_off (i := 16) rfl (by kernel_rfl) (.no rfl rfl rfl g88) rfl rfl ?_
                      refine b_off (i := 17) rfl (by kernel_rfl) (.no rfl rfl rfl g88) rfl rfl ?_
                      refine b_q (i := 18) rfl (by kernel_rfl) (.none rfl) rfl rfl (q_pickF rfl rfl g88 rfl) ?_
                      refine b_q (i := 19) rfl (by kernel_rfl) (.none rfl) rfl rfl (q_move rfl rfl) ?_
                      refine b_q (i := 20) rfl (by kernel_rfl) (.on rfl rfl rfl rfl) rfl rfl (q_fieldB (d := 3) rfl Try.underlying25 rfl rfl sz3 rfl) ?_
                      refine b_q (i := 21) rfl (by kernel_rfl) (.on rfl rfl rfl rfl) rfl rfl (q_loadB rfl one3 rfl (.there Sel.here) rfl) ?_
                      refine b_q (i := 22) rfl (by kernel_rfl) (.on rfl rfl rfl rfl) rfl rfl (q_lss rfl rfl rfl) ?_
                      refine b_q (i := 23) rfl (by kernel_rfl) (.on rfl rfl rfl rfl) rfl rfl (q_move rfl rfl) ?_
                      refine b_split 108 rfl (fun g108 => ?_) (fun g108 => ?_)
                      · have g108' := g108
                        try simp only [decide_eq_true_eq, decide_eq_false_iff_not, beq_iff_eq, beq_eq_false_iff_ne, bne_iff_ne, bne_eq_false_iff_eq, Bool.not_eq_true', Bool.not_eq_false', ne_eq, Int.not_lt, Int.not_le, Decidable.not_not] at g108'
                        refine b_q (i := 24) rfl (by kernel_rfl) (.on rfl rfl rfl g108) rfl rfl (q_move rfl rfl) ?_
                        refine b_q (i := 25) rfl (by kernel_rfl) (.on rfl rfl rfl g108) rfl rfl (q_move rfl rfl) ?_
                        refine b_q (i := 26) rfl (by kernel_rfl) (.on rfl rfl rfl g108) rfl rfl (q_indexS (q := i) rfl Try.underlying43 sz49 rfl rfl (.own (.there (.there (.there Sel.here)))) (by rw [List.length_map, slMs_len]) rfl (by omega)) ?_
                        refine b_q (i := 27) rfl (by kernel_rfl) (.on rfl rfl rfl g108) rfl rfl (q_fieldAddr (d := 8) rfl Try.underlying49 rfl rfl sz47 rfl) ?_
                        refine b_q (i := 28) rfl (by kernel_rfl) (.on rfl rfl rfl g108) rfl rfl (q_fieldF (d2 := 11) rfl Try.underlying47 rfl rfl sz3 rfl) ?_
                        refine b_q (i := 29) rfl (by kernel_rfl) (.on rfl rfl rfl g108) rfl rfl (q_loadF rfl one3 rfl (.own (.there (.there (.there Sel.here)))) (at_mk (by omega)) rfl) ?_
                        refine b_q (i := 30) rfl (by kernel_rfl) (.on rfl rfl rfl g108) rfl rfl (q_move rfl rfl) ?_
                        refine b_q (i := 31) rfl (by kernel_rfl) (.on rfl rfl rfl g108) rfl rfl (q_move rfl rfl) ?_
                        refine b_q (i := 32) rfl (by kernel_rfl) (.on rfl rfl rfl g108) rfl rfl (q_indexS (q := j) rfl Try.underlying43 sz49 rfl rfl (.own (.there (.there (.there Sel.here)))) (by rw [List.length_map, slMs_len]) rfl (by omega)) ?_
                        refine b_q (i := 33) rfl (by kernel_rfl) (.on rfl rfl rfl g108) rfl rfl (q_fieldAddr (d := 8) rfl Try.underlying49 rfl rfl sz47 rfl) ?_
                        refine b_q (i := 34) rfl (by kernel_rfl) (.on rfl rfl rfl g108) rfl rfl (q_fieldF (d2 := 9) rfl Try.underlying47 rfl rfl sz3 rfl) ?_
                        refine b_q (i := 35) rfl (by kernel_rfl) (.on rfl rfl rfl g108) rfl rfl (q_loadF rfl one3 rfl (.own (.there (.there (.there Sel.here)))) (at_mk (by omega)) rfl) ?_
                        refine b_q (i := 36) rfl (by kernel_rfl) (.on rfl rfl rfl g108) rfl rfl (q_sub rfl rfl rfl (by omega)) ?_
                        refine b_q (i := 37) rfl (by kernel_rfl) (.on rfl rfl rfl g108) rfl rfl (q_gtr rfl rfl rfl) ?_
                        refine b_q (i := 38) rfl (by kernel_rfl) (.on rfl rfl rfl rfl) rfl rfl (q_pickT rfl rfl g108 rfl) ?_
                        refine b_q (i := 39) rfl (by kernel_rfl) (.none rfl) rfl rfl (q_pickF rfl rfl rfl rfl) ?_
                        refine b_nil (by kernel_rfl) ?_
                        refine run_sub (subMk (.cons (s := 1) rfl (.cons (s := 4) rfl (.cons (s := 9) rfl (.cons (s := 11) rfl (.cons (s := 12) rfl (.cons (s := 13) rfl (.cons (s := 124) rfl .nil))))))) .refl) ?_
                        refine run_condF rfl (decide_eq_false (by have := hnp.2 (by omega); omega)) ?_
                        refine run_skip ?_
                        refine run_blk ?_
                        refine run_region ?_
                        refine run_q (.none rfl) rfl rfl (q_move rfl rfl) ?_
                        refine run_q (.none rfl) rfl rfl (q_add rfl rfl rfl (by omega)) ?_
                        refine run_q (.none rfl) rfl rfl (q_assign rfl rfl) ?_
                        refine run_nil ?_
                        refine run_sub (subMk (.cons (s := 1) rfl (.cons (s := 4) rfl (.cons (s := 9) rfl (.cons (s := 11) rfl (.cons (s := 12) rfl (.cons (s := 13) rfl .nil)))))) .refl) ?_
                        exact run_again (j + 1) (by (try dsimp only); exact (by omega)) (by (try dsimp only); omega) (subMk (.cons' (s := 13) rfl (vint (by omega)) (.cons (s := 1) rfl (.cons (s := 4) rfl (.cons (s := 9) rfl (.cons (s := 11) rfl (.cons (s := 12) rfl .nil)))))) (.cons (.there (.there Sel.here)) .refl (.cons (.there (.there Sel.here)) .refl (.cons (.there (.there Sel.here)) .refl (.cons (.there (.there Sel.here)) .refl (.cons (.there (.there Sel.here)) .refl (.cons (.there (.there Sel.here)) .refl (.cons (.there (.there Sel.here)) .refl (.cons (.there (.there Sel.here)) .refl (.cons (.there (.there Sel.here)) .refl (.cons (.there (.there Sel.here)) .refl (.cons (.there (.there Sel.here)) .refl .nil))))))))))))
                      · have g108' := g108
                        try simp only [decide_eq_true_eq, decide_eq_false_iff_not, beq_iff_eq, beq_eq_false_iff_ne, bne_iff_ne, bne_eq_false_iff_eq, Bool.not_eq_true', Bool.not_eq_false', ne_eq, Int.not_lt, Int.not_le, Decidable.not_not] at g108'
                        refine b_off (i := 24) rfl (by kernel_rfl) (.no rfl rfl rfl g108) rfl rfl ?_
                        refine b_off (i := 25) rfl (by kernel_rfl) (.no rfl rfl rfl g108) rfl rfl ?_
                        refine b_off (i := 26) rfl (by kernel_rfl) (.no rfl rfl rfl g108) rfl rfl ?_
                        refine b_off (i := 27) rfl (by kernel_rfl) (.no rfl rfl rfl g108) rfl rfl ?_
                        refine b_off (i := 28) rfl (by kernel_rfl) (.no rfl rfl rfl g108) rfl rfl ?_
                        refine b_off (i := 29) rfl (by kernel_rfl) (.no rfl rfl rfl g108) rfl rfl ?_
                        refine b_off (i := 30) rfl (by kernel_rfl) (.no rfl rfl rfl g108) rfl rfl ?_
                        refine b_off (i := 31) rfl (by kernel_rfl) (.no rfl rfl rfl g108) rfl rfl ?_
                        refine b_off (i := 32) rfl (by kernel_rfl) (.no rfl rfl rfl g108) rfl rfl ?_
                        refine b_off (i := 33) rfl (by kernel_rfl) (.no rfl rfl rfl g108) rfl rfl ?_
                        refine b_off (i := 34) rfl (by kernel_rfl) (.no rfl rfl rfl g108) rfl rfl ?_
                        refine b_off (i := 35) rfl (by kernel_rfl) (.no rfl rfl rfl g108) rfl rfl ?_
                        refine b_off (i := 36) rfl (by kernel_rfl) (.no rfl rfl rfl g108) rfl rfl ?_
                        refine b_off (i := 37) rfl (by kernel_rfl) (.no rfl rfl rfl g108) rfl rfl ?_
                        refine b_q (i := 38) rfl (by kernel_rfl) (.on rfl rfl rfl rfl) rfl rfl (q_pickF rfl rfl g108 rfl) ?_
                        refine b_q (i := 39) rfl (by kernel_rfl) (.none rfl) rfl rfl (q_pickF rfl rfl rfl rfl) ?_
                        refine b_nil (by kernel_rfl) ?_
                        refine run_sub (subMk (.cons (s := 1) rfl (.cons (s := 4) rfl (.cons (s := 9) rfl (.cons (s := 11) rfl (.cons (s := 12) rfl (.cons (s := 13) rfl (.cons (s := 124) rfl .nil))))))) .refl) ?_
                        refine run_condF rfl rfl ?_
                        refine run_skip ?_
                        refine run_blk ?_
                        refine run_region ?_
                        refine run_q (.none rfl) rfl rfl (q_move rfl rfl) ?_
                        refine run_q (.none rfl) rfl rfl (q_add rfl rfl rfl (by omega)) ?_
                        refine run_q (.none rfl) rfl rfl (q_assign rfl rfl) ?_
                        refine run_nil ?_
                        refine run_sub (subMk (.cons (s := 1) rfl (.cons (s := 4) rfl (.cons (s := 9) rfl (.cons (s := 11) rfl (.cons (s := 12) rfl (.cons (s := 13) rfl .nil)))))) .refl) ?_
                        exact run_again (j + 1) (by (try dsimp only); exact (by omega)) (by (try dsimp only); omega) (subMk (.cons' (s := 13) rfl (vint (by omega)) (.cons (s := 1) rfl (.cons (s := 4) rfl (.cons (s := 9) rfl (.cons (s := 11) rfl (.cons (s := 12) rfl .nil)))))) (.cons (.there (.there Sel.here)) .refl (.cons (.there (.there Sel.here)) .refl (.cons (.there (.there Sel.here)) .refl (.cons (.there (.there Sel.here)) .refl (.cons (.there (.there Sel.here)) .refl (.cons (.there (.there Sel.here)) .refl (.cons (.there (.there Sel.here)) .refl (.cons (.there (.there Sel.here)) .refl (.cons (.there (.there Sel.here)) .refl (.cons (.there (.there Sel.here)) .refl (.cons (.there (.there Sel.here)) .refl .nil))))))))))))
        · have g50' := g50
          try simp only [decide_eq_true_eq, decide_eq_false_iff_not, beq_iff_eq, beq_eq_false_iff_ne, bne_iff_ne, bne_eq_false_iff_eq, Bool.not_eq_true', Bool.not_eq_false', ne_eq, Int.not_lt, Int.not_le, Decidable.not_not] at g50'
          refine run_exit rfl ?_
          refine run_sub (subMk (.cons (s := 1) rfl (.cons (s := 4) rfl (.cons (s := 9) rfl (.cons (s := 11) rfl (.cons (s := 12) rfl .nil))))) .refl) ?_
          refine run_blk ?_
          refine run_region ?_
          refine run_q (.none rfl) rfl rfl (q_move rfl rfl) ?_
          refine run_q (.none rfl) rfl rfl (q_add rfl rfl rfl (by omega)) ?_
          refine run_q (.none rfl) rfl rfl (q_assign rfl rfl) ?_
          refine run_nil ?_
          exact run_again (i + 1) (by (try dsimp only); exact (by omega)) (by (try dsimp only); omega) (subMk (.cons' (s := 12) rfl (vint (by omega)) (.cons (s := 1) rfl (.cons (s := 4) rfl (.cons (s := 9) rfl (.cons (s := 11) rfl .nil))))) (.cons Sel.here .refl (.cons Sel.here .refl (.cons Sel.here .refl (.cons Sel.here .refl (.cons Sel.here .refl (.cons Sel.here .refl (.cons Sel.here .refl (.cons Sel.here .refl (.cons Sel.here .refl (.cons Sel.here .refl (.cons Sel.here .refl .nil))))))))))))
      · have g45' := g45
        try simp only [decide_eq_true_eq, decide_eq_false_iff_not, beq_iff_eq, beq_eq_false_iff_ne, bne_iff_ne, bne_eq_false_iff_eq, Bool.not_eq_true', Bool.not_eq_false', ne_eq, Int.not_lt, Int.not_le, Decidable.not_not] at g45'
        refine run_exit rfl ?_
        refine run_sub (subMk (.cons (s := 1) rfl (.cons (s := 4) rfl (.cons (s := 9) rfl .nil))) .refl) ?_
        refine run_seq ?_
        refine run_region ?_
        refine run_q (.none rfl) rfl rfl (q_move rfl rfl) ?_
        refine run_q (.none rfl) rfl rfl (q_len rfl Try.underlying43 rfl) ?_
        refine run_q (.none rfl) rfl rfl (q_move rfl rfl) ?_
        refine run_q (.none rfl) rfl rfl (q_len rfl Try.underlying30 rfl) ?_
        refine run_q (.none rfl) rfl rfl (q_eql rfl rfl rfl) ?_
        refine run_q (.none rfl) rfl rfl (q_assign rfl rfl) ?_
        refine run_nil ?_
        refine run_sub (subMk (.cons (s := 4) rfl .nil) .refl) ?_
        refine run_ret ?_
        exact end1 rfl rfl (by simp)

end Go.Proofs.Ytomhegnaojejnaa
