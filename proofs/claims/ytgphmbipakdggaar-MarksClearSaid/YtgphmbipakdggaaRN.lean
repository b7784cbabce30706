/- The law on what does not touch, in the program. -/
import Derived.Test.YtgphmbipakdggaaRM
import Derived.Test.YtgphmbipakdggaaRClr
set_option linter.unusedSimpArgs false
set_option linter.unusedVariables false
namespace Go.Proofs.YtgphmbipakdggaaR
open Go Go.RowKit Hr



set_option maxHeartbeats 4000000 in
set_option maxRecDepth 100000 in
theorem law5_ok (la lb : List Int) (LA LB : Option Addr) (gca gcb : Nat) (l : List Req) (X : Option Addr) (cx : Nat) (W : World) (hla : Rd W LA 1 (la.map encW)) (hlb : Rd W LB 1 (lb.map encW)) (hbA : ∀ x ∈ la, 0 ≤ x ∧ x ≤ 65535) (hbB : ∀ x ∈ lb, 0 ≤ x ∧ x ≤ 65535) (hca : la.length ≤ 9223372036854775807) (hcb : lb.length ≤ 9223372036854775807) (hr : Rd W X 13 (l.map Req.enc)) (hcx : l.length ≤ cx) (xs : List Req) (hxs : xs = l.take 10) (hE : (placeE xs (gs la lb la (gN la lb)) (gs la lb lb (gN la lb))) = 0) : Calls Try.prog 5 #[.agg #[.slice LA la.length gca, .slice LB lb.length gcb], .slice X l.length cx] W (Hr.Just W (.bool true)) := by
  have hx := rd_take hr hxs
  have hxl : xs.length = min l.length 10 := by rw [hxs]; simp [Nat.min_comm]
  have hg := gN_bd (la := la) (lb := lb)
  have hbdA : Bd (gs la lb la (gN la lb)) := bd_of fun i => gs_bd
  have hbdB : Bd (gs la lb lb (gN la lb)) := bd_of fun i => gs_bd
  have hpl := place_len (xs := xs) (a := (gs la lb la (gN la lb))) (b := (gs la lb lb (gN la lb)))
  have hpbd := place_bd (xs := xs) hbdA hbdB
  have hlA : (gs la lb la (gN la lb)).length = (gN la lb) := gs_len
  have hlB : (gs la lb lb (gN la lb)).length = (gN la lb) := gs_len
  obtain ⟨e1, e2, e3⟩ := place_ok hE
  have hq0 : reqsE (gs la lb la (gN la lb)).length xs = 0 := by by_cases h : reqsE (gs la lb la (gN la lb)).length xs = 0; (· exact h); (· rw [placeE_1 h] at hE; exact absurd hE h)
  have hE0 : plEs xs (gs la lb la (gN la lb)) (gs la lb lb (gN la lb)) xs.length = 0 := by rw [← placeE_2 hq0]; exact hE
  have hMl : (placeM xs (gs la lb la (gN la lb)) (gs la lb lb (gN la lb))).length = xs.length := by rw [e3, plMs_len]
  refine Just.of_ret ?_
  refine enterA (X := nX) (vs := [.agg #[.slice LA la.length gca, .slice LB lb.length gcb], .slice X l.length cx]) Try.func5 Try.ntmps5 rfl rfl Mem.nil ?_
  refine run_seq ?_
  refine run_region ?_
  refine run_h (.none rfl) (h_box rfl rfl rfl rfl rfl) ?_
  rintro b2 -
  refine run_q (.none rfl) rfl rfl (q_assign rfl rfl) ?_
  refine run_nil ?_
  refine run_seq ?_
  refine run_region ?_
  refine run_q (.none rfl) rfl rfl (q_move rfl rfl) ?_
  refine run_q (.none rfl) rfl rfl (q_move rfl rfl) ?_
  refine run_q (.none rfl) rfl rfl (q_len rfl Try.underlying37 rfl) ?_
  refine run_q (.none rfl) rfl rfl (q_min2 rfl rfl rfl) ?_
  refine run_q (.none rfl) rfl rfl (q_sliceH rfl Try.underlying37 sz25 rfl rfl (by omega)) ?_
  refine run_q (.none rfl) rfl rfl (q_assign rfl rfl) ?_
  refine run_nil ?_
  refine run_sub (subMk (.cons (s := 1) rfl (.cons (s := 2) rfl (.cons (s := 4) rfl .nil))) .refl) ?_
  refine run_seq ?_
  refine run_sub (subMk (.cons' (s := 1) (v' := .slice X xs.length cx) rfl (by rw [hxl]; congr 1; omega) (.cons (s := 2) rfl (.cons (s := 4) rfl .nil))) .refl) ?_
  refine run_region ?_
  refine run_q (.none rfl) rfl rfl (q_loadBN rfl agg36 rfl Sel.here (.cons rfl (.cons rfl CellsAt.nil)) rfl) ?_
  refine run_h (.none rfl) (h_call rfl rfl rfl call17 (.cons rfl Evs.nil) (fun w hk hm => heights_ret la lb LA LB gca gcb w (hla.kept0 hk) (hlb.kept0 hk) hbA hbB hca hcb)) ?_
  rintro ⟨v, m⟩ ⟨P, cp, Q, cq, rfl, rfl⟩
  show Run _ _ _ _ _ _ _ ⟨(22, .tuple #[.slice P (gN la lb) cp, .slice Q (gN la lb) cq]) :: _, _ :: _ :: _⟩
  refine run_q (.none rfl) rfl rfl (q_move rfl rfl) ?_
  refine run_q (.none rfl) rfl rfl (q_extract rfl rfl rfl) ?_
  refine run_q (.none rfl) rfl rfl (q_extract rfl rfl rfl) ?_
  refine run_q (.none rfl) rfl rfl (q_assign rfl rfl) ?_
  refine run_q (.none rfl) rfl rfl (q_assign rfl rfl) ?_
  refine run_nil ?_
  refine run_sub (subMk (.cons (s := 1) rfl (.cons (s := 4) rfl (.cons (s := 5) rfl (.cons (s := 6) rfl .nil)))) .refl) ?_
  refine run_seq ?_
  refine run_region ?_
  refine run_q (.none rfl) rfl rfl (q_move rfl rfl) ?_
  refine run_q (.none rfl) rfl rfl (q_move rfl rfl) ?_
  refine run_h (.none rfl) (h_call rfl rfl rfl call18 (.cons rfl (.cons rfl Evs.nil)) (fun w hk hm => skylines_ret (gs la lb la (gN la lb)) (gs la lb lb (gN la lb)) (gN la lb) P Q cp cq w (own_rd (Sel.here.holds hm)) (own_rd ((Sel.there Sel.here).holds hm)) gs_len gs_len ⟨by omega, by omega⟩ (fun i => gs_bd) (fun i => gs_bd))) ?_
  rintro ⟨v, m⟩ ⟨pa, pb, A, B, ca, cb, rfl, hcA, hcB, rfl⟩
  show Run _ _ _ _ _ _ _ ⟨(28, .tuple #[.pointer (some ⟨pa, 0, none⟩), .pointer (some ⟨pb, 0, none⟩), .bool true]) :: _, _ :: _ :: _ :: _ :: _⟩
  refine run_q (.none rfl) rfl rfl (q_move rfl rfl) ?_
  refine run_q (.none rfl) rfl rfl (q_extract rfl rfl rfl) ?_
  refine run_q (.none rfl) rfl rfl (q_extract rfl rfl rfl) ?_
  refine run_q (.none rfl) rfl rfl (q_extract rfl rfl rfl) ?_
  refine run_q (.none rfl) rfl rfl (q_assign rfl rfl) ?_
  refine run_q (.none rfl) rfl rfl (q_assign rfl rfl) ?_
  refine run_q (.none rfl) rfl rfl (q_assign rfl rfl) ?_
  refine run_nil ?_
  refine run_sub (subMk (.cons (s := 1) rfl (.cons (s := 4) rfl (.cons (s := 5) rfl (.cons (s := 6) rfl (.cons (s := 7) rfl (.cons (s := 8) rfl (.cons (s := 9) rfl .nil))))))) .refl) ?_
  refine run_seq ?_
  refine run_seq ?_
  refine run_region ?_
  refine run_q (.none rfl) rfl rfl (q_call rfl call13 Evs.nil (fun w hk hm => known_just w)) ?_
  refine run_q (.none rfl) rfl rfl (q_not rfl rfl) ?_
  refine run_q (.none rfl) rfl rfl (q_move rfl rfl) ?_
  refine run_q (.on rfl rfl rfl rfl) rfl rfl (q_move rfl rfl) ?_
  refine run_q (.on rfl rfl rfl rfl) rfl rfl (q_not rfl rfl) ?_
  refine run_q (.none rfl) rfl rfl (q_pickF rfl rfl rfl rfl) ?_
  refine run_nil ?_
  refine run_sub (subMk (.cons (s := 1) rfl (.cons (s := 4) rfl (.cons (s := 5) rfl (.cons (s := 6) rfl (.cons (s := 7) rfl (.cons (s := 8) rfl (.cons (s := 37) rfl .nil))))))) .refl) ?_
  refine run_condF rfl rfl ?_
  refine run_skip ?_
  refine run_seq ?_
  refine run_region ?_
  refine run_q (.none rfl) rfl rfl (q_move rfl rfl) ?_
  refine run_q (.none rfl) rfl rfl (q_move rfl rfl) ?_
  refine run_q (.none rfl) rfl rfl (q_move rfl rfl) ?_
  refine run_h (.none rfl) (h_callX [_, _, _, _] _ rfl rfl rfl call19 (.cons rfl (.cons rfl (.cons rfl Evs.nil))) ((Sel.perm Sel.here).trans (.cons _ ((Sel.perm Sel.here).trans (.cons _ ((Sel.perm Sel.here).trans (.cons _ (Sel.perm Sel.here))))))) (Y := fun _ => atAny [_, _, _, _]) (fun _ _ h => h) (fun w hk hm => Place_n xs X cx (gs la lb la (gN la lb)) (gs la lb lb (gN la lb)) pa pb A B ca cb (gN la lb) w gs_len gs_len ((hm.perm ((Sel.perm Sel.here).trans (.cons _ ((Sel.perm Sel.here).trans (.cons _ ((Sel.perm Sel.here).trans (.cons _ (Sel.perm Sel.here)))))))).give (rs := [_, _, _, _])) (keep_inp hx hk (hm.perm ((Sel.perm Sel.here).trans (.cons _ ((Sel.perm Sel.here).trans (.cons _ ((Sel.perm Sel.here).trans (.cons _ (Sel.perm Sel.here))))))))) (by omega) (by omega) hcA hcB hbdA hbdB)) ?_
  rintro ⟨v, m⟩ ⟨A2, ca2, B2, cb2, O, co, rfl, hcA2, hcB2, rfl⟩
  show Run _ _ _ _ _ _ _ ⟨(42, .tuple #[.slice O (placeM xs (gs la lb la (gN la lb)) (gs la lb lb (gN la lb))).length co, .int .i64 (placeE xs (gs la lb la (gN la lb)) (gs la lb lb (gN la lb)))]) :: _, _ :: _ :: _ :: _ :: _ :: _⟩
  refine run_q (.none rfl) rfl rfl (q_move rfl rfl) ?_
  refine run_q (.none rfl) rfl rfl (q_extract rfl rfl rfl) ?_
  refine run_q (.none rfl) rfl rfl (q_extract rfl rfl rfl) ?_
  refine run_q (.none rfl) rfl rfl (q_assign rfl rfl) ?_
  refine run_q (.none rfl) rfl rfl (q_assign rfl rfl) ?_
  refine run_nil ?_
  refine run_sub (subMk (.cons (s := 1) rfl (.cons (s := 4) rfl (.cons (s := 5) rfl (.cons (s := 6) rfl (.cons (s := 10) rfl (.cons (s := 11) rfl .nil)))))) .refl) ?_
  refine run_seq ?_
  refine run_seq ?_
  refine run_region ?_
  refine run_q (.none rfl) rfl rfl (q_move rfl rfl) ?_
  refine run_q (.none rfl) rfl rfl (q_neq rfl rfl rfl) ?_
  refine run_nil ?_
  refine run_condF rfl (by rw [hE]; rfl) ?_
  refine run_skip ?_
  refine run_seq ?_
  refine run_seq ?_
  refine run_region ?_
  refine run_q (.none rfl) rfl rfl (q_move rfl rfl) ?_
  refine run_q (.none rfl) rfl rfl (q_len rfl Try.underlying44 rfl) ?_
  refine run_q (.none rfl) rfl rfl (q_move rfl rfl) ?_
  refine run_q (.none rfl) rfl rfl (q_len rfl Try.underlying37 rfl) ?_
  refine run_q (.none rfl) rfl rfl (q_neq rfl rfl rfl) ?_
  refine run_nil ?_
  refine run_sub (subMk (.cons (s := 1) rfl (.cons (s := 4) rfl (.cons (s := 5) rfl (.cons (s := 6) rfl (.cons (s := 10) rfl (.cons (s := 51) rfl .nil)))))) .refl) ?_
  refine run_condF rfl (by rw [hMl]; simp) ?_
  refine run_skip ?_
  refine run_seq ?_
  refine run_seq ?_
  refine run_region ?_
  refine run_q (.none rfl) rfl rfl (q_assign rfl rfl) ?_
  refine run_nil ?_
  refine run_block ?_
  refine run_sub (subMk (.cons (s := 12) rfl (.cons (s := 1) rfl (.cons (s := 4) rfl (.cons (s := 5) rfl (.cons (s := 6) rfl (.cons (s := 10) rfl .nil)))))) (.cons Sel.here .refl (.cons Sel.here .refl (.cons Sel.here .refl (.cons Sel.here .refl (.cons Sel.here .refl (.cons Sel.here .refl (.cons Sel.here .refl (.cons Sel.here .refl .nil))))))))) ?_
  refine run_loopC1M0 (ι := Nat) (fun i => i ≤ xs.length) (fun i => .int .i64 (i : Int))  (fun i => xs.length - i) 0 (by (try dsimp only); exact (by omega)) rfl  ?_
  rintro i hi
  (try dsimp only at hi)
  show Run _ _ _ _ _ _ _ ⟨(12, .int .i64 (i : Int)) :: _, _⟩
  refine run_seq ?_
  refine run_seq ?_
  refine run_region ?_
  refine run_q (.none rfl) rfl rfl (q_move rfl rfl) ?_
  refine run_q (.none rfl) rfl rfl (q_move rfl rfl) ?_
  refine run_q (.none rfl) rfl rfl (q_len rfl Try.underlying44 rfl) ?_
  refine run_q (.none rfl) rfl rfl (q_lss rfl rfl rfl) ?_
  refine run_nil ?_
  refine run_sub (subMk (.cons (s := 1) rfl (.cons (s := 4) rfl (.cons (s := 5) rfl (.cons (s := 6) rfl (.cons (s := 10) rfl (.cons (s := 12) rfl (.cons (s := 55) rfl .nil))))))) .refl) ?_
  refine run_cond rfl (fun g55 => ?_) (fun g55 => ?_)
  · have g55' := g55
    try simp only [decide_eq_true_eq, decide_eq_false_iff_not, beq_iff_eq, beq_eq_false_iff_ne, bne_iff_ne, bne_eq_false_iff_eq, Bool.not_eq_true', Bool.not_eq_false', ne_eq, Int.not_lt, Int.not_le, Decidable.not_not] at g55'
    have hq := reqE_ok (reqsE_ok hq0 (show i < xs.length by omega))
    have hMi : nth (placeM xs (gs la lb la (gN la lb)) (gs la lb lb (gN la lb))) i = plM1 xs (gs la lb la (gN la lb)) (gs la lb lb (gN la lb)) i := by rw [e3]; exact plMs_nth (by omega)
    have h1i := plEs_zero hE0 i (by omega)
    have hbi := mk_bd (xs := xs) (a := (gs la lb la (gN la lb))) (b := (gs la lb lb (gN la lb))) (i := i) (by omega) h1i hbdA hbdB (by omega) (by omega) (by omega) ⟨by omega, by omega⟩ ⟨by omega, by omega⟩
    rw [← hMi] at hbi
    refine run_skip ?_
    refine run_seq ?_
    refine run_block ?_
    refine run_seq ?_
    refine run_seq ?_
    refine run_region ?_
    refine run_q (.none rfl) rfl rfl (q_move rfl rfl) ?_
    refine run_q (.none rfl) rfl rfl (q_move rfl rfl) ?_
    refine run_q (.none rfl) rfl rfl (q_indexS (q := i) rfl Try.underlying37 sz25 rfl rfl (.inp hx .no) (by simp <;> omega) rfl (by omega)) ?_
    refine run_q (.none rfl) rfl rfl (q_fieldAddr (d := 3) rfl Try.underlying25 rfl rfl sz3 rfl) ?_
    refine run_q (.none rfl) rfl rfl (q_loadF rfl one3 rfl (.inp hx .no) (getmap (by omega)) rfl) ?_
    refine run_q (.none rfl) rfl rfl (q_assign rfl rfl) ?_
    refine run_nil ?_
    refine run_sub (subMk (.cons (s := 1) rfl (.cons (s := 4) rfl (.cons (s := 5) rfl (.cons (s := 6) rfl (.cons (s := 10) rfl (.cons (s := 12) rfl (.cons (s := 13) rfl .nil))))))) .refl) ?_
    refine run_block ?_
    refine run_sub (subMk (.cons (s := 13) rfl (.cons (s := 1) rfl (.cons (s := 4) rfl (.cons (s := 5) rfl (.cons (s := 6) rfl (.cons (s := 10) rfl (.cons (s := 12) rfl .nil))))))) (.cons Sel.here .refl (.cons Sel.here .refl (.cons Sel.here .refl (.cons Sel.here .refl (.cons Sel.here .refl (.cons Sel.here .refl (.cons Sel.here .refl (.cons Sel.here .refl .nil))))))))) ?_
    refine run_loopC1M0 (ι := Nat) (fun k => (nth xs i).fst + (k : Int) ≤ (nth xs i).lst + 1) (fun k => .int .i64 ((nth xs i).fst + (k : Int)))  (fun k => (nth xs i).lst.toNat + 1 - k) 0 (by (try dsimp only); exact (by omega)) (vint (by omega))  ?_
    rintro k hk
    (try dsimp only at hk)
    show Run _ _ _ _ _ _ _ ⟨(13, .int .i64 ((nth xs i).fst + (k : Int))) :: _, _⟩
    refine run_seq ?_
    refine run_seq ?_
    refine run_region ?_
    refine run_q (.none rfl) rfl rfl (q_move rfl rfl) ?_
    refine run_q (.none rfl) rfl rfl (q_move rfl rfl) ?_
    refine run_q (.none rfl) rfl rfl (q_move rfl rfl) ?_
    refine run_q (.none rfl) rfl rfl (q_indexS (q := i) rfl Try.underlying37 sz25 rfl rfl (.inp hx .no) (by simp <;> omega) rfl (by omega)) ?_
    refine run_q (.none rfl) rfl rfl (q_fieldAddr (d := 4) rfl Try.underlying25 rfl rfl sz3 rfl) ?_
    refine run_q (.none rfl) rfl rfl (q_loadF rfl one3 rfl (.inp hx .no) (getmap (by omega)) rfl) ?_
    refine run_q (.none rfl) rfl rfl (q_leq rfl rfl rfl) ?_
    refine run_q (.none rfl) rfl rfl (q_move rfl rfl) ?_
    refine run_split 70 rfl (fun g70 => ?_) (fun g70 => ?_)
    · have g70' := g70
      try simp only [decide_eq_true_eq, decide_eq_false_iff_not, beq_iff_eq, beq_eq_false_iff_ne, bne_iff_ne, bne_eq_false_iff_eq, Bool.not_eq_true', Bool.not_eq_false', ne_eq, Int.not_lt, Int.not_le, Decidable.not_not] at g70'
      refine run_q (.on rfl rfl rfl g70) rfl rfl (q_move rfl rfl) ?_
      refine run_q (.on rfl rfl rfl g70) rfl rfl (q_move rfl rfl) ?_
      refine run_q (.on rfl rfl rfl g70) rfl rfl (q_len rfl Try.underlying38 rfl) ?_
      refine run_q (.on rfl rfl rfl g70) rfl rfl (q_lss rfl rfl rfl) ?_
      refine run_q (.none rfl) rfl rfl (q_pickT rfl rfl g70 rfl) ?_
      refine run_q (.none rfl) rfl rfl (q_move rfl rfl) ?_
      refine run_split 76 rfl (fun g76 => ?_) (fun g76 => ?_)
      · have g76' := g76
        try simp only [decide_eq_true_eq, decide_eq_false_iff_not, beq_iff_eq, beq_eq_false_iff_ne, bne_iff_ne, bne_eq_false_iff_eq, Bool.not_eq_true', Bool.not_eq_false', ne_eq, Int.not_lt, Int.not_le, Decidable.not_not] at g76'
        refine run_q (.on rfl rfl rfl g76) rfl rfl (q_move rfl rfl) ?_
        refine run_q (.on rfl rfl rfl g76) rfl rfl (q_geq rfl rfl rfl) ?_
        refine run_q (.none rfl) rfl rfl (q_pickT rfl rfl g76 rfl) ?_
        refine run_nil ?_
        refine run_sub (subMk (.cons (s := 1) rfl (.cons (s := 4) rfl (.cons (s := 5) rfl (.cons (s := 6) rfl (.cons (s := 10) rfl (.cons (s := 12) rfl (.cons (s := 13) rfl (.cons (s := 79) rfl .nil)))))))) .refl) ?_
        refine run_cond rfl (fun g79 => ?_) (fun g79 => ?_)
        · have g79' := g79
          try simp only [decide_eq_true_eq, decide_eq_false_iff_not, beq_iff_eq, beq_eq_false_iff_ne, bne_iff_ne, bne_eq_false_iff_eq, Bool.not_eq_true', Bool.not_eq_false', ne_eq, Int.not_lt, Int.not_le, Decidable.not_not] at g79'
          refine run_skip ?_
          refine run_seq ?_
          refine run_block ?_
          refine run_seq ?_
          by_cases hsd : (nth xs i).side = -1
          · have hc := clr_b (xs := xs) (a := (gs la lb la (gN la lb))) (b := (gs la lb lb (gN la lb))) (j := (nth xs i).fst.toNat + k) hsd h1i (by omega) (by omega) (by omega)
            rw [← hMi] at hc
            have hbA := gs_bd (la := la) (lb := lb) (x := la) (n := (gN la lb)) (i := (nth xs i).fst.toNat + k)
            have hbB := gs_bd (la := la) (lb := lb) (x := lb) (n := (gN la lb)) (i := (nth xs i).fst.toNat + k)
            refine run_draw [(0, 0), (1, 0), (2, 0), (3, 0), (4, 0), (5, 0), (6, 0), (7, 0), (8, 0), (9, 0), (10, 0), (11, 0), (12, 0), (13, 0), (14, 0), (15, 0), (16, 0), (17, 0), (18, 0), (19, 0), (20, 0), (21, 0), (22, 0), (23, 0), (24, 0), (25, 0), (26, 0), (27, 0), (28, 0), (29, 0), (30, 0), (31, 0), (32, 0), (33, 0), (34, 0), (35, 0), (36, 0), (37, 0), (38, 0), (39, 0), (40, 0), (41, 0)] mixed (by kernel_rfl) .refl ?_
            refine d_q rfl rfl (.none rfl) rfl rfl (q_move rfl rfl) ?_
            refine d_q rfl rfl (.none rfl) rfl rfl (q_move rfl rfl) ?_
            refine d_q rfl rfl (.none rfl) rfl rfl (q_indexS (q := i) rfl Try.underlying37 sz25 rfl rfl (.inp hx .no) (by simp <;> omega) rfl (by omega)) ?_
            refine d_q rfl rfl (.none rfl) rfl rfl (q_fieldAddr (d := 5) rfl Try.underlying25 rfl rfl sz3 rfl) ?_
            refine d_q rfl rfl (.none rfl) rfl rfl (q_loadF rfl one3 rfl (.inp hx .no) (getmap (by omega)) rfl) ?_
            refine d_q rfl rfl (.none rfl) rfl rfl (q_gtr rfl rfl rfl) ?_
            refine d_q rfl rfl (.none rfl) rfl rfl (q_move rfl rfl) ?_
            refine d_off rfl rfl (.no rfl rfl rfl (decide_eq_false (by omega))) rfl rfl ?_
            refine d_off rfl rfl (.no rfl rfl rfl (decide_eq_false (by omega))) rfl rfl ?_
            refine d_off rfl rfl (.no rfl rfl rfl (decide_eq_false (by omega))) rfl rfl ?_
            refine d_off rfl rfl (.no rfl rfl rfl (decide_eq_false (by omega))) rfl rfl ?_
            refine d_off rfl rfl (.no rfl rfl rfl (decide_eq_false (by omega))) rfl rfl ?_
            refine d_off rfl rfl (.no rfl rfl rfl (decide_eq_false (by omega))) rfl rfl ?_
            refine d_off rfl rfl (.no rfl rfl rfl (decide_eq_false (by omega))) rfl rfl ?_
            refine d_off rfl rfl (.no rfl rfl rfl (decide_eq_false (by omega))) rfl rfl ?_
            refine d_off rfl rfl (.no rfl rfl rfl (decide_eq_false (by omega))) rfl rfl ?_
            refine d_off rfl rfl (.no rfl rfl rfl (decide_eq_false (by omega))) rfl rfl ?_
            refine d_off rfl rfl (.no rfl rfl rfl (decide_eq_false (by omega))) rfl rfl ?_
            refine d_off rfl rfl (.no rfl rfl rfl (decide_eq_false (by omega))) rfl rfl ?_
            refine d_q rfl rfl (.none rfl) rfl rfl (q_pickF rfl rfl (decide_eq_false (by omega)) rfl) ?_
            refine d_q rfl rfl (.none rfl) rfl rfl (q_move rfl rfl) ?_
            refine d_q rfl rfl (.on rfl rfl rfl rfl) rfl rfl (q_move rfl rfl) ?_
            refine d_q rfl rfl (.on rfl rfl rfl rfl) rfl rfl (q_move rfl rfl) ?_
            refine d_q rfl rfl (.on rfl rfl rfl rfl) rfl rfl (q_indexS (q := i) rfl Try.underlying37 sz25 rfl rfl (.inp hx .no) (by simp <;> omega) rfl (by omega)) ?_
            refine d_q rfl rfl (.on rfl rfl rfl rfl) rfl rfl (q_fieldAddr (d := 5) rfl Try.underlying25 rfl rfl sz3 rfl) ?_
            refine d_q rfl rfl (.on rfl rfl rfl rfl) rfl rfl (q_loadF rfl one3 rfl (.inp hx .no) (getmap (by omega)) rfl) ?_
            refine d_q rfl rfl (.on rfl rfl rfl rfl) rfl rfl (q_lss rfl rfl rfl) ?_
            refine d_q rfl rfl (.on rfl rfl rfl rfl) rfl rfl (q_move rfl rfl) ?_
            refine d_q rfl rfl (.on rfl rfl rfl (decide_eq_true (by omega))) rfl rfl (q_move rfl rfl) ?_
            refine d_q rfl rfl (.on rfl rfl rfl (decide_eq_true (by omega))) rfl rfl (q_move rfl rfl) ?_
            refine d_q rfl rfl (.on rfl rfl rfl (decide_eq_true (by omega))) rfl rfl (q_indexS (q := i) rfl Try.underlying44 sz50 rfl rfl (.own (.there (.there (.there (.there Sel.here))))) (by rw [List.length_map]) rfl (by omega)) ?_
            refine d_q rfl rfl (.on rfl rfl rfl (decide_eq_true (by omega))) rfl rfl (q_fieldAddr (d := 8) rfl Try.underlying50 rfl rfl sz48 rfl) ?_
            refine d_q rfl rfl (.on rfl rfl rfl (decide_eq_true (by omega))) rfl rfl (q_fieldF (d2 := 11) rfl Try.underlying48 rfl rfl sz3 rfl) ?_
            refine d_q rfl rfl (.on rfl rfl rfl (decide_eq_true (by omega))) rfl rfl (q_loadF rfl one3 rfl (.own (.there (.there (.there (.there Sel.here))))) (getmap (by omega)) rfl) ?_
            refine d_q rfl rfl (.on rfl rfl rfl (decide_eq_true (by omega))) rfl rfl (q_move rfl rfl) ?_
            refine d_q rfl rfl (.on rfl rfl rfl (decide_eq_true (by omega))) rfl rfl (q_move rfl rfl) ?_
            refine d_q rfl rfl (.on rfl rfl rfl (decide_eq_true (by omega))) rfl rfl (q_indexS (q := ((nth xs i).fst.toNat + k)) rfl Try.underlying38 sz3 rfl rfl (.own (.there (.there (.there (.there (.there (.there Sel.here))))))) (by rw [List.length_map, negL_len, gs_len]) (by omega) (by omega)) ?_
            refine d_q rfl rfl (.on rfl rfl rfl (decide_eq_true (by omega))) rfl rfl (q_loadC rfl one3 rfl (.own (.there (.there (.there (.there (.there (.there Sel.here))))))) (getmap (by rw [negL_len]; omega))) ?_
            refine d_q rfl rfl (.on rfl rfl rfl (decide_eq_true (by omega))) rfl rfl (q_sub rfl rfl rfl (by rw [negL_nth]; omega)) ?_
            refine d_q rfl rfl (.on rfl rfl rfl (decide_eq_true (by omega))) rfl rfl (q_gtr rfl rfl rfl) ?_
            refine d_q rfl rfl (.on rfl rfl rfl rfl) rfl rfl (q_pickT rfl rfl (decide_eq_true (by omega)) rfl) ?_
            refine d_q rfl rfl (.none rfl) rfl rfl (q_pickF rfl rfl rfl rfl) ?_
            refine d_nil ?_
            refine run_sub (subMk (.cons (s := 1) rfl (.cons (s := 4) rfl (.cons (s := 5) rfl (.cons (s := 6) rfl (.cons (s := 10) rfl (.cons (s := 12) rfl (.cons (s := 13) rfl (.cons (s := 123) rfl .nil)))))))) .refl) ?_
            refine run_condF rfl (by rw [negL_nth]; exact decide_eq_false (by omega)) ?_
            refine run_skip ?_
            refine run_blk ?_
            refine run_region ?_
            refine run_q (.none rfl) rfl rfl (q_move rfl rfl) ?_
            refine run_q (.none rfl) rfl rfl (q_add rfl rfl rfl (by omega)) ?_
            refine run_q (.none rfl) rfl rfl (q_assign rfl rfl) ?_
            refine run_nil ?_
            refine run_sub (subMk (.cons (s := 1) rfl (.cons (s := 4) rfl (.cons (s := 5) rfl (.cons (s := 6) rfl (.cons (s := 10) rfl (.cons (s := 12) rfl (.cons (s := 13) rfl .nil))))))) .refl) ?_
            exact run_again (k + 1) (by (try dsimp only); exact (by omega)) (by (try dsimp only); omega) (subMk (.cons' (s := 13) rfl (vint (by omega)) (.cons (s := 1) rfl (.cons (s := 4) rfl (.cons (s := 5) rfl (.cons (s := 6) rfl (.cons (s := 10) rfl (.cons (s := 12) rfl .nil))))))) (.cons Sel.here .refl (.cons Sel.here .refl (.cons Sel.here .refl (.cons Sel.here .refl (.cons Sel.here .refl (.cons Sel.here .refl (.cons Sel.here .refl (.cons Sel.here .refl .nil)))))))))
          · have hc := clr_a (xs := xs) (a := (gs la lb la (gN la lb))) (b := (gs la lb lb (gN la lb))) (j := (nth xs i).fst.toNat + k) hsd h1i (by omega) (by omega) (by omega)
            rw [← hMi] at hc
            have hbA := gs_bd (la := la) (lb := lb) (x := la) (n := (gN la lb)) (i := (nth xs i).fst.toNat + k)
            have hbB := gs_bd (la := la) (lb := lb) (x := lb) (n := (gN la lb)) (i := (nth xs i).fst.toNat + k)
            refine run_draw [(0, 0), (1, 0), (2, 0), (3, 0), (4, 0), (5, 0), (6, 0), (7, 0), (8, 0), (9, 0), (10, 0), (11, 0), (12, 0), (13, 0), (14, 0), (15, 0), (16, 0), (17, 0), (18, 0), (19, 0), (20, 0), (21, 0), (22, 0), (23, 0), (24, 0), (25, 0), (26, 0), (27, 0), (28, 0), (29, 0), (30, 0), (31, 0), (32, 0), (33, 0), (34, 0), (35, 0), (36, 0), (37, 0), (38, 0), (39, 0), (40, 0), (41, 0)] mixed (by kernel_rfl) .refl ?_
            refine d_q rfl rfl (.none rfl) rfl rfl (q_move rfl rfl) ?_
            refine d_q rfl rfl (.none rfl) rfl rfl (q_move rfl rfl) ?_
            refine d_q rfl rfl (.none rfl) rfl rfl (q_indexS (q := i) rfl Try.underlying37 sz25 rfl rfl (.inp hx .no) (by simp <;> omega) rfl (by omega)) ?_
            refine d_q rfl rfl (.none rfl) rfl rfl (q_fieldAddr (d := 5) rfl Try.underlying25 rfl rfl sz3 rfl) ?_
            refine d_q rfl rfl (.none rfl) rfl rfl (q_loadF rfl one3 rfl (.inp hx .no) (getmap (by omega)) rfl) ?_
            refine d_q rfl rfl (.none rfl) rfl rfl (q_gtr rfl rfl rfl) ?_
            refine d_q rfl rfl (.none rfl) rfl rfl (q_move rfl rfl) ?_
            refine d_q rfl rfl (.on rfl rfl rfl (decide_eq_true (by omega))) rfl rfl (q_move rfl rfl) ?_
            refine d_q rfl rfl (.on rfl rfl rfl (decide_eq_true (by omega))) rfl rfl (q_move rfl rfl) ?_
            refine d_q rfl rfl (.on rfl rfl rfl (decide_eq_true (by omega))) rfl rfl (q_indexS (q := i) rfl Try.underlying44 sz50 rfl rfl (.own (.there (.there (.there (.there Sel.here))))) (by rw [List.length_map]) rfl (by omega)) ?_
            refine d_q rfl rfl (.on rfl rfl rfl (decide_eq_true (by omega))) rfl rfl (q_fieldAddr (d := 8) rfl Try.underlying50 rfl rfl sz48 rfl) ?_
            refine d_q rfl rfl (.on rfl rfl rfl (decide_eq_true (by omega))) rfl rfl (q_fieldF (d2 := 9) rfl Try.underlying48 rfl rfl sz3 rfl) ?_
            refine d_q rfl rfl (.on rfl rfl rfl (decide_eq_true (by omega))) rfl rfl (q_loadF rfl one3 rfl (.own (.there (.there (.there (.there Sel.here))))) (getmap (by omega)) rfl) ?_
            refine d_q rfl rfl (.on rfl rfl rfl (decide_eq_true (by omega))) rfl rfl (q_move rfl rfl) ?_
            refine d_q rfl rfl (.on rfl rfl rfl (decide_eq_true (by omega))) rfl rfl (q_move rfl rfl) ?_
            refine d_q rfl rfl (.on rfl rfl rfl (decide_eq_true (by omega))) rfl rfl (q_indexS (q := ((nth xs i).fst.toNat + k)) rfl Try.underlying38 sz3 rfl rfl (.own (.there (.there (.there (.there (.there Sel.here)))))) (by rw [List.length_map, gs_len]) (by omega) (by omega)) ?_
            refine d_q rfl rfl (.on rfl rfl rfl (decide_eq_true (by omega))) rfl rfl (q_loadC rfl one3 rfl (.own (.there (.there (.there (.there (.there Sel.here)))))) (getmap (by omega))) ?_
            refine d_q rfl rfl (.on rfl rfl rfl (decide_eq_true (by omega))) rfl rfl (q_add rfl rfl rfl (by omega)) ?_
            refine d_q rfl rfl (.on rfl rfl rfl (decide_eq_true (by omega))) rfl rfl (q_lss rfl rfl rfl) ?_
            refine d_q rfl rfl (.none rfl) rfl rfl (q_pickT rfl rfl (decide_eq_true (by omega)) rfl) ?_
            refine d_q rfl rfl (.none rfl) rfl rfl (q_move rfl rfl) ?_
            refine d_q rfl rfl (.on rfl rfl rfl (decide_eq_false (by omega))) rfl rfl (q_move rfl rfl) ?_
            refine d_q rfl rfl (.on rfl rfl rfl (decide_eq_false (by omega))) rfl rfl (q_move rfl rfl) ?_
            refine d_q rfl rfl (.on rfl rfl rfl (decide_eq_false (by omega))) rfl rfl (q_indexS (q := i) rfl Try.underlying37 sz25 rfl rfl (.inp hx .no) (by simp <;> omega) rfl (by omega)) ?_
            refine d_q rfl rfl (.on rfl rfl rfl (decide_eq_false (by omega))) rfl rfl (q_fieldAddr (d := 5) rfl Try.underlying25 rfl rfl sz3 rfl) ?_
            refine d_q rfl rfl (.on rfl rfl rfl (decide_eq_false (by omega))) rfl rfl (q_loadF rfl one3 rfl (.inp hx .no) (getmap (by omega)) rfl) ?_
            refine d_q rfl rfl (.on rfl rfl rfl (decide_eq_false (by omega))) rfl rfl (q_lss rfl rfl rfl) ?_
            refine d_q rfl rfl (.on rfl rfl rfl (decide_eq_false (by omega))) rfl rfl (q_move rfl rfl) ?_
            refine d_off rfl rfl (.no rfl rfl rfl (decide_eq_false (by omega))) rfl rfl ?_
            refine d_off rfl rfl (.no rfl rfl rfl (decide_eq_false (by omega))) rfl rfl ?_
            refine d_off rfl rfl (.no rfl rfl rfl (decide_eq_false (by omega))) rfl rfl ?_
            refine d_off rfl rfl (.no rfl rfl rfl (decide_eq_false (by omega))) rfl rfl ?_
            refine d_off rfl rfl (.no rfl rfl rfl (decide_eq_false (by omega))) rfl rfl ?_
            refine d_off rfl rfl (.no rfl rfl rfl (decide_eq_false (by omega))) rfl rfl ?_
            refine d_off rfl rfl (.no rfl rfl rfl (decide_eq_false (by omega))) rfl rfl ?_
            refine d_off rfl rfl (.no rfl rfl rfl (decide_eq_false (by omega))) rfl rfl ?_
            refine d_off rfl rfl (.no rfl rfl rfl (decide_eq_false (by omega))) rfl rfl ?_
            refine d_off rfl rfl (.no rfl rfl rfl (decide_eq_false (by omega))) rfl rfl ?_
            refine d_off rfl rfl (.no rfl rfl rfl (decide_eq_false (by omega))) rfl rfl ?_
            refine d_off rfl rfl (.no rfl rfl rfl (decide_eq_false (by omega))) rfl rfl ?_
            refine d_q rfl rfl (.on rfl rfl rfl (decide_eq_false (by omega))) rfl rfl (q_pickF rfl rfl (decide_eq_false (by omega)) rfl) ?_
            refine d_q rfl rfl (.none rfl) rfl rfl (q_pickF rfl rfl (decide_eq_false (by omega)) rfl) ?_
            refine d_nil ?_
            refine run_sub (subMk (.cons (s := 1) rfl (.cons (s := 4) rfl (.cons (s := 5) rfl (.cons (s := 6) rfl (.cons (s := 10) rfl (.cons (s := 12) rfl (.cons (s := 13) rfl (.cons (s := 123) rfl .nil)))))))) .refl) ?_
            refine run_condF rfl rfl ?_
            refine run_skip ?_
            refine run_blk ?_
            refine run_region ?_
            refine run_q (.none rfl) rfl rfl (q_move rfl rfl) ?_
            refine run_q (.none rfl) rfl rfl (q_add rfl rfl rfl (by omega)) ?_
            refine run_q (.none rfl) rfl rfl (q_assign rfl rfl) ?_
            refine run_nil ?_
            refine run_sub (subMk (.cons (s := 1) rfl (.cons (s := 4) rfl (.cons (s := 5) rfl (.cons (s := 6) rfl (.cons (s := 10) rfl (.cons (s := 12) rfl (.cons (s := 13) rfl .nil))))))) .refl) ?_
            exact run_again (k + 1) (by (try dsimp only); exact (by omega)) (by (try dsimp only); omega) (subMk (.cons' (s := 13) rfl (vint (by omega)) (.cons (s := 1) rfl (.cons (s := 4) rfl (.cons (s := 5) rfl (.cons (s := 6) rfl (.cons (s := 10) rfl (.cons (s := 12) rfl .nil))))))) (.cons Sel.here .refl (.cons Sel.here .refl (.cons Sel.here .refl (.cons Sel.here .refl (.cons Sel.here .refl (.cons Sel.here .refl (.cons Sel.here .refl (.cons Sel.here .refl .nil)))))))))
        · have g79' := g79
          try simp only [decide_eq_true_eq, decide_eq_false_iff_not, beq_iff_eq, beq_eq_false_iff_ne, bne_iff_ne, bne_eq_false_iff_eq, Bool.not_eq_true', Bool.not_eq_false', ne_eq, Int.not_lt, Int.not_le, Decidable.not_not] at g79'
          refine run_exit rfl ?_
          refine run_seq ?_
          refine run_region ?_
          refine run_q (.none rfl) rfl rfl (q_assign rfl rfl) ?_
          refine run_nil ?_
          refine run_block ?_
          refine run_sub (subMk (.cons (s := 14) rfl (.cons (s := 1) rfl (.cons (s := 4) rfl (.cons (s := 5) rfl (.cons (s := 6) rfl (.cons (s := 10) rfl (.cons (s := 12) rfl .nil))))))) (.cons Sel.here .refl (.cons Sel.here .refl (.cons Sel.here .refl (.cons Sel.here .refl (.cons Sel.here .refl (.cons Sel.here .refl (.cons Sel.here .refl (.cons Sel.here .refl .nil))))))))) ?_
          refine run_loopC1M0 (ι := Nat) (fun k => k ≤ i) (fun k => .int .i64 (k : Int))  (fun k => i - k) 0 (by (try dsimp only); exact (by omega)) rfl  ?_
          rintro k hk
          (try dsimp only at hk)
          show Run _ _ _ _ _ _ _ ⟨(14, .int .i64 (k : Int)) :: _, _⟩
          refine run_seq ?_
          refine run_seq ?_
          refine run_region ?_
          refine run_q (.none rfl) rfl rfl (q_move rfl rfl) ?_
          refine run_q (.none rfl) rfl rfl (q_move rfl rfl) ?_
          refine run_q (.none rfl) rfl rfl (q_lss rfl rfl rfl) ?_
          refine run_nil ?_
          refine run_cond rfl (fun g126 => ?_) (fun g126 => ?_)
          · have g126' := g126
            try simp only [decide_eq_true_eq, decide_eq_false_iff_not, beq_iff_eq, beq_eq_false_iff_ne, bne_iff_ne, bne_eq_false_iff_eq, Bool.not_eq_true', Bool.not_eq_false', ne_eq, Int.not_lt, Int.not_le, Decidable.not_not] at g126'
            refine run_skip ?_
            refine run_seq ?_
            refine run_block ?_
            refine run_seq ?_
            refine run_seq ?_
            by_cases hss : (nth xs k).side = (nth xs i).side
            · by_cases ho1 : (nth xs k).fst ≤ (nth xs i).lst
              · by_cases ho2 : (nth xs i).fst ≤ (nth xs k).lst
                · refine run_draw [(0, 0), (1, 0), (2, 0), (3, 0), (4, 0), (5, 0), (6, 0), (7, 0), (8, 0), (9, 0), (10, 0), (11, 0), (12, 0), (13, 0), (14, 0), (15, 0), (16, 0), (17, 0), (18, 0), (19, 0), (20, 0), (21, 0), (22, 0), (23, 0), (24, 0), (25, 0), (26, 0), (27, 0), (28, 0), (29, 0), (30, 0), (31, 0), (32, 0), (33, 0), (34, 0), (35, 0), (36, 0)] mixed (by kernel_rfl) .refl ?_
                  refine d_q rfl rfl (.none rfl) rfl rfl (q_move rfl rfl) ?_
                  refine d_q rfl rfl (.none rfl) rfl rfl (q_move rfl rfl) ?_
                  refine d_q rfl rfl (.none rfl) rfl rfl (q_indexS (q := k) rfl Try.underlying37 sz25 rfl rfl (.inp hx .no) (by simp <;> omega) rfl (by omega)) ?_
                  refine d_q rfl rfl (.none rfl) rfl rfl (q_fieldAddr (d := 5) rfl Try.underlying25 rfl rfl sz3 rfl) ?_
                  refine d_q rfl rfl (.none rfl) rfl rfl (q_loadF rfl one3 rfl (.inp hx .no) (getmap (by omega)) rfl) ?_
                  refine d_q rfl rfl (.none rfl) rfl rfl (q_move rfl rfl) ?_
                  refine d_q rfl rfl (.none rfl) rfl rfl (q_move rfl rfl) ?_
                  refine d_q rfl rfl (.none rfl) rfl rfl (q_indexS (q := i) rfl Try.underlying37 sz25 rfl rfl (.inp hx .no) (by simp <;> omega) rfl (by omega)) ?_
                  refine d_q rfl rfl (.none rfl) rfl rfl (q_fieldAddr (d := 5) rfl Try.underlying25 rfl rfl sz3 rfl) ?_
                  refine d_q rfl rfl (.none rfl) rfl rfl (q_loadF rfl one3 rfl (.inp hx .no) (getmap (by omega)) rfl) ?_
                  refine d_q rfl rfl (.none rfl) rfl rfl (q_neq rfl rfl rfl) ?_
                  refine d_q rfl rfl (.none rfl) rfl rfl (q_move rfl rfl) ?_
                  refine d_q rfl rfl (.on rfl rfl rfl (by simp [hss])) rfl rfl (q_move rfl rfl) ?_
                  refine d_q rfl rfl (.on rfl rfl rfl (by simp [hss])) rfl rfl (q_move rfl rfl) ?_
                  refine d_q rfl rfl (.on rfl rfl rfl (by simp [hss])) rfl rfl (q_indexS (q := k) rfl Try.underlying37 sz25 rfl rfl (.inp hx .no) (by simp <;> omega) rfl (by omega)) ?_
                  refine d_q rfl rfl (.on rfl rfl rfl (by simp [hss])) rfl rfl (q_fieldAddr (d := 3) rfl Try.underlying25 rfl rfl sz3 rfl) ?_
                  refine d_q rfl rfl (.on rfl rfl rfl (by simp [hss])) rfl rfl (q_loadF rfl one3 rfl (.inp hx .no) (getmap (by omega)) rfl) ?_
                  refine d_q rfl rfl (.on rfl rfl rfl (by simp [hss])) rfl rfl (q_move rfl rfl) ?_
                  refine d_q rfl rfl (.on rfl rfl rfl (by simp [hss])) rfl rfl (q_move rfl rfl) ?_
                  refine d_q rfl rfl (.on rfl rfl rfl (by simp [hss])) rfl rfl (q_indexS (q := i) rfl Try.underlying37 sz25 rfl rfl (.inp hx .no) (by simp <;> omega) rfl (by omega)) ?_
                  refine d_q rfl rfl (.on rfl rfl rfl (by simp [hss])) rfl rfl (q_fieldAddr (d := 4) rfl Try.underlying25 rfl rfl sz3 rfl) ?_
                  refine d_q rfl rfl (.on rfl rfl rfl (by simp [hss])) rfl rfl (q_loadF rfl one3 rfl (.inp hx .no) (getmap (by omega)) rfl) ?_
                  refine d_q rfl rfl (.on rfl rfl rfl (by simp [hss])) rfl rfl (q_gtr rfl rfl rfl) ?_
                  refine d_q rfl rfl (.none rfl) rfl rfl (q_pickF rfl rfl (by simp [hss]) rfl) ?_
                  refine d_q rfl rfl (.none rfl) rfl rfl (q_move rfl rfl) ?_
                  refine d_q rfl rfl (.on rfl rfl rfl (decide_eq_false (by omega))) rfl rfl (q_move rfl rfl) ?_
                  refine d_q rfl rfl (.on rfl rfl rfl (decide_eq_false (by omega))) rfl rfl (q_move rfl rfl) ?_
                  refine d_q rfl rfl (.on rfl rfl rfl (decide_eq_false (by omega))) rfl rfl (q_indexS (q := i) rfl Try.underlying37 sz25 rfl rfl (.inp hx .no) (by simp <;> omega) rfl (by omega)) ?_
                  refine d_q rfl rfl (.on rfl rfl rfl (decide_eq_false (by omega))) rfl rfl (q_fieldAddr (d := 3) rfl Try.underlying25 rfl rfl sz3 rfl) ?_
                  refine d_q rfl rfl (.on rfl rfl rfl (decide_eq_false (by omega))) rfl rfl (q_loadF rfl one3 rfl (.inp hx .no) (getmap (by omega)) rfl) ?_
                  refine d_q rfl rfl (.on rfl rfl rfl (decide_eq_false (by omega))) rfl rfl (q_move rfl rfl) ?_
                  refine d_q rfl rfl (.on rfl rfl rfl (decide_eq_false (by omega))) rfl rfl (q_move rfl rfl) ?_
                  refine d_q rfl rfl (.on rfl rfl rfl (decide_eq_false (by omega))) rfl rfl (q_indexS (q := k) rfl Try.underlying37 sz25 rfl rfl (.inp hx .no) (by simp <;> omega) rfl (by omega)) ?_
                  refine d_q rfl rfl (.on rfl rfl rfl (decide_eq_false (by omega))) rfl rfl (q_fieldAddr (d := 4) rfl Try.underlying25 rfl rfl sz3 rfl) ?_
                  refine d_q rfl rfl (.on rfl rfl rfl (decide_eq_false (by omega))) rfl rfl (q_loadF rfl one3 rfl (.inp hx .no) (getmap (by omega)) rfl) ?_
                  refine d_q rfl rfl (.on rfl rfl rfl (decide_eq_false (by omega))) rfl rfl (q_gtr rfl rfl rfl) ?_
                  refine d_q rfl rfl (.none rfl) rfl rfl (q_pickF rfl rfl (decide_eq_false (by omega)) rfl) ?_
                  refine d_nil ?_
                  refine run_sub (subMk (.cons (s := 1) rfl (.cons (s := 4) rfl (.cons (s := 5) rfl (.cons (s := 6) rfl (.cons (s := 10) rfl (.cons (s := 12) rfl (.cons (s := 14) rfl (.cons (s := 165) rfl .nil)))))))) .refl) ?_
                  refine run_condF rfl (decide_eq_false (by omega)) ?_
                  refine run_skip ?_
                  refine run_seq ?_
                  by_cases hsd2 : (nth xs i).side = -1
                  · have hqk := reqE_ok (reqsE_ok hq0 (show k < xs.length by omega))
                    have h1k := plEs_zero hE0 k (by omega)
                    have hMk : nth (placeM xs (gs la lb la (gN la lb)) (gs la lb lb (gN la lb))) k = plM1 xs (gs la lb la (gN la lb)) (gs la lb lb (gN la lb)) k := by rw [e3]; exact plMs_nth (by omega)
                    have hc := clr2_b (xs := xs) (a := (gs la lb la (gN la lb))) (b := (gs la lb lb (gN la lb))) (j := (max (nth xs i).fst (nth xs k).fst).toNat) (i := i) (k := k) (by omega) hsd2 (by rw [hss]; exact hsd2) h1i h1k (by omega) (by omega) (by omega) (by omega) (by omega)
                    have hbk := mk_bd (xs := xs) (a := (gs la lb la (gN la lb))) (b := (gs la lb lb (gN la lb))) (i := k) (by omega) h1k hbdA hbdB (by omega) (by omega) (by omega) ⟨by omega, by omega⟩ ⟨by omega, by omega⟩
                    rw [← hMi, ← hMk] at hc
                    rw [← hMk] at hbk
                    refine run_draw [(0, 0), (1, 0), (2, 0), (3, 0), (4, 0), (5, 0), (6, 0), (7, 0), (8, 0), (9, 0), (10, 0), (11, 0), (12, 0), (13, 0), (14, 0), (15, 0), (16, 0), (17, 0), (18, 0), (19, 0), (20, 0), (21, 0), (22, 0), (23, 0), (24, 0), (25, 0), (26, 0), (27, 0), (28, 0), (29, 0), (30, 0), (31, 0), (32, 0), (33, 0), (34, 0), (35, 0), (36, 0), (37, 0), (38, 0), (39, 0), (40, 0), (41, 0), (42, 0), (43, 0), (44, 0), (45, 0)] mixed (by kernel_rfl) .refl ?_
                    refine d_q rfl rfl (.none rfl) rfl rfl (q_move rfl rfl) ?_
                    refine d_q rfl rfl (.none rfl) rfl rfl (q_move rfl rfl) ?_
                    refine d_q rfl rfl (.none rfl) rfl rfl (q_indexS (q := i) rfl Try.underlying37 sz25 rfl rfl (.inp hx .no) (by simp <;> omega) rfl (by omega)) ?_
                    refine d_q rfl rfl (.none rfl) rfl rfl (q_fieldAddr (d := 5) rfl Try.underlying25 rfl rfl sz3 rfl) ?_
                    refine d_q rfl rfl (.none rfl) rfl rfl (q_loadF rfl one3 rfl (.inp hx .no) (getmap (by omega)) rfl) ?_
                    refine d_q rfl rfl (.none rfl) rfl rfl (q_gtr rfl rfl rfl) ?_
                    refine d_q rfl rfl (.none rfl) rfl rfl (q_move rfl rfl) ?_
                    refine d_off rfl rfl (.no rfl rfl rfl (decide_eq_false (by omega))) rfl rfl ?_
                    refine d_off rfl rfl (.no rfl rfl rfl (decide_eq_false (by omega))) rfl rfl ?_
                    refine d_off rfl rfl (.no rfl rfl rfl (decide_eq_false (by omega))) rfl rfl ?_
                    refine d_off rfl rfl (.no rfl rfl rfl (decide_eq_false (by omega))) rfl rfl ?_
                    refine d_off rfl rfl (.no rfl rfl rfl (decide_eq_false (by omega))) rfl rfl ?_
                    refine d_off rfl rfl (.no rfl rfl rfl (decide_eq_false (by omega))) rfl rfl ?_
                    refine d_off rfl rfl (.no rfl rfl rfl (decide_eq_false (by omega))) rfl rfl ?_
                    refine d_off rfl rfl (.no rfl rfl rfl (decide_eq_false (by omega))) rfl rfl ?_
                    refine d_off rfl rfl (.no rfl rfl rfl (decide_eq_false (by omega))) rfl rfl ?_
                    refine d_off rfl rfl (.no rfl rfl rfl (decide_eq_false (by omega))) rfl rfl ?_
                    refine d_off rfl rfl (.no rfl rfl rfl (decide_eq_false (by omega))) rfl rfl ?_
                    refine d_off rfl rfl (.no rfl rfl rfl (decide_eq_false (by omega))) rfl rfl ?_
                    refine d_off rfl rfl (.no rfl rfl rfl (decide_eq_false (by omega))) rfl rfl ?_
                    refine d_off rfl rfl (.no rfl rfl rfl (decide_eq_false (by omega))) rfl rfl ?_
                    refine d_q rfl rfl (.none rfl) rfl rfl (q_pickF rfl rfl (decide_eq_false (by omega)) rfl) ?_
                    refine d_q rfl rfl (.none rfl) rfl rfl (q_move rfl rfl) ?_
                    refine d_q rfl rfl (.on rfl rfl rfl rfl) rfl rfl (q_move rfl rfl) ?_
                    refine d_q rfl rfl (.on rfl rfl rfl rfl) rfl rfl (q_move rfl rfl) ?_
                    refine d_q rfl rfl (.on rfl rfl rfl rfl) rfl rfl (q_indexS (q := i) rfl Try.underlying37 sz25 rfl rfl (.inp hx .no) (by simp <;> omega) rfl (by omega)) ?_
                    refine d_q rfl rfl (.on rfl rfl rfl rfl) rfl rfl (q_fieldAddr (d := 5) rfl Try.underlying25 rfl rfl sz3 rfl) ?_
                    refine d_q rfl rfl (.on rfl rfl rfl rfl) rfl rfl (q_loadF rfl one3 rfl (.inp hx .no) (getmap (by omega)) rfl) ?_
                    refine d_q rfl rfl (.on rfl rfl rfl rfl) rfl rfl (q_lss rfl rfl rfl) ?_
                    refine d_q rfl rfl (.on rfl rfl rfl rfl) rfl rfl (q_move rfl rfl) ?_
                    refine d_q rfl rfl (.on rfl rfl rfl (decide_eq_true (by omega))) rfl rfl (q_move rfl rfl) ?_
                    refine d_q rfl rfl (.on rfl rfl rfl (decide_eq_true (by omega))) rfl rfl (q_move rfl rfl) ?_
                    refine d_q rfl rfl (.on rfl rfl rfl (decide_eq_true (by omega))) rfl rfl (q_indexS (q := i) rfl Try.underlying44 sz50 rfl rfl (.own (.there (.there (.there (.there Sel.here))))) (by rw [List.length_map]) rfl (by omega)) ?_
                    refine d_q rfl rfl (.on rfl rfl rfl (decide_eq_true (by omega))) rfl rfl (q_fieldAddr (d := 8) rfl Try.underlying50 rfl rfl sz48 rfl) ?_
                    refine d_q rfl rfl (.on rfl rfl rfl (decide_eq_true (by omega))) rfl rfl (q_fieldF (d2 := 11) rfl Try.underlying48 rfl rfl sz3 rfl) ?_
                    refine d_q rfl rfl (.on rfl rfl rfl (decide_eq_true (by omega))) rfl rfl (q_loadF rfl one3 rfl (.own (.there (.there (.there (.there Sel.here))))) (getmap (by omega)) rfl) ?_
                    refine d_q rfl rfl (.on rfl rfl rfl (decide_eq_true (by omega))) rfl rfl (q_move rfl rfl) ?_
                    refine d_q rfl rfl (.on rfl rfl rfl (decide_eq_true (by omega))) rfl rfl (q_move rfl rfl) ?_
                    refine d_q rfl rfl (.on rfl rfl rfl (decide_eq_true (by omega))) rfl rfl (q_indexS (q := k) rfl Try.underlying44 sz50 rfl rfl (.own (.there (.there (.there (.there Sel.here))))) (by rw [List.length_map]) rfl (by omega)) ?_
                    refine d_q rfl rfl (.on rfl rfl rfl (decide_eq_true (by omega))) rfl rfl (q_fieldAddr (d := 8) rfl Try.underlying50 rfl rfl sz48 rfl) ?_
                    refine d_q rfl rfl (.on rfl rfl rfl (decide_eq_true (by omega))) rfl rfl (q_fieldF (d2 := 9) rfl Try.underlying48 rfl rfl sz3 rfl) ?_
                    refine d_q rfl rfl (.on rfl rfl rfl (decide_eq_true (by omega))) rfl rfl (q_loadF rfl one3 rfl (.own (.there (.there (.there (.there Sel.here))))) (getmap (by omega)) rfl) ?_
                    refine d_q rfl rfl (.on rfl rfl rfl (decide_eq_true (by omega))) rfl rfl (q_sub rfl rfl rfl (by omega)) ?_
                    refine d_q rfl rfl (.on rfl rfl rfl (decide_eq_true (by omega))) rfl rfl (q_gtr rfl rfl rfl) ?_
                    refine d_q rfl rfl (.on rfl rfl rfl rfl) rfl rfl (q_pickT rfl rfl (decide_eq_true (by omega)) rfl) ?_
                    refine d_q rfl rfl (.none rfl) rfl rfl (q_pickF rfl rfl rfl rfl) ?_
                    refine d_nil ?_
                    refine run_sub (subMk (.cons (s := 1) rfl (.cons (s := 4) rfl (.cons (s := 5) rfl (.cons (s := 6) rfl (.cons (s := 10) rfl (.cons (s := 12) rfl (.cons (s := 14) rfl (.cons (s := 211) rfl .nil)))))))) .refl) ?_
                    refine run_condF rfl (decide_eq_false (by omega)) ?_
                    refine run_skip ?_
                    refine run_blk ?_
                    refine run_region ?_
                    refine run_q (.none rfl) rfl rfl (q_move rfl rfl) ?_
                    refine run_q (.none rfl) rfl rfl (q_add rfl rfl rfl (by omega)) ?_
                    refine run_q (.none rfl) rfl rfl (q_assign rfl rfl) ?_
                    refine run_nil ?_
                    refine run_sub (subMk (.cons (s := 1) rfl (.cons (s := 4) rfl (.cons (s := 5) rfl (.cons (s := 6) rfl (.cons (s := 10) rfl (.cons (s := 12) rfl (.cons (s := 14) rfl .nil))))))) .refl) ?_
                    exact run_again (k + 1) (by (try dsimp only); exact (by omega)) (by (try dsimp only); omega) (subMk (.cons' (s := 14) rfl (vint (by omega)) (.cons (s := 1) rfl (.cons (s := 4) rfl (.cons (s := 5) rfl (.cons (s := 6) rfl (.cons (s := 10) rfl (.cons (s := 12) rfl .nil))))))) (.cons Sel.here .refl (.cons Sel.here .refl (.cons Sel.here .refl (.cons Sel.here .refl (.cons Sel.here .refl (.cons Sel.here .refl (.cons Sel.here .refl (.cons Sel.here .refl .nil)))))))))
                  · have hqk := reqE_ok (reqsE_ok hq0 (show k < xs.length by omega))
                    have h1k := plEs_zero hE0 k (by omega)
                    have hMk : nth (placeM xs (gs la lb la (gN la lb)) (gs la lb lb (gN la lb))) k = plM1 xs (gs la lb la (gN la lb)) (gs la lb lb (gN la lb)) k := by rw [e3]; exact plMs_nth (by omega)
                    have hc := clr2_a (xs := xs) (a := (gs la lb la (gN la lb))) (b := (gs la lb lb (gN la lb))) (j := (max (nth xs i).fst (nth xs k).fst).toNat) (i := i) (k := k) (by omega) hsd2 (by rw [hss]; exact hsd2) h1i h1k (by omega) (by omega) (by omega) (by omega) (by omega)
                    have hbk := mk_bd (xs := xs) (a := (gs la lb la (gN la lb))) (b := (gs la lb lb (gN la lb))) (i := k) (by omega) h1k hbdA hbdB (by omega) (by omega) (by omega) ⟨by omega, by omega⟩ ⟨by omega, by omega⟩
                    rw [← hMi, ← hMk] at hc
                    rw [← hMk] at hbk
                    refine run_draw [(0, 0), (1, 0), (2, 0), (3, 0), (4, 0), (5, 0), (6, 0), (7, 0), (8, 0), (9, 0), (10, 0), (11, 0), (12, 0), (13, 0), (14, 0), (15, 0), (16, 0), (17, 0), (18, 0), (19, 0), (20, 0), (21, 0), (22, 0), (23, 0), (24, 0), (25, 0), (26, 0), (27, 0), (28, 0), (29, 0), (30, 0), (31, 0), (32, 0), (33, 0), (34, 0), (35, 0), (36, 0), (37, 0), (38, 0), (39, 0), (40, 0), (41, 0), (42, 0), (43, 0), (44, 0), (45, 0)] mixed (by kernel_rfl) .refl ?_
                    refine d_q rfl rfl (.none rfl) rfl rfl (q_move rfl rfl) ?_
                    refine d_q rfl rfl (.none rfl) rfl rfl (q_move rfl rfl) ?_
                    refine d_q rfl rfl (.none rfl) rfl rfl (q_indexS (q := i) rfl Try.underlying37 sz25 rfl rfl (.inp hx .no) (by simp <;> omega) rfl (by omega)) ?_
                    refine d_q rfl rfl (.none rfl) rfl rfl (q_fieldAddr (d := 5) rfl Try.underlying25 rfl rfl sz3 rfl) ?_
                    refine d_q rfl rfl (.none rfl) rfl rfl (q_loadF rfl one3 rfl (.inp hx .no) (getmap (by omega)) rfl) ?_
                    refine d_q rfl rfl (.none rfl) rfl rfl (q_gtr rfl rfl rfl) ?_
                    refine d_q rfl rfl (.none rfl) rfl rfl (q_move rfl rfl) ?_
                    refine d_q rfl rfl (.on rfl rfl rfl (decide_eq_true (by omega))) rfl rfl (q_move rfl rfl) ?_
                    refine d_q rfl rfl (.on rfl rfl rfl (decide_eq_true (by omega))) rfl rfl (q_move rfl rfl) ?_
                    refine d_q rfl rfl (.on rfl rfl rfl (decide_eq_true (by omega))) rfl rfl (q_indexS (q := i) rfl Try.underlying44 sz50 rfl rfl (.own (.there (.there (.there (.there Sel.here))))) (by rw [List.length_map]) rfl (by omega)) ?_
                    refine d_q rfl rfl (.on rfl rfl rfl (decide_eq_true (by omega))) rfl rfl (q_fieldAddr (d := 8) rfl Try.underlying50 rfl rfl sz48 rfl) ?_
                    refine d_q rfl rfl (.on rfl rfl rfl (decide_eq_true (by omega))) rfl rfl (q_fieldF (d2 := 9) rfl Try.underlying48 rfl rfl sz3 rfl) ?_
                    refine d_q rfl rfl (.on rfl rfl rfl (decide_eq_true (by omega))) rfl rfl (q_loadF rfl one3 rfl (.own (.there (.there (.there (.there Sel.here))))) (getmap (by omega)) rfl) ?_
                    refine d_q rfl rfl (.on rfl rfl rfl (decide_eq_true (by omega))) rfl rfl (q_move rfl rfl) ?_
                    refine d_q rfl rfl (.on rfl rfl rfl (decide_eq_true (by omega))) rfl rfl (q_move rfl rfl) ?_
                    refine d_q rfl rfl (.on rfl rfl rfl (decide_eq_true (by omega))) rfl rfl (q_indexS (q := k) rfl Try.underlying44 sz50 rfl rfl (.own (.there (.there (.there (.there Sel.here))))) (by rw [List.length_map]) rfl (by omega)) ?_
                    refine d_q rfl rfl (.on rfl rfl rfl (decide_eq_true (by omega))) rfl rfl (q_fieldAddr (d := 8) rfl Try.underlying50 rfl rfl sz48 rfl) ?_
                    refine d_q rfl rfl (.on rfl rfl rfl (decide_eq_true (by omega))) rfl rfl (q_fieldF (d2 := 11) rfl Try.underlying48 rfl rfl sz3 rfl) ?_
                    refine d_q rfl rfl (.on rfl rfl rfl (decide_eq_true (by omega))) rfl rfl (q_loadF rfl one3 rfl (.own (.there (.there (.there (.there Sel.here))))) (getmap (by omega)) rfl) ?_
                    refine d_q rfl rfl (.on rfl rfl rfl (decide_eq_true (by omega))) rfl rfl (q_add rfl rfl rfl (by omega)) ?_
                    refine d_q rfl rfl (.on rfl rfl rfl (decide_eq_true (by omega))) rfl rfl (q_lss rfl rfl rfl) ?_
                    refine d_q rfl rfl (.none rfl) rfl rfl (q_pickT rfl rfl (decide_eq_true (by omega)) rfl) ?_
                    refine d_q rfl rfl (.none rfl) rfl rfl (q_move rfl rfl) ?_
                    refine d_q rfl rfl (.on rfl rfl rfl (decide_eq_false (by omega))) rfl rfl (q_move rfl rfl) ?_
                    refine d_q rfl rfl (.on rfl rfl rfl (decide_eq_false (by omega))) rfl rfl (q_move rfl rfl) ?_
                    refine d_q rfl rfl (.on rfl rfl rfl (decide_eq_false (by omega))) rfl rfl (q_indexS (q := i) rfl Try.underlying37 sz25 rfl rfl (.inp hx .no) (by simp <;> omega) rfl (by omega)) ?_
                    refine d_q rfl rfl (.on rfl rfl rfl (decide_eq_false (by omega))) rfl rfl (q_fieldAddr (d := 5) rfl Try.underlying25 rfl rfl sz3 rfl) ?_
                    refine d_q rfl rfl (.on rfl rfl rfl (decide_eq_false (by omega))) rfl rfl (q_loadF rfl one3 rfl (.inp hx .no) (getmap (by omega)) rfl) ?_
                    refine d_q rfl rfl (.on rfl rfl rfl (decide_eq_false (by omega))) rfl rfl (q_lss rfl rfl rfl) ?_
                    refine d_q rfl rfl (.on rfl rfl rfl (decide_eq_false (by omega))) rfl rfl (q_move rfl rfl) ?_
                    refine d_off rfl rfl (.no rfl rfl rfl (decide_eq_false (by omega))) rfl rfl ?_
                    refine d_off rfl rfl (.no rfl rfl rfl (decide_eq_false (by omega))) rfl rfl ?_
                    refine d_off rfl rfl (.no rfl rfl rfl (decide_eq_false (by omega))) rfl rfl ?_
                    refine d_off rfl rfl (.no rfl rfl rfl (decide_eq_false (by omega))) rfl rfl ?_
                    refine d_off rfl rfl (.no rfl rfl rfl (decide_eq_false (by omega))) rfl rfl ?_
                    refine d_off rfl rfl (.no rfl rfl rfl (decide_eq_false (by omega))) rfl rfl ?_
                    refine d_off rfl rfl (.no rfl rfl rfl (decide_eq_false (by omega))) rfl rfl ?_
                    refine d_off rfl rfl (.no rfl rfl rfl (decide_eq_false (by omega))) rfl rfl ?_
                    refine d_off rfl rfl (.no rfl rfl rfl (decide_eq_false (by omega))) rfl rfl ?_
                    refine d_off rfl rfl (.no rfl rfl rfl (decide_eq_false (by omega))) rfl rfl ?_
                    refine d_off rfl rfl (.no rfl rfl rfl (decide_eq_false (by omega))) rfl rfl ?_
                    refine d_off rfl rfl (.no rfl rfl rfl (decide_eq_false (by omega))) rfl rfl ?_
                    refine d_off rfl rfl (.no rfl rfl rfl (decide_eq_false (by omega))) rfl rfl ?_
                    refine d_off rfl rfl (.no rfl rfl rfl (decide_eq_false (by omega))) rfl rfl ?_
                    refine d_q rfl rfl (.on rfl rfl rfl (decide_eq_false (by omega))) rfl rfl (q_pickF rfl rfl (decide_eq_false (by omega)) rfl) ?_
                    refine d_q rfl rfl (.none rfl) rfl rfl (q_pickF rfl rfl (decide_eq_false (by omega)) rfl) ?_
                    refine d_nil ?_
                    refine run_sub (subMk (.cons (s := 1) rfl (.cons (s := 4) rfl (.cons (s := 5) rfl (.cons (s := 6) rfl (.cons (s := 10) rfl (.cons (s := 12) rfl (.cons (s := 14) rfl (.cons (s := 211) rfl .nil)))))))) .refl) ?_
                    refine run_condF rfl rfl ?_
                    refine run_skip ?_
                    refine run_blk ?_
                    refine run_region ?_
                    refine run_q (.none rfl) rfl rfl (q_move rfl rfl) ?_
                    refine run_q (.none rfl) rfl rfl (q_add rfl rfl rfl (by omega)) ?_
                    refine run_q (.none rfl) rfl rfl (q_assign rfl rfl) ?_
                    refine run_nil ?_
                    refine run_sub (subMk (.cons (s := 1) rfl (.cons (s := 4) rfl (.cons (s := 5) rfl (.cons (s := 6) rfl (.cons (s := 10) rfl (.cons (s := 12) rfl (.cons (s := 14) rfl .nil))))))) .refl) ?_
                    exact run_again (k + 1) (by (try dsimp only); exact (by omega)) (by (try dsimp only); omega) (subMk (.cons' (s := 14) rfl (vint (by omega)) (.cons (s := 1) rfl (.cons (s := 4) rfl (.cons (s := 5) rfl (.cons (s := 6) rfl (.cons (s := 10) rfl (.cons (s := 12) rfl .nil))))))) (.cons Sel.here .refl (.cons Sel.here .refl (.cons Sel.here .refl (.cons Sel.here .refl (.cons Sel.here .refl (.cons Sel.here .refl (.cons Sel.here .refl (.cons Sel.here .refl .nil)))))))))
                · refine run_draw [(0, 0), (1, 0), (2, 0), (3, 0), (4, 0), (5, 0), (6, 0), (7, 0), (8, 0), (9, 0), (10, 0), (11, 0), (12, 0), (13, 0), (14, 0), (15, 0), (16, 0), (17, 0), (18, 0), (19, 0), (20, 0), (21, 0), (22, 0), (23, 0), (24, 0), (25, 0), (26, 0), (27, 0), (28, 0), (29, 0), (30, 0), (31, 0), (32, 0), (33, 0), (34, 0), (35, 0), (36, 0)] mixed (by kernel_rfl) .refl ?_
                  refine d_q rfl rfl (.none rfl) rfl rfl (q_move rfl rfl) ?_
                  refine d_q rfl rfl (.none rfl) rfl rfl (q_move rfl rfl) ?_
                  refine d_q rfl rfl (.none rfl) rfl rfl (q_indexS (q := k) rfl Try.underlying37 sz25 rfl rfl (.inp hx .no) (by simp <;> omega) rfl (by omega)) ?_
                  refine d_q rfl rfl (.none rfl) rfl rfl (q_fieldAddr (d := 5) rfl Try.underlying25 rfl rfl sz3 rfl) ?_
                  refine d_q rfl rfl (.none rfl) rfl rfl (q_loadF rfl one3 rfl (.inp hx .no) (getmap (by omega)) rfl) ?_
                  refine d_q rfl rfl (.none rfl) rfl rfl (q_move rfl rfl) ?_
                  refine d_q rfl rfl (.none rfl) rfl rfl (q_move rfl rfl) ?_
                  refine d_q rfl rfl (.none rfl) rfl rfl (q_indexS (q := i) rfl Try.underlying37 sz25 rfl rfl (.inp hx .no) (by simp <;> omega) rfl (by omega)) ?_
                  refine d_q rfl rfl (.none rfl) rfl rfl (q_fieldAddr (d := 5) rfl Try.underlying25 rfl rfl sz3 rfl) ?_
                  refine d_q rfl rfl (.none rfl) rfl rfl (q_loadF rfl one3 rfl (.inp hx .no) (getmap (by omega)) rfl) ?_
                  refine d_q rfl rfl (.none rfl) rfl rfl (q_neq rfl rfl rfl) ?_
                  refine d_q rfl rfl (.none rfl) rfl rfl (q_move rfl rfl) ?_
                  refine d_q rfl rfl (.on rfl rfl rfl (by simp [hss])) rfl rfl (q_move rfl rfl) ?_
                  refine d_q rfl rfl (.on rfl rfl rfl (by simp [hss])) rfl rfl (q_move rfl rfl) ?_
                  refine d_q rfl rfl (.on rfl rfl rfl (by simp [hss])) rfl rfl (q_indexS (q := k) rfl Try.underlying37 sz25 rfl rfl (.inp hx .no) (by simp <;> omega) rfl (by omega)) ?_
                  refine d_q rfl rfl (.on rfl rfl rfl (by simp [hss])) rfl rfl (q_fieldAddr (d := 3) rfl Try.underlying25 rfl rfl sz3 rfl) ?_
                  refine d_q rfl rfl (.on rfl rfl rfl (by simp [hss])) rfl rfl (q_loadF rfl one3 rfl (.inp hx .no) (getmap (by omega)) rfl) ?_
                  refine d_q rfl rfl (.on rfl rfl rfl (by simp [hss])) rfl rfl (q_move rfl rfl) ?_
                  refine d_q rfl rfl (.on rfl rfl rfl (by simp [hss])) rfl rfl (q_move rfl rfl) ?_
                  refine d_q rfl rfl (.on rfl rfl rfl (by simp [hss])) rfl rfl (q_indexS (q := i) rfl Try.underlying37 sz25 rfl rfl (.inp hx .no) (by simp <;> omega) rfl (by omega)) ?_
                  refine d_q rfl rfl (.on rfl rfl rfl (by simp [hss])) rfl rfl (q_fieldAddr (d := 4) rfl Try.underlying25 rfl rfl sz3 rfl) ?_
                  refine d_q rfl rfl (.on rfl rfl rfl (by simp [hss])) rfl rfl (q_loadF rfl one3 rfl (.inp hx .no) (getmap (by omega)) rfl) ?_
                  refine d_q rfl rfl (.on rfl rfl rfl (by simp [hss])) rfl rfl (q_gtr rfl rfl rfl) ?_
                  refine d_q rfl rfl (.none rfl) rfl rfl (q_pickF rfl rfl (by simp [hss]) rfl) ?_
                  refine d_q rfl rfl (.none rfl) rfl rfl (q_move rfl rfl) ?_
                  refine d_q rfl rfl (.on rfl rfl rfl (decide_eq_false (by omega))) rfl rfl (q_move rfl rfl) ?_
                  refine d_q rfl rfl (.on rfl rfl rfl (decide_eq_false (by omega))) rfl rfl (q_move rfl rfl) ?_
                  refine d_q rfl rfl (.on rfl rfl rfl (decide_eq_false (by omega))) rfl rfl (q_indexS (q := i) rfl Try.underlying37 sz25 rfl rfl (.inp hx .no) (by simp <;> omega) rfl (by omega)) ?_
                  refine d_q rfl rfl (.on rfl rfl rfl (decide_eq_false (by omega))) rfl rfl (q_fieldAddr (d := 3) rfl Try.underlying25 rfl rfl sz3 rfl) ?_
                  refine d_q rfl rfl (.on rfl rfl rfl (decide_eq_false (by omega))) rfl rfl (q_loadF rfl one3 rfl (.inp hx .no) (getmap (by omega)) rfl) ?_
                  refine d_q rfl rfl (.on rfl rfl rfl (decide_eq_false (by omega))) rfl rfl (q_move rfl rfl) ?_
                  refine d_q rfl rfl (.on rfl rfl rfl (decide_eq_false (by omega))) rfl rfl (q_move rfl rfl) ?_
                  refine d_q rfl rfl (.on rfl rfl rfl (decide_eq_false (by omega))) rfl rfl (q_indexS (q := k) rfl Try.underlying37 sz25 rfl rfl (.inp hx .no) (by simp <;> omega) rfl (by omega)) ?_
                  refine d_q rfl rfl (.on rfl rfl rfl (decide_eq_false (by omega))) rfl rfl (q_fieldAddr (d := 4) rfl Try.underlying25 rfl rfl sz3 rfl) ?_
                  refine d_q rfl rfl (.on rfl rfl rfl (decide_eq_false (by omega))) rfl rfl (q_loadF rfl one3 rfl (.inp hx .no) (getmap (by omega)) rfl) ?_
                  refine d_q rfl rfl (.on rfl rfl rfl (decide_eq_false (by omega))) rfl rfl (q_gtr rfl rfl rfl) ?_
                  refine d_q rfl rfl (.none rfl) rfl rfl (q_pickF rfl rfl (decide_eq_false (by omega)) rfl) ?_
                  refine d_nil ?_
                  refine run_sub (subMk (.cons (s := 1) rfl (.cons (s := 4) rfl (.cons (s := 5) rfl (.cons (s := 6) rfl (.cons (s := 10) rfl (.cons (s := 12) rfl (.cons (s := 14) rfl (.cons (s := 165) rfl .nil)))))))) .refl) ?_
                  refine run_condT rfl (decide_eq_true (by omega)) ?_
                  refine run_exit rfl ?_
                  refine run_region ?_
                  refine run_q (.none rfl) rfl rfl (q_move rfl rfl) ?_
                  refine run_q (.none rfl) rfl rfl (q_add rfl rfl rfl (by omega)) ?_
                  refine run_q (.none rfl) rfl rfl (q_assign rfl rfl) ?_
                  refine run_nil ?_
                  refine run_sub (subMk (.cons (s := 1) rfl (.cons (s := 4) rfl (.cons (s := 5) rfl (.cons (s := 6) rfl (.cons (s := 10) rfl (.cons (s := 12) rfl (.cons (s := 14) rfl .nil))))))) .refl) ?_
                  exact run_again (k + 1) (by (try dsimp only); exact (by omega)) (by (try dsimp only); omega) (subMk (.cons' (s := 14) rfl (vint (by omega)) (.cons (s := 1) rfl (.cons (s := 4) rfl (.cons (s := 5) rfl (.cons (s := 6) rfl (.cons (s := 10) rfl (.cons (s := 12) rfl .nil))))))) (.cons Sel.here .refl (.cons Sel.here .refl (.cons Sel.here .refl (.cons Sel.here .refl (.cons Sel.here .refl (.cons Sel.here .refl (.cons Sel.here .refl (.cons Sel.here .refl .nil)))))))))
              · by_cases ho2 : (nth xs i).fst ≤ (nth xs k).lst
                · refine run_draw [(0, 0), (1, 0), (2, 0), (3, 0), (4, 0), (5, 0), (6, 0), (7, 0), (8, 0), (9, 0), (10, 0), (11, 0), (12, 0), (13, 0), (14, 0), (15, 0), (16, 0), (17, 0), (18, 0), (19, 0), (20, 0), (21, 0), (22, 0), (23, 0), (24, 0), (25, 0), (26, 0), (27, 0), (28, 0), (29, 0), (30, 0), (31, 0), (32, 0), (33, 0), (34, 0), (35, 0), (36, 0)] mixed (by kernel_rfl) .refl ?_
                  refine d_q rfl rfl (.none rfl) rfl rfl (q_move rfl rfl) ?_
                  refine d_q rfl rfl (.none rfl) rfl rfl (q_move rfl rfl) ?_
                  refine d_q rfl rfl (.none rfl) rfl rfl (q_indexS (q := k) rfl Try.underlying37 sz25 rfl rfl (.inp hx .no) (by simp <;> omega) rfl (by omega)) ?_
                  refine d_q rfl rfl (.none rfl) rfl rfl (q_fieldAddr (d := 5) rfl Try.underlying25 rfl rfl sz3 rfl) ?_
                  refine d_q rfl rfl (.none rfl) rfl rfl (q_loadF rfl one3 rfl (.inp hx .no) (getmap (by omega)) rfl) ?_
                  refine d_q rfl rfl (.none rfl) rfl rfl (q_move rfl rfl) ?_
                  refine d_q rfl rfl (.none rfl) rfl rfl (q_move rfl rfl) ?_
                  refine d_q rfl rfl (.none rfl) rfl rfl (q_indexS (q := i) rfl Try.underlying37 sz25 rfl rfl (.inp hx .no) (by simp <;> omega) rfl (by omega)) ?_
                  refine d_q rfl rfl (.none rfl) rfl rfl (q_fieldAddr (d := 5) rfl Try.underlying25 rfl rfl sz3 rfl) ?_
                  refine d_q rfl rfl (.none rfl) rfl rfl (q_loadF rfl one3 rfl (.inp hx .no) (getmap (by omega)) rfl) ?_
                  refine d_q rfl rfl (.none rfl) rfl rfl (q_neq rfl rfl rfl) ?_
                  refine d_q rfl rfl (.none rfl) rfl rfl (q_move rfl rfl) ?_
                  refine d_q rfl rfl (.on rfl rfl rfl (by simp [hss])) rfl rfl (q_move rfl rfl) ?_
                  refine d_q rfl rfl (.on rfl rfl rfl (by simp [hss])) rfl rfl (q_move rfl rfl) ?_
                  refine d_q rfl rfl (.on rfl rfl rfl (by simp [hss])) rfl rfl (q_indexS (q := k) rfl Try.underlying37 sz25 rfl rfl (.inp hx .no) (by simp <;> omega) rfl (by omega)) ?_
                  refine d_q rfl rfl (.on rfl rfl rfl (by simp [hss])) rfl rfl (q_fieldAddr (d := 3) rfl Try.underlying25 rfl rfl sz3 rfl) ?_
                  refine d_q rfl rfl (.on rfl rfl rfl (by simp [hss])) rfl rfl (q_loadF rfl one3 rfl (.inp hx .no) (getmap (by omega)) rfl) ?_
                  refine d_q rfl rfl (.on rfl rfl rfl (by simp [hss])) rfl rfl (q_move rfl rfl) ?_
                  refine d_q rfl rfl (.on rfl rfl rfl (by simp [hss])) rfl rfl (q_move rfl rfl) ?_
                  refine d_q rfl rfl (.on rfl rfl rfl (by simp [hss])) rfl rfl (q_indexS (q := i) rfl Try.underlying37 sz25 rfl rfl (.inp hx .no) (by simp <;> omega) rfl (by omega)) ?_
                  refine d_q rfl rfl (.on rfl rfl rfl (by simp [hss])) rfl rfl (q_fieldAddr (d := 4) rfl Try.underlying25 rfl rfl sz3 rfl) ?_
                  refine d_q rfl rfl (.on rfl rfl rfl (by simp [hss])) rfl rfl (q_loadF rfl one3 rfl (.inp hx .no) (getmap (by omega)) rfl) ?_
                  refine d_q rfl rfl (.on rfl rfl rfl (by simp [hss])) rfl rfl (q_gtr rfl rfl rfl) ?_
                  refine d_q rfl rfl (.none rfl) rfl rfl (q_pickF rfl rfl (by simp [hss]) rfl) ?_
                  refine d_q rfl rfl (.none rfl) rfl rfl (q_move rfl rfl) ?_
                  refine d_off rfl rfl (.no rfl rfl rfl (decide_eq_true (by omega))) rfl rfl ?_
                  refine d_off rfl rfl (.no rfl rfl rfl (decide_eq_true (by omega))) rfl rfl ?_
                  refine d_off rfl rfl (.no rfl rfl rfl (decide_eq_true (by omega))) rfl rfl ?_
                  refine d_off rfl rfl (.no rfl rfl rfl (decide_eq_true (by omega))) rfl rfl ?_
                  refine d_off rfl rfl (.no rfl rfl rfl (decide_eq_true (by omega))) rfl rfl ?_
                  refine d_off rfl rfl (.no rfl rfl rfl (decide_eq_true (by omega))) rfl rfl ?_
                  refine d_off rfl rfl (.no rfl rfl rfl (decide_eq_true (by omega))) rfl rfl ?_
                  refine d_off rfl rfl (.no rfl rfl rfl (decide_eq_true (by omega))) rfl rfl ?_
                  refine d_off rfl rfl (.no rfl rfl rfl (decide_eq_true (by omega))) rfl rfl ?_
                  refine d_off rfl rfl (.no rfl rfl rfl (decide_eq_true (by omega))) rfl rfl ?_
                  refine d_off rfl rfl (.no rfl rfl rfl (decide_eq_true (by omega))) rfl rfl ?_
                  refine d_q rfl rfl (.none rfl) rfl rfl (q_pickT rfl rfl (decide_eq_true (by omega)) rfl) ?_
                  refine d_nil ?_
                  refine run_sub (subMk (.cons (s := 1) rfl (.cons (s := 4) rfl (.cons (s := 5) rfl (.cons (s := 6) rfl (.cons (s := 10) rfl (.cons (s := 12) rfl (.cons (s := 14) rfl (.cons (s := 165) rfl .nil)))))))) .refl) ?_
                  refine run_condT rfl rfl ?_
                  refine run_exit rfl ?_
                  refine run_region ?_
                  refine run_q (.none rfl) rfl rfl (q_move rfl rfl) ?_
                  refine run_q (.none rfl) rfl rfl (q_add rfl rfl rfl (by omega)) ?_
                  refine run_q (.none rfl) rfl rfl (q_assign rfl rfl) ?_
                  refine run_nil ?_
                  refine run_sub (subMk (.cons (s := 1) rfl (.cons (s := 4) rfl (.cons (s := 5) rfl (.cons (s := 6) rfl (.cons (s := 10) rfl (.cons (s := 12) rfl (.cons (s := 14) rfl .nil))))))) .refl) ?_
                  exact run_again (k + 1) (by (try dsimp only); exact (by omega)) (by (try dsimp only); omega) (subMk (.cons' (s := 14) rfl (vint (by omega)) (.cons (s := 1) rfl (.cons (s := 4) rfl (.cons (s := 5) rfl (.cons (s := 6) rfl (.cons (s := 10) rfl (.cons (s := 12) rfl .nil))))))) (.cons Sel.here .refl (.cons Sel.here .refl (.cons Sel.here .refl (.cons Sel.here .refl (.cons Sel.here .refl (.cons Sel.here .refl (.cons Sel.here .refl (.cons Sel.here .refl .nil)))))))))
                · refine run_draw [(0, 0), (1, 0), (2, 0), (3, 0), (4, 0), (5, 0), (6, 0), (7, 0), (8, 0), (9, 0), (10, 0), (11, 0), (12, 0), (13, 0), (14, 0), (15, 0), (16, 0), (17, 0), (18, 0), (19, 0), (20, 0), (21, 0), (22, 0), (23, 0), (24, 0), (25, 0), (26, 0), (27, 0), (28, 0), (29, 0), (30, 0), (31, 0), (32, 0), (33, 0), (34, 0), (35, 0), (36, 0)] mixed (by kernel_rfl) .refl ?_
                  refine d_q rfl rfl (.none rfl) rfl rfl (q_move rfl rfl) ?_
                  refine d_q rfl rfl (.none rfl) rfl rfl (q_move rfl rfl) ?_
                  refine d_q rfl rfl (.none rfl) rfl rfl (q_indexS (q := k) rfl Try.underlying37 sz25 rfl rfl (.inp hx .no) (by simp <;> omega) rfl (by omega)) ?_
                  refine d_q rfl rfl (.none rfl) rfl rfl (q_fieldAddr (d := 5) rfl Try.underlying25 rfl rfl sz3 rfl) ?_
                  refine d_q rfl rfl (.none rfl) rfl rfl (q_loadF rfl one3 rfl (.inp hx .no) (getmap (by omega)) rfl) ?_
                  refine d_q rfl rfl (.none rfl) rfl rfl (q_move rfl rfl) ?_
                  refine d_q rfl rfl (.none rfl) rfl rfl (q_move rfl rfl) ?_
                  refine d_q rfl rfl (.none rfl) rfl rfl (q_indexS (q := i) rfl Try.underlying37 sz25 rfl rfl (.inp hx .no) (by simp <;> omega) rfl (by omega)) ?_
                  refine d_q rfl rfl (.none rfl) rfl rfl (q_fieldAddr (d := 5) rfl Try.underlying25 rfl rfl sz3 rfl) ?_
                  refine d_q rfl rfl (.none rfl) rfl rfl (q_loadF rfl one3 rfl (.inp hx .no) (getmap (by omega)) rfl) ?_
                  refine d_q rfl rfl (.none rfl) rfl rfl (q_neq rfl rfl rfl) ?_
                  refine d_q rfl rfl (.none rfl) rfl rfl (q_move rfl rfl) ?_
                  refine d_q rfl rfl (.on rfl rfl rfl (by simp [hss])) rfl rfl (q_move rfl rfl) ?_
                  refine d_q rfl rfl (.on rfl rfl rfl (by simp [hss])) rfl rfl (q_move rfl rfl) ?_
                  refine d_q rfl rfl (.on rfl rfl rfl (by simp [hss])) rfl rfl (q_indexS (q := k) rfl Try.underlying37 sz25 rfl rfl (.inp hx .no) (by simp <;> omega) rfl (by omega)) ?_
                  refine d_q rfl rfl (.on rfl rfl rfl (by simp [hss])) rfl rfl (q_fieldAddr (d := 3) rfl Try.underlying25 rfl rfl sz3 rfl) ?_
                  refine d_q rfl rfl (.on rfl rfl rfl (by simp [hss])) rfl rfl (q_loadF rfl one3 rfl (.inp hx .no) (getmap (by omega)) rfl) ?_
                  refine d_q rfl rfl (.on rfl rfl rfl (by simp [hss])) rfl rfl (q_move rfl rfl) ?_
                  refine d_q rfl rfl (.on rfl rfl rfl (by simp [hss])) rfl rfl (q_move rfl rfl) ?_
                  refine d_q rfl rfl (.on rfl rfl rfl (by simp [hss])) rfl rfl (q_indexS (q := i) rfl Try.underlying37 sz25 rfl rfl (.inp hx .no) (by simp <;> omega) rfl (by omega)) ?_
                  refine d_q rfl rfl (.on rfl rfl rfl (by simp [hss])) rfl rfl (q_fieldAddr (d := 4) rfl Try.underlying25 rfl rfl sz3 rfl) ?_
                  refine d_q rfl rfl (.on rfl rfl rfl (by simp [hss])) rfl rfl (q_loadF rfl one3 rfl (.inp hx .no) (getmap (by omega)) rfl) ?_
                  refine d_q rfl rfl (.on rfl rfl rfl (by simp [hss])) rfl rfl (q_gtr rfl rfl rfl) ?_
                  refine d_q rfl rfl (.none rfl) rfl rfl (q_pickF rfl rfl (by simp [hss]) rfl) ?_
                  refine d_q rfl rfl (.none rfl) rfl rfl (q_move rfl rfl) ?_
                  refine d_off rfl rfl (.no rfl rfl rfl (decide_eq_true (by omega))) rfl rfl ?_
                  refine d_off rfl rfl (.no rfl rfl rfl (decide_eq_true (by omega))) rfl rfl ?_
                  refine d_off rfl rfl (.no rfl rfl rfl (decide_eq_true (by omega))) rfl rfl ?_
                  refine d_off rfl rfl (.no rfl rfl rfl (decide_eq_true (by omega))) rfl rfl ?_
                  refine d_off rfl rfl (.no rfl rfl rfl (decide_eq_true (by omega))) rfl rfl ?_
                  refine d_off rfl rfl (.no rfl rfl rfl (decide_eq_true (by omega))) rfl rfl ?_
                  refine d_off rfl rfl (.no rfl rfl rfl (decide_eq_true (by omega))) rfl rfl ?_
                  refine d_off rfl rfl (.no rfl rfl rfl (decide_eq_true (by omega))) rfl rfl ?_
                  refine d_off rfl rfl (.no rfl rfl rfl (decide_eq_true (by omega))) rfl rfl ?_
                  refine d_off rfl rfl (.no rfl rfl rfl (decide_eq_true (by omega))) rfl rfl ?_
                  refine d_off rfl rfl (.no rfl rfl rfl (decide_eq_true (by omega))) rfl rfl ?_
                  refine d_q rfl rfl (.none rfl) rfl rfl (q_pickT rfl rfl (decide_eq_true (by omega)) rfl) ?_
                  refine d_nil ?_
                  refine run_sub (subMk (.cons (s := 1) rfl (.cons (s := 4) rfl (.cons (s := 5) rfl (.cons (s := 6) rfl (.cons (s := 10) rfl (.cons (s := 12) rfl (.cons (s := 14) rfl (.cons (s := 165) rfl .nil)))))))) .refl) ?_
                  refine run_condT rfl rfl ?_
                  refine run_exit rfl ?_
                  refine run_region ?_
                  refine run_q (.none rfl) rfl rfl (q_move rfl rfl) ?_
                  refine run_q (.none rfl) rfl rfl (q_add rfl rfl rfl (by omega)) ?_
                  refine run_q (.none rfl) rfl rfl (q_assign rfl rfl) ?_
                  refine run_nil ?_
                  refine run_sub (subMk (.cons (s := 1) rfl (.cons (s := 4) rfl (.cons (s := 5) rfl (.cons (s := 6) rfl (.cons (s := 10) rfl (.cons (s := 12) rfl (.cons (s := 14) rfl .nil))))))) .refl) ?_
                  exact run_again (k + 1) (by (try dsimp only); exact (by omega)) (by (try dsimp only); omega) (subMk (.cons' (s := 14) rfl (vint (by omega)) (.cons (s := 1) rfl (.cons (s := 4) rfl (.cons (s := 5) rfl (.cons (s := 6) rfl (.cons (s := 10) rfl (.cons (s := 12) rfl .nil))))))) (.cons Sel.here .refl (.cons Sel.here .refl (.cons Sel.here .refl (.cons Sel.here .refl (.cons Sel.here .refl (.cons Sel.here .refl (.cons Sel.here .refl (.cons Sel.here .refl .nil)))))))))
            · by_cases ho1 : (nth xs k).fst ≤ (nth xs i).lst
              · by_cases ho2 : (nth xs i).fst ≤ (nth xs k).lst
                · refine run_draw [(0, 0), (1, 0), (2, 0), (3, 0), (4, 0), (5, 0), (6, 0), (7, 0), (8, 0), (9, 0), (10, 0), (11, 0), (12, 0), (13, 0), (14, 0), (15, 0), (16, 0), (17, 0), (18, 0), (19, 0), (20, 0), (21, 0), (22, 0), (23, 0), (24, 0), (25, 0), (26, 0), (27, 0), (28, 0), (29, 0), (30, 0), (31, 0), (32, 0), (33, 0), (34, 0), (35, 0), (36, 0)] mixed (by kernel_rfl) .refl ?_
                  refine d_q rfl rfl (.none rfl) rfl rfl (q_move rfl rfl) ?_
                  refine d_q rfl rfl (.none rfl) rfl rfl (q_move rfl rfl) ?_
                  refine d_q rfl rfl (.none rfl) rfl rfl (q_indexS (q := k) rfl Try.underlying37 sz25 rfl rfl (.inp hx .no) (by simp <;> omega) rfl (by omega)) ?_
                  refine d_q rfl rfl (.none rfl) rfl rfl (q_fieldAddr (d := 5) rfl Try.underlying25 rfl rfl sz3 rfl) ?_
                  refine d_q rfl rfl (.none rfl) rfl rfl (q_loadF rfl one3 rfl (.inp hx .no) (getmap (by omega)) rfl) ?_
                  refine d_q rfl rfl (.none rfl) rfl rfl (q_move rfl rfl) ?_
                  refine d_q rfl rfl (.none rfl) rfl rfl (q_move rfl rfl) ?_
                  refine d_q rfl rfl (.none rfl) rfl rfl (q_indexS (q := i) rfl Try.underlying37 sz25 rfl rfl (.inp hx .no) (by simp <;> omega) rfl (by omega)) ?_
                  refine d_q rfl rfl (.none rfl) rfl rfl (q_fieldAddr (d := 5) rfl Try.underlying25 rfl rfl sz3 rfl) ?_
                  refine d_q rfl rfl (.none rfl) rfl rfl (q_loadF rfl one3 rfl (.inp hx .no) (getmap (by omega)) rfl) ?_
                  refine d_q rfl rfl (.none rfl) rfl rfl (q_neq rfl rfl rfl) ?_
                  refine d_q rfl rfl (.none rfl) rfl rfl (q_move rfl rfl) ?_
                  refine d_off rfl rfl (.no rfl rfl rfl (by simp [hss])) rfl rfl ?_
                  refine d_off rfl rfl (.no rfl rfl rfl (by simp [hss])) rfl rfl ?_
                  refine d_off rfl rfl (.no rfl rfl rfl (by simp [hss])) rfl rfl ?_
                  refine d_off rfl rfl (.no rfl rfl rfl (by simp [hss])) rfl rfl ?_
                  refine d_off rfl rfl (.no rfl rfl rfl (by simp [hss])) rfl rfl ?_
                  refine d_off rfl rfl (.no rfl rfl rfl (by simp [hss])) rfl rfl ?_
                  refine d_off rfl rfl (.no rfl rfl rfl (by simp [hss])) rfl rfl ?_
                  refine d_off rfl rfl (.no rfl rfl rfl (by simp [hss])) rfl rfl ?_
                  refine d_off rfl rfl (.no rfl rfl rfl (by simp [hss])) rfl rfl ?_
                  refine d_off rfl rfl (.no rfl rfl rfl (by simp [hss])) rfl rfl ?_
                  refine d_off rfl rfl (.no rfl rfl rfl (by simp [hss])) rfl rfl ?_
                  refine d_q rfl rfl (.none rfl) rfl rfl (q_pickT rfl rfl (by simp [hss]) rfl) ?_
                  refine d_q rfl rfl (.none rfl) rfl rfl (q_move rfl rfl) ?_
                  refine d_off rfl rfl (.no rfl rfl rfl rfl) rfl rfl ?_
                  refine d_off rfl rfl (.no rfl rfl rfl rfl) rfl rfl ?_
                  refine d_off rfl rfl (.no rfl rfl rfl rfl) rfl rfl ?_
                  refine d_off rfl rfl (.no rfl rfl rfl rfl) rfl rfl ?_
                  refine d_off rfl rfl (.no rfl rfl rfl rfl) rfl rfl ?_
                  refine d_off rfl rfl (.no rfl rfl rfl rfl) rfl rfl ?_
                  refine d_off rfl rfl (.no rfl rfl rfl rfl) rfl rfl ?_
                  refine d_off rfl rfl (.no rfl rfl rfl rfl) rfl rfl ?_
                  refine d_off rfl rfl (.no rfl rfl rfl rfl) rfl rfl ?_
                  refine d_off rfl rfl (.no rfl rfl rfl rfl) rfl rfl ?_
                  refine d_off rfl rfl (.no rfl rfl rfl rfl) rfl rfl ?_
                  refine d_q rfl rfl (.none rfl) rfl rfl (q_pickT rfl rfl rfl rfl) ?_
                  refine d_nil ?_
                  refine run_sub (subMk (.cons (s := 1) rfl (.cons (s := 4) rfl (.cons (s := 5) rfl (.cons (s := 6) rfl (.cons (s := 10) rfl (.cons (s := 12) rfl (.cons (s := 14) rfl (.cons (s := 165) rfl .nil)))))))) .refl) ?_
                  refine run_condT rfl rfl ?_
                  refine run_exit rfl ?_
                  refine run_region ?_
                  refine run_q (.none rfl) rfl rfl (q_move rfl rfl) ?_
                  refine run_q (.none rfl) rfl rfl (q_add rfl rfl rfl (by omega)) ?_
                  refine run_q (.none rfl) rfl rfl (q_assign rfl rfl) ?_
                  refine run_nil ?_
                  refine run_sub (subMk (.cons (s := 1) rfl (.cons (s := 4) rfl (.cons (s := 5) rfl (.cons (s := 6) rfl (.cons (s := 10) rfl (.cons (s := 12) rfl (.cons (s := 14) rfl .nil))))))) .refl) ?_
                  exact run_again (k + 1) (by (try dsimp only); exact (by omega)) (by (try dsimp only); omega) (subMk (.cons' (s := 14) rfl (vint (by omega)) (.cons (s := 1) rfl (.cons (s := 4) rfl (.cons (s := 5) rfl (.cons (s := 6) rfl (.cons (s := 10) rfl (.cons (s := 12) rfl .nil))))))) (.cons Sel.here .refl (.cons Sel.here .refl (.cons Sel.here .refl (.cons Sel.here .refl (.cons Sel.here .refl (.cons Sel.here .refl (.cons Sel.here .refl (.cons Sel.here .refl .nil)))))))))
                · refine run_draw [(0, 0), (1, 0), (2, 0), (3, 0), (4, 0), (5, 0), (6, 0), (7, 0), (8, 0), (9, 0), (10, 0), (11, 0), (12, 0), (13, 0), (14, 0), (15, 0), (16, 0), (17, 0), (18, 0), (19, 0), (20, 0), (21, 0), (22, 0), (23, 0), (24, 0), (25, 0), (26, 0), (27, 0), (28, 0), (29, 0), (30, 0), (31, 0), (32, 0), (33, 0), (34, 0), (35, 0), (36, 0)] mixed (by kernel_rfl) .refl ?_
                  refine d_q rfl rfl (.none rfl) rfl rfl (q_move rfl rfl) ?_
                  refine d_q rfl rfl (.none rfl) rfl rfl (q_move rfl rfl) ?_
                  refine d_q rfl rfl (.none rfl) rfl rfl (q_indexS (q := k) rfl Try.underlying37 sz25 rfl rfl (.inp hx .no) (by simp <;> omega) rfl (by omega)) ?_
                  refine d_q rfl rfl (.none rfl) rfl rfl (q_fieldAddr (d := 5) rfl Try.underlying25 rfl rfl sz3 rfl) ?_
                  refine d_q rfl rfl (.none rfl) rfl rfl (q_loadF rfl one3 rfl (.inp hx .no) (getmap (by omega)) rfl) ?_
                  refine d_q rfl rfl (.none rfl) rfl rfl (q_move rfl rfl) ?_
                  refine d_q rfl rfl (.none rfl) rfl rfl (q_move rfl rfl) ?_
                  refine d_q rfl rfl (.none rfl) rfl rfl (q_indexS (q := i) rfl Try.underlying37 sz25 rfl rfl (.inp hx .no) (by simp <;> omega) rfl (by omega)) ?_
                  refine d_q rfl rfl (.none rfl) rfl rfl (q_fieldAddr (d := 5) rfl Try.underlying25 rfl rfl sz3 rfl) ?_
                  refine d_q rfl rfl (.none rfl) rfl rfl (q_loadF rfl one3 rfl (.inp hx .no) (getmap (by omega)) rfl) ?_
                  refine d_q rfl rfl (.none rfl) rfl rfl (q_neq rfl rfl rfl) ?_
                  refine d_q rfl rfl (.none rfl) rfl rfl (q_move rfl rfl) ?_
                  refine d_off rfl rfl (.no rfl rfl rfl (by simp [hss])) rfl rfl ?_
                  refine d_off rfl rfl (.no rfl rfl rfl (by simp [hss])) rfl rfl ?_
                  refine d_off rfl rfl (.no rfl rfl rfl (by simp [hss])) rfl rfl ?_
                  refine d_off rfl rfl (.no rfl rfl rfl (by simp [hss])) rfl rfl ?_
                  refine d_off rfl rfl (.no rfl rfl rfl (by simp [hss])) rfl rfl ?_
                  refine d_off rfl rfl (.no rfl rfl rfl (by simp [hss])) rfl rfl ?_
                  refine d_off rfl rfl (.no rfl rfl rfl (by simp [hss])) rfl rfl ?_
                  refine d_off rfl rfl (.no rfl rfl rfl (by simp [hss])) rfl rfl ?_
                  refine d_off rfl rfl (.no rfl rfl rfl (by simp [hss])) rfl rfl ?_
                  refine d_off rfl rfl (.no rfl rfl rfl (by simp [hss])) rfl rfl ?_
                  refine d_off rfl rfl (.no rfl rfl rfl (by simp [hss])) rfl rfl ?_
                  refine d_q rfl rfl (.none rfl) rfl rfl (q_pickT rfl rfl (by simp [hss]) rfl) ?_
                  refine d_q rfl rfl (.none rfl) rfl rfl (q_move rfl rfl) ?_
                  refine d_off rfl rfl (.no rfl rfl rfl rfl) rfl rfl ?_
                  refine d_off rfl rfl (.no rfl rfl rfl rfl) rfl rfl ?_
                  refine d_off rfl rfl (.no rfl rfl rfl rfl) rfl rfl ?_
                  refine d_off rfl rfl (.no rfl rfl rfl rfl) rfl rfl ?_
                  refine d_off rfl rfl (.no rfl rfl rfl rfl) rfl rfl ?_
                  refine d_off rfl rfl (.no rfl rfl rfl rfl) rfl rfl ?_
                  refine d_off rfl rfl (.no rfl rfl rfl rfl) rfl rfl ?_
                  refine d_off rfl rfl (.no rfl rfl rfl rfl) rfl rfl ?_
                  refine d_off rfl rfl (.no rfl rfl rfl rfl) rfl rfl ?_
                  refine d_off rfl rfl (.no rfl rfl rfl rfl) rfl rfl ?_
                  refine d_off rfl rfl (.no rfl rfl rfl rfl) rfl rfl ?_
                  refine d_q rfl rfl (.none rfl) rfl rfl (q_pickT rfl rfl rfl rfl) ?_
                  refine d_nil ?_
                  refine run_sub (subMk (.cons (s := 1) rfl (.cons (s := 4) rfl (.cons (s := 5) rfl (.cons (s := 6) rfl (.cons (s := 10) rfl (.cons (s := 12) rfl (.cons (s := 14) rfl (.cons (s := 165) rfl .nil)))))))) .refl) ?_
                  refine run_condT rfl rfl ?_
                  refine run_exit rfl ?_
                  refine run_region ?_
                  refine run_q (.none rfl) rfl rfl (q_move rfl rfl) ?_
                  refine run_q (.none rfl) rfl rfl (q_add rfl rfl rfl (by omega)) ?_
                  refine run_q (.none rfl) rfl rfl (q_assign rfl rfl) ?_
                  refine run_nil ?_
                  refine run_sub (subMk (.cons (s := 1) rfl (.cons (s := 4) rfl (.cons (s := 5) rfl (.cons (s := 6) rfl (.cons (s := 10) rfl (.cons (s := 12) rfl (.cons (s := 14) rfl .nil))))))) .refl) ?_
                  exact run_again (k + 1) (by (try dsimp only); exact (by omega)) (by (try dsimp only); omega) (subMk (.cons' (s := 14) rfl (vint (by omega)) (.cons (s := 1) rfl (.cons (s := 4) rfl (.cons (s := 5) rfl (.cons (s := 6) rfl (.cons (s := 10) rfl (.cons (s := 12) rfl .nil))))))) (.cons Sel.here .refl (.cons Sel.here .refl (.cons Sel.here .refl (.cons Sel.here .refl (.cons Sel.here .refl (.cons Sel.here .refl (.cons Sel.here .refl (.cons Sel.here .refl .nil)))))))))
              · by_cases ho2 : (nth xs i).fst ≤ (nth xs k).lst
                · refine run_draw [(0, 0), (1, 0), (2, 0), (3, 0), (4, 0), (5, 0), (6, 0), (7, 0), (8, 0), (9, 0), (10, 0), (11, 0), (12, 0), (13, 0), (14, 0), (15, 0), (16, 0), (17, 0), (18, 0), (19, 0), (20, 0), (21, 0), (22, 0), (23, 0), (24, 0), (25, 0), (26, 0), (27, 0), (28, 0), (29, 0), (30, 0), (31, 0), (32, 0), (33, 0), (34, 0), (35, 0), (36, 0)] mixed (by kernel_rfl) .refl ?_
                  refine d_q rfl rfl (.none rfl) rfl rfl (q_move rfl rfl) ?_
                  refine d_q rfl rfl (.none rfl) rfl rfl (q_move rfl rfl) ?_
                  refine d_q rfl rfl (.none rfl) rfl rfl (q_indexS (q := k) rfl Try.underlying37 sz25 rfl rfl (.inp hx .no) (by simp <;> omega) rfl (by omega)) ?_
                  refine d_q rfl rfl (.none rfl) rfl rfl (q_fieldAddr (d := 5) rfl Try.underlying25 rfl rfl sz3 rfl) ?_
                  refine d_q rfl rfl (.none rfl) rfl rfl (q_loadF rfl one3 rfl (.inp hx .no) (getmap (by omega)) rfl) ?_
                  refine d_q rfl rfl (.none rfl) rfl rfl (q_move rfl rfl) ?_
                  refine d_q rfl rfl (.none rfl) rfl rfl (q_move rfl rfl) ?_
                  refine d_q rfl rfl (.none rfl) rfl rfl (q_indexS (q := i) rfl Try.underlying37 sz25 rfl rfl (.inp hx .no) (by simp <;> omega) rfl (by omega)) ?_
                  refine d_q rfl rfl (.none rfl) rfl rfl (q_fieldAddr (d := 5) rfl Try.underlying25 rfl rfl sz3 rfl) ?_
                  refine d_q rfl rfl (.none rfl) rfl rfl (q_loadF rfl one3 rfl (.inp hx .no) (getmap (by omega)) rfl) ?_
                  refine d_q rfl rfl (.none rfl) rfl rfl (q_neq rfl rfl rfl) ?_
                  refine d_q rfl rfl (.none rfl) rfl rfl (q_move rfl rfl) ?_
                  refine d_off rfl rfl (.no rfl rfl rfl (by simp [hss])) rfl rfl ?_
                  refine d_off rfl rfl (.no rfl rfl rfl (by simp [hss])) rfl rfl ?_
                  refine d_off rfl rfl (.no rfl rfl rfl (by simp [hss])) rfl rfl ?_
                  refine d_off rfl rfl (.no rfl rfl rfl (by simp [hss])) rfl rfl ?_
                  refine d_off rfl rfl (.no rfl rfl rfl (by simp [hss])) rfl rfl ?_
                  refine d_off rfl rfl (.no rfl rfl rfl (by simp [hss])) rfl rfl ?_
                  refine d_off rfl rfl (.no rfl rfl rfl (by simp [hss])) rfl rfl ?_
                  refine d_off rfl rfl (.no rfl rfl rfl (by simp [hss])) rfl rfl ?_
                  refine d_off rfl rfl (.no rfl rfl rfl (by simp [hss])) rfl rfl ?_
                  refine d_off rfl rfl (.no rfl rfl rfl (by simp [hss])) rfl rfl ?_
                  refine d_off rfl rfl (.no rfl rfl rfl (by simp [hss])) rfl rfl ?_
                  refine d_q rfl rfl (.none rfl) rfl rfl (q_pickT rfl rfl (by simp [hss]) rfl) ?_
                  refine d_q rfl rfl (.none rfl) rfl rfl (q_move rfl rfl) ?_
                  refine d_off rfl rfl (.no rfl rfl rfl rfl) rfl rfl ?_
                  refine d_off rfl rfl (.no rfl rfl rfl rfl) rfl rfl ?_
                  refine d_off rfl rfl (.no rfl rfl rfl rfl) rfl rfl ?_
                  refine d_off rfl rfl (.no rfl rfl rfl rfl) rfl rfl ?_
                  refine d_off rfl rfl (.no rfl rfl rfl rfl) rfl rfl ?_
                  refine d_off rfl rfl (.no rfl rfl rfl rfl) rfl rfl ?_
                  refine d_off rfl rfl (.no rfl rfl rfl rfl) rfl rfl ?_
                  refine d_off rfl rfl (.no rfl rfl rfl rfl) rfl rfl ?_
                  refine d_off rfl rfl (.no rfl rfl rfl rfl) rfl rfl ?_
                  refine d_off rfl rfl (.no rfl rfl rfl rfl) rfl rfl ?_
                  refine d_off rfl rfl (.no rfl rfl rfl rfl) rfl rfl ?_
                  refine d_q rfl rfl (.none rfl) rfl rfl (q_pickT rfl rfl rfl rfl) ?_
                  refine d_nil ?_
                  refine run_sub (subMk (.cons (s := 1) rfl (.cons (s := 4) rfl (.cons (s := 5) rfl (.cons (s := 6) rfl (.cons (s := 10) rfl (.cons (s := 12) rfl (.cons (s := 14) rfl (.cons (s := 165) rfl .nil)))))))) .refl) ?_
                  refine run_condT rfl rfl ?_
                  refine run_exit rfl ?_
                  refine run_region ?_
                  refine run_q (.none rfl) rfl rfl (q_move rfl rfl) ?_
                  refine run_q (.none rfl) rfl rfl (q_add rfl rfl rfl (by omega)) ?_
                  refine run_q (.none rfl) rfl rfl (q_assign rfl rfl) ?_
                  refine run_nil ?_
                  refine run_sub (subMk (.cons (s := 1) rfl (.cons (s := 4) rfl (.cons (s := 5) rfl (.cons (s := 6) rfl (.cons (s := 10) rfl (.cons (s := 12) rfl (.cons (s := 14) rfl .nil))))))) .refl) ?_
                  exact run_again (k + 1) (by (try dsimp only); exact (by omega)) (by (try dsimp only); omega) (subMk (.cons' (s := 14) rfl (vint (by omega)) (.cons (s := 1) rfl (.cons (s := 4) rfl (.cons (s := 5) rfl (.cons (s := 6) rfl (.cons (s := 10) rfl (.cons (s := 12) rfl .nil))))))) (.cons Sel.here .refl (.cons Sel.here .refl (.cons Sel.here .refl (.cons Sel.here .refl (.cons Sel.here .refl (.cons Sel.here .refl (.cons Sel.here .refl (.cons Sel.here .refl .nil)))))))))
                · refine run_draw [(0, 0), (1, 0), (2, 0), (3, 0), (4, 0), (5, 0), (6, 0), (7, 0), (8, 0), (9, 0), (10, 0), (11, 0), (12, 0), (13, 0), (14, 0), (15, 0), (16, 0), (17, 0), (18, 0), (19, 0), (20, 0), (21, 0), (22, 0), (23, 0), (24, 0), (25, 0), (26, 0), (27, 0), (28, 0), (29, 0), (30, 0), (31, 0), (32, 0), (33, 0), (34, 0), (35, 0), (36, 0)] mixed (by kernel_rfl) .refl ?_
                  refine d_q rfl rfl (.none rfl) rfl rfl (q_move rfl rfl) ?_
                  refine d_q rfl rfl (.none rfl) rfl rfl (q_move rfl rfl) ?_
                  refine d_q rfl rfl (.none rfl) rfl rfl (q_indexS (q := k) rfl Try.underlying37 sz25 rfl rfl (.inp hx .no) (by simp <;> omega) rfl (by omega)) ?_
                  refine d_q rfl rfl (.none rfl) rfl rfl (q_fieldAddr (d := 5) rfl Try.underlying25 rfl rfl sz3 rfl) ?_
                  refine d_q rfl rfl (.none rfl) rfl rfl (q_loadF rfl one3 rfl (.inp hx .no) (getmap (by omega)) rfl) ?_
                  refine d_q rfl rfl (.none rfl) rfl rfl (q_move rfl rfl) ?_
                  refine d_q rfl rfl (.none rfl) rfl rfl (q_move rfl rfl) ?_
                  refine d_q rfl rfl (.none rfl) rfl rfl (q_indexS (q := i) rfl Try.underlying37 sz25 rfl rfl (.inp hx .no) (by simp <;> omega) rfl (by omega)) ?_
                  refine d_q rfl rfl (.none rfl) rfl rfl (q_fieldAddr (d := 5) rfl Try.underlying25 rfl rfl sz3 rfl) ?_
                  refine d_q rfl rfl (.none rfl) rfl rfl (q_loadF rfl one3 rfl (.inp hx .no) (getmap (by omega)) rfl) ?_
                  refine d_q rfl rfl (.none rfl) rfl rfl (q_neq rfl rfl rfl) ?_
                  refine d_q rfl rfl (.none rfl) rfl rfl (q_move rfl rfl) ?_
                  refine d_off rfl rfl (.no rfl rfl rfl (by simp [hss])) rfl rfl ?_
                  refine d_off rfl rfl (.no rfl rfl rfl (by simp [hss])) rfl rfl ?_
                  refine d_off rfl rfl (.no rfl rfl rfl (by simp [hss])) rfl rfl ?_
                  refine d_off rfl rfl (.no rfl rfl rfl (by simp [hss])) rfl rfl ?_
                  refine d_off rfl rfl (.no rfl rfl rfl (by simp [hss])) rfl rfl ?_
                  refine d_off rfl rfl (.no rfl rfl rfl (by simp [hss])) rfl rfl ?_
                  refine d_off rfl rfl (.no rfl rfl rfl (by simp [hss])) rfl rfl ?_
                  refine d_off rfl rfl (.no rfl rfl rfl (by simp [hss])) rfl rfl ?_
                  refine d_off rfl rfl (.no rfl rfl rfl (by simp [hss])) rfl rfl ?_
                  refine d_off rfl rfl (.no rfl rfl rfl (by simp [hss])) rfl rfl ?_
                  refine d_off rfl rfl (.no rfl rfl rfl (by simp [hss])) rfl rfl ?_
                  refine d_q rfl rfl (.none rfl) rfl rfl (q_pickT rfl rfl (by simp [hss]) rfl) ?_
                  refine d_q rfl rfl (.none rfl) rfl rfl (q_move rfl rfl) ?_
                  refine d_off rfl rfl (.no rfl rfl rfl rfl) rfl rfl ?_
                  refine d_off rfl rfl (.no rfl rfl rfl rfl) rfl rfl ?_
                  refine d_off rfl rfl (.no rfl rfl rfl rfl) rfl rfl ?_
                  refine d_off rfl rfl (.no rfl rfl rfl rfl) rfl rfl ?_
                  refine d_off rfl rfl (.no rfl rfl rfl rfl) rfl rfl ?_
                  refine d_off rfl rfl (.no rfl rfl rfl rfl) rfl rfl ?_
                  refine d_off rfl rfl (.no rfl rfl rfl rfl) rfl rfl ?_
                  refine d_off rfl rfl (.no rfl rfl rfl rfl) rfl rfl ?_
                  refine d_off rfl rfl (.no rfl rfl rfl rfl) rfl rfl ?_
                  refine d_off rfl rfl (.no rfl rfl rfl rfl) rfl rfl ?_
                  refine d_off rfl rfl (.no rfl rfl rfl rfl) rfl rfl ?_
                  refine d_q rfl rfl (.none rfl) rfl rfl (q_pickT rfl rfl rfl rfl) ?_
                  refine d_nil ?_
                  refine run_sub (subMk (.cons (s := 1) rfl (.cons (s := 4) rfl (.cons (s := 5) rfl (.cons (s := 6) rfl (.cons (s := 10) rfl (.cons (s := 12) rfl (.cons (s := 14) rfl (.cons (s := 165) rfl .nil)))))))) .refl) ?_
                  refine run_condT rfl rfl ?_
                  refine run_exit rfl ?_
                  refine run_region ?_
                  refine run_q (.none rfl) rfl rfl (q_move rfl rfl) ?_
                  refine run_q (.none rfl) rfl rfl (q_add rfl rfl rfl (by omega)) ?_
                  refine run_q (.none rfl) rfl rfl (q_assign rfl rfl) ?_
                  refine run_nil ?_
                  refine run_sub (subMk (.cons (s := 1) rfl (.cons (s := 4) rfl (.cons (s := 5) rfl (.cons (s := 6) rfl (.cons (s := 10) rfl (.cons (s := 12) rfl (.cons (s := 14) rfl .nil))))))) .refl) ?_
                  exact run_again (k + 1) (by (try dsimp only); exact (by omega)) (by (try dsimp only); omega) (subMk (.cons' (s := 14) rfl (vint (by omega)) (.cons (s := 1) rfl (.cons (s := 4) rfl (.cons (s := 5) rfl (.cons (s := 6) rfl (.cons (s := 10) rfl (.cons (s := 12) rfl .nil))))))) (.cons Sel.here .refl (.cons Sel.here .refl (.cons Sel.here .refl (.cons Sel.here .refl (.cons Sel.here .refl (.cons Sel.here .refl (.cons Sel.here .refl (.cons Sel.here .refl .nil)))))))))
          · have g126' := g126
            try simp only [decide_eq_true_eq, decide_eq_false_iff_not, beq_iff_eq, beq_eq_false_iff_ne, bne_iff_ne, bne_eq_false_iff_eq, Bool.not_eq_true', Bool.not_eq_false', ne_eq, Int.not_lt, Int.not_le, Decidable.not_not] at g126'
            refine run_exit rfl ?_
            refine run_sub (subMk (.cons (s := 1) rfl (.cons (s := 4) rfl (.cons (s := 5) rfl (.cons (s := 6) rfl (.cons (s := 10) rfl (.cons (s := 12) rfl .nil)))))) .refl) ?_
            refine run_blk ?_
            refine run_region ?_
            refine run_q (.none rfl) rfl rfl (q_move rfl rfl) ?_
            refine run_q (.none rfl) rfl rfl (q_add rfl rfl rfl (by omega)) ?_
            refine run_q (.none rfl) rfl rfl (q_assign rfl rfl) ?_
            refine run_nil ?_
            exact run_again (i + 1) (by (try dsimp only); exact (by omega)) (by (try dsimp only); omega) (subMk (.cons' (s := 12) rfl (vint (by omega)) (.cons (s := 1) rfl (.cons (s := 4) rfl (.cons (s := 5) rfl (.cons (s := 6) rfl (.cons (s := 10) rfl .nil)))))) (.cons Sel.here .refl (.cons Sel.here .refl (.cons Sel.here .refl (.cons Sel.here .refl (.cons Sel.here .refl (.cons Sel.here .refl (.cons Sel.here .refl (.cons Sel.here .refl .nil)))))))))
      · have g76' := g76
        try simp only [decide_eq_true_eq, decide_eq_false_iff_not, beq_iff_eq, beq_eq_false_iff_ne, bne_iff_ne, bne_eq_false_iff_eq, Bool.not_eq_true', Bool.not_eq_false', ne_eq, Int.not_lt, Int.not_le, Decidable.not_not] at g76'
        refine run_off (.no rfl rfl rfl g76) rfl rfl ?_
        refine run_off (.no rfl rfl rfl g76) rfl rfl ?_
        refine run_q (.none rfl) rfl rfl (q_pickF rfl rfl g76 rfl) ?_
        refine run_nil ?_
        refine run_sub (subMk (.cons (s := 1) rfl (.cons (s := 4) rfl (.cons (s := 5) rfl (.cons (s := 6) rfl (.cons (s := 10) rfl (.cons (s := 12) rfl (.cons (s := 13) rfl (.cons (s := 79) rfl .nil)))))))) .refl) ?_
        refine run_condF rfl rfl ?_
        refine run_exit rfl ?_
        refine run_seq ?_
        refine run_region ?_
        refine run_q (.none rfl) rfl rfl (q_assign rfl rfl) ?_
        refine run_nil ?_
        refine run_block ?_
        refine run_sub (subMk (.cons (s := 14) rfl (.cons (s := 1) rfl (.cons (s := 4) rfl (.cons (s := 5) rfl (.cons (s := 6) rfl (.cons (s := 10) rfl (.cons (s := 12) rfl .nil))))))) (.cons Sel.here .refl (.cons Sel.here .refl (.cons Sel.here .refl (.cons Sel.here .refl (.cons Sel.here .refl (.cons Sel.here .refl (.cons Sel.here .refl (.cons Sel.here .refl .nil))))))))) ?_
        refine run_loopC1M0 (ι := Nat) (fun k => k ≤ i) (fun k => .int .i64 (k : Int))  (fun k => i - k) 0 (by (try dsimp only); exact (by omega)) rfl  ?_
        rintro k hk
        (try dsimp only at hk)
        show Run _ _ _ _ _ _ _ ⟨(14, .int .i64 (k : Int)) :: _, _⟩
        refine run_seq ?_
        refine run_seq ?_
        refine run_region ?_
        refine run_q (.none rfl) rfl rfl (q_move rfl rfl) ?_
        refine run_q (.none rfl) rfl rfl (q_move rfl rfl) ?_
        refine run_q (.none rfl) rfl rfl (q_lss rfl rfl rfl) ?_
        refine run_nil ?_
        refine run_cond rfl (fun g126 => ?_) (fun g126 => ?_)
        · have g126' := g126
          try simp only [decide_eq_true_eq, decide_eq_false_iff_not, beq_iff_eq, beq_eq_false_iff_ne, bne_iff_ne, bne_eq_false_iff_eq, Bool.not_eq_true', Bool.not_eq_false', ne_eq, Int.not_lt, Int.not_le, Decidable.not_not] at g126'
          refine run_skip ?_
          refine run_seq ?_
          refine run_block ?_
          refine run_seq ?_
          refine run_seq ?_
          by_cases hss : (nth xs k).side = (nth xs i).side
          · by_cases ho1 : (nth xs k).fst ≤ (nth xs i).lst
            · by_cases ho2 : (nth xs i).fst ≤ (nth xs k).lst
              · refine run_draw [(0, 0), (1, 0), (2, 0), (3, 0), (4, 0), (5, 0), (6, 0), (7, 0), (8, 0), (9, 0), (10, 0), (11, 0), (12, 0), (13, 0), (14, 0), (15, 0), (16, 0), (17, 0), (18, 0), (19, 0), (20, 0), (21, 0), (22, 0), (23, 0), (24, 0), (25, 0), (26, 0), (27, 0), (28, 0), (29, 0), (30, 0), (31, 0), (32, 0), (33, 0), (34, 0), (35, 0), (36, 0)] mixed (by kernel_rfl) .refl ?_
                refine d_q rfl rfl (.none rfl) rfl rfl (q_move rfl rfl) ?_
                refine d_q rfl rfl (.none rfl) rfl rfl (q_move rfl rfl) ?_
                refine d_q rfl rfl (.none rfl) rfl rfl (q_indexS (q := k) rfl Try.underlying37 sz25 rfl rfl (.inp hx .no) (by simp <;> omega) rfl (by omega)) ?_
                refine d_q rfl rfl (.none rfl) rfl rfl (q_fieldAddr (d := 5) rfl Try.underlying25 rfl rfl sz3 rfl) ?_
                refine d_q rfl rfl (.none rfl) rfl rfl (q_loadF rfl one3 rfl (.inp hx .no) (getmap (by omega)) rfl) ?_
                refine d_q rfl rfl (.none rfl) rfl rfl (q_move rfl rfl) ?_
                refine d_q rfl rfl (.none rfl) rfl rfl (q_move rfl rfl) ?_
                refine d_q rfl rfl (.none rfl) rfl rfl (q_indexS (q := i) rfl Try.underlying37 sz25 rfl rfl (.inp hx .no) (by simp <;> omega) rfl (by omega)) ?_
                refine d_q rfl rfl (.none rfl) rfl rfl (q_fieldAddr (d := 5) rfl Try.underlying25 rfl rfl sz3 rfl) ?_
                refine d_q rfl rfl (.none rfl) rfl rfl (q_loadF rfl one3 rfl (.inp hx .no) (getmap (by omega)) rfl) ?_
                refine d_q rfl rfl (.none rfl) rfl rfl (q_neq rfl rfl rfl) ?_
                refine d_q rfl rfl (.none rfl) rfl rfl (q_move rfl rfl) ?_
                refine d_q rfl rfl (.on rfl rfl rfl (by simp [hss])) rfl rfl (q_move rfl rfl) ?_
                refine d_q rfl rfl (.on rfl rfl rfl (by simp [hss])) rfl rfl (q_move rfl rfl) ?_
                refine d_q rfl rfl (.on rfl rfl rfl (by simp [hss])) rfl rfl (q_indexS (q := k) rfl Try.underlying37 sz25 rfl rfl (.inp hx .no) (by simp <;> omega) rfl (by omega)) ?_
                refine d_q rfl rfl (.on rfl rfl rfl (by simp [hss])) rfl rfl (q_fieldAddr (d := 3) rfl Try.underlying25 rfl rfl sz3 rfl) ?_
                refine d_q rfl rfl (.on rfl rfl rfl (by simp [hss])) rfl rfl (q_loadF rfl one3 rfl (.inp hx .no) (getmap (by omega)) rfl) ?_
                refine d_q rfl rfl (.on rfl rfl rfl (by simp [hss])) rfl rfl (q_move rfl rfl) ?_
                refine d_q rfl rfl (.on rfl rfl rfl (by simp [hss])) rfl rfl (q_move rfl rfl) ?_
                refine d_q rfl rfl (.on rfl rfl rfl (by simp [hss])) rfl rfl (q_indexS (q := i) rfl Try.underlying37 sz25 rfl rfl (.inp hx .no) (by simp <;> omega) rfl (by omega)) ?_
                refine d_q rfl rfl (.on rfl rfl rfl (by simp [hss])) rfl rfl (q_fieldAddr (d := 4) rfl Try.underlying25 rfl rfl sz3 rfl) ?_
                refine d_q rfl rfl (.on rfl rfl rfl (by simp [hss])) rfl rfl (q_loadF rfl one3 rfl (.inp hx .no) (getmap (by omega)) rfl) ?_
                refine d_q rfl rfl (.on rfl rfl rfl (by simp [hss])) rfl rfl (q_gtr rfl rfl rfl) ?_
                refine d_q rfl rfl (.none rfl) rfl rfl (q_pickF rfl rfl (by simp [hss]) rfl) ?_
                refine d_q rfl rfl (.none rfl) rfl rfl (q_move rfl rfl) ?_
                refine d_q rfl rfl (.on rfl rfl rfl (decide_eq_false (by omega))) rfl rfl (q_move rfl rfl) ?_
                refine d_q rfl rfl (.on rfl rfl rfl (decide_eq_false (by omega))) rfl rfl (q_move rfl rfl) ?_
                refine d_q rfl rfl (.on rfl rfl rfl (decide_eq_false (by omega))) rfl rfl (q_indexS (q := i) rfl Try.underlying37 sz25 rfl rfl (.inp hx .no) (by simp <;> omega) rfl (by omega)) ?_
                refine d_q rfl rfl (.on rfl rfl rfl (decide_eq_false (by omega))) rfl rfl (q_fieldAddr (d := 3) rfl Try.underlying25 rfl rfl sz3 rfl) ?_
                refine d_q rfl rfl (.on rfl rfl rfl (decide_eq_false (by omega))) rfl rfl (q_loadF rfl one3 rfl (.inp hx .no) (getmap (by omega)) rfl) ?_
                refine d_q rfl rfl (.on rfl rfl rfl (decide_eq_false (by omega))) rfl rfl (q_move rfl rfl) ?_
                refine d_q rfl rfl (.on rfl rfl rfl (decide_eq_false (by omega))) rfl rfl (q_move rfl rfl) ?_
                refine d_q rfl rfl (.on rfl rfl rfl (decide_eq_false (by omega))) rfl rfl (q_indexS (q := k) rfl Try.underlying37 sz25 rfl rfl (.inp hx .no) (by simp <;> omega) rfl (by omega)) ?_
                refine d_q rfl rfl (.on rfl rfl rfl (decide_eq_false (by omega))) rfl rfl (q_fieldAddr (d := 4) rfl Try.underlying25 rfl rfl sz3 rfl) ?_
                refine d_q rfl rfl (.on rfl rfl rfl (decide_eq_false (by omega))) rfl rfl (q_loadF rfl one3 rfl (.inp hx .no) (getmap (by omega)) rfl) ?_
                refine d_q rfl rfl (.on rfl rfl rfl (decide_eq_false (by omega))) rfl rfl (q_gtr rfl rfl rfl) ?_
                refine d_q rfl rfl (.none rfl) rfl rfl (q_pickF rfl rfl (decide_eq_false (by omega)) rfl) ?_
                refine d_nil ?_
                refine run_sub (subMk (.cons (s := 1) rfl (.cons (s := 4) rfl (.cons (s := 5) rfl (.cons (s := 6) rfl (.cons (s := 10) rfl (.cons (s := 12) rfl (.cons (s := 14) rfl (.cons (s := 165) rfl .nil)))))))) .refl) ?_
                refine run_condF rfl (decide_eq_false (by omega)) ?_
                refine run_skip ?_
                refine run_seq ?_
                by_cases hsd2 : (nth xs i).side = -1
                · have hqk := reqE_ok (reqsE_ok hq0 (show k < xs.length by omega))
                  have h1k := plEs_zero hE0 k (by omega)
                  have hMk : nth (placeM xs (gs la lb la (gN la lb)) (gs la lb lb (gN la lb))) k = plM1 xs (gs la lb la (gN la lb)) (gs la lb lb (gN la lb)) k := by rw [e3]; exact plMs_nth (by omega)
                  have hc := clr2_b (xs := xs) (a := (gs la lb la (gN la lb))) (b := (gs la lb lb (gN la lb))) (j := (max (nth xs i).fst (nth xs k).fst).toNat) (i := i) (k := k) (by omega) hsd2 (by rw [hss]; exact hsd2) h1i h1k (by omega) (by omega) (by omega) (by omega) (by omega)
                  have hbk := mk_bd (xs := xs) (a := (gs la lb la (gN la lb))) (b := (gs la lb lb (gN la lb))) (i := k) (by omega) h1k hbdA hbdB (by omega) (by omega) (by omega) ⟨by omega, by omega⟩ ⟨by omega, by omega⟩
                  rw [← hMi, ← hMk] at hc
                  rw [← hMk] at hbk
                  refine run_draw [(0, 0), (1, 0), (2, 0), (3, 0), (4, 0), (5, 0), (6, 0), (7, 0), (8, 0), (9, 0), (10, 0), (11, 0), (12, 0), (13, 0), (14, 0), (15, 0), (16, 0), (17, 0), (18, 0), (19, 0), (20, 0), (21, 0), (22, 0), (23, 0), (24, 0), (25, 0), (26, 0), (27, 0), (28, 0), (29, 0), (30, 0), (31, 0), (32, 0), (33, 0), (34, 0), (35, 0), (36, 0), (37, 0), (38, 0), (39, 0), (40, 0), (41, 0), (42, 0), (43, 0), (44, 0), (45, 0)] mixed (by kernel_rfl) .refl ?_
                  refine d_q rfl rfl (.none rfl) rfl rfl (q_move rfl rfl) ?_
                  refine d_q rfl rfl (.none rfl) rfl rfl (q_move rfl rfl) ?_
                  refine d_q rfl rfl (.none rfl) rfl rfl (q_indexS (q := i) rfl Try.underlying37 sz25 rfl rfl (.inp hx .no) (by simp <;> omega) rfl (by omega)) ?_
                  refine d_q rfl rfl (.none rfl) rfl rfl (q_fieldAddr (d := 5) rfl Try.underlying25 rfl rfl sz3 rfl) ?_
                  refine d_q rfl rfl (.none rfl) rfl rfl (q_loadF rfl one3 rfl (.inp hx .no) (getmap (by omega)) rfl) ?_
                  refine d_q rfl rfl (.none rfl) rfl rfl (q_gtr rfl rfl rfl) ?_
                  refine d_q rfl rfl (.none rfl) rfl rfl (q_move rfl rfl) ?_
                  refine d_off rfl rfl (.no rfl rfl rfl (decide_eq_false (by omega))) rfl rfl ?_
                  refine d_off rfl rfl (.no rfl rfl rfl (decide_eq_false (by omega))) rfl rfl ?_
                  refine d_off rfl rfl (.no rfl rfl rfl (decide_eq_false (by omega))) rfl rfl ?_
                  refine d_off rfl rfl (.no rfl rfl rfl (decide_eq_false (by omega))) rfl rfl ?_
                  refine d_off rfl rfl (.no rfl rfl rfl (decide_eq_false (by omega))) rfl rfl ?_
                  refine d_off rfl rfl (.no rfl rfl rfl (decide_eq_false (by omega))) rfl rfl ?_
                  refine d_off rfl rfl (.no rfl rfl rfl (decide_eq_false (by omega))) rfl rfl ?_
                  refine d_off rfl rfl (.no rfl rfl rfl (decide_eq_false (by omega))) rfl rfl ?_
                  refine d_off rfl rfl (.no rfl rfl rfl (decide_eq_false (by omega))) rfl rfl ?_
                  refine d_off rfl rfl (.no rfl rfl rfl (decide_eq_false (by omega))) rfl rfl ?_
                  refine d_off rfl rfl (.no rfl rfl rfl (decide_eq_false (by omega))) rfl rfl ?_
                  refine d_off rfl rfl (.no rfl rfl rfl (decide_eq_false (by omega))) rfl rfl ?_
                  refine d_off rfl rfl (.no rfl rfl rfl (decide_eq_false (by omega))) rfl rfl ?_
                  refine d_off rfl rfl (.no rfl rfl rfl (decide_eq_false (by omega))) rfl rfl ?_
                  refine d_q rfl rfl (.none rfl) rfl rfl (q_pickF rfl rfl (decide_eq_false (by omega)) rfl) ?_
                  refine d_q rfl rfl (.none rfl) rfl rfl (q_move rfl rfl) ?_
                  refine d_q rfl rfl (.on rfl rfl rfl rfl) rfl rfl (q_move rfl rfl) ?_
                  refine d_q rfl rfl (.on rfl rfl rfl rfl) rfl rfl (q_move rfl rfl) ?_
                  refine d_q rfl rfl (.on rfl rfl rfl rfl) rfl rfl (q_indexS (q := i) rfl Try.underlying37 sz25 rfl rfl (.inp hx .no) (by simp <;> omega) rfl (by omega)) ?_
                  refine d_q rfl rfl (.on rfl rfl rfl rfl) rfl rfl (q_fieldAddr (d := 5) rfl Try.underlying25 rfl rfl sz3 rfl) ?_
                  refine d_q rfl rfl (.on rfl rfl rfl rfl) rfl rfl (q_loadF rfl one3 rfl (.inp hx .no) (getmap (by omega)) rfl) ?_
                  refine d_q rfl rfl (.on rfl rfl rfl rfl) rfl rfl (q_lss rfl rfl rfl) ?_
                  refine d_q rfl rfl (.on rfl rfl rfl rfl) rfl rfl (q_move rfl rfl) ?_
                  refine d_q rfl rfl (.on rfl rfl rfl (decide_eq_true (by omega))) rfl rfl (q_move rfl rfl) ?_
                  refine d_q rfl rfl (.on rfl rfl rfl (decide_eq_true (by omega))) rfl rfl (q_move rfl rfl) ?_
                  refine d_q rfl rfl (.on rfl rfl rfl (decide_eq_true (by omega))) rfl rfl (q_indexS (q := i) rfl Try.underlying44 sz50 rfl rfl (.own (.there (.there (.there (.there Sel.here))))) (by rw [List.length_map]) rfl (by omega)) ?_
                  refine d_q rfl rfl (.on rfl rfl rfl (decide_eq_true (by omega))) rfl rfl (q_fieldAddr (d := 8) rfl Try.underlying50 rfl rfl sz48 rfl) ?_
                  refine d_q rfl rfl (.on rfl rfl rfl (decide_eq_true (by omega))) rfl rfl (q_fieldF (d2 := 11) rfl Try.underlying48 rfl rfl sz3 rfl) ?_
                  refine d_q rfl rfl (.on rfl rfl rfl (decide_eq_true (by omega))) rfl rfl (q_loadF rfl one3 rfl (.own (.there (.there (.there (.there Sel.here))))) (getmap (by omega)) rfl) ?_
                  refine d_q rfl rfl (.on rfl rfl rfl (decide_eq_true (by omega))) rfl rfl (q_move rfl rfl) ?_
                  refine d_q rfl rfl (.on rfl rfl rfl (decide_eq_true (by omega))) rfl rfl (q_move rfl rfl) ?_
                  refine d_q rfl rfl (.on rfl rfl rfl (decide_eq_true (by omega))) rfl rfl (q_indexS (q := k) rfl Try.underlying44 sz50 rfl rfl (.own (.there (.there (.there (.there Sel.here))))) (by rw [List.length_map]) rfl (by omega)) ?_
                  refine d_q rfl rfl (.on rfl rfl rfl (decide_eq_true (by omega))) rfl rfl (q_fieldAddr (d := 8) rfl Try.underlying50 rfl rfl sz48 rfl) ?_
                  refine d_q rfl rfl (.on rfl rfl rfl (decide_eq_true (by omega))) rfl rfl (q_fieldF (d2 := 9) rfl Try.underlying48 rfl rfl sz3 rfl) ?_
                  refine d_q rfl rfl (.on rfl rfl rfl (decide_eq_true (by omega))) rfl rfl (q_loadF rfl one3 rfl (.own (.there (.there (.there (.there Sel.here))))) (getmap (by omega)) rfl) ?_
                  refine d_q rfl rfl (.on rfl rfl rfl (decide_eq_true (by omega))) rfl rfl (q_sub rfl rfl rfl (by omega)) ?_
                  refine d_q rfl rfl (.on rfl rfl rfl (decide_eq_true (by omega))) rfl rfl (q_gtr rfl rfl rfl) ?_
                  refine d_q rfl rfl (.on rfl rfl rfl rfl) rfl rfl (q_pickT rfl rfl (decide_eq_true (by omega)) rfl) ?_
                  refine d_q rfl rfl (.none rfl) rfl rfl (q_pickF rfl rfl rfl rfl) ?_
                  refine d_nil ?_
                  refine run_sub (subMk (.cons (s := 1) rfl (.cons (s := 4) rfl (.cons (s := 5) rfl (.cons (s := 6) rfl (.cons (s := 10) rfl (.cons (s := 12) rfl (.cons (s := 14) rfl (.cons (s := 211) rfl .nil)))))))) .refl) ?_
                  refine run_condF rfl (decide_eq_false (by omega)) ?_
                  refine run_skip ?_
                  refine run_blk ?_
                  refine run_region ?_
                  refine run_q (.none rfl) rfl rfl (q_move rfl rfl) ?_
                  refine run_q (.none rfl) rfl rfl (q_add rfl rfl rfl (by omega)) ?_
                  refine run_q (.none rfl) rfl rfl (q_assign rfl rfl) ?_
                  refine run_nil ?_
                  refine run_sub (subMk (.cons (s := 1) rfl (.cons (s := 4) rfl (.cons (s := 5) rfl (.cons (s := 6) rfl (.cons (s := 10) rfl (.cons (s := 12) rfl (.cons (s := 14) rfl .nil))))))) .refl) ?_
                  exact run_again (k + 1) (by (try dsimp only); exact (by omega)) (by (try dsimp only); omega) (subMk (.cons' (s := 14) rfl (vint (by omega)) (.cons (s := 1) rfl (.cons (s := 4) rfl (.cons (s := 5) rfl (.cons (s := 6) rfl (.cons (s := 10) rfl (.cons (s := 12) rfl .nil))))))) (.cons Sel.here .refl (.cons Sel.here .refl (.cons Sel.here .refl (.cons Sel.here .refl (.cons Sel.here .refl (.cons Sel.here .refl (.cons Sel.here .refl (.cons Sel.here .refl .nil)))))))))
                · have hqk := reqE_ok (reqsE_ok hq0 (show k < xs.length by omega))
                  have h1k := plEs_zero hE0 k (by omega)
                  have hMk : nth (placeM xs (gs la lb la (gN la lb)) (gs la lb lb (gN la lb))) k = plM1 xs (gs la lb la (gN la lb)) (gs la lb lb (gN la lb)) k := by rw [e3]; exact plMs_nth (by omega)
                  have hc := clr2_a (xs := xs) (a := (gs la lb la (gN la lb))) (b := (gs la lb lb (gN la lb))) (j := (max (nth xs i).fst (nth xs k).fst).toNat) (i := i) (k := k) (by omega) hsd2 (by rw [hss]; exact hsd2) h1i h1k (by omega) (by omega) (by omega) (by omega) (by omega)
                  have hbk := mk_bd (xs := xs) (a := (gs la lb la (gN la lb))) (b := (gs la lb lb (gN la lb))) (i := k) (by omega) h1k hbdA hbdB (by omega) (by omega) (by omega) ⟨by omega, by omega⟩ ⟨by omega, by omega⟩
                  rw [← hMi, ← hMk] at hc
                  rw [← hMk] at hbk
                  refine run_draw [(0, 0), (1, 0), (2, 0), (3, 0), (4, 0), (5, 0), (6, 0), (7, 0), (8, 0), (9, 0), (10, 0), (11, 0), (12, 0), (13, 0), (14, 0), (15, 0), (16, 0), (17, 0), (18, 0), (19, 0), (20, 0), (21, 0), (22, 0), (23, 0), (24, 0), (25, 0), (26, 0), (27, 0), (28, 0), (29, 0), (30, 0), (31, 0), (32, 0), (33, 0), (34, 0), (35, 0), (36, 0), (37, 0), (38, 0), (39, 0), (40, 0), (41, 0), (42, 0), (43, 0), (44, 0), (45, 0)] mixed (by kernel_rfl) .refl ?_
                  refine d_q rfl rfl (.none rfl) rfl rfl (q_move rfl rfl) ?_
                  refine d_q rfl rfl (.none rfl) rfl rfl (q_move rfl rfl) ?_
                  refine d_q rfl rfl (.none rfl) rfl rfl (q_indexS (q := i) rfl Try.underlying37 sz25 rfl rfl (.inp hx .no) (by simp <;> omega) rfl (by omega)) ?_
                  refine d_q rfl rfl (.none rfl) rfl rfl (q_fieldAddr (d := 5) rfl Try.underlying25 rfl rfl sz3 rfl) ?_
                  refine d_q rfl rfl (.none rfl) rfl rfl (q_loadF rfl one3 rfl (.inp hx .no) (getmap (by omega)) rfl) ?_
                  refine d_q rfl rfl (.none rfl) rfl rfl (q_gtr rfl rfl rfl) ?_
                  refine d_q rfl rfl (.none rfl) rfl rfl (q_move rfl rfl) ?_
                  refine d_q rfl rfl (.on rfl rfl rfl (decide_eq_true (by omega))) rfl rfl (q_move rfl rfl) ?_
                  refine d_q rfl rfl (.on rfl rfl rfl (decide_eq_true (by omega))) rfl rfl (q_move rfl rfl) ?_
                  refine d_q rfl rfl (.on rfl rfl rfl (decide_eq_true (by omega))) rfl rfl (q_indexS (q := i) rfl Try.underlying44 sz50 rfl rfl (.own (.there (.there (.there (.there Sel.here))))) (by rw [List.length_map]) rfl (by omega)) ?_
                  refine d_q rfl rfl (.on rfl rfl rfl (decide_eq_true (by omega))) rfl rfl (q_fieldAddr (d := 8) rfl Try.underlying50 rfl rfl sz48 rfl) ?_
                  refine d_q rfl rfl (.on rfl rfl rfl (decide_eq_true (by omega))) rfl rfl (q_fieldF (d2 := 9) rfl Try.underlying48 rfl rfl sz3 rfl) ?_
                  refine d_q rfl rfl (.on rfl rfl rfl (decide_eq_true (by omega))) rfl rfl (q_loadF rfl one3 rfl (.own (.there (.there (.there (.there Sel.here))))) (getmap (by omega)) rfl) ?_
                  refine d_q rfl rfl (.on rfl rfl rfl (decide_eq_true (by omega))) rfl rfl (q_move rfl rfl) ?_
                  refine d_q rfl rfl (.on rfl rfl rfl (decide_eq_true (by omega))) rfl rfl (q_move rfl rfl) ?_
                  refine d_q rfl rfl (.on rfl rfl rfl (decide_eq_true (by omega))) rfl rfl (q_indexS (q := k) rfl Try.underlying44 sz50 rfl rfl (.own (.there (.there (.there (.there Sel.here))))) (by rw [List.length_map]) rfl (by omega)) ?_
                  refine d_q rfl rfl (.on rfl rfl rfl (decide_eq_true (by omega))) rfl rfl (q_fieldAddr (d := 8) rfl Try.underlying50 rfl rfl sz48 rfl) ?_
                  refine d_q rfl rfl (.on rfl rfl rfl (decide_eq_true (by omega))) rfl rfl (q_fieldF (d2 := 11) rfl Try.underlying48 rfl rfl sz3 rfl) ?_
                  refine d_q rfl rfl (.on rfl rfl rfl (decide_eq_true (by omega))) rfl rfl (q_loadF rfl one3 rfl (.own (.there (.there (.there (.there Sel.here))))) (getmap (by omega)) rfl) ?_
                  refine d_q rfl rfl (.on rfl rfl rfl (decide_eq_true (by omega))) rfl rfl (q_add rfl rfl rfl (by omega)) ?_
                  refine d_q rfl rfl (.on rfl rfl rfl (decide_eq_true (by omega))) rfl rfl (q_lss rfl rfl rfl) ?_
                  refine d_q rfl rfl (.none rfl) rfl rfl (q_pickT rfl rfl (decide_eq_true (by omega)) rfl) ?_
                  refine d_q rfl rfl (.none rfl) rfl rfl (q_move rfl rfl) ?_
                  refine d_q rfl rfl (.on rfl rfl rfl (decide_eq_false (by omega))) rfl rfl (q_move rfl rfl) ?_
                  refine d_q rfl rfl (.on rfl rfl rfl (decide_eq_false (by omega))) rfl rfl (q_move rfl rfl) ?_
                  refine d_q rfl rfl (.on rfl rfl rfl (decide_eq_false (by omega))) rfl rfl (q_indexS (q := i) rfl Try.underlying37 sz25 rfl rfl (.inp hx .no) (by simp <;> omega) rfl (by omega)) ?_
                  refine d_q rfl rfl (.on rfl rfl rfl (decide_eq_false (by omega))) rfl rfl (q_fieldAddr (d := 5) rfl Try.underlying25 rfl rfl sz3 rfl) ?_
                  refine d_q rfl rfl (.on rfl rfl rfl (decide_eq_false (by omega))) rfl rfl (q_loadF rfl one3 rfl (.inp hx .no) (getmap (by omega)) rfl) ?_
                  refine d_q rfl rfl (.on rfl rfl rfl (decide_eq_false (by omega))) rfl rfl (q_lss rfl rfl rfl) ?_
                  refine d_q rfl rfl (.on rfl rfl rfl (decide_eq_false (by omega))) rfl rfl (q_move rfl rfl) ?_
                  refine d_off rfl rfl (.no rfl rfl rfl (decide_eq_false (by omega))) rfl rfl ?_
                  refine d_off rfl rfl (.no rfl rfl rfl (decide_eq_false (by omega))) rfl rfl ?_
                  refine d_off rfl rfl (.no rfl rfl rfl (decide_eq_false (by omega))) rfl rfl ?_
                  refine d_off rfl rfl (.no rfl rfl rfl (decide_eq_false (by omega))) rfl rfl ?_
                  refine d_off rfl rfl (.no rfl rfl rfl (decide_eq_false (by omega))) rfl rfl ?_
                  refine d_off rfl rfl (.no rfl rfl rfl (decide_eq_false (by omega))) rfl rfl ?_
                  refine d_off rfl rfl (.no rfl rfl rfl (decide_eq_false (by omega))) rfl rfl ?_
                  refine d_off rfl rfl (.no rfl rfl rfl (decide_eq_false (by omega))) rfl rfl ?_
                  refine d_off rfl rfl (.no rfl rfl rfl (decide_eq_false (by omega))) rfl rfl ?_
                  refine d_off rfl rfl (.no rfl rfl rfl (decide_eq_false (by omega))) rfl rfl ?_
                  refine d_off rfl rfl (.no rfl rfl rfl (decide_eq_false (by omega))) rfl rfl ?_
                  refine d_off rfl rfl (.no rfl rfl rfl (decide_eq_false (by omega))) rfl rfl ?_
                  refine d_off rfl rfl (.no rfl rfl rfl (decide_eq_false (by omega))) rfl rfl ?_
                  refine d_off rfl rfl (.no rfl rfl rfl (decide_eq_false (by omega))) rfl rfl ?_
                  refine d_q rfl rfl (.on rfl rfl rfl (decide_eq_false (by omega))) rfl rfl (q_pickF rfl rfl (decide_eq_false (by omega)) rfl) ?_
                  refine d_q rfl rfl (.none rfl) rfl rfl (q_pickF rfl rfl (decide_eq_false (by omega)) rfl) ?_
                  refine d_nil ?_
                  refine run_sub (subMk (.cons (s := 1) rfl (.cons (s := 4) rfl (.cons (s := 5) rfl (.cons (s := 6) rfl (.cons (s := 10) rfl (.cons (s := 12) rfl (.cons (s := 14) rfl (.cons (s := 211) rfl .nil)))))))) .refl) ?_
                  refine run_condF rfl rfl ?_
                  refine run_skip ?_
                  refine run_blk ?_
                  refine run_region ?_
                  refine run_q (.none rfl) rfl rfl (q_move rfl rfl) ?_
                  refine run_q (.none rfl) rfl rfl (q_add rfl rfl rfl (by omega)) ?_
                  refine run_q (.none rfl) rfl rfl (q_assign rfl rfl) ?_
                  refine run_nil ?_
                  refine run_sub (subMk (.cons (s := 1) rfl (.cons (s := 4) rfl (.cons (s := 5) rfl (.cons (s := 6) rfl (.cons (s := 10) rfl (.cons (s := 12) rfl (.cons (s := 14) rfl .nil))))))) .refl) ?_
                  exact run_again (k + 1) (by (try dsimp only); exact (by omega)) (by (try dsimp only); omega) (subMk (.cons' (s := 14) rfl (vint (by omega)) (.cons (s := 1) rfl (.cons (s := 4) rfl (.cons (s := 5) rfl (.cons (s := 6) rfl (.cons (s := 10) rfl (.cons (s := 12) rfl .nil))))))) (.cons Sel.here .refl (.cons Sel.here .refl (.cons Sel.here .refl (.cons Sel.here .refl (.cons Sel.here .refl (.cons Sel.here .refl (.cons Sel.here .refl (.cons Sel.here .refl .nil)))))))))
              · refine run_draw [(0, 0), (1, 0), (2, 0), (3, 0), (4, 0), (5, 0), (6, 0), (7, 0), (8, 0), (9, 0), (10, 0), (11, 0), (12, 0), (13, 0), (14, 0), (15, 0), (16, 0), (17, 0), (18, 0), (19, 0), (20, 0), (21, 0), (22, 0), (23, 0), (24, 0), (25, 0), (26, 0), (27, 0), (28, 0), (29, 0), (30, 0), (31, 0), (32, 0), (33, 0), (34, 0), (35, 0), (36, 0)] mixed (by kernel_rfl) .refl ?_
                refine d_q rfl rfl (.none rfl) rfl rfl (q_move rfl rfl) ?_
                refine d_q rfl rfl (.none rfl) rfl rfl (q_move rfl rfl) ?_
                refine d_q rfl rfl (.none rfl) rfl rfl (q_indexS (q := k) rfl Try.underlying37 sz25 rfl rfl (.inp hx .no) (by simp <;> omega) rfl (by omega)) ?_
                refine d_q rfl rfl (.none rfl) rfl rfl (q_fieldAddr (d := 5) rfl Try.underlying25 rfl rfl sz3 rfl) ?_
                refine d_q rfl rfl (.none rfl) rfl rfl (q_loadF rfl one3 rfl (.inp hx .no) (getmap (by omega)) rfl) ?_
                refine d_q rfl rfl (.none rfl) rfl rfl (q_move rfl rfl) ?_
                refine d_q rfl rfl (.none rfl) rfl rfl (q_move rfl rfl) ?_
                refine d_q rfl rfl (.none rfl) rfl rfl (q_indexS (q := i) rfl Try.underlying37 sz25 rfl rfl (.inp hx .no) (by simp <;> omega) rfl (by omega)) ?_
                refine d_q rfl rfl (.none rfl) rfl rfl (q_fieldAddr (d := 5) rfl Try.underlying25 rfl rfl sz3 rfl) ?_
                refine d_q rfl rfl (.none rfl) rfl rfl (q_loadF rfl one3 rfl (.inp hx .no) (getmap (by omega)) rfl) ?_
                refine d_q rfl rfl (.none rfl) rfl rfl (q_neq rfl rfl rfl) ?_
                refine d_q rfl rfl (.none rfl) rfl rfl (q_move rfl rfl) ?_
                refine d_q rfl rfl (.on rfl rfl rfl (by simp [hss])) rfl rfl (q_move rfl rfl) ?_
                refine d_q rfl rfl (.on rfl rfl rfl (by simp [hss])) rfl rfl (q_move rfl rfl) ?_
                refine d_q rfl rfl (.on rfl rfl rfl (by simp [hss])) rfl rfl (q_indexS (q := k) rfl Try.underlying37 sz25 rfl rfl (.inp hx .no) (by simp <;> omega) rfl (by omega)) ?_
                refine d_q rfl rfl (.on rfl rfl rfl (by simp [hss])) rfl rfl (q_fieldAddr (d := 3) rfl Try.underlying25 rfl rfl sz3 rfl) ?_
                refine d_q rfl rfl (.on rfl rfl rfl (by simp [hss])) rfl rfl (q_loadF rfl one3 rfl (.inp hx .no) (getmap (by omega)) rfl) ?_
                refine d_q rfl rfl (.on rfl rfl rfl (by simp [hss])) rfl rfl (q_move rfl rfl) ?_
                refine d_q rfl rfl (.on rfl rfl rfl (by simp [hss])) rfl rfl (q_move rfl rfl) ?_
                refine d_q rfl rfl (.on rfl rfl rfl (by simp [hss])) rfl rfl (q_indexS (q := i) rfl Try.underlying37 sz25 rfl rfl (.inp hx .no) (by simp <;> omega) rfl (by omega)) ?_
                refine d_q rfl rfl (.on rfl rfl rfl (by simp [hss])) rfl rfl (q_fieldAddr (d := 4) rfl Try.underlying25 rfl rfl sz3 rfl) ?_
                refine d_q rfl rfl (.on rfl rfl rfl (by simp [hss])) rfl rfl (q_loadF rfl one3 rfl (.inp hx .no) (getmap (by omega)) rfl) ?_
                refine d_q rfl rfl (.on rfl rfl rfl (by simp [hss])) rfl rfl (q_gtr rfl rfl rfl) ?_
                refine d_q rfl rfl (.none rfl) rfl rfl (q_pickF rfl rfl (by simp [hss]) rfl) ?_
                refine d_q rfl rfl (.none rfl) rfl rfl (q_move rfl rfl) ?_
                refine d_q rfl rfl (.on rfl rfl rfl (decide_eq_false (by omega))) rfl rfl (q_move rfl rfl) ?_
                refine d_q rfl rfl (.on rfl rfl rfl (decide_eq_false (by omega))) rfl rfl (q_move rfl rfl) ?_
                refine d_q rfl rfl (.on rfl rfl rfl (decide_eq_false (by omega))) rfl rfl (q_indexS (q := i) rfl Try.underlying37 sz25 rfl rfl (.inp hx .no) (by simp <;> omega) rfl (by omega)) ?_
                refine d_q rfl rfl (.on rfl rfl rfl (decide_eq_false (by omega))) rfl rfl (q_fieldAddr (d := 3) rfl Try.underlying25 rfl rfl sz3 rfl) ?_
                refine d_q rfl rfl (.on rfl rfl rfl (decide_eq_false (by omega))) rfl rfl (q_loadF rfl one3 rfl (.inp hx .no) (getmap (by omega)) rfl) ?_
                refine d_q rfl rfl (.on rfl rfl rfl (decide_eq_false (by omega))) rfl rfl (q_move rfl rfl) ?_
                refine d_q rfl rfl (.on rfl rfl rfl (decide_eq_false (by omega))) rfl rfl (q_move rfl rfl) ?_
                refine d_q rfl rfl (.on rfl rfl rfl (decide_eq_false (by omega))) rfl rfl (q_indexS (q := k) rfl Try.underlying37 sz25 rfl rfl (.inp hx .no) (by simp <;> omega) rfl (by omega)) ?_
                refine d_q rfl rfl (.on rfl rfl rfl (decide_eq_false (by omega))) rfl rfl (q_fieldAddr (d := 4) rfl Try.underlying25 rfl rfl sz3 rfl) ?_
                refine d_q rfl rfl (.on rfl rfl rfl (decide_eq_false (by omega))) rfl rfl (q_loadF rfl one3 rfl (.inp hx .no) (getmap (by omega)) rfl) ?_
                refine d_q rfl rfl (.on rfl rfl rfl (decide_eq_false (by omega))) rfl rfl (q_gtr rfl rfl rfl) ?_
                refine d_q rfl rfl (.none rfl) rfl rfl (q_pickF rfl rfl (decide_eq_false (by omega)) rfl) ?_
                refine d_nil ?_
                refine run_sub (subMk (.cons (s := 1) rfl (.cons (s := 4) rfl (.cons (s := 5) rfl (.cons (s := 6) rfl (.cons (s := 10) rfl (.cons (s := 12) rfl (.cons (s := 14) rfl (.cons (s := 165) rfl .nil)))))))) .refl) ?_
                refine run_condT rfl (decide_eq_true (by omega)) ?_
                refine run_exit rfl ?_
                refine run_region ?_
                refine run_q (.none rfl) rfl rfl (q_move rfl rfl) ?_
                refine run_q (.none rfl) rfl rfl (q_add rfl rfl rfl (by omega)) ?_
                refine run_q (.none rfl) rfl rfl (q_assign rfl rfl) ?_
                refine run_nil ?_
                refine run_sub (subMk (.cons (s := 1) rfl (.cons (s := 4) rfl (.cons (s := 5) rfl (.cons (s := 6) rfl (.cons (s := 10) rfl (.cons (s := 12) rfl (.cons (s := 14) rfl .nil))))))) .refl) ?_
                exact run_again (k + 1) (by (try dsimp only); exact (by omega)) (by (try dsimp only); omega) (subMk (.cons' (s := 14) rfl (vint (by omega)) (.cons (s := 1) rfl (.cons (s := 4) rfl (.cons (s := 5) rfl (.cons (s := 6) rfl (.cons (s := 10) rfl (.cons (s := 12) rfl .nil))))))) (.cons Sel.here .refl (.cons Sel.here .refl (.cons Sel.here .refl (.cons Sel.here .refl (.cons Sel.here .refl (.cons Sel.here .refl (.cons Sel.here .refl (.cons Sel.here .refl .nil)))))))))
            · by_cases ho2 : (nth xs i).fst ≤ (nth xs k).lst
              · refine run_draw [(0, 0), (1, 0), (2, 0), (3, 0), (4, 0), (5, 0), (6, 0), (7, 0), (8, 0), (9, 0), (10, 0), (11, 0), (12, 0), (13, 0), (14, 0), (15, 0), (16, 0), (17, 0), (18, 0), (19, 0), (20, 0), (21, 0), (22, 0), (23, 0), (24, 0), (25, 0), (26, 0), (27, 0), (28, 0), (29, 0), (30, 0), (31, 0), (32, 0), (33, 0), (34, 0), (35, 0), (36, 0)] mixed (by kernel_rfl) .refl ?_
                refine d_q rfl rfl (.none rfl) rfl rfl (q_move rfl rfl) ?_
                refine d_q rfl rfl (.none rfl) rfl rfl (q_move rfl rfl) ?_
                refine d_q rfl rfl (.none rfl) rfl rfl (q_indexS (q := k) rfl Try.underlying37 sz25 rfl rfl (.inp hx .no) (by simp <;> omega) rfl (by omega)) ?_
                refine d_q rfl rfl (.none rfl) rfl rfl (q_fieldAddr (d := 5) rfl Try.underlying25 rfl rfl sz3 rfl) ?_
                refine d_q rfl rfl (.none rfl) rfl rfl (q_loadF rfl one3 rfl (.inp hx .no) (getmap (by omega)) rfl) ?_
                refine d_q rfl rfl (.none rfl) rfl rfl (q_move rfl rfl) ?_
                refine d_q rfl rfl (.none rfl) rfl rfl (q_move rfl rfl) ?_
                refine d_q rfl rfl (.none rfl) rfl rfl (q_indexS (q := i) rfl Try.underlying37 sz25 rfl rfl (.inp hx .no) (by simp <;> omega) rfl (by omega)) ?_
                refine d_q rfl rfl (.none rfl) rfl rfl (q_fieldAddr (d := 5) rfl Try.underlying25 rfl rfl sz3 rfl) ?_
                refine d_q rfl rfl (.none rfl) rfl rfl (q_loadF rfl one3 rfl (.inp hx .no) (getmap (by omega)) rfl) ?_
                refine d_q rfl rfl (.none rfl) rfl rfl (q_neq rfl rfl rfl) ?_
                refine d_q rfl rfl (.none rfl) rfl rfl (q_move rfl rfl) ?_
                refine d_q rfl rfl (.on rfl rfl rfl (by simp [hss])) rfl rfl (q_move rfl rfl) ?_
                refine d_q rfl rfl (.on rfl rfl rfl (by simp [hss])) rfl rfl (q_move rfl rfl) ?_
                refine d_q rfl rfl (.on rfl rfl rfl (by simp [hss])) rfl rfl (q_indexS (q := k) rfl Try.underlying37 sz25 rfl rfl (.inp hx .no) (by simp <;> omega) rfl (by omega)) ?_
                refine d_q rfl rfl (.on rfl rfl rfl (by simp [hss])) rfl rfl (q_fieldAddr (d := 3) rfl Try.underlying25 rfl rfl sz3 rfl) ?_
                refine d_q rfl rfl (.on rfl rfl rfl (by simp [hss])) rfl rfl (q_loadF rfl one3 rfl (.inp hx .no) (getmap (by omega)) rfl) ?_
                refine d_q rfl rfl (.on rfl rfl rfl (by simp [hss])) rfl rfl (q_move rfl rfl) ?_
                refine d_q rfl rfl (.on rfl rfl rfl (by simp [hss])) rfl rfl (q_move rfl rfl) ?_
                refine d_q rfl rfl (.on rfl rfl rfl (by simp [hss])) rfl rfl (q_indexS (q := i) rfl Try.underlying37 sz25 rfl rfl (.inp hx .no) (by simp <;> omega) rfl (by omega)) ?_
                refine d_q rfl rfl (.on rfl rfl rfl (by simp [hss])) rfl rfl (q_fieldAddr (d := 4) rfl Try.underlying25 rfl rfl sz3 rfl) ?_
                refine d_q rfl rfl (.on rfl rfl rfl (by simp [hss])) rfl rfl (q_loadF rfl one3 rfl (.inp hx .no) (getmap (by omega)) rfl) ?_
                refine d_q rfl rfl (.on rfl rfl rfl (by simp [hss])) rfl rfl (q_gtr rfl rfl rfl) ?_
                refine d_q rfl rfl (.none rfl) rfl rfl (q_pickF rfl rfl (by simp [hss]) rfl) ?_
                refine d_q rfl rfl (.none rfl) rfl rfl (q_move rfl rfl) ?_
                refine d_off rfl rfl (.no rfl rfl rfl (decide_eq_true (by omega))) rfl rfl ?_
                refine d_off rfl rfl (.no rfl rfl rfl (decide_eq_true (by omega))) rfl rfl ?_
                refine d_off rfl rfl (.no rfl rfl rfl (decide_eq_true (by omega))) rfl rfl ?_
                refine d_off rfl rfl (.no rfl rfl rfl (decide_eq_true (by omega))) rfl rfl ?_
                refine d_off rfl rfl (.no rfl rfl rfl (decide_eq_true (by omega))) rfl rfl ?_
                refine d_off rfl rfl (.no rfl rfl rfl (decide_eq_true (by omega))) rfl rfl ?_
                refine d_off rfl rfl (.no rfl rfl rfl (decide_eq_true (by omega))) rfl rfl ?_
                refine d_off rfl rfl (.no rfl rfl rfl (decide_eq_true (by omega))) rfl rfl ?_
                refine d_off rfl rfl (.no rfl rfl rfl (decide_eq_true (by omega))) rfl rfl ?_
                refine d_off rfl rfl (.no rfl rfl rfl (decide_eq_true (by omega))) rfl rfl ?_
                refine d_off rfl rfl (.no rfl rfl rfl (decide_eq_true (by omega))) rfl rfl ?_
                refine d_q rfl rfl (.none rfl) rfl rfl (q_pickT rfl rfl (decide_eq_true (by omega)) rfl) ?_
                refine d_nil ?_
                refine run_sub (subMk (.cons (s := 1) rfl (.cons (s := 4) rfl (.cons (s := 5) rfl (.cons (s := 6) rfl (.cons (s := 10) rfl (.cons (s := 12) rfl (.cons (s := 14) rfl (.cons (s := 165) rfl .nil)))))))) .refl) ?_
                refine run_condT rfl rfl ?_
                refine run_exit rfl ?_
                refine run_region ?_
                refine run_q (.none rfl) rfl rfl (q_move rfl rfl) ?_
                refine run_q (.none rfl) rfl rfl (q_add rfl rfl rfl (by omega)) ?_
                refine run_q (.none rfl) rfl rfl (q_assign rfl rfl) ?_
                refine run_nil ?_
                refine run_sub (subMk (.cons (s := 1) rfl (.cons (s := 4) rfl (.cons (s := 5) rfl (.cons (s := 6) rfl (.cons (s := 10) rfl (.cons (s := 12) rfl (.cons (s := 14) rfl .nil))))))) .refl) ?_
                exact run_again (k + 1) (by (try dsimp only); exact (by omega)) (by (try dsimp only); omega) (subMk (.cons' (s := 14) rfl (vint (by omega)) (.cons (s := 1) rfl (.cons (s := 4) rfl (.cons (s := 5) rfl (.cons (s := 6) rfl (.cons (s := 10) rfl (.cons (s := 12) rfl .nil))))))) (.cons Sel.here .refl (.cons Sel.here .refl (.cons Sel.here .refl (.cons Sel.here .refl (.cons Sel.here .refl (.cons Sel.here .refl (.cons Sel.here .refl (.cons Sel.here .refl .nil)))))))))
              · refine run_draw [(0, 0), (1, 0), (2, 0), (3, 0), (4, 0), (5, 0), (6, 0), (7, 0), (8, 0), (9, 0), (10, 0), (11, 0), (12, 0), (13, 0), (14, 0), (15, 0), (16, 0), (17, 0), (18, 0), (19, 0), (20, 0), (21, 0), (22, 0), (23, 0), (24, 0), (25, 0), (26, 0), (27, 0), (28, 0), (29, 0), (30, 0), (31, 0), (32, 0), (33, 0), (34, 0), (35, 0), (36, 0)] mixed (by kernel_rfl) .refl ?_
                refine d_q rfl rfl (.none rfl) rfl rfl (q_move rfl rfl) ?_
                refine d_q rfl rfl (.none rfl) rfl rfl (q_move rfl rfl) ?_
                refine d_q rfl rfl (.none rfl) rfl rfl (q_indexS (q := k) rfl Try.underlying37 sz25 rfl rfl (.inp hx .no) (by simp <;> omega) rfl (by omega)) ?_
                refine d_q rfl rfl (.none rfl) rfl rfl (q_fieldAddr (d := 5) rfl Try.underlying25 rfl rfl sz3 rfl) ?_
                refine d_q rfl rfl (.none rfl) rfl rfl (q_loadF rfl one3 rfl (.inp hx .no) (getmap (by omega)) rfl) ?_
                refine d_q rfl rfl (.none rfl) rfl rfl (q_move rfl rfl) ?_
                refine d_q rfl rfl (.none rfl) rfl rfl (q_move rfl rfl) ?_
                refine d_q rfl rfl (.none rfl) rfl rfl (q_indexS (q := i) rfl Try.underlying37 sz25 rfl rfl (.inp hx .no) (by simp <;> omega) rfl (by omega)) ?_
                refine d_q rfl rfl (.none rfl) rfl rfl (q_fieldAddr (d := 5) rfl Try.underlying25 rfl rfl sz3 rfl) ?_
                refine d_q rfl rfl (.none rfl) rfl rfl (q_loadF rfl one3 rfl (.inp hx .no) (getmap (by omega)) rfl) ?_
                refine d_q rfl rfl (.none rfl) rfl rfl (q_neq rfl rfl rfl) ?_
                refine d_q rfl rfl (.none rfl) rfl rfl (q_move rfl rfl) ?_
                refine d_q rfl rfl (.on rfl rfl rfl (by simp [hss])) rfl rfl (q_move rfl rfl) ?_
                refine d_q rfl rfl (.on rfl rfl rfl (by simp [hss])) rfl rfl (q_move rfl rfl) ?_
                refine d_q rfl rfl (.on rfl rfl rfl (by simp [hss])) rfl rfl (q_indexS (q := k) rfl Try.underlying37 sz25 rfl rfl (.inp hx .no) (by simp <;> omega) rfl (by omega)) ?_
                refine d_q rfl rfl (.on rfl rfl rfl (by simp [hss])) rfl rfl (q_fieldAddr (d := 3) rfl Try.underlying25 rfl rfl sz3 rfl) ?_
                refine d_q rfl rfl (.on rfl rfl rfl (by simp [hss])) rfl rfl (q_loadF rfl one3 rfl (.inp hx .no) (getmap (by omega)) rfl) ?_
                refine d_q rfl rfl (.on rfl rfl rfl (by simp [hss])) rfl rfl (q_move rfl rfl) ?_
                refine d_q rfl rfl (.on rfl rfl rfl (by simp [hss])) rfl rfl (q_move rfl rfl) ?_
                refine d_q rfl rfl (.on rfl rfl rfl (by simp [hss])) rfl rfl (q_indexS (q := i) rfl Try.underlying37 sz25 rfl rfl (.inp hx .no) (by simp <;> omega) rfl (by omega)) ?_
                refine d_q rfl rfl (.on rfl rfl rfl (by simp [hss])) rfl rfl (q_fieldAddr (d := 4) rfl Try.underlying25 rfl rfl sz3 rfl) ?_
                refine d_q rfl rfl (.on rfl rfl rfl (by simp [hss])) rfl rfl (q_loadF rfl one3 rfl (.inp hx .no) (getmap (by omega)) rfl) ?_
                refine d_q rfl rfl (.on rfl rfl rfl (by simp [hss])) rfl rfl (q_gtr rfl rfl rfl) ?_
                refine d_q rfl rfl (.none rfl) rfl rfl (q_pickF rfl rfl (by simp [hss]) rfl) ?_
                refine d_q rfl rfl (.none rfl) rfl rfl (q_move rfl rfl) ?_
                refine d_off rfl rfl (.no rfl rfl rfl (decide_eq_true (by omega))) rfl rfl ?_
                refine d_off rfl rfl (.no rfl rfl rfl (decide_eq_true (by omega))) rfl rfl ?_
                refine d_off rfl rfl (.no rfl rfl rfl (decide_eq_true (by omega))) rfl rfl ?_
                refine d_off rfl rfl (.no rfl rfl rfl (decide_eq_true (by omega))) rfl rfl ?_
                refine d_off rfl rfl (.no rfl rfl rfl (decide_eq_true (by omega))) rfl rfl ?_
                refine d_off rfl rfl (.no rfl rfl rfl (decide_eq_true (by omega))) rfl rfl ?_
                refine d_off rfl rfl (.no rfl rfl rfl (decide_eq_true (by omega))) rfl rfl ?_
                refine d_off rfl rfl (.no rfl rfl rfl (decide_eq_true (by omega))) rfl rfl ?_
                refine d_off rfl rfl (.no rfl rfl rfl (decide_eq_true (by omega))) rfl rfl ?_
                refine d_off rfl rfl (.no rfl rfl rfl (decide_eq_true (by omega))) rfl rfl ?_
                refine d_off rfl rfl (.no rfl rfl rfl (decide_eq_true (by omega))) rfl rfl ?_
                refine d_q rfl rfl (.none rfl) rfl rfl (q_pickT rfl rfl (decide_eq_true (by omega)) rfl) ?_
                refine d_nil ?_
                refine run_sub (subMk (.cons (s := 1) rfl (.cons (s := 4) rfl (.cons (s := 5) rfl (.cons (s := 6) rfl (.cons (s := 10) rfl (.cons (s := 12) rfl (.cons (s := 14) rfl (.cons (s := 165) rfl .nil)))))))) .refl) ?_
                refine run_condT rfl rfl ?_
                refine run_exit rfl ?_
                refine run_region ?_
                refine run_q (.none rfl) rfl rfl (q_move rfl rfl) ?_
                refine run_q (.none rfl) rfl rfl (q_add rfl rfl rfl (by omega)) ?_
                refine run_q (.none rfl) rfl rfl (q_assign rfl rfl) ?_
                refine run_nil ?_
                refine run_sub (subMk (.cons (s := 1) rfl (.cons (s := 4) rfl (.cons (s := 5) rfl (.cons (s := 6) rfl (.cons (s := 10) rfl (.cons (s := 12) rfl (.cons (s := 14) rfl .nil))))))) .refl) ?_
                exact run_again (k + 1) (by (try dsimp only); exact (by omega)) (by (try dsimp only); omega) (subMk (.cons' (s := 14) rfl (vint (by omega)) (.cons (s := 1) rfl (.cons (s := 4) rfl (.cons (s := 5) rfl (.cons (s := 6) rfl (.cons (s := 10) rfl (.cons (s := 12) rfl .nil))))))) (.cons Sel.here .refl (.cons Sel.here .refl (.cons Sel.here .refl (.cons Sel.here .refl (.cons Sel.here .refl (.cons Sel.here .refl (.cons Sel.here .refl (.cons Sel.here .refl .nil)))))))))
          · by_cases ho1 : (nth xs k).fst ≤ (nth xs i).lst
            · by_cases ho2 : (nth xs i).fst ≤ (nth xs k).lst
              · refine run_draw [(0, 0), (1, 0), (2, 0), (3, 0), (4, 0), (5, 0), (6, 0), (7, 0), (8, 0), (9, 0), (10, 0), (11, 0), (12, 0), (13, 0), (14, 0), (15, 0), (16, 0), (17, 0), (18, 0), (19, 0), (20, 0), (21, 0), (22, 0), (23, 0), (24, 0), (25, 0), (26, 0), (27, 0), (28, 0), (29, 0), (30, 0), (31, 0), (32, 0), (33, 0), (34, 0), (35, 0), (36, 0)] mixed (by kernel_rfl) .refl ?_
                refine d_q rfl rfl (.none rfl) rfl rfl (q_move rfl rfl) ?_
                refine d_q rfl rfl (.none rfl) rfl rfl (q_move rfl rfl) ?_
                refine d_q rfl rfl (.none rfl) rfl rfl (q_indexS (q := k) rfl Try.underlying37 sz25 rfl rfl (.inp hx .no) (by simp <;> omega) rfl (by omega)) ?_
                refine d_q rfl rfl (.none rfl) rfl rfl (q_fieldAddr (d := 5) rfl Try.underlying25 rfl rfl sz3 rfl) ?_
                refine d_q rfl rfl (.none rfl) rfl rfl (q_loadF rfl one3 rfl (.inp hx .no) (getmap (by omega)) rfl) ?_
                refine d_q rfl rfl (.none rfl) rfl rfl (q_move rfl rfl) ?_
                refine d_q rfl rfl (.none rfl) rfl rfl (q_move rfl rfl) ?_
                refine d_q rfl rfl (.none rfl) rfl rfl (q_indexS (q := i) rfl Try.underlying37 sz25 rfl rfl (.inp hx .no) (by simp <;> omega) rfl (by omega)) ?_
                refine d_q rfl rfl (.none rfl) rfl rfl (q_fieldAddr (d := 5) rfl Try.underlying25 rfl rfl sz3 rfl) ?_
                refine d_q rfl rfl (.none rfl) rfl rfl (q_loadF rfl one3 rfl (.inp hx .no) (getmap (by omega)) rfl) ?_
                refine d_q rfl rfl (.none rfl) rfl rfl (q_neq rfl rfl rfl) ?_
                refine d_q rfl rfl (.none rfl) rfl rfl (q_move rfl rfl) ?_
                refine d_off rfl rfl (.no rfl rfl rfl (by simp [hss])) rfl rfl ?_
                refine d_off rfl rfl (.no rfl rfl rfl (by simp [hss])) rfl rfl ?_
                refine d_off rfl rfl (.no rfl rfl rfl (by simp [hss])) rfl rfl ?_
                refine d_off rfl rfl (.no rfl rfl rfl (by simp [hss])) rfl rfl ?_
                refine d_off rfl rfl (.no rfl rfl rfl (by simp [hss])) rfl rfl ?_
                refine d_off rfl rfl (.no rfl rfl rfl (by simp [hss])) rfl rfl ?_
                refine d_off rfl rfl (.no rfl rfl rfl (by simp [hss])) rfl rfl ?_
                refine d_off rfl rfl (.no rfl rfl rfl (by simp [hss])) rfl rfl ?_
                refine d_off rfl rfl (.no rfl rfl rfl (by simp [hss])) rfl rfl ?_
                refine d_off rfl rfl (.no rfl rfl rfl (by simp [hss])) rfl rfl ?_
                refine d_off rfl rfl (.no rfl rfl rfl (by simp [hss])) rfl rfl ?_
                refine d_q rfl rfl (.none rfl) rfl rfl (q_pickT rfl rfl (by simp [hss]) rfl) ?_
                refine d_q rfl rfl (.none rfl) rfl rfl (q_move rfl rfl) ?_
                refine d_off rfl rfl (.no rfl rfl rfl rfl) rfl rfl ?_
                refine d_off rfl rfl (.no rfl rfl rfl rfl) rfl rfl ?_
                refine d_off rfl rfl (.no rfl rfl rfl rfl) rfl rfl ?_
                refine d_off rfl rfl (.no rfl rfl rfl rfl) rfl rfl ?_
                refine d_off rfl rfl (.no rfl rfl rfl rfl) rfl rfl ?_
                refine d_off rfl rfl (.no rfl rfl rfl rfl) rfl rfl ?_
                refine d_off rfl rfl (.no rfl rfl rfl rfl) rfl rfl ?_
                refine d_off rfl rfl (.no rfl rfl rfl rfl) rfl rfl ?_
                refine d_off rfl rfl (.no rfl rfl rfl rfl) rfl rfl ?_
                refine d_off rfl rfl (.no rfl rfl rfl rfl) rfl rfl ?_
                refine d_off rfl rfl (.no rfl rfl rfl rfl) rfl rfl ?_
                refine d_q rfl rfl (.none rfl) rfl rfl (q_pickT rfl rfl rfl rfl) ?_
                refine d_nil ?_
                refine run_sub (subMk (.cons (s := 1) rfl (.cons (s := 4) rfl (.cons (s := 5) rfl (.cons (s := 6) rfl (.cons (s := 10) rfl (.cons (s := 12) rfl (.cons (s := 14) rfl (.cons (s := 165) rfl .nil)))))))) .refl) ?_
                refine run_condT rfl rfl ?_
                refine run_exit rfl ?_
                refine run_region ?_
                refine run_q (.none rfl) rfl rfl (q_move rfl rfl) ?_
                refine run_q (.none rfl) rfl rfl (q_add rfl rfl rfl (by omega)) ?_
                refine run_q (.none rfl) rfl rfl (q_assign rfl rfl) ?_
                refine run_nil ?_
                refine run_sub (subMk (.cons (s := 1) rfl (.cons (s := 4) rfl (.cons (s := 5) rfl (.cons (s := 6) rfl (.cons (s := 10) rfl (.cons (s := 12) rfl (.cons (s := 14) rfl .nil))))))) .refl) ?_
                exact run_again (k + 1) (by (try dsimp only); exact (by omega)) (by (try dsimp only); omega) (subMk (.cons' (s := 14) rfl (vint (by omega)) (.cons (s := 1) rfl (.cons (s := 4) rfl (.cons (s := 5) rfl (.cons (s := 6) rfl (.cons (s := 10) rfl (.cons (s := 12) rfl .nil))))))) (.cons Sel.here .refl (.cons Sel.here .refl (.cons Sel.here .refl (.cons Sel.here .refl (.cons Sel.here .refl (.cons Sel.here .refl (.cons Sel.here .refl (.cons Sel.here .refl .nil)))))))))
              · refine run_draw [(0, 0), (1, 0), (2, 0), (3, 0), (4, 0), (5, 0), (6, 0), (7, 0), (8, 0), (9, 0), (10, 0), (11, 0), (12, 0), (13, 0), (14, 0), (15, 0), (16, 0), (17, 0), (18, 0), (19, 0), (20, 0), (21, 0), (22, 0), (23, 0), (24, 0), (25, 0), (26, 0), (27, 0), (28, 0), (29, 0), (30, 0), (31, 0), (32, 0), (33, 0), (34, 0), (35, 0), (36, 0)] mixed (by kernel_rfl) .refl ?_
                refine d_q rfl rfl (.none rfl) rfl rfl (q_move rfl rfl) ?_
                refine d_q rfl rfl (.none rfl) rfl rfl (q_move rfl rfl) ?_
                refine d_q rfl rfl (.none rfl) rfl rfl (q_indexS (q := k) rfl Try.underlying37 sz25 rfl rfl (.inp hx .no) (by simp <;> omega) rfl (by omega)) ?_
                refine d_q rfl rfl (.none rfl) rfl rfl (q_fieldAddr (d := 5) rfl Try.underlying25 rfl rfl sz3 rfl) ?_
                refine d_q rfl rfl (.none rfl) rfl rfl (q_loadF rfl one3 rfl (.inp hx .no) (getmap (by omega)) rfl) ?_
                refine d_q rfl rfl (.none rfl) rfl rfl (q_move rfl rfl) ?_
                refine d_q rfl rfl (.none rfl) rfl rfl (q_move rfl rfl) ?_
                refine d_q rfl rfl (.none rfl) rfl rfl (q_indexS (q := i) rfl Try.underlying37 sz25 rfl rfl (.inp hx .no) (by simp <;> omega) rfl (by omega)) ?_
                refine d_q rfl rfl (.none rfl) rfl rfl (q_fieldAddr (d := 5) rfl Try.underlying25 rfl rfl sz3 rfl) ?_
                refine d_q rfl rfl (.none rfl) rfl rfl (q_loadF rfl one3 rfl (.inp hx .no) (getmap (by omega)) rfl) ?_
                refine d_q rfl rfl (.none rfl) rfl rfl (q_neq rfl rfl rfl) ?_
                refine d_q rfl rfl (.none rfl) rfl rfl (q_move rfl rfl) ?_
                refine d_off rfl rfl (.no rfl rfl rfl (by simp [hss])) rfl rfl ?_
                refine d_off rfl rfl (.no rfl rfl rfl (by simp [hss])) rfl rfl ?_
                refine d_off rfl rfl (.no rfl rfl rfl (by simp [hss])) rfl rfl ?_
                refine d_off rfl rfl (.no rfl rfl rfl (by simp [hss])) rfl rfl ?_
                refine d_off rfl rfl (.no rfl rfl rfl (by simp [hss])) rfl rfl ?_
                refine d_off rfl rfl (.no rfl rfl rfl (by simp [hss])) rfl rfl ?_
                refine d_off rfl rfl (.no rfl rfl rfl (by simp [hss])) rfl rfl ?_
                refine d_off rfl rfl (.no rfl rfl rfl (by simp [hss])) rfl rfl ?_
                refine d_off rfl rfl (.no rfl rfl rfl (by simp [hss])) rfl rfl ?_
                refine d_off rfl rfl (.no rfl rfl rfl (by simp [hss])) rfl rfl ?_
                refine d_off rfl rfl (.no rfl rfl rfl (by simp [hss])) rfl rfl ?_
                refine d_q rfl rfl (.none rfl) rfl rfl (q_pickT rfl rfl (by simp [hss]) rfl) ?_
                refine d_q rfl rfl (.none rfl) rfl rfl (q_move rfl rfl) ?_
                refine d_off rfl rfl (.no rfl rfl rfl rfl) rfl rfl ?_
                refine d_off rfl rfl (.no rfl rfl rfl rfl) rfl rfl ?_
                refine d_off rfl rfl (.no rfl rfl rfl rfl) rfl rfl ?_
                refine d_off rfl rfl (.no rfl rfl rfl rfl) rfl rfl ?_
                refine d_off rfl rfl (.no rfl rfl rfl rfl) rfl rfl ?_
                refine d_off rfl rfl (.no rfl rfl rfl rfl) rfl rfl ?_
                refine d_off rfl rfl (.no rfl rfl rfl rfl) rfl rfl ?_
                refine d_off rfl rfl (.no rfl rfl rfl rfl) rfl rfl ?_
                refine d_off rfl rfl (.no rfl rfl rfl rfl) rfl rfl ?_
                refine d_off rfl rfl (.no rfl rfl rfl rfl) rfl rfl ?_
                refine d_off rfl rfl (.no rfl rfl rfl rfl) rfl rfl ?_
                refine d_q rfl rfl (.none rfl) rfl rfl (q_pickT rfl rfl rfl rfl) ?_
                refine d_nil ?_
                refine run_sub (subMk (.cons (s := 1) rfl (.cons (s := 4) rfl (.cons (s := 5) rfl (.cons (s := 6) rfl (.cons (s := 10) rfl (.cons (s := 12) rfl (.cons (s := 14) rfl (.cons (s := 165) rfl .nil)))))))) .refl) ?_
                refine run_condT rfl rfl ?_
                refine run_exit rfl ?_
                refine run_region ?_
                refine run_q (.none rfl) rfl rfl (q_move rfl rfl) ?_
                refine run_q (.none rfl) rfl rfl (q_add rfl rfl rfl (by omega)) ?_
                refine run_q (.none rfl) rfl rfl (q_assign rfl rfl) ?_
                refine run_nil ?_
                refine run_sub (subMk (.cons (s := 1) rfl (.cons (s := 4) rfl (.cons (s := 5) rfl (.cons (s := 6) rfl (.cons (s := 10) rfl (.cons (s := 12) rfl (.cons (s := 14) rfl .nil))))))) .refl) ?_
                exact run_again (k + 1) (by (try dsimp only); exact (by omega)) (by (try dsimp only); omega) (subMk (.cons' (s := 14) rfl (vint (by omega)) (.cons (s := 1) rfl (.cons (s := 4) rfl (.cons (s := 5) rfl (.cons (s := 6) rfl (.cons (s := 10) rfl (.cons (s := 12) rfl .nil))))))) (.cons Sel.here .refl (.cons Sel.here .refl (.cons Sel.here .refl (.cons Sel.here .refl (.cons Sel.here .refl (.cons Sel.here .refl (.cons Sel.here .refl (.cons Sel.here .refl .nil)))))))))
            · by_cases ho2 : (nth xs i).fst ≤ (nth xs k).lst
              · refine run_draw [(0, 0), (1, 0), (2, 0), (3, 0), (4, 0), (5, 0), (6, 0), (7, 0), (8, 0), (9, 0), (10, 0), (11, 0), (12, 0), (13, 0), (14, 0), (15, 0), (16, 0), (17, 0), (18, 0), (19, 0), (20, 0), (21, 0), (22, 0), (23, 0), (24, 0), (25, 0), (26, 0), (27, 0), (28, 0), (29, 0), (30, 0), (31, 0), (32, 0), (33, 0), (34, 0), (35, 0), (36, 0)] mixed (by kernel_rfl) .refl ?_
                refine d_q rfl rfl (.none rfl) rfl rfl (q_move rfl rfl) ?_
                refine d_q rfl rfl (.none rfl) rfl rfl (q_move rfl rfl) ?_
                refine d_q rfl rfl (.none rfl) rfl rfl (q_indexS (q := k) rfl Try.underlying37 sz25 rfl rfl (.inp hx .no) (by simp <;> omega) rfl (by omega)) ?_
                refine d_q rfl rfl (.none rfl) rfl rfl (q_fieldAddr (d := 5) rfl Try.underlying25 rfl rfl sz3 rfl) ?_
                refine d_q rfl rfl (.none rfl) rfl rfl (q_loadF rfl one3 rfl (.inp hx .no) (getmap (by omega)) rfl) ?_
                refine d_q rfl rfl (.none rfl) rfl rfl (q_move rfl rfl) ?_
                refine d_q rfl rfl (.none rfl) rfl rfl (q_move rfl rfl) ?_
                refine d_q rfl rfl (.none rfl) rfl rfl (q_indexS (q := i) rfl Try.underlying37 sz25 rfl rfl (.inp hx .no) (by simp <;> omega) rfl (by omega)) ?_
                refine d_q rfl rfl (.none rfl) rfl rfl (q_fieldAddr (d := 5) rfl Try.underlying25 rfl rfl sz3 rfl) ?_
                refine d_q rfl rfl (.none rfl) rfl rfl (q_loadF rfl one3 rfl (.inp hx .no) (getmap (by omega)) rfl) ?_
                refine d_q rfl rfl (.none rfl) rfl rfl (q_neq rfl rfl rfl) ?_
                refine d_q rfl rfl (.none rfl) rfl rfl (q_move rfl rfl) ?_
                refine d_off rfl rfl (.no rfl rfl rfl (by simp [hss])) rfl rfl ?_
                refine d_off rfl rfl (.no rfl rfl rfl (by simp [hss])) rfl rfl ?_
                refine d_off rfl rfl (.no rfl rfl rfl (by simp [hss])) rfl rfl ?_
                refine d_off rfl rfl (.no rfl rfl rfl (by simp [hss])) rfl rfl ?_
                refine d_off rfl rfl (.no rfl rfl rfl (by simp [hss])) rfl rfl ?_
                refine d_off rfl rfl (.no rfl rfl rfl (by simp [hss])) rfl rfl ?_
                refine d_off rfl rfl (.no rfl rfl rfl (by simp [hss])) rfl rfl ?_
                refine d_off rfl rfl (.no rfl rfl rfl (by simp [hss])) rfl rfl ?_
                refine d_off rfl rfl (.no rfl rfl rfl (by simp [hss])) rfl rfl ?_
                refine d_off rfl rfl (.no rfl rfl rfl (by simp [hss])) rfl rfl ?_
                refine d_off rfl rfl (.no rfl rfl rfl (by simp [hss])) rfl rfl ?_
                refine d_q rfl rfl (.none rfl) rfl rfl (q_pickT rfl rfl (by simp [hss]) rfl) ?_
                refine d_q rfl rfl (.none rfl) rfl rfl (q_move rfl rfl) ?_
                refine d_off rfl rfl (.no rfl rfl rfl rfl) rfl rfl ?_
                refine d_off rfl rfl (.no rfl rfl rfl rfl) rfl rfl ?_
                refine d_off rfl rfl (.no rfl rfl rfl rfl) rfl rfl ?_
                refine d_off rfl rfl (.no rfl rfl rfl rfl) rfl rfl ?_
                refine d_off rfl rfl (.no rfl rfl rfl rfl) rfl rfl ?_
                refine d_off rfl rfl (.no rfl rfl rfl rfl) rfl rfl ?_
                refine d_off rfl rfl (.no rfl rfl rfl rfl) rfl rfl ?_
                refine d_off rfl rfl (.no rfl rfl rfl rfl) rfl rfl ?_
                refine d_off rfl rfl (.no rfl rfl rfl rfl) rfl rfl ?_
                refine d_off rfl rfl (.no rfl rfl rfl rfl) rfl rfl ?_
                refine d_off rfl rfl (.no rfl rfl rfl rfl) rfl rfl ?_
                refine d_q rfl rfl (.none rfl) rfl rfl (q_pickT rfl rfl rfl rfl) ?_
                refine d_nil ?_
                refine run_sub (subMk (.cons (s := 1) rfl (.cons (s := 4) rfl (.cons (s := 5) rfl (.cons (s := 6) rfl (.cons (s := 10) rfl (.cons (s := 12) rfl (.cons (s := 14) rfl (.cons (s := 165) rfl .nil)))))))) .refl) ?_
                refine run_condT rfl rfl ?_
                refine run_exit rfl ?_
                refine run_region ?_
                refine run_q (.none rfl) rfl rfl (q_move rfl rfl) ?_
                refine run_q (.none rfl) rfl rfl (q_add rfl rfl rfl (by omega)) ?_
                refine run_q (.none rfl) rfl rfl (q_assign rfl rfl) ?_
                refine run_nil ?_
                refine run_sub (subMk (.cons (s := 1) rfl (.cons (s := 4) rfl (.cons (s := 5) rfl (.cons (s := 6) rfl (.cons (s := 10) rfl (.cons (s := 12) rfl (.cons (s := 14) rfl .nil))))))) .refl) ?_
                exact run_again (k + 1) (by (try dsimp only); exact (by omega)) (by (try dsimp only); omega) (subMk (.cons' (s := 14) rfl (vint (by omega)) (.cons (s := 1) rfl (.cons (s := 4) rfl (.cons (s := 5) rfl (.cons (s := 6) rfl (.cons (s := 10) rfl (.cons (s := 12) rfl .nil))))))) (.cons Sel.here .refl (.cons Sel.here .refl (.cons Sel.here .refl (.cons Sel.here .refl (.cons Sel.here .refl (.cons Sel.here .refl (.cons Sel.here .refl (.cons Sel.here .refl .nil)))))))))
              · refine run_draw [(0, 0), (1, 0), (2, 0), (3, 0), (4, 0), (5, 0), (6, 0), (7, 0), (8, 0), (9, 0), (10, 0), (11, 0), (12, 0), (13, 0), (14, 0), (15, 0), (16, 0), (17, 0), (18, 0), (19, 0), (20, 0), (21, 0), (22, 0), (23, 0), (24, 0), (25, 0), (26, 0), (27, 0), (28, 0), (29, 0), (30, 0), (31, 0), (32, 0), (33, 0), (34, 0), (35, 0), (36, 0)] mixed (by kernel_rfl) .refl ?_
                refine d_q rfl rfl (.none rfl) rfl rfl (q_move rfl rfl) ?_
                refine d_q rfl rfl (.none rfl) rfl rfl (q_move rfl rfl) ?_
                refine d_q rfl rfl (.none rfl) rfl rfl (q_indexS (q := k) rfl Try.underlying37 sz25 rfl rfl (.inp hx .no) (by simp <;> omega) rfl (by omega)) ?_
                refine d_q rfl rfl (.none rfl) rfl rfl (q_fieldAddr (d := 5) rfl Try.underlying25 rfl rfl sz3 rfl) ?_
                refine d_q rfl rfl (.none rfl) rfl rfl (q_loadF rfl one3 rfl (.inp hx .no) (getmap (by omega)) rfl) ?_
                refine d_q rfl rfl (.none rfl) rfl rfl (q_move rfl rfl) ?_
                refine d_q rfl rfl (.none rfl) rfl rfl (q_move rfl rfl) ?_
                refine d_q rfl rfl (.none rfl) rfl rfl (q_indexS (q := i) rfl Try.underlying37 sz25 rfl rfl (.inp hx .no) (by simp <;> omega) rfl (by omega)) ?_
                refine d_q rfl rfl (.none rfl) rfl rfl (q_fieldAddr (d := 5) rfl Try.underlying25 rfl rfl sz3 rfl) ?_
                refine d_q rfl rfl (.none rfl) rfl rfl (q_loadF rfl one3 rfl (.inp hx .no) (getmap (by omega)) rfl) ?_
                refine d_q rfl rfl (.none rfl) rfl rfl (q_neq rfl rfl rfl) ?_
                refine d_q rfl rfl (.none rfl) rfl rfl (q_move rfl rfl) ?_
                refine d_off rfl rfl (.no rfl rfl rfl (by simp [hss])) rfl rfl ?_
                refine d_off rfl rfl (.no rfl rfl rfl (by simp [hss])) rfl rfl ?_
                refine d_off rfl rfl (.no rfl rfl rfl (by simp [hss])) rfl rfl ?_
                refine d_off rfl rfl (.no rfl rfl rfl (by simp [hss])) rfl rfl ?_
                refine d_off rfl rfl (.no rfl rfl rfl (by simp [hss])) rfl rfl ?_
                refine d_off rfl rfl (.no rfl rfl rfl (by simp [hss])) rfl rfl ?_
                refine d_off rfl rfl (.no rfl rfl rfl (by simp [hss])) rfl rfl ?_
                refine d_off rfl rfl (.no rfl rfl rfl (by simp [hss])) rfl rfl ?_
                refine d_off rfl rfl (.no rfl rfl rfl (by simp [hss])) rfl rfl ?_
                refine d_off rfl rfl (.no rfl rfl rfl (by simp [hss])) rfl rfl ?_
                refine d_off rfl rfl (.no rfl rfl rfl (by simp [hss])) rfl rfl ?_
                refine d_q rfl rfl (.none rfl) rfl rfl (q_pickT rfl rfl (by simp [hss]) rfl) ?_
                refine d_q rfl rfl (.none rfl) rfl rfl (q_move rfl rfl) ?_
                refine d_off rfl rfl (.no rfl rfl rfl rfl) rfl rfl ?_
                refine d_off rfl rfl (.no rfl rfl rfl rfl) rfl rfl ?_
                refine d_off rfl rfl (.no rfl rfl rfl rfl) rfl rfl ?_
                refine d_off rfl rfl (.no rfl rfl rfl rfl) rfl rfl ?_
                refine d_off rfl rfl (.no rfl rfl rfl rfl) rfl rfl ?_
                refine d_off rfl rfl (.no rfl rfl rfl rfl) rfl rfl ?_
                refine d_off rfl rfl (.no rfl rfl rfl rfl) rfl rfl ?_
                refine d_off rfl rfl (.no rfl rfl rfl rfl) rfl rfl ?_
                refine d_off rfl rfl (.no rfl rfl rfl rfl) rfl rfl ?_
                refine d_off rfl rfl (.no rfl rfl rfl rfl) rfl rfl ?_
                refine d_off rfl rfl (.no rfl rfl rfl rfl) rfl rfl ?_
                refine d_q rfl rfl (.none rfl) rfl rfl (q_pickT rfl rfl rfl rfl) ?_
                refine d_nil ?_
                refine run_sub (subMk (.cons (s := 1) rfl (.cons (s := 4) rfl (.cons (s := 5) rfl (.cons (s := 6) rfl (.cons (s := 10) rfl (.cons (s := 12) rfl (.cons (s := 14) rfl (.cons (s := 165) rfl .nil)))))))) .refl) ?_
                refine run_condT rfl rfl ?_
                refine run_exit rfl ?_
                refine run_region ?_
                refine run_q (.none rfl) rfl rfl (q_move rfl rfl) ?_
                refine run_q (.none rfl) rfl rfl (q_add rfl rfl rfl (by omega)) ?_
                refine run_q (.none rfl) rfl rfl (q_assign rfl rfl) ?_
                refine run_nil ?_
                refine run_sub (subMk (.cons (s := 1) rfl (.cons (s := 4) rfl (.cons (s := 5) rfl (.cons (s := 6) rfl (.cons (s := 10) rfl (.cons (s := 12) rfl (.cons (s := 14) rfl .nil))))))) .refl) ?_
                exact run_again (k + 1) (by (try dsimp only); exact (by omega)) (by (try dsimp only); omega) (subMk (.cons' (s := 14) rfl (vint (by omega)) (.cons (s := 1) rfl (.cons (s := 4) rfl (.cons (s := 5) rfl (.cons (s := 6) rfl (.cons (s := 10) rfl (.cons (s := 12) rfl .nil))))))) (.cons Sel.here .refl (.cons Sel.here .refl (.cons Sel.here .refl (.cons Sel.here .refl (.cons Sel.here .refl (.cons Sel.here .refl (.cons Sel.here .refl (.cons Sel.here .refl .nil)))))))))
        · have g126' := g126
          try simp only [decide_eq_true_eq, decide_eq_false_iff_not, beq_iff_eq, beq_eq_false_iff_ne, bne_iff_ne, bne_eq_false_iff_eq, Bool.not_eq_true', Bool.not_eq_false', ne_eq, Int.not_lt, Int.not_le, Decidable.not_not] at g126'
          refine run_exit rfl ?_
          refine run_sub (subMk (.cons (s := 1) rfl (.cons (s := 4) rfl (.cons (s := 5) rfl (.cons (s := 6) rfl (.cons (s := 10) rfl (.cons (s := 12) rfl .nil)))))) .refl) ?_
          refine run_blk ?_
          refine run_region ?_
          refine run_q (.none rfl) rfl rfl (q_move rfl rfl) ?_
          refine run_q (.none rfl) rfl rfl (q_add rfl rfl rfl (by omega)) ?_
          refine run_q (.none rfl) rfl rfl (q_assign rfl rfl) ?_
          refine run_nil ?_
          exact run_again (i + 1) (by (try dsimp only); exact (by omega)) (by (try dsimp only); omega) (subMk (.cons' (s := 12) rfl (vint (by omega)) (.cons (s := 1) rfl (.cons (s := 4) rfl (.cons (s := 5) rfl (.cons (s := 6) rfl (.cons (s := 10) rfl .nil)))))) (.cons Sel.here .refl (.cons Sel.here .refl (.cons Sel.here .refl (.cons Sel.here .refl (.cons Sel.here .refl (.cons Sel.here .refl (.cons Sel.here .refl (.cons Sel.here .refl .nil)))))))))
    · have g70' := g70
      try simp only [decide_eq_true_eq, decide_eq_false_iff_not, beq_iff_eq, beq_eq_false_iff_ne, bne_iff_ne, bne_eq_false_iff_eq, Bool.not_eq_true', Bool.not_eq_false', ne_eq, Int.not_lt, Int.not_le, Decidable.not_not] at g70'
      refine run_off (.no rfl rfl rfl g70) rfl rfl ?_
      refine run_off (.no rfl rfl rfl g70) rfl rfl ?_
      refine run_off (.no rfl rfl rfl g70) rfl rfl ?_
      refine run_off (.no rfl rfl rfl g70) rfl rfl ?_
      refine run_q (.none rfl) rfl rfl (q_pickF rfl rfl g70 rfl) ?_
      refine run_q (.none rfl) rfl rfl (q_move rfl rfl) ?_
      refine run_off (.no rfl rfl rfl rfl) rfl rfl ?_
      refine run_off (.no rfl rfl rfl rfl) rfl rfl ?_
      refine run_q (.none rfl) rfl rfl (q_pickF rfl rfl rfl rfl) ?_
      refine run_nil ?_
      refine run_sub (subMk (.cons (s := 1) rfl (.cons (s := 4) rfl (.cons (s := 5) rfl (.cons (s := 6) rfl (.cons (s := 10) rfl (.cons (s := 12) rfl (.cons (s := 13) rfl (.cons (s := 79) rfl .nil)))))))) .refl) ?_
      refine run_condF rfl rfl ?_
      refine run_exit rfl ?_
      refine run_seq ?_
      refine run_region ?_
      refine run_q (.none rfl) rfl rfl (q_assign rfl rfl) ?_
      refine run_nil ?_
      refine run_block ?_
      refine run_sub (subMk (.cons (s := 14) rfl (.cons (s := 1) rfl (.cons (s := 4) rfl (.cons (s := 5) rfl (.cons (s := 6) rfl (.cons (s := 10) rfl (.cons (s := 12) rfl .nil))))))) (.cons Sel.here .refl (.cons Sel.here .refl (.cons Sel.here .refl (.cons Sel.here .refl (.cons Sel.here .refl (.cons Sel.here .refl (.cons Sel.here .refl (.cons Sel.here .refl .nil))))))))) ?_
      refine run_loopC1M0 (ι := Nat) (fun k => k ≤ i) (fun k => .int .i64 (k : Int))  (fun k => i - k) 0 (by (try dsimp only); exact (by omega)) rfl  ?_
      rintro k hk
      (try dsimp only at hk)
      show Run _ _ _ _ _ _ _ ⟨(14, .int .i64 (k : Int)) :: _, _⟩
      refine run_seq ?_
      refine run_seq ?_
      refine run_region ?_
      refine run_q (.none rfl) rfl rfl (q_move rfl rfl) ?_
      refine run_q (.none rfl) rfl rfl (q_move rfl rfl) ?_
      refine run_q (.none rfl) rfl rfl (q_lss rfl rfl rfl) ?_
      refine run_nil ?_
      refine run_cond rfl (fun g126 => ?_) (fun g126 => ?_)
      · have g126' := g126
        try simp only [decide_eq_true_eq, decide_eq_false_iff_not, beq_iff_eq, beq_eq_false_iff_ne, bne_iff_ne, bne_eq_false_iff_eq, Bool.not_eq_true', Bool.not_eq_false', ne_eq, Int.not_lt, Int.not_le, Decidable.not_not] at g126'
        refine run_skip ?_
        refine run_seq ?_
        refine run_block ?_
        refine run_seq ?_
        refine run_seq ?_
        by_cases hss : (nth xs k).side = (nth xs i).side
        · by_cases ho1 : (nth xs k).fst ≤ (nth xs i).lst
          · by_cases ho2 : (nth xs i).fst ≤ (nth xs k).lst
            · refine run_draw [(0, 0), (1, 0), (2, 0), (3, 0), (4, 0), (5, 0), (6, 0), (7, 0), (8, 0), (9, 0), (10, 0), (11, 0), (12, 0), (13, 0), (14, 0), (15, 0), (16, 0), (17, 0), (18, 0), (19, 0), (20, 0), (21, 0), (22, 0), (23, 0), (24, 0), (25, 0), (26, 0), (27, 0), (28, 0), (29, 0), (30, 0), (31, 0), (32, 0), (33, 0), (34, 0), (35, 0), (36, 0)] mixed (by kernel_rfl) .refl ?_
              refine d_q rfl rfl (.none rfl) rfl rfl (q_move rfl rfl) ?_
              refine d_q rfl rfl (.none rfl) rfl rfl (q_move rfl rfl) ?_
              refine d_q rfl rfl (.none rfl) rfl rfl (q_indexS (q := k) rfl Try.underlying37 sz25 rfl rfl (.inp hx .no) (by simp <;> omega) rfl (by omega)) ?_
              refine d_q rfl rfl (.none rfl) rfl rfl (q_fieldAddr (d := 5) rfl Try.underlying25 rfl rfl sz3 rfl) ?_
              refine d_q rfl rfl (.none rfl) rfl rfl (q_loadF rfl one3 rfl (.inp hx .no) (getmap (by omega)) rfl) ?_
              refine d_q rfl rfl (.none rfl) rfl rfl (q_move rfl rfl) ?_
              refine d_q rfl rfl (.none rfl) rfl rfl (q_move rfl rfl) ?_
              refine d_q rfl rfl (.none rfl) rfl rfl (q_indexS (q := i) rfl Try.underlying37 sz25 rfl rfl (.inp hx .no) (by simp <;> omega) rfl (by omega)) ?_
              refine d_q rfl rfl (.none rfl) rfl rfl (q_fieldAddr (d := 5) rfl Try.underlying25 rfl rfl sz3 rfl) ?_
              refine d_q rfl rfl (.none rfl) rfl rfl (q_loadF rfl one3 rfl (.inp hx .no) (getmap (by omega)) rfl) ?_
              refine d_q rfl rfl (.none rfl) rfl rfl (q_neq rfl rfl rfl) ?_
              refine d_q rfl rfl (.none rfl) rfl rfl (q_move rfl rfl) ?_
              refine d_q rfl rfl (.on rfl rfl rfl (by simp [hss])) rfl rfl (q_move rfl rfl) ?_
              refine d_q rfl rfl (.on rfl rfl rfl (by simp [hss])) rfl rfl (q_move rfl rfl) ?_
              refine d_q rfl rfl (.on rfl rfl rfl (by simp [hss])) rfl rfl (q_indexS (q := k) rfl Try.underlying37 sz25 rfl rfl (.inp hx .no) (by simp <;> omega) rfl (by omega)) ?_
              refine d_q rfl rfl (.on rfl rfl rfl (by simp [hss])) rfl rfl (q_fieldAddr (d := 3) rfl Try.underlying25 rfl rfl sz3 rfl) ?_
              refine d_q rfl rfl (.on rfl rfl rfl (by simp [hss])) rfl rfl (q_loadF rfl one3 rfl (.inp hx .no) (getmap (by omega)) rfl) ?_
              refine d_q rfl rfl (.on rfl rfl rfl (by simp [hss])) rfl rfl (q_move rfl rfl) ?_
              refine d_q rfl rfl (.on rfl rfl rfl (by simp [hss])) rfl rfl (q_move rfl rfl) ?_
              refine d_q rfl rfl (.on rfl rfl rfl (by simp [hss])) rfl rfl (q_indexS (q := i) rfl Try.underlying37 sz25 rfl rfl (.inp hx .no) (by simp <;> omega) rfl (by omega)) ?_
              refine d_q rfl rfl (.on rfl rfl rfl (by simp [hss])) rfl rfl (q_fieldAddr (d := 4) rfl Try.underlying25 rfl rfl sz3 rfl) ?_
              refine d_q rfl rfl (.on rfl rfl rfl (by simp [hss])) rfl rfl (q_loadF rfl one3 rfl (.inp hx .no) (getmap (by omega)) rfl) ?_
              refine d_q rfl rfl (.on rfl rfl rfl (by simp [hss])) rfl rfl (q_gtr rfl rfl rfl) ?_
              refine d_q rfl rfl (.none rfl) rfl rfl (q_pickF rfl rfl (by simp [hss]) rfl) ?_
              refine d_q rfl rfl (.none rfl) rfl rfl (q_move rfl rfl) ?_
              refine d_q rfl rfl (.on rfl rfl rfl (decide_eq_false (by omega))) rfl rfl (q_move rfl rfl) ?_
              refine d_q rfl rfl (.on rfl rfl rfl (decide_eq_false (by omega))) rfl rfl (q_move rfl rfl) ?_
              refine d_q rfl rfl (.on rfl rfl rfl (decide_eq_false (by omega))) rfl rfl (q_indexS (q := i) rfl Try.underlying37 sz25 rfl rfl (.inp hx .no) (by simp <;> omega) rfl (by omega)) ?_
              refine d_q rfl rfl (.on rfl rfl rfl (decide_eq_false (by omega))) rfl rfl (q_fieldAddr (d := 3) rfl Try.underlying25 rfl rfl sz3 rfl) ?_
              refine d_q rfl rfl (.on rfl rfl rfl (decide_eq_false (by omega))) rfl rfl (q_loadF rfl one3 rfl (.inp hx .no) (getmap (by omega)) rfl) ?_
              refine d_q rfl rfl (.on rfl rfl rfl (decide_eq_false (by omega))) rfl rfl (q_move rfl rfl) ?_
              refine d_q rfl rfl (.on rfl rfl rfl (decide_eq_false (by omega))) rfl rfl (q_move rfl rfl) ?_
              refine d_q rfl rfl (.on rfl rfl rfl (decide_eq_false (by omega))) rfl rfl (q_indexS (q := k) rfl Try.underlying37 sz25 rfl rfl (.inp hx .no) (by simp <;> omega) rfl (by omega)) ?_
              refine d_q rfl rfl (.on rfl rfl rfl (decide_eq_false (by omega))) rfl rfl (q_fieldAddr (d := 4) rfl Try.underlying25 rfl rfl sz3 rfl) ?_
              refine d_q rfl rfl (.on rfl rfl rfl (decide_eq_false (by omega))) rfl rfl (q_loadF rfl one3 rfl (.inp hx .no) (getmap (by omega)) rfl) ?_
              refine d_q rfl rfl (.on rfl rfl rfl (decide_eq_false (by omega))) rfl rfl (q_gtr rfl rfl rfl) ?_
              refine d_q rfl rfl (.none rfl) rfl rfl (q_pickF rfl rfl (decide_eq_false (by omega)) rfl) ?_
              refine d_nil ?_
              refine run_sub (subMk (.cons (s := 1) rfl (.cons (s := 4) rfl (.cons (s := 5) rfl (.cons (s := 6) rfl (.cons (s := 10) rfl (.cons (s := 12) rfl (.cons (s := 14) rfl (.cons (s := 165) rfl .nil)))))))) .refl) ?_
              refine run_condF rfl (decide_eq_false (by omega)) ?_
              refine run_skip ?_
              refine run_seq ?_
              by_cases hsd2 : (nth xs i).side = -1
              · have hqk := reqE_ok (reqsE_ok hq0 (show k < xs.length by omega))
                have h1k := plEs_zero hE0 k (by omega)
                have hMk : nth (placeM xs (gs la lb la (gN la lb)) (gs la lb lb (gN la lb))) k = plM1 xs (gs la lb la (gN la lb)) (gs la lb lb (gN la lb)) k := by rw [e3]; exact plMs_nth (by omega)
                have hc := clr2_b (xs := xs) (a := (gs la lb la (gN la lb))) (b := (gs la lb lb (gN la lb))) (j := (max (nth xs i).fst (nth xs k).fst).toNat) (i := i) (k := k) (by omega) hsd2 (by rw [hss]; exact hsd2) h1i h1k (by omega) (by omega) (by omega) (by omega) (by omega)
                have hbk := mk_bd (xs := xs) (a := (gs la lb la (gN la lb))) (b := (gs la lb lb (gN la lb))) (i := k) (by omega) h1k hbdA hbdB (by omega) (by omega) (by omega) ⟨by omega, by omega⟩ ⟨by omega, by omega⟩
                rw [← hMi, ← hMk] at hc
                rw [← hMk] at hbk
                refine run_draw [(0, 0), (1, 0), (2, 0), (3, 0), (4, 0), (5, 0), (6, 0), (7, 0), (8, 0), (9, 0), (10, 0), (11, 0), (12, 0), (13, 0), (14, 0), (15, 0), (16, 0), (17, 0), (18, 0), (19, 0), (20, 0), (21, 0), (22, 0), (23, 0), (24, 0), (25, 0), (26, 0), (27, 0), (28, 0), (29, 0), (30, 0), (31, 0), (32, 0), (33, 0), (34, 0), (35, 0), (36, 0), (37, 0), (38, 0), (39, 0), (40, 0), (41, 0), (42, 0), (43, 0), (44, 0), (45, 0)] mixed (by kernel_rfl) .refl ?_
                refine d_q rfl rfl (.none rfl) rfl rfl (q_move rfl rfl) ?_
                refine d_q rfl rfl (.none rfl) rfl rfl (q_move rfl rfl) ?_
                refine d_q rfl rfl (.none rfl) rfl rfl (q_indexS (q := i) rfl Try.underlying37 sz25 rfl rfl (.inp hx .no) (by simp <;> omega) rfl (by omega)) ?_
                refine d_q rfl rfl (.none rfl) rfl rfl (q_fieldAddr (d := 5) rfl Try.underlying25 rfl rfl sz3 rfl) ?_
                refine d_q rfl rfl (.none rfl) rfl rfl (q_loadF rfl one3 rfl (.inp hx .no) (getmap (by omega)) rfl) ?_
                refine d_q rfl rfl (.none rfl) rfl rfl (q_gtr rfl rfl rfl) ?_
                refine d_q rfl rfl (.none rfl) rfl rfl (q_move rfl rfl) ?_
                refine d_off rfl rfl (.no rfl rfl rfl (decide_eq_false (by omega))) rfl rfl ?_
                refine d_off rfl rfl (.no rfl rfl rfl (decide_eq_false (by omega))) rfl rfl ?_
                refine d_off rfl rfl (.no rfl rfl rfl (decide_eq_false (by omega))) rfl rfl ?_
                refine d_off rfl rfl (.no rfl rfl rfl (decide_eq_false (by omega))) rfl rfl ?_
                refine d_off rfl rfl (.no rfl rfl rfl (decide_eq_false (by omega))) rfl rfl ?_
                refine d_off rfl rfl (.no rfl rfl rfl (decide_eq_false (by omega))) rfl rfl ?_
                refine d_off rfl rfl (.no rfl rfl rfl (decide_eq_false (by omega))) rfl rfl ?_
                refine d_off rfl rfl (.no rfl rfl rfl (decide_eq_false (by omega))) rfl rfl ?_
                refine d_off rfl rfl (.no rfl rfl rfl (decide_eq_false (by omega))) rfl rfl ?_
                refine d_off rfl rfl (.no rfl rfl rfl (decide_eq_false (by omega))) rfl rfl ?_
                refine d_off rfl rfl (.no rfl rfl rfl (decide_eq_false (by omega))) rfl rfl ?_
                refine d_off rfl rfl (.no rfl rfl rfl (decide_eq_false (by omega))) rfl rfl ?_
                refine d_off rfl rfl (.no rfl rfl rfl (decide_eq_false (by omega))) rfl rfl ?_
                refine d_off rfl rfl (.no rfl rfl rfl (decide_eq_false (by omega))) rfl rfl ?_
                refine d_q rfl rfl (.none rfl) rfl rfl (q_pickF rfl rfl (decide_eq_false (by omega)) rfl) ?_
                refine d_q rfl rfl (.none rfl) rfl rfl (q_move rfl rfl) ?_
                refine d_q rfl rfl (.on rfl rfl rfl rfl) rfl rfl (q_move rfl rfl) ?_
                refine d_q rfl rfl (.on rfl rfl rfl rfl) rfl rfl (q_move rfl rfl) ?_
                refine d_q rfl rfl (.on rfl rfl rfl rfl) rfl rfl (q_indexS (q := i) rfl Try.underlying37 sz25 rfl rfl (.inp hx .no) (by simp <;> omega) rfl (by omega)) ?_
                refine d_q rfl rfl (.on rfl rfl rfl rfl) rfl rfl (q_fieldAddr (d := 5) rfl Try.underlying25 rfl rfl sz3 rfl) ?_
                refine d_q rfl rfl (.on rfl rfl rfl rfl) rfl rfl (q_loadF rfl one3 rfl (.inp hx .no) (getmap (by omega)) rfl) ?_
                refine d_q rfl rfl (.on rfl rfl rfl rfl) rfl rfl (q_lss rfl rfl rfl) ?_
                refine d_q rfl rfl (.on rfl rfl rfl rfl) rfl rfl (q_move rfl rfl) ?_
                refine d_q rfl rfl (.on rfl rfl rfl (decide_eq_true (by omega))) rfl rfl (q_move rfl rfl) ?_
                refine d_q rfl rfl (.on rfl rfl rfl (decide_eq_true (by omega))) rfl rfl (q_move rfl rfl) ?_
                refine d_q rfl rfl (.on rfl rfl rfl (decide_eq_true (by omega))) rfl rfl (q_indexS (q := i) rfl Try.underlying44 sz50 rfl rfl (.own (.there (.there (.there (.there Sel.here))))) (by rw [List.length_map]) rfl (by omega)) ?_
                refine d_q rfl rfl (.on rfl rfl rfl (decide_eq_true (by omega))) rfl rfl (q_fieldAddr (d := 8) rfl Try.underlying50 rfl rfl sz48 rfl) ?_
                refine d_q rfl rfl (.on rfl rfl rfl (decide_eq_true (by omega))) rfl rfl (q_fieldF (d2 := 11) rfl Try.underlying48 rfl rfl sz3 rfl) ?_
                refine d_q rfl rfl (.on rfl rfl rfl (decide_eq_true (by omega))) rfl rfl (q_loadF rfl one3 rfl (.own (.there (.there (.there (.there Sel.here))))) (getmap (by omega)) rfl) ?_
                refine d_q rfl rfl (.on rfl rfl rfl (decide_eq_true (by omega))) rfl rfl (q_move rfl rfl) ?_
                refine d_q rfl rfl (.on rfl rfl rfl (decide_eq_true (by omega))) rfl rfl (q_move rfl rfl) ?_
                refine d_q rfl rfl (.on rfl rfl rfl (decide_eq_true (by omega))) rfl rfl (q_indexS (q := k) rfl Try.underlying44 sz50 rfl rfl (.own (.there (.there (.there (.there Sel.here))))) (by rw [List.length_map]) rfl (by omega)) ?_
                refine d_q rfl rfl (.on rfl rfl rfl (decide_eq_true (by omega))) rfl rfl (q_fieldAddr (d := 8) rfl Try.underlying50 rfl rfl sz48 rfl) ?_
                refine d_q rfl rfl (.on rfl rfl rfl (decide_eq_true (by omega))) rfl rfl (q_fieldF (d2 := 9) rfl Try.underlying48 rfl rfl sz3 rfl) ?_
                refine d_q rfl rfl (.on rfl rfl rfl (decide_eq_true (by omega))) rfl rfl (q_loadF rfl one3 rfl (.own (.there (.there (.there (.there Sel.here))))) (getmap (by omega)) rfl) ?_
                refine d_q rfl rfl (.on rfl rfl rfl (decide_eq_true (by omega))) rfl rfl (q_sub rfl rfl rfl (by omega)) ?_
                refine d_q rfl rfl (.on rfl rfl rfl (decide_eq_true (by omega))) rfl rfl (q_gtr rfl rfl rfl) ?_
                refine d_q rfl rfl (.on rfl rfl rfl rfl) rfl rfl (q_pickT rfl rfl (decide_eq_true (by omega)) rfl) ?_
                refine d_q rfl rfl (.none rfl) rfl rfl (q_pickF rfl rfl rfl rfl) ?_
                refine d_nil ?_
                refine run_sub (subMk (.cons (s := 1) rfl (.cons (s := 4) rfl (.cons (s := 5) rfl (.cons (s := 6) rfl (.cons (s := 10) rfl (.cons (s := 12) rfl (.cons (s := 14) rfl (.cons (s := 211) rfl .nil)))))))) .refl) ?_
                refine run_condF rfl (decide_eq_false (by omega)) ?_
                refine run_skip ?_
                refine run_blk ?_
                refine run_region ?_
                refine run_q (.none rfl) rfl rfl (q_move rfl rfl) ?_
                refine run_q (.none rfl) rfl rfl (q_add rfl rfl rfl (by omega)) ?_
                refine run_q (.none rfl) rfl rfl (q_assign rfl rfl) ?_
                refine run_nil ?_
                refine run_sub (subMk (.cons (s := 1) rfl (.cons (s := 4) rfl (.cons (s := 5) rfl (.cons (s := 6) rfl (.cons (s := 10) rfl (.cons (s := 12) rfl (.cons (s := 14) rfl .nil))))))) .refl) ?_
                exact run_again (k + 1) (by (try dsimp only); exact (by omega)) (by (try dsimp only); omega) (subMk (.cons' (s := 14) rfl (vint (by omega)) (.cons (s := 1) rfl (.cons (s := 4) rfl (.cons (s := 5) rfl (.cons (s := 6) rfl (.cons (s := 10) rfl (.cons (s := 12) rfl .nil))))))) (.cons Sel.here .refl (.cons Sel.here .refl (.cons Sel.here .refl (.cons Sel.here .refl (.cons Sel.here .refl (.cons Sel.here .refl (.cons Sel.here .refl (.cons Sel.here .refl .nil)))))))))
              · have hqk := reqE_ok (reqsE_ok hq0 (show k < xs.length by omega))
                have h1k := plEs_zero hE0 k (by omega)
                have hMk : nth (placeM xs (gs la lb la (gN la lb)) (gs la lb lb (gN la lb))) k = plM1 xs (gs la lb la (gN la lb)) (gs la lb lb (gN la lb)) k := by rw [e3]; exact plMs_nth (by omega)
                have hc := clr2_a (xs := xs) (a := (gs la lb la (gN la lb))) (b := (gs la lb lb (gN la lb))) (j := (max (nth xs i).fst (nth xs k).fst).toNat) (i := i) (k := k) (by omega) hsd2 (by rw [hss]; exact hsd2) h1i h1k (by omega) (by omega) (by omega) (by omega) (by omega)
                have hbk := mk_bd (xs := xs) (a := (gs la lb la (gN la lb))) (b := (gs la lb lb (gN la lb))) (i := k) (by omega) h1k hbdA hbdB (by omega) (by omega) (by omega) ⟨by omega, by omega⟩ ⟨by omega, by omega⟩
                rw [← hMi, ← hMk] at hc
                rw [← hMk] at hbk
                refine run_draw [(0, 0), (1, 0), (2, 0), (3, 0), (4, 0), (5, 0), (6, 0), (7, 0), (8, 0), (9, 0), (10, 0), (11, 0), (12, 0), (13, 0), (14, 0), (15, 0), (16, 0), (17, 0), (18, 0), (19, 0), (20, 0), (21, 0), (22, 0), (23, 0), (24, 0), (25, 0), (26, 0), (27, 0), (28, 0), (29, 0), (30, 0), (31, 0), (32, 0), (33, 0), (34, 0), (35, 0), (36, 0), (37, 0), (38, 0), (39, 0), (40, 0), (41, 0), (42, 0), (43, 0), (44, 0), (45, 0)] mixed (by kernel_rfl) .refl ?_
                refine d_q rfl rfl (.none rfl) rfl rfl (q_move rfl rfl) ?_
                refine d_q rfl rfl (.none rfl) rfl rfl (q_move rfl rfl) ?_
                refine d_q rfl rfl (.none rfl) rfl rfl (q_indexS (q := i) rfl Try.underlying37 sz25 rfl rfl (.inp hx .no) (by simp <;> omega) rfl (by omega)) ?_
                refine d_q rfl rfl (.none rfl) rfl rfl (q_fieldAddr (d := 5) rfl Try.underlying25 rfl rfl sz3 rfl) ?_
                refine d_q rfl rfl (.none rfl) rfl rfl (q_loadF rfl one3 rfl (.inp hx .no) (getmap (by omega)) rfl) ?_
                refine d_q rfl rfl (.none rfl) rfl rfl (q_gtr rfl rfl rfl) ?_
                refine d_q rfl rfl (.none rfl) rfl rfl (q_move rfl rfl) ?_
                refine d_q rfl rfl (.on rfl rfl rfl (decide_eq_true (by omega))) rfl rfl (q_move rfl rfl) ?_
                refine d_q rfl rfl (.on rfl rfl rfl (decide_eq_true (by omega))) rfl rfl (q_move rfl rfl) ?_
                refine d_q rfl rfl (.on rfl rfl rfl (decide_eq_true (by omega))) rfl rfl (q_indexS (q := i) rfl Try.underlying44 sz50 rfl rfl (.own (.there (.there (.there (.there Sel.here))))) (by rw [List.length_map]) rfl (by omega)) ?_
                refine d_q rfl rfl (.on rfl rfl rfl (decide_eq_true (by omega))) rfl rfl (q_fieldAddr (d := 8) rfl Try.underlying50 rfl rfl sz48 rfl) ?_
                refine d_q rfl rfl (.on rfl rfl rfl (decide_eq_true (by omega))) rfl rfl (q_fieldF (d2 := 9) rfl Try.underlying48 rfl rfl sz3 rfl) ?_
                refine d_q rfl rfl (.on rfl rfl rfl (decide_eq_true (by omega))) rfl rfl (q_loadF rfl one3 rfl (.own (.there (.there (.there (.there Sel.here))))) (getmap (by omega)) rfl) ?_
                refine d_q rfl rfl (.on rfl rfl rfl (decide_eq_true (by omega))) rfl rfl (q_move rfl rfl) ?_
                refine d_q rfl rfl (.on rfl rfl rfl (decide_eq_true (by omega))) rfl rfl (q_move rfl rfl) ?_
                refine d_q rfl rfl (.on rfl rfl rfl (decide_eq_true (by omega))) rfl rfl (q_indexS (q := k) rfl Try.underlying44 sz50 rfl rfl (.own (.there (.there (.there (.there Sel.here))))) (by rw [List.length_map]) rfl (by omega)) ?_
                refine d_q rfl rfl (.on rfl rfl rfl (decide_eq_true (by omega))) rfl rfl (q_fieldAddr (d := 8) rfl Try.underlying50 rfl rfl sz48 rfl) ?_
                refine d_q rfl rfl (.on rfl rfl rfl (decide_eq_true (by omega))) rfl rfl (q_fieldF (d2 := 11) rfl Try.underlying48 rfl rfl sz3 rfl) ?_
                refine d_q rfl rfl (.on rfl rfl rfl (decide_eq_true (by omega))) rfl rfl (q_loadF rfl one3 rfl (.own (.there (.there (.there (.there Sel.here))))) (getmap (by omega)) rfl) ?_
                refine d_q rfl rfl (.on rfl rfl rfl (decide_eq_true (by omega))) rfl rfl (q_add rfl rfl rfl (by omega)) ?_
                refine d_q rfl rfl (.on rfl rfl rfl (decide_eq_true (by omega))) rfl rfl (q_lss rfl rfl rfl) ?_
                refine d_q rfl rfl (.none rfl) rfl rfl (q_pickT rfl rfl (decide_eq_true (by omega)) rfl) ?_
                refine d_q rfl rfl (.none rfl) rfl rfl (q_move rfl rfl) ?_
                refine d_q rfl rfl (.on rfl rfl rfl (decide_eq_false (by omega))) rfl rfl (q_move rfl rfl) ?_
                refine d_q rfl rfl (.on rfl rfl rfl (decide_eq_false (by omega))) rfl rfl (q_move rfl rfl) ?_
                refine d_q rfl rfl (.on rfl rfl rfl (decide_eq_false (by omega))) rfl rfl (q_indexS (q := i) rfl Try.underlying37 sz25 rfl rfl (.inp hx .no) (by simp <;> omega) rfl (by omega)) ?_
                refine d_q rfl rfl (.on rfl rfl rfl (decide_eq_false (by omega))) rfl rfl (q_fieldAddr (d := 5) rfl Try.underlying25 rfl rfl sz3 rfl) ?_
                refine d_q rfl rfl (.on rfl rfl rfl (decide_eq_false (by omega))) rfl rfl (q_loadF rfl one3 rfl (.inp hx .no) (getmap (by omega)) rfl) ?_
                refine d_q rfl rfl (.on rfl rfl rfl (decide_eq_false (by omega))) rfl rfl (q_lss rfl rfl rfl) ?_
                refine d_q rfl rfl (.on rfl rfl rfl (decide_eq_false (by omega))) rfl rfl (q_move rfl rfl) ?_
                refine d_off rfl rfl (.no rfl rfl rfl (decide_eq_false (by omega))) rfl rfl ?_
                refine d_off rfl rfl (.no rfl rfl rfl (decide_eq_false (by omega))) rfl rfl ?_
                refine d_off rfl rfl (.no rfl rfl rfl (decide_eq_false (by omega))) rfl rfl ?_
                refine d_off rfl rfl (.no rfl rfl rfl (decide_eq_false (by omega))) rfl rfl ?_
                refine d_off rfl rfl (.no rfl rfl rfl (decide_eq_false (by omega))) rfl rfl ?_
                refine d_off rfl rfl (.no rfl rfl rfl (decide_eq_false (by omega))) rfl rfl ?_
                refine d_off rfl rfl (.no rfl rfl rfl (decide_eq_false (by omega))) rfl rfl ?_
                refine d_off rfl rfl (.no rfl rfl rfl (decide_eq_false (by omega))) rfl rfl ?_
                refine d_off rfl rfl (.no rfl rfl rfl (decide_eq_false (by omega))) rfl rfl ?_
                refine d_off rfl rfl (.no rfl rfl rfl (decide_eq_false (by omega))) rfl rfl ?_
                refine d_off rfl rfl (.no rfl rfl rfl (decide_eq_false (by omega))) rfl rfl ?_
                refine d_off rfl rfl (.no rfl rfl rfl (decide_eq_false (by omega))) rfl rfl ?_
                refine d_off rfl rfl (.no rfl rfl rfl (decide_eq_false (by omega))) rfl rfl ?_
                refine d_off rfl rfl (.no rfl rfl rfl (decide_eq_false (by omega))) rfl rfl ?_
                refine d_q rfl rfl (.on rfl rfl rfl (decide_eq_false (by omega))) rfl rfl (q_pickF rfl rfl (decide_eq_false (by omega)) rfl) ?_
                refine d_q rfl rfl (.none rfl) rfl rfl (q_pickF rfl rfl (decide_eq_false (by omega)) rfl) ?_
                refine d_nil ?_
                refine run_sub (subMk (.cons (s := 1) rfl (.cons (s := 4) rfl (.cons (s := 5) rfl (.cons (s := 6) rfl (.cons (s := 10) rfl (.cons (s := 12) rfl (.cons (s := 14) rfl (.cons (s := 211) rfl .nil)))))))) .refl) ?_
                refine run_condF rfl rfl ?_
                refine run_skip ?_
                refine run_blk ?_
                refine run_region ?_
                refine run_q (.none rfl) rfl rfl (q_move rfl rfl) ?_
                refine run_q (.none rfl) rfl rfl (q_add rfl rfl rfl (by omega)) ?_
                refine run_q (.none rfl) rfl rfl (q_assign rfl rfl) ?_
                refine run_nil ?_
                refine run_sub (subMk (.cons (s := 1) rfl (.cons (s := 4) rfl (.cons (s := 5) rfl (.cons (s := 6) rfl (.cons (s := 10) rfl (.cons (s := 12) rfl (.cons (s := 14) rfl .nil))))))) .refl) ?_
                exact run_again (k + 1) (by (try dsimp only); exact (by omega)) (by (try dsimp only); omega) (subMk (.cons' (s := 14) rfl (vint (by omega)) (.cons (s := 1) rfl (.cons (s := 4) rfl (.cons (s := 5) rfl (.cons (s := 6) rfl (.cons (s := 10) rfl (.cons (s := 12) rfl .nil))))))) (.cons Sel.here .refl (.cons Sel.here .refl (.cons Sel.here .refl (.cons Sel.here .refl (.cons Sel.here .refl (.cons Sel.here .refl (.cons Sel.here .refl (.cons Sel.here .refl .nil)))))))))
            · refine run_draw [(0, 0), (1, 0), (2, 0), (3, 0), (4, 0), (5, 0), (6, 0), (7, 0), (8, 0), (9, 0), (10, 0), (11, 0), (12, 0), (13, 0), (14, 0), (15, 0), (16, 0), (17, 0), (18, 0), (19, 0), (20, 0), (21, 0), (22, 0), (23, 0), (24, 0), (25, 0), (26, 0), (27, 0), (28, 0), (29, 0), (30, 0), (31, 0), (32, 0), (33, 0), (34, 0), (35, 0), (36, 0)] mixed (by kernel_rfl) .refl ?_
              refine d_q rfl rfl (.none rfl) rfl rfl (q_move rfl rfl) ?_
              refine d_q rfl rfl (.none rfl) rfl rfl (q_move rfl rfl) ?_
              refine d_q rfl rfl (.none rfl) rfl rfl (q_indexS (q := k) rfl Try.underlying37 sz25 rfl rfl (.inp hx .no) (by simp <;> omega) rfl (by omega)) ?_
              refine d_q rfl rfl (.none rfl) rfl rfl (q_fieldAddr (d := 5) rfl Try.underlying25 rfl rfl sz3 rfl) ?_
              refine d_q rfl rfl (.none rfl) rfl rfl (q_loadF rfl one3 rfl (.inp hx .no) (getmap (by omega)) rfl) ?_
              refine d_q rfl rfl (.none rfl) rfl rfl (q_move rfl rfl) ?_
              refine d_q rfl rfl (.none rfl) rfl rfl (q_move rfl rfl) ?_
              refine d_q rfl rfl (.none rfl) rfl rfl (q_indexS (q := i) rfl Try.underlying37 sz25 rfl rfl (.inp hx .no) (by simp <;> omega) rfl (by omega)) ?_
              refine d_q rfl rfl (.none rfl) rfl rfl (q_fieldAddr (d := 5) rfl Try.underlying25 rfl rfl sz3 rfl) ?_
              refine d_q rfl rfl (.none rfl) rfl rfl (q_loadF rfl one3 rfl (.inp hx .no) (getmap (by omega)) rfl) ?_
              refine d_q rfl rfl (.none rfl) rfl rfl (q_neq rfl rfl rfl) ?_
              refine d_q rfl rfl (.none rfl) rfl rfl (q_move rfl rfl) ?_
              refine d_q rfl rfl (.on rfl rfl rfl (by simp [hss])) rfl rfl (q_move rfl rfl) ?_
              refine d_q rfl rfl (.on rfl rfl rfl (by simp [hss])) rfl rfl (q_move rfl rfl) ?_
              refine d_q rfl rfl (.on rfl rfl rfl (by simp [hss])) rfl rfl (q_indexS (q := k) rfl Try.underlying37 sz25 rfl rfl (.inp hx .no) (by simp <;> omega) rfl (by omega)) ?_
              refine d_q rfl rfl (.on rfl rfl rfl (by simp [hss])) rfl rfl (q_fieldAddr (d := 3) rfl Try.underlying25 rfl rfl sz3 rfl) ?_
              refine d_q rfl rfl (.on rfl rfl rfl (by simp [hss])) rfl rfl (q_loadF rfl one3 rfl (.inp hx .no) (getmap (by omega)) rfl) ?_
              refine d_q rfl rfl (.on rfl rfl rfl (by simp [hss])) rfl rfl (q_move rfl rfl) ?_
              refine d_q rfl rfl (.on rfl rfl rfl (by simp [hss])) rfl rfl (q_move rfl rfl) ?_
              refine d_q rfl rfl (.on rfl rfl rfl (by simp [hss])) rfl rfl (q_indexS (q := i) rfl Try.underlying37 sz25 rfl rfl (.inp hx .no) (by simp <;> omega) rfl (by omega)) ?_
              refine d_q rfl rfl (.on rfl rfl rfl (by simp [hss])) rfl rfl (q_fieldAddr (d := 4) rfl Try.underlying25 rfl rfl sz3 rfl) ?_
              refine d_q rfl rfl (.on rfl rfl rfl (by simp [hss])) rfl rfl (q_loadF rfl one3 rfl (.inp hx .no) (getmap (by omega)) rfl) ?_
              refine d_q rfl rfl (.on rfl rfl rfl (by simp [hss])) rfl rfl (q_gtr rfl rfl rfl) ?_
              refine d_q rfl rfl (.none rfl) rfl rfl (q_pickF rfl rfl (by simp [hss]) rfl) ?_
              refine d_q rfl rfl (.none rfl) rfl rfl (q_move rfl rfl) ?_
              refine d_q rfl rfl (.on rfl rfl rfl (decide_eq_false (by omega))) rfl rfl (q_move rfl rfl) ?_
              refine d_q rfl rfl (.on rfl rfl rfl (decide_eq_false (by omega))) rfl rfl (q_move rfl rfl) ?_
              refine d_q rfl rfl (.on rfl rfl rfl (decide_eq_false (by omega))) rfl rfl (q_indexS (q := i) rfl Try.underlying37 sz25 rfl rfl (.inp hx .no) (by simp <;> omega) rfl (by omega)) ?_
              refine d_q rfl rfl (.on rfl rfl rfl (decide_eq_false (by omega))) rfl rfl (q_fieldAddr (d := 3) rfl Try.underlying25 rfl rfl sz3 rfl) ?_
              refine d_q rfl rfl (.on rfl rfl rfl (decide_eq_false (by omega))) rfl rfl (q_loadF rfl one3 rfl (.inp hx .no) (getmap (by omega)) rfl) ?_
              refine d_q rfl rfl (.on rfl rfl rfl (decide_eq_false (by omega))) rfl rfl (q_move rfl rfl) ?_
              refine d_q rfl rfl (.on rfl rfl rfl (decide_eq_false (by omega))) rfl rfl (q_move rfl rfl) ?_
              refine d_q rfl rfl (.on rfl rfl rfl (decide_eq_false (by omega))) rfl rfl (q_indexS (q := k) rfl Try.underlying37 sz25 rfl rfl (.inp hx .no) (by simp <;> omega) rfl (by omega)) ?_
              refine d_q rfl rfl (.on rfl rfl rfl (decide_eq_false (by omega))) rfl rfl (q_fieldAddr (d := 4) rfl Try.underlying25 rfl rfl sz3 rfl) ?_
              refine d_q rfl rfl (.on rfl rfl rfl (decide_eq_false (by omega))) rfl rfl (q_loadF rfl one3 rfl (.inp hx .no) (getmap (by omega)) rfl) ?_
              refine d_q rfl rfl (.on rfl rfl rfl (decide_eq_false (by omega))) rfl rfl (q_gtr rfl rfl rfl) ?_
              refine d_q rfl rfl (.none rfl) rfl rfl (q_pickF rfl rfl (decide_eq_false (by omega)) rfl) ?_
              refine d_nil ?_
              refine run_sub (subMk (.cons (s := 1) rfl (.cons (s := 4) rfl (.cons (s := 5) rfl (.cons (s := 6) rfl (.cons (s := 10) rfl (.cons (s := 12) rfl (.cons (s := 14) rfl (.cons (s := 165) rfl .nil)))))))) .refl) ?_
              refine run_condT rfl (decide_eq_true (by omega)) ?_
              refine run_exit rfl ?_
              refine run_region ?_
              refine run_q (.none rfl) rfl rfl (q_move rfl rfl) ?_
              refine run_q (.none rfl) rfl rfl (q_add rfl rfl rfl (by omega)) ?_
              refine run_q (.none rfl) rfl rfl (q_assign rfl rfl) ?_
              refine run_nil ?_
              refine run_sub (subMk (.cons (s := 1) rfl (.cons (s := 4) rfl (.cons (s := 5) rfl (.cons (s := 6) rfl (.cons (s := 10) rfl (.cons (s := 12) rfl (.cons (s := 14) rfl .nil))))))) .refl) ?_
              exact run_again (k + 1) (by (try dsimp only); exact (by omega)) (by (try dsimp only); omega) (subMk (.cons' (s := 14) rfl (vint (by omega)) (.cons (s := 1) rfl (.cons (s := 4) rfl (.cons (s := 5) rfl (.cons (s := 6) rfl (.cons (s := 10) rfl (.cons (s := 12) rfl .nil))))))) (.cons Sel.here .refl (.cons Sel.here .refl (.cons Sel.here .refl (.cons Sel.here .refl (.cons Sel.here .refl (.cons Sel.here .refl (.cons Sel.here .refl (.cons Sel.here .refl .nil)))))))))
          · by_cases ho2 : (nth xs i).fst ≤ (nth xs k).lst
            · refine run_draw [(0, 0), (1, 0), (2, 0), (3, 0), (4, 0), (5, 0), (6, 0), (7, 0), (8, 0), (9, 0), (10, 0), (11, 0), (12, 0), (13, 0), (14, 0), (15, 0), (16, 0), (17, 0), (18, 0), (19, 0), (20, 0), (21, 0), (22, 0), (23, 0), (24, 0), (25, 0), (26, 0), (27, 0), (28, 0), (29, 0), (30, 0), (31, 0), (32, 0), (33, 0), (34, 0), (35, 0), (36, 0)] mixed (by kernel_rfl) .refl ?_
              refine d_q rfl rfl (.none rfl) rfl rfl (q_move rfl rfl) ?_
              refine d_q rfl rfl (.none rfl) rfl rfl (q_move rfl rfl) ?_
              refine d_q rfl rfl (.none rfl) rfl rfl (q_indexS (q := k) rfl Try.underlying37 sz25 rfl rfl (.inp hx .no) (by simp <;> omega) rfl (by omega)) ?_
              refine d_q rfl rfl (.none rfl) rfl rfl (q_fieldAddr (d := 5) rfl Try.underlying25 rfl rfl sz3 rfl) ?_
              refine d_q rfl rfl (.none rfl) rfl rfl (q_loadF rfl one3 rfl (.inp hx .no) (getmap (by omega)) rfl) ?_
              refine d_q rfl rfl (.none rfl) rfl rfl (q_move rfl rfl) ?_
              refine d_q rfl rfl (.none rfl) rfl rfl (q_move rfl rfl) ?_
              refine d_q rfl rfl (.none rfl) rfl rfl (q_indexS (q := i) rfl Try.underlying37 sz25 rfl rfl (.inp hx .no) (by simp <;> omega) rfl (by omega)) ?_
              refine d_q rfl rfl (.none rfl) rfl rfl (q_fieldAddr (d := 5) rfl Try.underlying25 rfl rfl sz3 rfl) ?_
              refine d_q rfl rfl (.none rfl) rfl rfl (q_loadF rfl one3 rfl (.inp hx .no) (getmap (by omega)) rfl) ?_
              refine d_q rfl rfl (.none rfl) rfl rfl (q_neq rfl rfl rfl) ?_
              refine d_q rfl rfl (.none rfl) rfl rfl (q_move rfl rfl) ?_
              refine d_q rfl rfl (.on rfl rfl rfl (by simp [hss])) rfl rfl (q_move rfl rfl) ?_
              refine d_q rfl rfl (.on rfl rfl rfl (by simp [hss])) rfl rfl (q_move rfl rfl) ?_
              refine d_q rfl rfl (.on rfl rfl rfl (by simp [hss])) rfl rfl (q_indexS (q := k) rfl Try.underlying37 sz25 rfl rfl (.inp hx .no) (by simp <;> omega) rfl (by omega)) ?_
              refine d_q rfl rfl (.on rfl rfl rfl (by simp [hss])) rfl rfl (q_fieldAddr (d := 3) rfl Try.underlying25 rfl rfl sz3 rfl) ?_
              refine d_q rfl rfl (.on rfl rfl rfl (by simp [hss])) rfl rfl (q_loadF rfl one3 rfl (.inp hx .no) (getmap (by omega)) rfl) ?_
              refine d_q rfl rfl (.on rfl rfl rfl (by simp [hss])) rfl rfl (q_move rfl rfl) ?_
              refine d_q rfl rfl (.on rfl rfl rfl (by simp [hss])) rfl rfl (q_move rfl rfl) ?_
              refine d_q rfl rfl (.on rfl rfl rfl (by simp [hss])) rfl rfl (q_indexS (q := i) rfl Try.underlying37 sz25 rfl rfl (.inp hx .no) (by simp <;> omega) rfl (by omega)) ?_
              refine d_q rfl rfl (.on rfl rfl rfl (by simp [hss])) rfl rfl (q_fieldAddr (d := 4) rfl Try.underlying25 rfl rfl sz3 rfl) ?_
              refine d_q rfl rfl (.on rfl rfl rfl (by simp [hss])) rfl rfl (q_loadF rfl one3 rfl (.inp hx .no) (getmap (by omega)) rfl) ?_
              refine d_q rfl rfl (.on rfl rfl rfl (by simp [hss])) rfl rfl (q_gtr rfl rfl rfl) ?_
              refine d_q rfl rfl (.none rfl) rfl rfl (q_pickF rfl rfl (by simp [hss]) rfl) ?_
              refine d_q rfl rfl (.none rfl) rfl rfl (q_move rfl rfl) ?_
              refine d_off rfl rfl (.no rfl rfl rfl (decide_eq_true (by omega))) rfl rfl ?_
              refine d_off rfl rfl (.no rfl rfl rfl (decide_eq_true (by omega))) rfl rfl ?_
              refine d_off rfl rfl (.no rfl rfl rfl (decide_eq_true (by omega))) rfl rfl ?_
              refine d_off rfl rfl (.no rfl rfl rfl (decide_eq_true (by omega))) rfl rfl ?_
              refine d_off rfl rfl (.no rfl rfl rfl (decide_eq_true (by omega))) rfl rfl ?_
              refine d_off rfl rfl (.no rfl rfl rfl (decide_eq_true (by omega))) rfl rfl ?_
              refine d_off rfl rfl (.no rfl rfl rfl (decide_eq_true (by omega))) rfl rfl ?_
              refine d_off rfl rfl (.no rfl rfl rfl (decide_eq_true (by omega))) rfl rfl ?_
              refine d_off rfl rfl (.no rfl rfl rfl (decide_eq_true (by omega))) rfl rfl ?_
              refine d_off rfl rfl (.no rfl rfl rfl (decide_eq_true (by omega))) rfl rfl ?_
              refine d_off rfl rfl (.no rfl rfl rfl (decide_eq_true (by omega))) rfl rfl ?_
              refine d_q rfl rfl (.none rfl) rfl rfl (q_pickT rfl rfl (decide_eq_true (by omega)) rfl) ?_
              refine d_nil ?_
              refine run_sub (subMk (.cons (s := 1) rfl (.cons (s := 4) rfl (.cons (s := 5) rfl (.cons (s := 6) rfl (.cons (s := 10) rfl (.cons (s := 12) rfl (.cons (s := 14) rfl (.cons (s := 165) rfl .nil)))))))) .refl) ?_
              refine run_condT rfl rfl ?_
              refine run_exit rfl ?_
              refine run_region ?_
              refine run_q (.none rfl) rfl rfl (q_move rfl rfl) ?_
              refine run_q (.none rfl) rfl rfl (q_add rfl rfl rfl (by omega)) ?_
              refine run_q (.none rfl) rfl rfl (q_assign rfl rfl) ?_
              refine run_nil ?_
              refine run_sub (subMk (.cons (s := 1) rfl (.cons (s := 4) rfl (.cons (s := 5) rfl (.cons (s := 6) rfl (.cons (s := 10) rfl (.cons (s := 12) rfl (.cons (s := 14) rfl .nil))))))) .refl) ?_
              exact run_again (k + 1) (by (try dsimp only); exact (by omega)) (by (try dsimp only); omega) (subMk (.cons' (s := 14) rfl (vint (by omega)) (.cons (s := 1) rfl (.cons (s := 4) rfl (.cons (s := 5) rfl (.cons (s := 6) rfl (.cons (s := 10) rfl (.cons (s := 12) rfl .nil))))))) (.cons Sel.here .refl (.cons Sel.here .refl (.cons Sel.here .refl (.cons Sel.here .refl (.cons Sel.here .refl (.cons Sel.here .refl (.cons Sel.here .refl (.cons Sel.here .refl .nil)))))))))
            · refine run_draw [(0, 0), (1, 0), (2, 0), (3, 0), (4, 0), (5, 0), (6, 0), (7, 0), (8, 0), (9, 0), (10, 0), (11, 0), (12, 0), (13, 0), (14, 0), (15, 0), (16, 0), (17, 0), (18, 0), (19, 0), (20, 0), (21, 0), (22, 0), (23, 0), (24, 0), (25, 0), (26, 0), (27, 0), (28, 0), (29, 0), (30, 0), (31, 0), (32, 0), (33, 0), (34, 0), (35, 0), (36, 0)] mixed (by kernel_rfl) .refl ?_
              refine d_q rfl rfl (.none rfl) rfl rfl (q_move rfl rfl) ?_
              refine d_q rfl rfl (.none rfl) rfl rfl (q_move rfl rfl) ?_
              refine d_q rfl rfl (.none rfl) rfl rfl (q_indexS (q := k) rfl Try.underlying37 sz25 rfl rfl (.inp hx .no) (by simp <;> omega) rfl (by omega)) ?_
              refine d_q rfl rfl (.none rfl) rfl rfl (q_fieldAddr (d := 5) rfl Try.underlying25 rfl rfl sz3 rfl) ?_
              refine d_q rfl rfl (.none rfl) rfl rfl (q_loadF rfl one3 rfl (.inp hx .no) (getmap (by omega)) rfl) ?_
              refine d_q rfl rfl (.none rfl) rfl rfl (q_move rfl rfl) ?_
              refine d_q rfl rfl (.none rfl) rfl rfl (q_move rfl rfl) ?_
              refine d_q rfl rfl (.none rfl) rfl rfl (q_indexS (q := i) rfl Try.underlying37 sz25 rfl rfl (.inp hx .no) (by simp <;> omega) rfl (by omega)) ?_
              refine d_q rfl rfl (.none rfl) rfl rfl (q_fieldAddr (d := 5) rfl Try.underlying25 rfl rfl sz3 rfl) ?_
              refine d_q rfl rfl (.none rfl) rfl rfl (q_loadF rfl one3 rfl (.inp hx .no) (getmap (by omega)) rfl) ?_
              refine d_q rfl rfl (.none rfl) rfl rfl (q_neq rfl rfl rfl) ?_
              refine d_q rfl rfl (.none rfl) rfl rfl (q_move rfl rfl) ?_
              refine d_q rfl rfl (.on rfl rfl rfl (by simp [hss])) rfl rfl (q_move rfl rfl) ?_
              refine d_q rfl rfl (.on rfl rfl rfl (by simp [hss])) rfl rfl (q_move rfl rfl) ?_
              refine d_q rfl rfl (.on rfl rfl rfl (by simp [hss])) rfl rfl (q_indexS (q := k) rfl Try.underlying37 sz25 rfl rfl (.inp hx .no) (by simp <;> omega) rfl (by omega)) ?_
              refine d_q rfl rfl (.on rfl rfl rfl (by simp [hss])) rfl rfl (q_fieldAddr (d := 3) rfl Try.underlying25 rfl rfl sz3 rfl) ?_
              refine d_q rfl rfl (.on rfl rfl rfl (by simp [hss])) rfl rfl (q_loadF rfl one3 rfl (.inp hx .no) (getmap (by omega)) rfl) ?_
              refine d_q rfl rfl (.on rfl rfl rfl (by simp [hss])) rfl rfl (q_move rfl rfl) ?_
              refine d_q rfl rfl (.on rfl rfl rfl (by simp [hss])) rfl rfl (q_move rfl rfl) ?_
              refine d_q rfl rfl (.on rfl rfl rfl (by simp [hss])) rfl rfl (q_indexS (q := i) rfl Try.underlying37 sz25 rfl rfl (.inp hx .no) (by simp <;> omega) rfl (by omega)) ?_
              refine d_q rfl rfl (.on rfl rfl rfl (by simp [hss])) rfl rfl (q_fieldAddr (d := 4) rfl Try.underlying25 rfl rfl sz3 rfl) ?_
              refine d_q rfl rfl (.on rfl rfl rfl (by simp [hss])) rfl rfl (q_loadF rfl one3 rfl (.inp hx .no) (getmap (by omega)) rfl) ?_
              refine d_q rfl rfl (.on rfl rfl rfl (by simp [hss])) rfl rfl (q_gtr rfl rfl rfl) ?_
              refine d_q rfl rfl (.none rfl) rfl rfl (q_pickF rfl rfl (by simp [hss]) rfl) ?_
              refine d_q rfl rfl (.none rfl) rfl rfl (q_move rfl rfl) ?_
              refine d_off rfl rfl (.no rfl rfl rfl (decide_eq_true (by omega))) rfl rfl ?_
              refine d_off rfl rfl (.no rfl rfl rfl (decide_eq_true (by omega))) rfl rfl ?_
              refine d_off rfl rfl (.no rfl rfl rfl (decide_eq_true (by omega))) rfl rfl ?_
              refine d_off rfl rfl (.no rfl rfl rfl (decide_eq_true (by omega))) rfl rfl ?_
              refine d_off rfl rfl (.no rfl rfl rfl (decide_eq_true (by omega))) rfl rfl ?_
              refine d_off rfl rfl (.no rfl rfl rfl (decide_eq_true (by omega))) rfl rfl ?_
              refine d_off rfl rfl (.no rfl rfl rfl (decide_eq_true (by omega))) rfl rfl ?_
              refine d_off rfl rfl (.no rfl rfl rfl (decide_eq_true (by omega))) rfl rfl ?_
              refine d_off rfl rfl (.no rfl rfl rfl (decide_eq_true (by omega))) rfl rfl ?_
              refine d_off rfl rfl (.no rfl rfl rfl (decide_eq_true (by omega))) rfl rfl ?_
              refine d_off rfl rfl (.no rfl rfl rfl (decide_eq_true (by omega))) rfl rfl ?_
              refine d_q rfl rfl (.none rfl) rfl rfl (q_pickT rfl rfl (decide_eq_true (by omega)) rfl) ?_
              refine d_nil ?_
              refine run_sub (subMk (.cons (s := 1) rfl (.cons (s := 4) rfl (.cons (s := 5) rfl (.cons (s := 6) rfl (.cons (s := 10) rfl (.cons (s := 12) rfl (.cons (s := 14) rfl (.cons (s := 165) rfl .nil)))))))) .refl) ?_
              refine run_condT rfl rfl ?_
              refine run_exit rfl ?_
              refine run_region ?_
              refine run_q (.none rfl) rfl rfl (q_move rfl rfl) ?_
              refine run_q (.none rfl) rfl rfl (q_add rfl rfl rfl (by omega)) ?_
              refine run_q (.none rfl) rfl rfl (q_assign rfl rfl) ?_
              refine run_nil ?_
              refine run_sub (subMk (.cons (s := 1) rfl (.cons (s := 4) rfl (.cons (s := 5) rfl (.cons (s := 6) rfl (.cons (s := 10) rfl (.cons (s := 12) rfl (.cons (s := 14) rfl .nil))))))) .refl) ?_
              exact run_again (k + 1) (by (try dsimp only); exact (by omega)) (by (try dsimp only); omega) (subMk (.cons' (s := 14) rfl (vint (by omega)) (.cons (s := 1) rfl (.cons (s := 4) rfl (.cons (s := 5) rfl (.cons (s := 6) rfl (.cons (s := 10) rfl (.cons (s := 12) rfl .nil))))))) (.cons Sel.here .refl (.cons Sel.here .refl (.cons Sel.here .refl (.cons Sel.here .refl (.cons Sel.here .refl (.cons Sel.here .refl (.cons Sel.here .refl (.cons Sel.here .refl .nil)))))))))
        · by_cases ho1 : (nth xs k).fst ≤ (nth xs i).lst
          · by_cases ho2 : (nth xs i).fst ≤ (nth xs k).lst
            · refine run_draw [(0, 0), (1, 0), (2, 0), (3, 0), (4, 0), (5, 0), (6, 0), (7, 0), (8, 0), (9, 0), (10, 0), (11, 0), (12, 0), (13, 0), (14, 0), (15, 0), (16, 0), (17, 0), (18, 0), (19, 0), (20, 0), (21, 0), (22, 0), (23, 0), (24, 0), (25, 0), (26, 0), (27, 0), (28, 0), (29, 0), (30, 0), (31, 0), (32, 0), (33, 0), (34, 0), (35, 0), (36, 0)] mixed (by kernel_rfl) .refl ?_
              refine d_q rfl rfl (.none rfl) rfl rfl (q_move rfl rfl) ?_
              refine d_q rfl rfl (.none rfl) rfl rfl (q_move rfl rfl) ?_
              refine d_q rfl rfl (.none rfl) rfl rfl (q_indexS (q := k) rfl Try.underlying37 sz25 rfl rfl (.inp hx .no) (by simp <;> omega) rfl (by omega)) ?_
              refine d_q rfl rfl (.none rfl) rfl rfl (q_fieldAddr (d := 5) rfl Try.underlying25 rfl rfl sz3 rfl) ?_
              refine d_q rfl rfl (.none rfl) rfl rfl (q_loadF rfl one3 rfl (.inp hx .no) (getmap (by omega)) rfl) ?_
              refine d_q rfl rfl (.none rfl) rfl rfl (q_move rfl rfl) ?_
              refine d_q rfl rfl (.none rfl) rfl rfl (q_move rfl rfl) ?_
              refine d_q rfl rfl (.none rfl) rfl rfl (q_indexS (q := i) rfl Try.underlying37 sz25 rfl rfl (.inp hx .no) (by simp <;> omega) rfl (by omega)) ?_
              refine d_q rfl rfl (.none rfl) rfl rfl (q_fieldAddr (d := 5) rfl Try.underlying25 rfl rfl sz3 rfl) ?_
              refine d_q rfl rfl (.none rfl) rfl rfl (q_loadF rfl one3 rfl (.inp hx .no) (getmap (by omega)) rfl) ?_
              refine d_q rfl rfl (.none rfl) rfl rfl (q_neq rfl rfl rfl) ?_
              refine d_q rfl rfl (.none rfl) rfl rfl (q_move rfl rfl) ?_
              refine d_off rfl rfl (.no rfl rfl rfl (by simp [hss])) rfl rfl ?_
              refine d_off rfl rfl (.no rfl rfl rfl (by simp [hss])) rfl rfl ?_
              refine d_off rfl rfl (.no rfl rfl rfl (by simp [hss])) rfl rfl ?_
              refine d_off rfl rfl (.no rfl rfl rfl (by simp [hss])) rfl rfl ?_
              refine d_off rfl rfl (.no rfl rfl rfl (by simp [hss])) rfl rfl ?_
              refine d_off rfl rfl (.no rfl rfl rfl (by simp [hss])) rfl rfl ?_
              refine d_off rfl rfl (.no rfl rfl rfl (by simp [hss])) rfl rfl ?_
              refine d_off rfl rfl (.no rfl rfl rfl (by simp [hss])) rfl rfl ?_
              refine d_off rfl rfl (.no rfl rfl rfl (by simp [hss])) rfl rfl ?_
              refine d_off rfl rfl (.no rfl rfl rfl (by simp [hss])) rfl rfl ?_
              refine d_off rfl rfl (.no rfl rfl rfl (by simp [hss])) rfl rfl ?_
              refine d_q rfl rfl (.none rfl) rfl rfl (q_pickT rfl rfl (by simp [hss]) rfl) ?_
              refine d_q rfl rfl (.none rfl) rfl rfl (q_move rfl rfl) ?_
              refine d_off rfl rfl (.no rfl rfl rfl rfl) rfl rfl ?_
              refine d_off rfl rfl (.no rfl rfl rfl rfl) rfl rfl ?_
              refine d_off rfl rfl (.no rfl rfl rfl rfl) rfl rfl ?_
              refine d_off rfl rfl (.no rfl rfl rfl rfl) rfl rfl ?_
              refine d_off rfl rfl (.no rfl rfl rfl rfl) rfl rfl ?_
              refine d_off rfl rfl (.no rfl rfl rfl rfl) rfl rfl ?_
              refine d_off rfl rfl (.no rfl rfl rfl rfl) rfl rfl ?_
              refine d_off rfl rfl (.no rfl rfl rfl rfl) rfl rfl ?_
              refine d_off rfl rfl (.no rfl rfl rfl rfl) rfl rfl ?_
              refine d_off rfl rfl (.no rfl rfl rfl rfl) rfl rfl ?_
              refine d_off rfl rfl (.no rfl rfl rfl rfl) rfl rfl ?_
              refine d_q rfl rfl (.none rfl) rfl rfl (q_pickT rfl rfl rfl rfl) ?_
              refine d_nil ?_
              refine run_sub (subMk (.cons (s := 1) rfl (.cons (s := 4) rfl (.cons (s := 5) rfl (.cons (s := 6) rfl (.cons (s := 10) rfl (.cons (s := 12) rfl (.cons (s := 14) rfl (.cons (s := 165) rfl .nil)))))))) .refl) ?_
              refine run_condT rfl rfl ?_
              refine run_exit rfl ?_
              refine run_region ?_
              refine run_q (.none rfl) rfl rfl (q_move rfl rfl) ?_
              refine run_q (.none rfl) rfl rfl (q_add rfl rfl rfl (by omega)) ?_
              refine run_q (.none rfl) rfl rfl (q_assign rfl rfl) ?_
              refine run_nil ?_
              refine run_sub (subMk (.cons (s := 1) rfl (.cons (s := 4) rfl (.cons (s := 5) rfl (.cons (s := 6) rfl (.cons (s := 10) rfl (.cons (s := 12) rfl (.cons (s := 14) rfl .nil))))))) .refl) ?_
              exact run_again (k + 1) (by (try dsimp only); exact (by omega)) (by (try dsimp only); omega) (subMk (.cons' (s := 14) rfl (vint (by omega)) (.cons (s := 1) rfl (.cons (s := 4) rfl (.cons (s := 5) rfl (.cons (s := 6) rfl (.cons (s := 10) rfl (.cons (s := 12) rfl .nil))))))) (.cons Sel.here .refl (.cons Sel.here .refl (.cons Sel.here .refl (.cons Sel.here .refl (.cons Sel.here .refl (.cons Sel.here .refl (.cons Sel.here .refl (.cons Sel.here .refl .nil)))))))))
            · refine run_draw [(0, 0), (1, 0), (2, 0), (3, 0), (4, 0), (5, 0), (6, 0), (7, 0), (8, 0), (9, 0), (10, 0), (11, 0), (12, 0), (13, 0), (14, 0), (15, 0), (16, 0), (17, 0), (18, 0), (19, 0), (20, 0), (21, 0), (22, 0), (23, 0), (24, 0), (25, 0), (26, 0), (27, 0), (28, 0), (29, 0), (30, 0), (31, 0), (32, 0), (33, 0), (34, 0), (35, 0), (36, 0)] mixed (by kernel_rfl) .refl ?_
              refine d_q rfl rfl (.none rfl) rfl rfl (q_move rfl rfl) ?_
              refine d_q rfl rfl (.none rfl) rfl rfl (q_move rfl rfl) ?_
              refine d_q rfl rfl (.none rfl) rfl rfl (q_indexS (q := k) rfl Try.underlying37 sz25 rfl rfl (.inp hx .no) (by simp <;> omega) rfl (by omega)) ?_
              refine d_q rfl rfl (.none rfl) rfl rfl (q_fieldAddr (d := 5) rfl Try.underlying25 rfl rfl sz3 rfl) ?_
              refine d_q rfl rfl (.none rfl) rfl rfl (q_loadF rfl one3 rfl (.inp hx .no) (getmap (by omega)) rfl) ?_
              refine d_q rfl rfl (.none rfl) rfl rfl (q_move rfl rfl) ?_
              refine d_q rfl rfl (.none rfl) rfl rfl (q_move rfl rfl) ?_
              refine d_q rfl rfl (.none rfl) rfl rfl (q_indexS (q := i) rfl Try.underlying37 sz25 rfl rfl (.inp hx .no) (by simp <;> omega) rfl (by omega)) ?_
              refine d_q rfl rfl (.none rfl) rfl rfl (q_fieldAddr (d := 5) rfl Try.underlying25 rfl rfl sz3 rfl) ?_
              refine d_q rfl rfl (.none rfl) rfl rfl (q_loadF rfl one3 rfl (.inp hx .no) (getmap (by omega)) rfl) ?_
              refine d_q rfl rfl (.none rfl) rfl rfl (q_neq rfl rfl rfl) ?_
              refine d_q rfl rfl (.none rfl) rfl rfl (q_move rfl rfl) ?_
              refine d_off rfl rfl (.no rfl rfl rfl (by simp [hss])) rfl rfl ?_
              refine d_off rfl rfl (.no rfl rfl rfl (by simp [hss])) rfl rfl ?_
              refine d_off rfl rfl (.no rfl rfl rfl (by simp [hss])) rfl rfl ?_
              refine d_off rfl rfl (.no rfl rfl rfl (by simp [hss])) rfl rfl ?_
              refine d_off rfl rfl (.no rfl rfl rfl (by simp [hss])) rfl rfl ?_
              refine d_off rfl rfl (.no rfl rfl rfl (by simp [hss])) rfl rfl ?_
              refine d_off rfl rfl (.no rfl rfl rfl (by simp [hss])) rfl rfl ?_
              refine d_off rfl rfl (.no rfl rfl rfl (by simp [hss])) rfl rfl ?_
              refine d_off rfl rfl (.no rfl rfl rfl (by simp [hss])) rfl rfl ?_
              refine d_off rfl rfl (.no rfl rfl rfl (by simp [hss])) rfl rfl ?_
              refine d_off rfl rfl (.no rfl rfl rfl (by simp [hss])) rfl rfl ?_
              refine d_q rfl rfl (.none rfl) rfl rfl (q_pickT rfl rfl (by simp [hss]) rfl) ?_
              refine d_q rfl rfl (.none rfl) rfl rfl (q_move rfl rfl) ?_
              refine d_off rfl rfl (.no rfl rfl rfl rfl) rfl rfl ?_
              refine d_off rfl rfl (.no rfl rfl rfl rfl) rfl rfl ?_
              refine d_off rfl rfl (.no rfl rfl rfl rfl) rfl rfl ?_
              refine d_off rfl rfl (.no rfl rfl rfl rfl) rfl rfl ?_
              refine d_off rfl rfl (.no rfl rfl rfl rfl) rfl rfl ?_
              refine d_off rfl rfl (.no rfl rfl rfl rfl) rfl rfl ?_
              refine d_off rfl rfl (.no rfl rfl rfl rfl) rfl rfl ?_
              refine d_off rfl rfl (.no rfl rfl rfl rfl) rfl rfl ?_
              refine d_off rfl rfl (.no rfl rfl rfl rfl) rfl rfl ?_
              refine d_off rfl rfl (.no rfl rfl rfl rfl) rfl rfl ?_
              refine d_off rfl rfl (.no rfl rfl rfl rfl) rfl rfl ?_
              refine d_q rfl rfl (.none rfl) rfl rfl (q_pickT rfl rfl rfl rfl) ?_
              refine d_nil ?_
              refine run_sub (subMk (.cons (s := 1) rfl (.cons (s := 4) rfl (.cons (s := 5) rfl (.cons (s := 6) rfl (.cons (s := 10) rfl (.cons (s := 12) rfl (.cons (s := 14) rfl (.cons (s := 165) rfl .nil)))))))) .refl) ?_
              refine run_condT rfl rfl ?_
              refine run_exit rfl ?_
              refine run_region ?_
              refine run_q (.none rfl) rfl rfl (q_move rfl rfl) ?_
              refine run_q (.none rfl) rfl rfl (q_add rfl rfl rfl (by omega)) ?_
              refine run_q (.none rfl) rfl rfl (q_assign rfl rfl) ?_
              refine run_nil ?_
              refine run_sub (subMk (.cons (s := 1) rfl (.cons (s := 4) rfl (.cons (s := 5) rfl (.cons (s := 6) rfl (.cons (s := 10) rfl (.cons (s := 12) rfl (.cons (s := 14) rfl .nil))))))) .refl) ?_
              exact run_again (k + 1) (by (try dsimp only); exact (by omega)) (by (try dsimp only); omega) (subMk (.cons' (s := 14) rfl (vint (by omega)) (.cons (s := 1) rfl (.cons (s := 4) rfl (.cons (s := 5) rfl (.cons (s := 6) rfl (.cons (s := 10) rfl (.cons (s := 12) rfl .nil))))))) (.cons Sel.here .refl (.cons Sel.here .refl (.cons Sel.here .refl (.cons Sel.here .refl (.cons Sel.here .refl (.cons Sel.here .refl (.cons Sel.here .refl (.cons Sel.here .refl .nil)))))))))
          · by_cases ho2 : (nth xs i).fst ≤ (nth xs k).lst
            · refine run_draw [(0, 0), (1, 0), (2, 0), (3, 0), (4, 0), (5, 0), (6, 0), (7, 0), (8, 0), (9, 0), (10, 0), (11, 0), (12, 0), (13, 0), (14, 0), (15, 0), (16, 0), (17, 0), (18, 0), (19, 0), (20, 0), (21, 0), (22, 0), (23, 0), (24, 0), (25, 0), (26, 0), (27, 0), (28, 0), (29, 0), (30, 0), (31, 0), (32, 0), (33, 0), (34, 0), (35, 0), (36, 0)] mixed (by kernel_rfl) .refl ?_
              refine d_q rfl rfl (.none rfl) rfl rfl (q_move rfl rfl) ?_
              refine d_q rfl rfl (.none rfl) rfl rfl (q_move rfl rfl) ?_
              refine d_q rfl rfl (.none rfl) rfl rfl (q_indexS (q := k) rfl Try.underlying37 sz25 rfl rfl (.inp hx .no) (by simp <;> omega) rfl (by omega)) ?_
              refine d_q rfl rfl (.none rfl) rfl rfl (q_fieldAddr (d := 5) rfl Try.underlying25 rfl rfl sz3 rfl) ?_
              refine d_q rfl rfl (.none rfl) rfl rfl (q_loadF rfl one3 rfl (.inp hx .no) (getmap (by omega)) rfl) ?_
              refine d_q rfl rfl (.none rfl) rfl rfl (q_move rfl rfl) ?_
              refine d_q rfl rfl (.none rfl) rfl rfl (q_move rfl rfl) ?_
              refine d_q rfl rfl (.none rfl) rfl rfl (q_indexS (q := i) rfl Try.underlying37 sz25 rfl rfl (.inp hx .no) (by simp <;> omega) rfl (by omega)) ?_
              refine d_q rfl rfl (.none rfl) rfl rfl (q_fieldAddr (d := 5) rfl Try.underlying25 rfl rfl sz3 rfl) ?_
              refine d_q rfl rfl (.none rfl) rfl rfl (q_loadF rfl one3 rfl (.inp hx .no) (getmap (by omega)) rfl) ?_
              refine d_q rfl rfl (.none rfl) rfl rfl (q_neq rfl rfl rfl) ?_
              refine d_q rfl rfl (.none rfl) rfl rfl (q_move rfl rfl) ?_
              refine d_off rfl rfl (.no rfl rfl rfl (by simp [hss])) rfl rfl ?_
              refine d_off rfl rfl (.no rfl rfl rfl (by simp [hss])) rfl rfl ?_
              refine d_off rfl rfl (.no rfl rfl rfl (by simp [hss])) rfl rfl ?_
              refine d_off rfl rfl (.no rfl rfl rfl (by simp [hss])) rfl rfl ?_
              refine d_off rfl rfl (.no rfl rfl rfl (by simp [hss])) rfl rfl ?_
              refine d_off rfl rfl (.no rfl rfl rfl (by simp [hss])) rfl rfl ?_
              refine d_off rfl rfl (.no rfl rfl rfl (by simp [hss])) rfl rfl ?_
              refine d_off rfl rfl (.no rfl rfl rfl (by simp [hss])) rfl rfl ?_
              refine d_off rfl rfl (.no rfl rfl rfl (by simp [hss])) rfl rfl ?_
              refine d_off rfl rfl (.no rfl rfl rfl (by simp [hss])) rfl rfl ?_
              refine d_off rfl rfl (.no rfl rfl rfl (by simp [hss])) rfl rfl ?_
              refine d_q rfl rfl (.none rfl) rfl rfl (q_pickT rfl rfl (by simp [hss]) rfl) ?_
              refine d_q rfl rfl (.none rfl) rfl rfl (q_move rfl rfl) ?_
              refine d_off rfl rfl (.no rfl rfl rfl rfl) rfl rfl ?_
              refine d_off rfl rfl (.no rfl rfl rfl rfl) rfl rfl ?_
              refine d_off rfl rfl (.no rfl rfl rfl rfl) rfl rfl ?_
              refine d_off rfl rfl (.no rfl rfl rfl rfl) rfl rfl ?_
              refine d_off rfl rfl (.no rfl rfl rfl rfl) rfl rfl ?_
              refine d_off rfl rfl (.no rfl rfl rfl rfl) rfl rfl ?_
              refine d_off rfl rfl (.no rfl rfl rfl rfl) rfl rfl ?_
              refine d_off rfl rfl (.no rfl rfl rfl rfl) rfl rfl ?_
              refine d_off rfl rfl (.no rfl rfl rfl rfl) rfl rfl ?_
              refine d_off rfl rfl (.no rfl rfl rfl rfl) rfl rfl ?_
              refine d_off rfl rfl (.no rfl rfl rfl rfl) rfl rfl ?_
              refine d_q rfl rfl (.none rfl) rfl rfl (q_pickT rfl rfl rfl rfl) ?_
              refine d_nil ?_
              refine run_sub (subMk (.cons (s := 1) rfl (.cons (s := 4) rfl (.cons (s := 5) rfl (.cons (s := 6) rfl (.cons (s := 10) rfl (.cons (s := 12) rfl (.cons (s := 14) rfl (.cons (s := 165) rfl .nil)))))))) .refl) ?_
              refine run_condT rfl rfl ?_
              refine run_exit rfl ?_
              refine run_region ?_
              refine run_q (.none rfl) rfl rfl (q_move rfl rfl) ?_
              refine run_q (.none rfl) rfl rfl (q_add rfl rfl rfl (by omega)) ?_
              refine run_q (.none rfl) rfl rfl (q_assign rfl rfl) ?_
              refine run_nil ?_
              refine run_sub (subMk (.cons (s := 1) rfl (.cons (s := 4) rfl (.cons (s := 5) rfl (.cons (s := 6) rfl (.cons (s := 10) rfl (.cons (s := 12) rfl (.cons (s := 14) rfl .nil))))))) .refl) ?_
              exact run_again (k + 1) (by (try dsimp only); exact (by omega)) (by (try dsimp only); omega) (subMk (.cons' (s := 14) rfl (vint (by omega)) (.cons (s := 1) rfl (.cons (s := 4) rfl (.cons (s := 5) rfl (.cons (s := 6) rfl (.cons (s := 10) rfl (.cons (s := 12) rfl .nil))))))) (.cons Sel.here .refl (.cons Sel.here .refl (.cons Sel.here .refl (.cons Sel.here .refl (.cons Sel.here .refl (.cons Sel.here .refl (.cons Sel.here .refl (.cons Sel.here .refl .nil)))))))))
            · refine run_draw [(0, 0), (1, 0), (2, 0), (3, 0), (4, 0), (5, 0), (6, 0), (7, 0), (8, 0), (9, 0), (10, 0), (11, 0), (12, 0), (13, 0), (14, 0), (15, 0), (16, 0), (17, 0), (18, 0), (19, 0), (20, 0), (21, 0), (22, 0), (23, 0), (24, 0), (25, 0), (26, 0), (27, 0), (28, 0), (29, 0), (30, 0), (31, 0), (32, 0), (33, 0), (34, 0), (35, 0), (36, 0)] mixed (by kernel_rfl) .refl ?_
              refine d_q rfl rfl (.none rfl) rfl rfl (q_move rfl rfl) ?_
              refine d_q rfl rfl (.none rfl) rfl rfl (q_move rfl rfl) ?_
              refine d_q rfl rfl (.none rfl) rfl rfl (q_indexS (q := k) rfl Try.underlying37 sz25 rfl rfl (.inp hx .no) (by simp <;> omega) rfl (by omega)) ?_
              refine d_q rfl rfl (.none rfl) rfl rfl (q_fieldAddr (d := 5) rfl Try.underlying25 rfl rfl sz3 rfl) ?_
              refine d_q rfl rfl (.none rfl) rfl rfl (q_loadF rfl one3 rfl (.inp hx .no) (getmap (by omega)) rfl) ?_
              refine d_q rfl rfl (.none rfl) rfl rfl (q_move rfl rfl) ?_
              refine d_q rfl rfl (.none rfl) rfl rfl (q_move rfl rfl) ?_
              refine d_q rfl rfl (.none rfl) rfl rfl (q_indexS (q := i) rfl Try.underlying37 sz25 rfl rfl (.inp hx .no) (by simp <;> omega) rfl (by omega)) ?_
              refine d_q rfl rfl (.none rfl) rfl rfl (q_fieldAddr (d := 5) rfl Try.underlying25 rfl rfl sz3 rfl) ?_
              refine d_q rfl rfl (.none rfl) rfl rfl (q_loadF rfl one3 rfl (.inp hx .no) (getmap (by omega)) rfl) ?_
              refine d_q rfl rfl (.none rfl) rfl rfl (q_neq rfl rfl rfl) ?_
              refine d_q rfl rfl (.none rfl) rfl rfl (q_move rfl rfl) ?_
              refine d_off rfl rfl (.no rfl rfl rfl (by simp [hss])) rfl rfl ?_
              refine d_off rfl rfl (.no rfl rfl rfl (by simp [hss])) rfl rfl ?_
              refine d_off rfl rfl (.no rfl rfl rfl (by simp [hss])) rfl rfl ?_
              refine d_off rfl rfl (.no rfl rfl rfl (by simp [hss])) rfl rfl ?_
              refine d_off rfl rfl (.no rfl rfl rfl (by simp [hss])) rfl rfl ?_
              refine d_off rfl rfl (.no rfl rfl rfl (by simp [hss])) rfl rfl ?_
              refine d_off rfl rfl (.no rfl rfl rfl (by simp [hss])) rfl rfl ?_
              refine d_off rfl rfl (.no rfl rfl rfl (by simp [hss])) rfl rfl ?_
              refine d_off rfl rfl (.no rfl rfl rfl (by simp [hss])) rfl rfl ?_
              refine d_off rfl rfl (.no rfl rfl rfl (by simp [hss])) rfl rfl ?_
              refine d_off rfl rfl (.no rfl rfl rfl (by simp [hss])) rfl rfl ?_
              refine d_q rfl rfl (.none rfl) rfl rfl (q_pickT rfl rfl (by simp [hss]) rfl) ?_
              refine d_q rfl rfl (.none rfl) rfl rfl (q_move rfl rfl) ?_
              refine d_off rfl rfl (.no rfl rfl rfl rfl) rfl rfl ?_
              refine d_off rfl rfl (.no rfl rfl rfl rfl) rfl rfl ?_
              refine d_off rfl rfl (.no rfl rfl rfl rfl) rfl rfl ?_
              refine d_off rfl rfl (.no rfl rfl rfl rfl) rfl rfl ?_
              refine d_off rfl rfl (.no rfl rfl rfl rfl) rfl rfl ?_
              refine d_off rfl rfl (.no rfl rfl rfl rfl) rfl rfl ?_
              refine d_off rfl rfl (.no rfl rfl rfl rfl) rfl rfl ?_
              refine d_off rfl rfl (.no rfl rfl rfl rfl) rfl rfl ?_
              refine d_off rfl rfl (.no rfl rfl rfl rfl) rfl rfl ?_
              refine d_off rfl rfl (.no rfl rfl rfl rfl) rfl rfl ?_
              refine d_off rfl rfl (.no rfl rfl rfl rfl) rfl rfl ?_
              refine d_q rfl rfl (.none rfl) rfl rfl (q_pickT rfl rfl rfl rfl) ?_
              refine d_nil ?_
              refine run_sub (subMk (.cons (s := 1) rfl (.cons (s := 4) rfl (.cons (s := 5) rfl (.cons (s := 6) rfl (.cons (s := 10) rfl (.cons (s := 12) rfl (.cons (s := 14) rfl (.cons (s := 165) rfl .nil)))))))) .refl) ?_
              refine run_condT rfl rfl ?_
              refine run_exit rfl ?_
              refine run_region ?_
              refine run_q (.none rfl) rfl rfl (q_move rfl rfl) ?_
              refine run_q (.none rfl) rfl rfl (q_add rfl rfl rfl (by omega)) ?_
              refine run_q (.none rfl) rfl rfl (q_assign rfl rfl) ?_
              refine run_nil ?_
              refine run_sub (subMk (.cons (s := 1) rfl (.cons (s := 4) rfl (.cons (s := 5) rfl (.cons (s := 6) rfl (.cons (s := 10) rfl (.cons (s := 12) rfl (.cons (s := 14) rfl .nil))))))) .refl) ?_
              exact run_again (k + 1) (by (try dsimp only); exact (by omega)) (by (try dsimp only); omega) (subMk (.cons' (s := 14) rfl (vint (by omega)) (.cons (s := 1) rfl (.cons (s := 4) rfl (.cons (s := 5) rfl (.cons (s := 6) rfl (.cons (s := 10) rfl (.cons (s := 12) rfl .nil))))))) (.cons Sel.here .refl (.cons Sel.here .refl (.cons Sel.here .refl (.cons Sel.here .refl (.cons Sel.here .refl (.cons Sel.here .refl (.cons Sel.here .refl (.cons Sel.here .refl .nil)))))))))
      · have g126' := g126
        try simp only [decide_eq_true_eq, decide_eq_false_iff_not, beq_iff_eq, beq_eq_false_iff_ne, bne_iff_ne, bne_eq_false_iff_eq, Bool.not_eq_true', Bool.not_eq_false', ne_eq, Int.not_lt, Int.not_le, Decidable.not_not] at g126'
        refine run_exit rfl ?_
        refine run_sub (subMk (.cons (s := 1) rfl (.cons (s := 4) rfl (.cons (s := 5) rfl (.cons (s := 6) rfl (.cons (s := 10) rfl (.cons (s := 12) rfl .nil)))))) .refl) ?_
        refine run_blk ?_
        refine run_region ?_
        refine run_q (.none rfl) rfl rfl (q_move rfl rfl) ?_
        refine run_q (.none rfl) rfl rfl (q_add rfl rfl rfl (by omega)) ?_
        refine run_q (.none rfl) rfl rfl (q_assign rfl rfl) ?_
        refine run_nil ?_
        exact run_again (i + 1) (by (try dsimp only); exact (by omega)) (by (try dsimp only); omega) (subMk (.cons' (s := 12) rfl (vint (by omega)) (.cons (s := 1) rfl (.cons (s := 4) rfl (.cons (s := 5) rfl (.cons (s := 6) rfl (.cons (s := 10) rfl .nil)))))) (.cons Sel.here .refl (.cons Sel.here .refl (.cons Sel.here .refl (.cons Sel.here .refl (.cons Sel.here .refl (.cons Sel.here .refl (.cons Sel.here .refl (.cons Sel.here .refl .nil)))))))))
  · have g55' := g55
    try simp only [decide_eq_true_eq, decide_eq_false_iff_not, beq_iff_eq, beq_eq_false_iff_ne, bne_iff_ne, bne_eq_false_iff_eq, Bool.not_eq_true', Bool.not_eq_false', ne_eq, Int.not_lt, Int.not_le, Decidable.not_not] at g55'
    refine run_exit rfl ?_
    refine run_sub (subMk (.cons (s := 4) rfl .nil) .refl) ?_
    refine run_seq ?_
    refine run_region ?_
    refine run_q (.none rfl) rfl rfl (q_assign rfl rfl) ?_
    refine run_nil ?_
    refine run_ret ?_
    exact end1 rfl rfl rfl

set_option maxHeartbeats 4000000 in
set_option maxRecDepth 100000 in
theorem law5_err (la lb : List Int) (LA LB : Option Addr) (gca gcb : Nat) (l : List Req) (X : Option Addr) (cx : Nat) (W : World) (hla : Rd W LA 1 (la.map encW)) (hlb : Rd W LB 1 (lb.map encW)) (hbA : ∀ x ∈ la, 0 ≤ x ∧ x ≤ 65535) (hbB : ∀ x ∈ lb, 0 ≤ x ∧ x ≤ 65535) (hca : la.length ≤ 9223372036854775807) (hcb : lb.length ≤ 9223372036854775807) (hr : Rd W X 13 (l.map Req.enc)) (hcx : l.length ≤ cx) (xs : List Req) (hxs : xs = l.take 10) (hE : (placeE xs (gs la lb la (gN la lb)) (gs la lb lb (gN la lb))) ≠ 0) : Calls Try.prog 5 #[.agg #[.slice LA la.length gca, .slice LB lb.length gcb], .slice X l.length cx] W (Hr.Just W (.bool true)) := by
  have hx := rd_take hr hxs
  have hxl : xs.length = min l.length 10 := by rw [hxs]; simp [Nat.min_comm]
  have hg := gN_bd (la := la) (lb := lb)
  have hbdA : Bd (gs la lb la (gN la lb)) := bd_of fun i => gs_bd
  have hbdB : Bd (gs la lb lb (gN la lb)) := bd_of fun i => gs_bd
  have hpl := place_len (xs := xs) (a := (gs la lb la (gN la lb))) (b := (gs la lb lb (gN la lb)))
  have hpbd := place_bd (xs := xs) hbdA hbdB
  have hlA : (gs la lb la (gN la lb)).length = (gN la lb) := gs_len
  have hlB : (gs la lb lb (gN la lb)).length = (gN la lb) := gs_len
  refine Just.of_ret ?_
  refine enterA (X := nX) (vs := [.agg #[.slice LA la.length gca, .slice LB lb.length gcb], .slice X l.length cx]) Try.func5 Try.ntmps5 rfl rfl Mem.nil ?_
  refine run_seq ?_
  refine run_region ?_
  refine run_h (.none rfl) (h_box rfl rfl rfl rfl rfl) ?_
  rintro b2 -
  refine run_q (.none rfl) rfl rfl (q_assign rfl rfl) ?_
  refine run_nil ?_
  refine run_seq ?_
  refine run_region ?_
  refine run_q (.none rfl) rfl rfl (q_move rfl rfl) ?_
  refine run_q (.none rfl) rfl rfl (q_move rfl rfl) ?_
  refine run_q (.none rfl) rfl rfl (q_len rfl Try.underlying37 rfl) ?_
  refine run_q (.none rfl) rfl rfl (q_min2 rfl rfl rfl) ?_
  refine run_q (.none rfl) rfl rfl (q_sliceH rfl Try.underlying37 sz25 rfl rfl (by omega)) ?_
  refine run_q (.none rfl) rfl rfl (q_assign rfl rfl) ?_
  refine run_nil ?_
  refine run_sub (subMk (.cons (s := 1) rfl (.cons (s := 2) rfl (.cons (s := 4) rfl .nil))) .refl) ?_
  refine run_seq ?_
  refine run_sub (subMk (.cons' (s := 1) (v' := .slice X xs.length cx) rfl (by rw [hxl]; congr 1; omega) (.cons (s := 2) rfl (.cons (s := 4) rfl .nil))) .refl) ?_
  refine run_region ?_
  refine run_q (.none rfl) rfl rfl (q_loadBN rfl agg36 rfl Sel.here (.cons rfl (.cons rfl CellsAt.nil)) rfl) ?_
  refine run_h (.none rfl) (h_call rfl rfl rfl call17 (.cons rfl Evs.nil) (fun w hk hm => heights_ret la lb LA LB gca gcb w (hla.kept0 hk) (hlb.kept0 hk) hbA hbB hca hcb)) ?_
  rintro ⟨v, m⟩ ⟨P, cp, Q, cq, rfl, rfl⟩
  show Run _ _ _ _ _ _ _ ⟨(22, .tuple #[.slice P (gN la lb) cp, .slice Q (gN la lb) cq]) :: _, _ :: _ :: _⟩
  refine run_q (.none rfl) rfl rfl (q_move rfl rfl) ?_
  refine run_q (.none rfl) rfl rfl (q_extract rfl rfl rfl) ?_
  refine run_q (.none rfl) rfl rfl (q_extract rfl rfl rfl) ?_
  refine run_q (.none rfl) rfl rfl (q_assign rfl rfl) ?_
  refine run_q (.none rfl) rfl rfl (q_assign rfl rfl) ?_
  refine run_nil ?_
  refine run_sub (subMk (.cons (s := 1) rfl (.cons (s := 4) rfl (.cons (s := 5) rfl (.cons (s := 6) rfl .nil)))) .refl) ?_
  refine run_seq ?_
  refine run_region ?_
  refine run_q (.none rfl) rfl rfl (q_move rfl rfl) ?_
  refine run_q (.none rfl) rfl rfl (q_move rfl rfl) ?_
  refine run_h (.none rfl) (h_call rfl rfl rfl call18 (.cons rfl (.cons rfl Evs.nil)) (fun w hk hm => skylines_ret (gs la lb la (gN la lb)) (gs la lb lb (gN la lb)) (gN la lb) P Q cp cq w (own_rd (Sel.here.holds hm)) (own_rd ((Sel.there Sel.here).holds hm)) gs_len gs_len ⟨by omega, by omega⟩ (fun i => gs_bd) (fun i => gs_bd))) ?_
  rintro ⟨v, m⟩ ⟨pa, pb, A, B, ca, cb, rfl, hcA, hcB, rfl⟩
  show Run _ _ _ _ _ _ _ ⟨(28, .tuple #[.pointer (some ⟨pa, 0, none⟩), .pointer (some ⟨pb, 0, none⟩), .bool true]) :: _, _ :: _ :: _ :: _ :: _⟩
  refine run_q (.none rfl) rfl rfl (q_move rfl rfl) ?_
  refine run_q (.none rfl) rfl rfl (q_extract rfl rfl rfl) ?_
  refine run_q (.none rfl) rfl rfl (q_extract rfl rfl rfl) ?_
  refine run_q (.none rfl) rfl rfl (q_extract rfl rfl rfl) ?_
  refine run_q (.none rfl) rfl rfl (q_assign rfl rfl) ?_
  refine run_q (.none rfl) rfl rfl (q_assign rfl rfl) ?_
  refine run_q (.none rfl) rfl rfl (q_assign rfl rfl) ?_
  refine run_nil ?_
  refine run_sub (subMk (.cons (s := 1) rfl (.cons (s := 4) rfl (.cons (s := 5) rfl (.cons (s := 6) rfl (.cons (s := 7) rfl (.cons (s := 8) rfl (.cons (s := 9) rfl .nil))))))) .refl) ?_
  refine run_seq ?_
  refine run_seq ?_
  refine run_region ?_
  refine run_q (.none rfl) rfl rfl (q_call rfl call13 Evs.nil (fun w hk hm => known_just w)) ?_
  refine run_q (.none rfl) rfl rfl (q_not rfl rfl) ?_
  refine run_q (.none rfl) rfl rfl (q_move rfl rfl) ?_
  refine run_q (.on rfl rfl rfl rfl) rfl rfl (q_move rfl rfl) ?_
  refine run_q (.on rfl rfl rfl rfl) rfl rfl (q_not rfl rfl) ?_
  refine run_q (.none rfl) rfl rfl (q_pickF rfl rfl rfl rfl) ?_
  refine run_nil ?_
  refine run_sub (subMk (.cons (s := 1) rfl (.cons (s := 4) rfl (.cons (s := 5) rfl (.cons (s := 6) rfl (.cons (s := 7) rfl (.cons (s := 8) rfl (.cons (s := 37) rfl .nil))))))) .refl) ?_
  refine run_condF rfl rfl ?_
  refine run_skip ?_
  refine run_seq ?_
  refine run_region ?_
  refine run_q (.none rfl) rfl rfl (q_move rfl rfl) ?_
  refine run_q (.none rfl) rfl rfl (q_move rfl rfl) ?_
  refine run_q (.none rfl) rfl rfl (q_move rfl rfl) ?_
  refine run_h (.none rfl) (h_callX [_, _, _, _] _ rfl rfl rfl call19 (.cons rfl (.cons rfl (.cons rfl Evs.nil))) ((Sel.perm Sel.here).trans (.cons _ ((Sel.perm Sel.here).trans (.cons _ ((Sel.perm Sel.here).trans (.cons _ (Sel.perm Sel.here))))))) (Y := fun _ => atAny [_, _, _, _]) (fun _ _ h => h) (fun w hk hm => Place_n xs X cx (gs la lb la (gN la lb)) (gs la lb lb (gN la lb)) pa pb A B ca cb (gN la lb) w gs_len gs_len ((hm.perm ((Sel.perm Sel.here).trans (.cons _ ((Sel.perm Sel.here).trans (.cons _ ((Sel.perm Sel.here).trans (.cons _ (Sel.perm Sel.here)))))))).give (rs := [_, _, _, _])) (keep_inp hx hk (hm.perm ((Sel.perm Sel.here).trans (.cons _ ((Sel.perm Sel.here).trans (.cons _ ((Sel.perm Sel.here).trans (.cons _ (Sel.perm Sel.here))))))))) (by omega) (by omega) hcA hcB hbdA hbdB)) ?_
  rintro ⟨v, m⟩ ⟨A2, ca2, B2, cb2, O, co, rfl, hcA2, hcB2, rfl⟩
  show Run _ _ _ _ _ _ _ ⟨(42, .tuple #[.slice O (placeM xs (gs la lb la (gN la lb)) (gs la lb lb (gN la lb))).length co, .int .i64 (placeE xs (gs la lb la (gN la lb)) (gs la lb lb (gN la lb)))]) :: _, _ :: _ :: _ :: _ :: _ :: _⟩
  refine run_q (.none rfl) rfl rfl (q_move rfl rfl) ?_
  refine run_q (.none rfl) rfl rfl (q_extract rfl rfl rfl) ?_
  refine run_q (.none rfl) rfl rfl (q_extract rfl rfl rfl) ?_
  refine run_q (.none rfl) rfl rfl (q_assign rfl rfl) ?_
  refine run_q (.none rfl) rfl rfl (q_assign rfl rfl) ?_
  refine run_nil ?_
  refine run_sub (subMk (.cons (s := 1) rfl (.cons (s := 4) rfl (.cons (s := 5) rfl (.cons (s := 6) rfl (.cons (s := 10) rfl (.cons (s := 11) rfl .nil)))))) .refl) ?_
  refine run_seq ?_
  refine run_seq ?_
  refine run_region ?_
  refine run_q (.none rfl) rfl rfl (q_move rfl rfl) ?_
  refine run_q (.none rfl) rfl rfl (q_neq rfl rfl rfl) ?_
  refine run_nil ?_
  refine run_condT rfl (by simpa using hE) ?_
  refine run_seq ?_
  refine run_region ?_
  refine run_q (.none rfl) rfl rfl (q_assign rfl rfl) ?_
  refine run_nil ?_
  refine run_sub (subMk (.cons (s := 1) rfl (.cons (s := 4) rfl (.cons (s := 5) rfl (.cons (s := 6) rfl (.cons (s := 10) rfl .nil))))) .refl) ?_
  refine run_ret ?_
  exact end1 rfl rfl rfl

theorem law5_just (la lb : List Int) (LA LB : Option Addr) (gca gcb : Nat) (l : List Req) (X : Option Addr) (cx : Nat) (W : World) (hla : Rd W LA 1 (la.map encW)) (hlb : Rd W LB 1 (lb.map encW)) (hbA : ∀ x ∈ la, 0 ≤ x ∧ x ≤ 65535) (hbB : ∀ x ∈ lb, 0 ≤ x ∧ x ≤ 65535) (hca : la.length ≤ 9223372036854775807) (hcb : lb.length ≤ 9223372036854775807) (hr : Rd W X 13 (l.map Req.enc)) (hcx : l.length ≤ cx) (xs : List Req) (hxs : xs = l.take 10) : Calls Try.prog 5 #[.agg #[.slice LA la.length gca, .slice LB lb.length gcb], .slice X l.length cx] W (Just W (.bool true)) := by
  by_cases hE : (placeE xs (gs la lb la (gN la lb)) (gs la lb lb (gN la lb))) = 0
  · exact law5_ok la lb LA LB gca gcb l X cx W hla hlb hbA hbB hca hcb hr hcx xs hxs hE
  · exact law5_err la lb LA LB gca gcb l X cx W hla hlb hbA hbB hca hcb hr hcx xs hxs hE

end Go.Proofs.YtgphmbipakdggaaR
