/- The tempo, in the program. -/
import Derived.Test.YtbkmmjpklkallaaT
import Derived.Test.YtbkmmjpklkallaaJ
set_option linter.unusedSimpArgs false
set_option linter.unusedVariables false
namespace Go.Proofs.Ytbkmmjpklkallaa
open Go Go.RowKit Hr

theorem call50 : Hr.Callable Try.prog 50 := fun args w => by kernel_rfl
theorem call49 : Hr.Callable Try.prog 49 := fun args w => by kernel_rfl

set_option maxHeartbeats 2000000 in
set_option maxRecDepth 100000 in
theorem tempo_just (a b : List Note) (A B : Option Addr) (ca cb : Nat) (ps : List Pair) (Q : Option Addr) (cq : Nat) (W : World) (hra : Rd W A 7 (a.map Note.enc)) (hrb : Rd W B 7 (b.map Note.enc)) (hrq : Rd W Q 3 (ps.map Pair.enc)) (hla : a.length ≤ 1000000000000) (hlb : b.length ≤ 1000000000000) (hlq : ps.length ≤ 1000000000000) (hpl : ps.length ≤ 1000000) : Calls Try.prog 32 #[.slice A a.length ca, .slice B b.length cb, .slice Q ps.length cq] W (Hr.Just W (.tuple #[.int .i64 (tempoV a b ps).1, .int .i64 (tempoV a b ps).2.1, .int .i64 (tempoV a b ps).2.2])) := by
  have hrl := Flt.rest_len (p := notM) (l := ps)
  refine Just.of_ret ?_
  refine enterA (X := nX) (vs := [.slice A a.length ca, .slice B b.length cb, .slice Q ps.length cq]) Try.func32 Try.ntmps32 rfl rfl Mem.nil ?_
  refine run_seq ?_
  refine run_region ?_
  refine run_q (.none rfl) rfl rfl (q_assign rfl rfl) ?_
  refine run_q (.none rfl) rfl rfl (q_assign rfl rfl) ?_
  refine run_q (.none rfl) rfl rfl (q_assign rfl rfl) ?_
  refine run_nil ?_
  refine run_seq ?_
  refine run_seq ?_
  refine run_region ?_
  refine run_q (.none rfl) rfl rfl (q_move rfl rfl) ?_
  refine run_q (.none rfl) rfl rfl (q_move rfl rfl) ?_
  refine run_q (.none rfl) rfl rfl (q_move rfl rfl) ?_
  refine run_q (.none rfl) rfl rfl (q_call rfl call22 (.cons rfl (.cons rfl (.cons rfl Evs.nil))) (fun w hk hm => lcheck_just a b A B ca cb ps Q cq w (hra.kept0 hk) (hrb.kept0 hk) (hrq.kept0 hk) hla hlb hlq)) ?_
  refine run_q (.none rfl) rfl rfl (q_assign rfl rfl) ?_
  refine run_nil ?_
  refine run_sub (subMk (.cons (s := 0) rfl (.cons (s := 1) rfl (.cons (s := 2) rfl (.cons (s := 6) rfl (.cons (s := 7) rfl (.cons (s := 8) rfl (.cons (s := 9) rfl .nil))))))) .refl) ?_
  refine run_seq ?_
  refine run_region ?_
  refine run_q (.none rfl) rfl rfl (q_move rfl rfl) ?_
  refine run_q (.none rfl) rfl rfl (q_neq rfl rfl rfl) ?_
  refine run_nil ?_
  refine run_cond rfl (fun g20 => ?_) (fun g20 => ?_)
  · have g20' := g20
    try simp only [decide_eq_true_eq, decide_eq_false_iff_not, beq_iff_eq, beq_eq_false_iff_ne, bne_iff_ne, bne_eq_false_iff_eq, Bool.not_eq_true', Bool.not_eq_false', ne_eq, Int.not_lt, Int.not_le, Decidable.not_not] at g20'
    have hce : checkV a b ps ≠ 0 := by simpa using g20
    refine run_seq ?_
    refine run_region ?_
    refine run_q (.none rfl) rfl rfl (q_move rfl rfl) ?_
    refine run_q (.none rfl) rfl rfl (q_assign rfl rfl) ?_
    refine run_q (.none rfl) rfl rfl (q_assign rfl rfl) ?_
    refine run_q (.none rfl) rfl rfl (q_assign rfl rfl) ?_
    refine run_nil ?_
    refine run_sub (subMk (.cons (s := 0) rfl (.cons (s := 1) rfl (.cons (s := 2) rfl (.cons (s := 6) rfl (.cons (s := 7) rfl (.cons (s := 8) rfl .nil)))))) .refl) ?_
    refine run_ret ?_
    exact end3 rfl rfl rfl rfl (by rw [tempo_err hce])
  · have g20' := g20
    try simp only [decide_eq_true_eq, decide_eq_false_iff_not, beq_iff_eq, beq_eq_false_iff_ne, bne_iff_ne, bne_eq_false_iff_eq, Bool.not_eq_true', Bool.not_eq_false', ne_eq, Int.not_lt, Int.not_le, Decidable.not_not] at g20'
    have hck : checkV a b ps = 0 := by simpa using g20
    refine run_skip ?_
    refine run_seq ?_
    refine run_region ?_
    refine run_q (.none rfl) rfl rfl (q_move rfl rfl) ?_
    refine run_h (.none rfl) (h_call rfl rfl rfl call50 (.cons rfl Evs.nil) (fun w hk hm => cloneP_ret ps Q cq w (hrq.kept0 hk) (by omega))) ?_
    rintro ⟨v, m⟩ ⟨O23, co23, rfl, rfl⟩
    show Run _ _ _ _ _ _ _ ⟨(23, .slice O23 ps.length co23) :: _, _ :: _⟩
    refine run_h (.none rfl) (h_callX [_] _ rfl rfl rfl call49 (.cons rfl (.cons rfl Evs.nil)) (Sel.perm Sel.here) (Y := fun _ => atAny [_]) (fun _ _ h => h) (fun w hk hm => delP_ret ps O23 co23 w ((hm.perm (Sel.perm Sel.here)).give (rs := [_])) (by omega))) ?_
    rintro ⟨v, m⟩ ⟨rfl, rfl⟩
    show Run _ _ _ _ _ _ _ ⟨(24, .slice O23 (Flt.rest notM ps).length co23) :: _, _ :: _⟩
    refine run_q (.none rfl) rfl rfl (q_assign rfl rfl) ?_
    refine run_nil ?_
    refine run_sub (subMk (.cons (s := 0) rfl (.cons (s := 1) rfl (.cons (s := 6) rfl (.cons (s := 7) rfl (.cons (s := 8) rfl (.cons (s := 10) rfl .nil)))))) .refl) ?_
    refine run_seq ?_
    refine run_seq ?_
    refine run_region ?_
    refine run_q (.none rfl) rfl rfl (q_move rfl rfl) ?_
    refine run_q (.none rfl) rfl rfl (q_len rfl Try.underlying28 rfl) ?_
    refine run_q (.none rfl) rfl rfl (q_lss rfl rfl rfl) ?_
    refine run_nil ?_
    refine run_cond rfl (fun g27 => ?_) (fun g27 => ?_)
    · have g27' := g27
      try simp only [decide_eq_true_eq, decide_eq_false_iff_not, beq_iff_eq, beq_eq_false_iff_ne, bne_iff_ne, bne_eq_false_iff_eq, Bool.not_eq_true', Bool.not_eq_false', ne_eq, Int.not_lt, Int.not_le, Decidable.not_not] at g27'
      refine run_seq ?_
      refine run_region ?_
      refine run_q (.none rfl) rfl rfl (q_assign rfl rfl) ?_
      refine run_q (.none rfl) rfl rfl (q_assign rfl rfl) ?_
      refine run_q (.none rfl) rfl rfl (q_assign rfl rfl) ?_
      refine run_nil ?_
      refine run_sub (subMk (.cons (s := 0) rfl (.cons (s := 1) rfl (.cons (s := 6) rfl (.cons (s := 7) rfl (.cons (s := 8) rfl (.cons (s := 10) rfl .nil)))))) .refl) ?_
      refine run_ret ?_
      exact end3 rfl rfl rfl rfl (by rw [tempo_short hck (by omega)])
    · have g27' := g27
      try simp only [decide_eq_true_eq, decide_eq_false_iff_not, beq_iff_eq, beq_eq_false_iff_ne, bne_iff_ne, bne_eq_false_iff_eq, Bool.not_eq_true', Bool.not_eq_false', ne_eq, Int.not_lt, Int.not_le, Decidable.not_not] at g27'
      have h2m : 2 ≤ (Flt.rest notM ps).length := by omega
      obtain ⟨u, v, su, qu, sv, qv, hu, hv, hfst, hlst, hms0, hms1, e1, e2, e3, e4, lt1, lt2, lt3, lt4, hpp, hss, hpb, hsb⟩ := tempo_facts hck h2m
      refine run_skip ?_
      refine run_seq ?_
      refine run_fork mixed (by kernel_rfl) .refl ?_
      refine b_q (i := 0) rfl (by kernel_rfl) (.none rfl) rfl rfl (q_move rfl rfl) ?_
      refine b_q (i := 1) rfl (by kernel_rfl) (.none rfl) rfl rfl (q_indexS (q := 0) rfl Try.underlying28 sz40 rfl rfl (.own Sel.here) (by simp <;> omega) rfl (by omega)) ?_
      refine b_q (i := 2) rfl (by kernel_rfl) (.none rfl) rfl rfl (q_loadE rfl agg40 rfl (.own Sel.here) (getmap (by omega)) rfl) ?_
      refine b_q (i := 3) rfl (by kernel_rfl) (.none rfl) rfl rfl (q_move rfl rfl) ?_
      refine b_q (i := 4) rfl (by kernel_rfl) (.none rfl) rfl rfl (q_move rfl rfl) ?_
      refine b_q (i := 5) rfl (by kernel_rfl) (.none rfl) rfl rfl (q_len rfl Try.underlying28 rfl) ?_
      refine b_q (i := 6) rfl (by kernel_rfl) (.none rfl) rfl rfl (q_sub rfl rfl rfl (by omega)) ?_
      refine b_q (i := 7) rfl (by kernel_rfl) (.none rfl) rfl rfl (q_indexS (q := ((Flt.rest notM ps).length - 1)) rfl Try.underlying28 sz40 rfl rfl (.own Sel.here) (by simp <;> omega) (by omega) (by omega)) ?_
      refine b_q (i := 8) rfl (by kernel_rfl) (.none rfl) rfl rfl (q_loadE rfl agg40 rfl (.own Sel.here) (getmap (by omega)) rfl) ?_
      refine b_two 9 10 (by kernel_rfl) ?_ ?_
      · refine b_h rfl (.none rfl) (h_alloc rfl rfl rfl info40) (fun _ _ => (.sub (by repeat (first | exact List.Sublist.refl _ | apply List.Sublist.cons)))) ?_
        rintro b11 -
        refine b_one 10 (by kernel_rfl) ?_
        refine b_h rfl (.none rfl) (h_alloc rfl rfl rfl info40) (fun _ _ => (.sub (by repeat (first | exact List.Sublist.refl _ | apply List.Sublist.cons)))) ?_
        rintro b12 -
        refine b_one 11 (by kernel_rfl) ?_
        refine b_h rfl (.none rfl) (h_storeB rfl rfl sz40 rfl rfl rfl rfl rfl (.there Sel.here) rfl) (fun _ _ => (.sub (by repeat (first | exact List.Sublist.refl _ | apply List.Sublist.cons)))) ?_
        rintro - -
        refine b_one 12 (by kernel_rfl) ?_
        refine b_h rfl (.none rfl) (h_storeB rfl rfl sz40 rfl rfl rfl rfl rfl (.there Sel.here) rfl) (fun _ _ => (.sub (by repeat (first | exact List.Sublist.refl _ | apply List.Sublist.cons)))) ?_
        rintro - -
        refine b_nil (by kernel_rfl) ?_
        refine run_sub (subMk (.cons (s := 0) rfl (.cons (s := 1) rfl (.cons (s := 6) rfl (.cons (s := 7) rfl (.cons (s := 8) rfl (.cons (s := 11) rfl (.cons (s := 12) rfl .nil))))))) .refl) ?_
        refine run_seq ?_
        refine run_draw [(0, 0), (1, 0), (2, 0), (3, 0), (4, 0), (5, 0), (6, 0), (7, 0), (8, 0), (9, 0), (10, 0), (11, 0), (12, 0), (13, 0), (14, 0), (15, 0), (16, 0), (17, 0), (18, 0), (19, 0), (20, 0), (21, 0), (22, 0), (23, 0), (24, 0), (25, 0), (26, 0), (27, 0)] mixed (by kernel_rfl) .refl ?_
        refine d_q rfl rfl (.none rfl) rfl rfl (q_move rfl rfl) ?_
        refine d_q rfl rfl (.none rfl) rfl rfl (q_fieldB (d := 2) rfl Try.underlying40 rfl rfl sz3 rfl) ?_
        refine d_q rfl rfl (.none rfl) rfl rfl (q_loadB rfl one3 rfl Sel.here rfl) ?_
        refine d_q rfl rfl (.none rfl) rfl rfl (q_indexS (q := qv) rfl Try.underlying22 sz47 rfl rfl (.inp hrb .no) (by simp <;> omega) (by rw [hms1]; exact e4) (by omega)) ?_
        refine d_q rfl rfl (.none rfl) rfl rfl (q_fieldAddr (d := 0) rfl Try.underlying47 rfl rfl sz3 rfl) ?_
        refine d_q rfl rfl (.none rfl) rfl rfl (q_loadF rfl one3 rfl (.inp hrb .no) (getmap (by omega)) rfl) ?_
        refine d_q rfl rfl (.none rfl) rfl rfl (q_move rfl rfl) ?_
        refine d_q rfl rfl (.none rfl) rfl rfl (q_fieldB (d := 2) rfl Try.underlying40 rfl rfl sz3 rfl) ?_
        refine d_q rfl rfl (.none rfl) rfl rfl (q_loadB rfl one3 rfl (.there Sel.here) rfl) ?_
        refine d_q rfl rfl (.none rfl) rfl rfl (q_indexS (q := qu) rfl Try.underlying22 sz47 rfl rfl (.inp hrb .no) (by simp <;> omega) (by rw [hms0]; exact e2) (by omega)) ?_
        refine d_q rfl rfl (.none rfl) rfl rfl (q_fieldAddr (d := 0) rfl Try.underlying47 rfl rfl sz3 rfl) ?_
        refine d_q rfl rfl (.none rfl) rfl rfl (q_loadF rfl one3 rfl (.inp hrb .no) (getmap (by omega)) rfl) ?_
        refine d_q rfl rfl (.none rfl) rfl rfl (q_sub rfl rfl rfl (by omega)) ?_
        refine d_q rfl rfl (.none rfl) rfl rfl (q_move rfl rfl) ?_
        refine d_q rfl rfl (.none rfl) rfl rfl (q_fieldB (d := 1) rfl Try.underlying40 rfl rfl sz3 rfl) ?_
        refine d_q rfl rfl (.none rfl) rfl rfl (q_loadB rfl one3 rfl Sel.here rfl) ?_
        refine d_q rfl rfl (.none rfl) rfl rfl (q_indexS (q := sv) rfl Try.underlying22 sz47 rfl rfl (.inp hra .no) (by simp <;> omega) (by rw [hms1]; exact e3) (by omega)) ?_
        refine d_q rfl rfl (.none rfl) rfl rfl (q_fieldAddr (d := 0) rfl Try.underlying47 rfl rfl sz3 rfl) ?_
        refine d_q rfl rfl (.none rfl) rfl rfl (q_loadF rfl one3 rfl (.inp hra .no) (getmap (by omega)) rfl) ?_
        refine d_q rfl rfl (.none rfl) rfl rfl (q_move rfl rfl) ?_
        refine d_q rfl rfl (.none rfl) rfl rfl (q_fieldB (d := 1) rfl Try.underlying40 rfl rfl sz3 rfl) ?_
        refine d_q rfl rfl (.none rfl) rfl rfl (q_loadB rfl one3 rfl (.there Sel.here) rfl) ?_
        refine d_q rfl rfl (.none rfl) rfl rfl (q_indexS (q := su) rfl Try.underlying22 sz47 rfl rfl (.inp hra .no) (by simp <;> omega) (by rw [hms0]; exact e1) (by omega)) ?_
        refine d_q rfl rfl (.none rfl) rfl rfl (q_fieldAddr (d := 0) rfl Try.underlying47 rfl rfl sz3 rfl) ?_
        refine d_q rfl rfl (.none rfl) rfl rfl (q_loadF rfl one3 rfl (.inp hra .no) (getmap (by omega)) rfl) ?_
        refine d_q rfl rfl (.none rfl) rfl rfl (q_sub rfl rfl rfl (by omega)) ?_
        refine d_q rfl rfl (.none rfl) rfl rfl (q_assign rfl rfl) ?_
        refine d_q rfl rfl (.none rfl) rfl rfl (q_assign rfl rfl) ?_
        refine d_nil ?_
        refine run_sub (subMk (.cons (s := 6) rfl (.cons (s := 7) rfl (.cons (s := 8) rfl .nil))) .refl) ?_
        refine run_seq ?_
        refine run_seq ?_
        refine run_sub (subMk (.cons' (s := 6) (v' := .int .i64 (pN a b ps : Int)) rfl (vint hpp) (.cons' (s := 7) (v' := .int .i64 (sN a b ps : Int)) rfl (vint hss) (.cons (s := 8) rfl .nil))) .refl) ?_
        refine run_region ?_
        refine run_q (.none rfl) rfl rfl (q_move rfl rfl) ?_
        refine run_q (.none rfl) rfl rfl (q_eql rfl rfl rfl) ?_
        refine run_nil ?_
        refine run_cond rfl (fun g64 => ?_) (fun g64 => ?_)
        · have g64' := g64
          try simp only [decide_eq_true_eq, decide_eq_false_iff_not, beq_iff_eq, beq_eq_false_iff_ne, bne_iff_ne, bne_eq_false_iff_eq, Bool.not_eq_true', Bool.not_eq_false', ne_eq, Int.not_lt, Int.not_le, Decidable.not_not] at g64'
          refine run_seq ?_
          refine run_region ?_
          refine run_q (.none rfl) rfl rfl (q_assign rfl rfl) ?_
          refine run_q (.none rfl) rfl rfl (q_assign rfl rfl) ?_
          refine run_q (.none rfl) rfl rfl (q_assign rfl rfl) ?_
          refine run_nil ?_
          refine run_ret ?_
          exact end3 rfl rfl rfl rfl (by rw [tempo_zero hck h2m (by simpa using g64)])
        · have g64' := g64
          try simp only [decide_eq_true_eq, decide_eq_false_iff_not, beq_iff_eq, beq_eq_false_iff_ne, bne_iff_ne, bne_eq_false_iff_eq, Bool.not_eq_true', Bool.not_eq_false', ne_eq, Int.not_lt, Int.not_le, Decidable.not_not] at g64'
          refine run_skip ?_
          refine run_seq ?_
          refine run_region ?_
          refine run_q (.none rfl) rfl rfl (q_move rfl rfl) ?_
          refine run_q (.none rfl) rfl rfl (q_move rfl rfl) ?_
          refine run_q (.none rfl) rfl rfl (q_assign rfl rfl) ?_
          refine run_q (.none rfl) rfl rfl (q_assign rfl rfl) ?_
          refine run_nil ?_
          refine run_sub (subMk (.cons (s := 6) rfl (.cons (s := 7) rfl (.cons (s := 8) rfl (.cons (s := 13) rfl (.cons (s := 14) rfl .nil))))) .refl) ?_
          refine run_seq ?_
          refine run_block ?_
          refine run_sub (subMk (.cons (s := 13) rfl (.cons (s := 14) rfl (.cons (s := 6) rfl (.cons (s := 7) rfl (.cons (s := 8) rfl .nil))))) (.cons Sel.here .refl (.cons Sel.here .refl (.cons Sel.here .refl .nil)))) ?_
          refine run_loopC2M0 (ι := Nat × Nat) (fun gg => Nat.gcd gg.1 gg.2 = gN a b ps ∧ True) (fun gg => .int .i64 (gg.1 : Int)) (fun gg => .int .i64 (gg.2 : Int))  (fun gg => gg.2) (pN a b ps, sN a b ps) (by (try dsimp only); exact ⟨rfl, trivial⟩) rfl rfl  ?_
          rintro ⟨x, y⟩ hq
          (try dsimp only at hq)
          obtain ⟨hinv, -⟩ := hq
          show Run _ _ _ _ _ _ _ ⟨(13, .int .i64 (x : Int)) :: (14, .int .i64 (y : Int)) :: _, _⟩
          refine run_seq ?_
          refine run_seq ?_
          refine run_region ?_
          refine run_q (.none rfl) rfl rfl (q_move rfl rfl) ?_
          refine run_q (.none rfl) rfl rfl (q_neq rfl rfl rfl) ?_
          refine run_nil ?_
          refine run_cond rfl (fun g68 => ?_) (fun g68 => ?_)
          · have g68' := g68
            try simp only [decide_eq_true_eq, decide_eq_false_iff_not, beq_iff_eq, beq_eq_false_iff_ne, bne_iff_ne, bne_eq_false_iff_eq, Bool.not_eq_true', Bool.not_eq_false', ne_eq, Int.not_lt, Int.not_le, Decidable.not_not] at g68'
            refine run_skip ?_
            refine run_block ?_
            refine run_draw [(0, 0), (1, 0), (2, 0), (3, 0), (4, 0), (5, 0)] mixed (by kernel_rfl) .refl ?_
            refine d_q rfl rfl (.none rfl) rfl rfl (q_move rfl rfl) ?_
            refine d_q rfl rfl (.none rfl) rfl rfl (q_move rfl rfl) ?_
            refine d_q rfl rfl (.none rfl) rfl rfl (q_move rfl rfl) ?_
            refine d_q rfl rfl (.none rfl) rfl rfl (q_rem rfl rfl rfl (by omega)) ?_
            refine d_q rfl rfl (.none rfl) rfl rfl (q_assign rfl rfl) ?_
            refine d_q rfl rfl (.none rfl) rfl rfl (q_assign rfl rfl) ?_
            refine d_nil ?_
            refine run_sub (subMk (.cons (s := 6) rfl (.cons (s := 7) rfl (.cons (s := 8) rfl (.cons (s := 13) rfl (.cons (s := 14) rfl .nil))))) .refl) ?_
            refine run_blk ?_
            exact run_again (y, x % y) (by (try dsimp only); exact ⟨by rw [← hinv, Nat.gcd_comm y, ← Nat.gcd_rec, Nat.gcd_comm], trivial⟩) (by (try dsimp only); exact Nat.mod_lt _ (by omega)) (subMk (.cons' (s := 13) rfl rfl (.cons' (s := 14) rfl (vint (by simp)) (.cons (s := 6) rfl (.cons (s := 7) rfl (.cons (s := 8) rfl .nil))))) (.cons Sel.here .refl (.cons Sel.here .refl (.cons Sel.here .refl .nil))))
          · have g68' := g68
            try simp only [decide_eq_true_eq, decide_eq_false_iff_not, beq_iff_eq, beq_eq_false_iff_ne, bne_iff_ne, bne_eq_false_iff_eq, Bool.not_eq_true', Bool.not_eq_false', ne_eq, Int.not_lt, Int.not_le, Decidable.not_not] at g68'
            refine run_exit rfl ?_
            refine run_sub (subMk (.cons (s := 6) rfl (.cons (s := 7) rfl (.cons (s := 8) rfl (.cons (s := 13) rfl .nil)))) .refl) ?_
            refine run_seq ?_
            have hs0 : sN a b ps ≠ 0 := by simpa using g64
            obtain ⟨hg1, hg2, hg3, hg4, hg5⟩ := gcd_facts (p := pN a b ps) hs0
            have hxg : x = gN a b ps := by rw [← hinv, show y = 0 from by omega, Nat.gcd_zero_right]
            have hx1 : 1 ≤ x := by rw [hxg]; exact hg1
            refine run_draw [(0, 0), (1, 0), (2, 0), (3, 0), (4, 0), (5, 0), (6, 0), (7, 0), (8, 0)] mixed (by kernel_rfl) .refl ?_
            refine d_q rfl rfl (.none rfl) rfl rfl (q_move rfl rfl) ?_
            refine d_q rfl rfl (.none rfl) rfl rfl (q_move rfl rfl) ?_
            refine d_q rfl rfl (.none rfl) rfl rfl (q_quo rfl rfl rfl (by omega)) ?_
            refine d_q rfl rfl (.none rfl) rfl rfl (q_move rfl rfl) ?_
            refine d_q rfl rfl (.none rfl) rfl rfl (q_move rfl rfl) ?_
            refine d_q rfl rfl (.none rfl) rfl rfl (q_quo rfl rfl rfl (by omega)) ?_
            refine d_q rfl rfl (.none rfl) rfl rfl (q_assign rfl rfl) ?_
            refine d_q rfl rfl (.none rfl) rfl rfl (q_assign rfl rfl) ?_
            refine d_q rfl rfl (.none rfl) rfl rfl (q_assign rfl rfl) ?_
            refine d_nil ?_
            refine run_sub (subMk (.cons (s := 6) rfl (.cons (s := 7) rfl (.cons (s := 8) rfl .nil))) .refl) ?_
            refine run_ret ?_
            exact end3 rfl rfl rfl rfl (by rw [tempo_ok hck h2m hs0, ← hxg]; rfl)
      · refine b_h rfl (.none rfl) (h_alloc rfl rfl rfl info40) (fun _ _ => (.sub (by repeat (first | exact List.Sublist.refl _ | apply List.Sublist.cons)))) ?_
        rintro b12 -
        refine b_one 9 (by kernel_rfl) ?_
        refine b_h rfl (.none rfl) (h_alloc rfl rfl rfl info40) (fun _ _ => (.sub (by repeat (first | exact List.Sublist.refl _ | apply List.Sublist.cons)))) ?_
        rintro b11 -
        refine b_one 11 (by kernel_rfl) ?_
        refine b_h rfl (.none rfl) (h_storeB rfl rfl sz40 rfl rfl rfl rfl rfl Sel.here rfl) (fun _ _ => (.sub (by repeat (first | exact List.Sublist.refl _ | apply List.Sublist.cons)))) ?_
        rintro - -
        refine b_one 12 (by kernel_rfl) ?_
        refine b_h rfl (.none rfl) (h_storeB rfl rfl sz40 rfl rfl rfl rfl rfl (.there Sel.here) rfl) (fun _ _ => (.sub (by repeat (first | exact List.Sublist.refl _ | apply List.Sublist.cons)))) ?_
        rintro - -
        refine b_nil (by kernel_rfl) ?_
        refine run_sub (subMk (.cons (s := 0) rfl (.cons (s := 1) rfl (.cons (s := 6) rfl (.cons (s := 7) rfl (.cons (s := 8) rfl (.cons (s := 11) rfl (.cons (s := 12) rfl .nil))))))) .refl) ?_
        refine run_seq ?_
        refine run_draw [(0, 0), (1, 0), (2, 0), (3, 0), (4, 0), (5, 0), (6, 0), (7, 0), (8, 0), (9, 0), (10, 0), (11, 0), (12, 0), (13, 0), (14, 0), (15, 0), (16, 0), (17, 0), (18, 0), (19, 0), (20, 0), (21, 0), (22, 0), (23, 0), (24, 0), (25, 0), (26, 0), (27, 0)] mixed (by kernel_rfl) .refl ?_
        refine d_q rfl rfl (.none rfl) rfl rfl (q_move rfl rfl) ?_
        refine d_q rfl rfl (.none rfl) rfl rfl (q_fieldB (d := 2) rfl Try.underlying40 rfl rfl sz3 rfl) ?_
        refine d_q rfl rfl (.none rfl) rfl rfl (q_loadB rfl one3 rfl Sel.here rfl) ?_
        refine d_q rfl rfl (.none rfl) rfl rfl (q_indexS (q := qv) rfl Try.underlying22 sz47 rfl rfl (.inp hrb .no) (by simp <;> omega) (by rw [hms1]; exact e4) (by omega)) ?_
        refine d_q rfl rfl (.none rfl) rfl rfl (q_fieldAddr (d := 0) rfl Try.underlying47 rfl rfl sz3 rfl) ?_
        refine d_q rfl rfl (.none rfl) rfl rfl (q_loadF rfl one3 rfl (.inp hrb .no) (getmap (by omega)) rfl) ?_
        refine d_q rfl rfl (.none rfl) rfl rfl (q_move rfl rfl) ?_
        refine d_q rfl rfl (.none rfl) rfl rfl (q_fieldB (d := 2) rfl Try.underlying40 rfl rfl sz3 rfl) ?_
        refine d_q rfl rfl (.none rfl) rfl rfl (q_loadB rfl one3 rfl (.there Sel.here) rfl) ?_
        refine d_q rfl rfl (.none rfl) rfl rfl (q_indexS (q := qu) rfl Try.underlying22 sz47 rfl rfl (.inp hrb .no) (by simp <;> omega) (by rw [hms0]; exact e2) (by omega)) ?_
        refine d_q rfl rfl (.none rfl) rfl rfl (q_fieldAddr (d := 0) rfl Try.underlying47 rfl rfl sz3 rfl) ?_
        refine d_q rfl rfl (.none rfl) rfl rfl (q_loadF rfl one3 rfl (.inp hrb .no) (getmap (by omega)) rfl) ?_
        refine d_q rfl rfl (.none rfl) rfl rfl (q_sub rfl rfl rfl (by omega)) ?_
        refine d_q rfl rfl (.none rfl) rfl rfl (q_move rfl rfl) ?_
        refine d_q rfl rfl (.none rfl) rfl rfl (q_fieldB (d := 1) rfl Try.underlying40 rfl rfl sz3 rfl) ?_
        refine d_q rfl rfl (.none rfl) rfl rfl (q_loadB rfl one3 rfl Sel.here rfl) ?_
        refine d_q rfl rfl (.none rfl) rfl rfl (q_indexS (q := sv) rfl Try.underlying22 sz47 rfl rfl (.inp hra .no) (by simp <;> omega) (by rw [hms1]; exact e3) (by omega)) ?_
        refine d_q rfl rfl (.none rfl) rfl rfl (q_fieldAddr (d := 0) rfl Try.underlying47 rfl rfl sz3 rfl) ?_
        refine d_q rfl rfl (.none rfl) rfl rfl (q_loadF rfl one3 rfl (.inp hra .no) (getmap (by omega)) rfl) ?_
        refine d_q rfl rfl (.none rfl) rfl rfl (q_move rfl rfl) ?_
        refine d_q rfl rfl (.none rfl) rfl rfl (q_fieldB (d := 1) rfl Try.underlying40 rfl rfl sz3 rfl) ?_
        refine d_q rfl rfl (.none rfl) rfl rfl (q_loadB rfl one3 rfl (.there Sel.here) rfl) ?_
        refine d_q rfl rfl (.none rfl) rfl rfl (q_indexS (q := su) rfl Try.underlying22 sz47 rfl rfl (.inp hra .no) (by simp <;> omega) (by rw [hms0]; exact e1) (by omega)) ?_
        refine d_q rfl rfl (.none rfl) rfl rfl (q_fieldAddr (d := 0) rfl Try.underlying47 rfl rfl sz3 rfl) ?_
        refine d_q rfl rfl (.none rfl) rfl rfl (q_loadF rfl one3 rfl (.inp hra .no) (getmap (by omega)) rfl) ?_
        refine d_q rfl rfl (.none rfl) rfl rfl (q_sub rfl rfl rfl (by omega)) ?_
        refine d_q rfl rfl (.none rfl) rfl rfl (q_assign rfl rfl) ?_
        refine d_q rfl rfl (.none rfl) rfl rfl (q_assign rfl rfl) ?_
        refine d_nil ?_
        refine run_sub (subMk (.cons (s := 6) rfl (.cons (s := 7) rfl (.cons (s := 8) rfl .nil))) .refl) ?_
        refine run_seq ?_
        refine run_seq ?_
        refine run_sub (subMk (.cons' (s := 6) (v' := .int .i64 (pN a b ps : Int)) rfl (vint hpp) (.cons' (s := 7) (v' := .int .i64 (sN a b ps : Int)) rfl (vint hss) (.cons (s := 8) rfl .nil))) .refl) ?_
        refine run_region ?_
        refine run_q (.none rfl) rfl rfl (q_move rfl rfl) ?_
        refine run_q (.none rfl) rfl rfl (q_eql rfl rfl rfl) ?_
        refine run_nil ?_
        refine run_cond rfl (fun g64 => ?_) (fun g64 => ?_)
        · have g64' := g64
          try simp only [decide_eq_true_eq, decide_eq_false_iff_not, beq_iff_eq, beq_eq_false_iff_ne, bne_iff_ne, bne_eq_false_iff_eq, Bool.not_eq_true', Bool.not_eq_false', ne_eq, Int.not_lt, Int.not_le, Decidable.not_not] at g64'
          refine run_seq ?_
          refine run_region ?_
          refine run_q (.none rfl) rfl rfl (q_assign rfl rfl) ?_
          refine run_q (.none rfl) rfl rfl (q_assign rfl rfl) ?_
          refine run_q (.none rfl) rfl rfl (q_assign rfl rfl) ?_
          refine run_nil ?_
          refine run_ret ?_
          exact end3 rfl rfl rfl rfl (by rw [tempo_zero hck h2m (by simpa using g64)])
        · have g64' := g64
          try simp only [decide_eq_true_eq, decide_eq_false_iff_not, beq_iff_eq, beq_eq_false_iff_ne, bne_iff_ne, bne_eq_false_iff_eq, Bool.not_eq_true', Bool.not_eq_false', ne_eq, Int.not_lt, Int.not_le, Decidable.not_not] at g64'
          refine run_skip ?_
          refine run_seq ?_
          refine run_region ?_
          refine run_q (.none rfl) rfl rfl (q_move rfl rfl) ?_
          refine run_q (.none rfl) rfl rfl (q_move rfl rfl) ?_
          refine run_q (.none rfl) rfl rfl (q_assign rfl rfl) ?_
          refine run_q (.none rfl) rfl rfl (q_assign rfl rfl) ?_
          refine run_nil ?_
          refine run_sub (subMk (.cons (s := 6) rfl (.cons (s := 7) rfl (.cons (s := 8) rfl (.cons (s := 13) rfl (.cons (s := 14) rfl .nil))))) .refl) ?_
          refine run_seq ?_
          refine run_block ?_
          refine run_sub (subMk (.cons (s := 13) rfl (.cons (s := 14) rfl (.cons (s := 6) rfl (.cons (s := 7) rfl (.cons (s := 8) rfl .nil))))) (.cons Sel.here .refl (.cons Sel.here .refl (.cons Sel.here .refl .nil)))) ?_
          refine run_loopC2M0 (ι := Nat × Nat) (fun gg => Nat.gcd gg.1 gg.2 = gN a b ps ∧ True) (fun gg => .int .i64 (gg.1 : Int)) (fun gg => .int .i64 (gg.2 : Int))  (fun gg => gg.2) (pN a b ps, sN a b ps) (by (try dsimp only); exact ⟨rfl, trivial⟩) rfl rfl  ?_
          rintro ⟨x, y⟩ hq
          (try dsimp only at hq)
          obtain ⟨hinv, -⟩ := hq
          show Run _ _ _ _ _ _ _ ⟨(13, .int .i64 (x : Int)) :: (14, .int .i64 (y : Int)) :: _, _⟩
          refine run_seq ?_
          refine run_seq ?_
          refine run_region ?_
          refine run_q (.none rfl) rfl rfl (q_move rfl rfl) ?_
          refine run_q (.none rfl) rfl rfl (q_neq rfl rfl rfl) ?_
          refine run_nil ?_
          refine run_cond rfl (fun g68 => ?_) (fun g68 => ?_)
          · have g68' := g68
            try simp only [decide_eq_true_eq, decide_eq_false_iff_not, beq_iff_eq, beq_eq_false_iff_ne, bne_iff_ne, bne_eq_false_iff_eq, Bool.not_eq_true', Bool.not_eq_false', ne_eq, Int.not_lt, Int.not_le, Decidable.not_not] at g68'
            refine run_skip ?_
            refine run_block ?_
            refine run_draw [(0, 0), (1, 0), (2, 0), (3, 0), (4, 0), (5, 0)] mixed (by kernel_rfl) .refl ?_
            refine d_q rfl rfl (.none rfl) rfl rfl (q_move rfl rfl) ?_
            refine d_q rfl rfl (.none rfl) rfl rfl (q_move rfl rfl) ?_
            refine d_q rfl rfl (.none rfl) rfl rfl (q_move rfl rfl) ?_
            refine d_q rfl rfl (.none rfl) rfl rfl (q_rem rfl rfl rfl (by omega)) ?_
            refine d_q rfl rfl (.none rfl) rfl rfl (q_assign rfl rfl) ?_
            refine d_q rfl rfl (.none rfl) rfl rfl (q_assign rfl rfl) ?_
            refine d_nil ?_
            refine run_sub (subMk (.cons (s := 6) rfl (.cons (s := 7) rfl (.cons (s := 8) rfl (.cons (s := 13) rfl (.cons (s := 14) rfl .nil))))) .refl) ?_
            refine run_blk ?_
            exact run_again (y, x % y) (by (try dsimp only); exact ⟨by rw [← hinv, Nat.gcd_comm y, ← Nat.gcd_rec, Nat.gcd_comm], trivial⟩) (by (try dsimp only); exact Nat.mod_lt _ (by omega)) (subMk (.cons' (s := 13) rfl rfl (.cons' (s := 14) rfl (vint (by simp)) (.cons (s := 6) rfl (.cons (s := 7) rfl (.cons (s := 8) rfl .nil))))) (.cons Sel.here .refl (.cons Sel.here .refl (.cons Sel.here .refl .nil))))
          · have g68' := g68
            try simp only [decide_eq_true_eq, decide_eq_false_iff_not, beq_iff_eq, beq_eq_false_iff_ne, bne_iff_ne, bne_eq_false_iff_eq, Bool.not_eq_true', Bool.not_eq_false', ne_eq, Int.not_lt, Int.not_le, Decidable.not_not] at g68'
            refine run_exit rfl ?_
            refine run_sub (subMk (.cons (s := 6) rfl (.cons (s := 7) rfl (.cons (s := 8) rfl (.cons (s := 13) rfl .nil)))) .refl) ?_
            refine run_seq ?_
            have hs0 : sN a b ps ≠ 0 := by simpa using g64
            obtain ⟨hg1, hg2, hg3, hg4, hg5⟩ := gcd_facts (p := pN a b ps) hs0
            have hxg : x = gN a b ps := by rw [← hinv, show y = 0 from by omega, Nat.gcd_zero_right]
            have hx1 : 1 ≤ x := by rw [hxg]; exact hg1
            refine run_draw [(0, 0), (1, 0), (2, 0), (3, 0), (4, 0), (5, 0), (6, 0), (7, 0), (8, 0)] mixed (by kernel_rfl) .refl ?_
            refine d_q rfl rfl (.none rfl) rfl rfl (q_move rfl rfl) ?_
            refine d_q rfl rfl (.none rfl) rfl rfl (q_move rfl rfl) ?_
            refine d_q rfl rfl (.none rfl) rfl rfl (q_quo rfl rfl rfl (by omega)) ?_
            refine d_q rfl rfl (.none rfl) rfl rfl (q_move rfl rfl) ?_
            refine d_q rfl rfl (.none rfl) rfl rfl (q_move rfl rfl) ?_
            refine d_q rfl rfl (.none rfl) rfl rfl (q_quo rfl rfl rfl (by omega)) ?_
            refine d_q rfl rfl (.none rfl) rfl rfl (q_assign rfl rfl) ?_
            refine d_q rfl rfl (.none rfl) rfl rfl (q_assign rfl rfl) ?_
            refine d_q rfl rfl (.none rfl) rfl rfl (q_assign rfl rfl) ?_
            refine d_nil ?_
            refine run_sub (subMk (.cons (s := 6) rfl (.cons (s := 7) rfl (.cons (s := 8) rfl .nil))) .refl) ?_
            refine run_ret ?_
            exact end3 rfl rfl rfl rfl (by rw [tempo_ok hck h2m hs0, ← hxg]; rfl)

end Go.Proofs.Ytbkmmjpklkallaa
