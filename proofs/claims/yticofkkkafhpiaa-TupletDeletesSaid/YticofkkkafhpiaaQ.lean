/- Events deleted, in the program. -/
import Derived.Test.YticofkkkafhpiaaM
set_option linter.unusedSimpArgs false
set_option linter.unusedVariables false
namespace Go.Proofs.Yticofkkkafhpiaa
open Go Go.RowKit Hr

theorem call46 : Hr.Callable Try.prog 46 := fun args w => by kernel_rfl
theorem built45p2p3 (x2y : Int) (x3y : Int) : Try.prog.built 45 [(2, .int .i64 x2y), (3, .int .i64 x3y)] = some #[.int .i64 0, .int .i64 0, .int .i64 x2y, .int .i64 x3y] := by kernel_rfl

theorem left_just (x p c : Int) (b b' : Nat) (W : World) (h1 : Rd W (some ⟨b, 0, none⟩) 1 [[.int .i64 p]]) (h2 : Rd W (some ⟨b', 0, none⟩) 1 [[.int .i64 c]]) (hx : 0 ≤ x ∧ x ≤ 256) (hp : 0 ≤ p ∧ p ≤ 256) (hc : 0 ≤ c ∧ c ≤ 256) : Calls Try.prog 46 #[.int .i64 x, .pointer (some ((adr (some ⟨b, 0, none⟩)).add (0 * 1))), .pointer (some ((adr (some ⟨b', 0, none⟩)).add (0 * 1)))] W (Hr.Just W (.int .i64 (lam p c x))) := by
  refine Just.of_ret ?_
  refine enterA (X := nX) (vs := [.int .i64 x, .pointer (some ((adr (some ⟨b, 0, none⟩)).add (0 * 1))), .pointer (some ((adr (some ⟨b', 0, none⟩)).add (0 * 1)))]) Try.func46 Try.ntmps46 rfl rfl Mem.nil ?_
  refine run_seq ?_
  refine run_region ?_
  refine run_q (.none rfl) rfl rfl (q_assign rfl rfl) ?_
  refine run_nil ?_
  refine run_seq ?_
  refine run_region ?_
  refine run_q (.none rfl) rfl rfl (q_move rfl rfl) ?_
  refine run_q (.none rfl) rfl rfl (q_loadC rfl one3 rfl (.inp h1 .no) (show [[Value.int .i64 p]][0]? = some [Value.int .i64 p] from rfl)) ?_
  refine run_q (.none rfl) rfl rfl (q_min2 rfl rfl rfl) ?_
  refine run_q (.none rfl) rfl rfl (q_move rfl rfl) ?_
  refine run_q (.none rfl) rfl rfl (q_loadC rfl one3 rfl (.inp h1 .no) (show [[Value.int .i64 p]][0]? = some [Value.int .i64 p] from rfl)) ?_
  refine run_q (.none rfl) rfl rfl (q_sub rfl rfl rfl (by omega)) ?_
  refine run_q (.none rfl) rfl rfl (q_loadC rfl one3 rfl (.inp h2 .no) (show [[Value.int .i64 c]][0]? = some [Value.int .i64 c] from rfl)) ?_
  refine run_q (.none rfl) rfl rfl (q_sub rfl rfl rfl (by omega)) ?_
  refine run_q (.none rfl) rfl rfl (q_max2 rfl rfl rfl) ?_
  refine run_q (.none rfl) rfl rfl (q_add rfl rfl rfl (by omega)) ?_
  refine run_q (.none rfl) rfl rfl (q_assign rfl rfl) ?_
  refine run_nil ?_
  refine run_sub (subMk (.cons (s := 4) rfl .nil) .refl) ?_
  refine run_ret ?_
  exact end1 rfl rfl rfl

set_option maxRecDepth 100000 in
theorem delete_ret (ts : List Tup) (A : Option Addr) (ca : Nat) (n p c : Int) (W : World) (hr : Rd W A 4 (ts.map Tup.enc)) (hl : ts.length ≤ 1000000) : Calls Try.prog 33 #[.slice A ts.length ca, .int .i64 n, .int .i64 p, .int .i64 c] W (Ret W nX (fun v m => ∃ O co, v = .tuple #[.slice O (delV ts n p c).1.length co, .int .i64 (delV ts n p c).2] ∧ m = [.own 46 4 O (delV ts n p c).1.length co ((delV ts n p c).1.map Tup.enc)])) := by
  refine enterA (X := nX) (vs := [.slice A ts.length ca, .int .i64 n, .int .i64 p, .int .i64 c]) Try.func33 Try.ntmps33 rfl rfl Mem.nil ?_
  refine run_seq ?_
  refine run_region ?_
  refine run_h (.none rfl) (h_box rfl rfl rfl rfl rfl) ?_
  rintro b6 -
  refine run_h (.none rfl) (h_box rfl rfl rfl rfl rfl) ?_
  rintro b7 -
  refine run_q (.none rfl) rfl rfl (q_assign rfl rfl) ?_
  refine run_q (.none rfl) rfl rfl (q_assign rfl rfl) ?_
  refine run_nil ?_
  refine run_seq ?_
  refine run_seq ?_
  refine run_region ?_
  refine run_q (.none rfl) rfl rfl (q_move rfl rfl) ?_
  refine run_q (.none rfl) rfl rfl (q_move rfl rfl) ?_
  refine run_q (.none rfl) rfl rfl (q_call rfl call13 (.cons rfl (.cons rfl Evs.nil)) (fun w hk hm => check_just ts A ca n w (hr.kept0 hk) (by omega))) ?_
  refine run_q (.none rfl) rfl rfl (q_assign rfl rfl) ?_
  refine run_nil ?_
  refine run_sub (subMk (.cons (s := 0) rfl (.cons (s := 1) rfl (.cons (s := 6) rfl (.cons (s := 7) rfl (.cons (s := 8) rfl (.cons (s := 9) rfl (.cons (s := 10) rfl .nil))))))) .refl) ?_
  refine run_seq ?_
  refine run_region ?_
  refine run_q (.none rfl) rfl rfl (q_move rfl rfl) ?_
  refine run_q (.none rfl) rfl rfl (q_neq rfl rfl rfl) ?_
  refine run_nil ?_
  refine run_cond rfl (fun g21 => ?_) (fun g21 => ?_)
  · have g21' := g21
    try simp only [decide_eq_true_eq, decide_eq_false_iff_not, beq_iff_eq, beq_eq_false_iff_ne, bne_iff_ne, bne_eq_false_iff_eq, Bool.not_eq_true', Bool.not_eq_false', ne_eq, Int.not_lt, Int.not_le, Decidable.not_not] at g21'
    refine run_seq ?_
    refine run_region ?_
    refine run_q (.none rfl) rfl rfl (q_move rfl rfl) ?_
    refine run_q (.none rfl) rfl rfl (q_assign rfl rfl) ?_
    refine run_q (.none rfl) rfl rfl (q_assign rfl rfl) ?_
    refine run_nil ?_
    refine run_sub (subMk (.cons (s := 0) rfl (.cons (s := 1) rfl (.cons (s := 6) rfl (.cons (s := 7) rfl (.cons (s := 8) rfl (.cons (s := 9) rfl .nil)))))) .refl) ?_
    refine run_ret ?_
    refine run_sub (subMk .refl (MemSub.nilOwn 46 4)) ?_
    refine run_sub (subMk .refl (.cons Sel.here .refl .nil)) ?_
    exact end2 rfl rfl rfl ⟨none, 0, by rw [delV_err (by simpa using g21)]; rfl, by rw [delV_err (by simpa using g21)]; rfl⟩
  · have g21' := g21
    try simp only [decide_eq_true_eq, decide_eq_false_iff_not, beq_iff_eq, beq_eq_false_iff_ne, bne_iff_ne, bne_eq_false_iff_eq, Bool.not_eq_true', Bool.not_eq_false', ne_eq, Int.not_lt, Int.not_le, Decidable.not_not] at g21'
    have hc : checkV ts n = 0 := by simpa using g21
    have hv := Val.of hc
    obtain ⟨c1, c2, c3, c4⟩ := checkV_good hc
    refine run_skip ?_
    refine run_seq ?_
    refine run_seq ?_
    refine run_region ?_
    refine run_q (.none rfl) rfl rfl (q_loadB rfl one3 rfl (.there Sel.here) rfl) ?_
    refine run_q (.none rfl) rfl rfl (q_lss rfl rfl rfl) ?_
    refine run_q (.none rfl) rfl rfl (q_move rfl rfl) ?_
    refine run_split 25 rfl (fun g25 => ?_) (fun g25 => ?_)
    · have g25' := g25
      try simp only [decide_eq_true_eq, decide_eq_false_iff_not, beq_iff_eq, beq_eq_false_iff_ne, bne_iff_ne, bne_eq_false_iff_eq, Bool.not_eq_true', Bool.not_eq_false', ne_eq, Int.not_lt, Int.not_le, Decidable.not_not] at g25'
      refine run_off (.no rfl rfl rfl g25) rfl rfl ?_
      refine run_off (.no rfl rfl rfl g25) rfl rfl ?_
      refine run_q (.none rfl) rfl rfl (q_pickT rfl rfl g25 rfl) ?_
      refine run_q (.none rfl) rfl rfl (q_move rfl rfl) ?_
      refine run_off (.no rfl rfl rfl rfl) rfl rfl ?_
      refine run_off (.no rfl rfl rfl rfl) rfl rfl ?_
      refine run_off (.no rfl rfl rfl rfl) rfl rfl ?_
      refine run_q (.none rfl) rfl rfl (q_pickT rfl rfl rfl rfl) ?_
      refine run_q (.none rfl) rfl rfl (q_move rfl rfl) ?_
      refine run_off (.no rfl rfl rfl rfl) rfl rfl ?_
      refine run_off (.no rfl rfl rfl rfl) rfl rfl ?_
      refine run_off (.no rfl rfl rfl rfl) rfl rfl ?_
      refine run_off (.no rfl rfl rfl rfl) rfl rfl ?_
      refine run_off (.no rfl rfl rfl rfl) rfl rfl ?_
      refine run_q (.none rfl) rfl rfl (q_pickT rfl rfl rfl rfl) ?_
      refine run_nil ?_
      refine run_sub (subMk (.cons (s := 0) rfl (.cons (s := 6) rfl (.cons (s := 7) rfl (.cons (s := 8) rfl (.cons (s := 9) rfl (.cons (s := 40) rfl .nil)))))) .refl) ?_
      refine run_condT rfl rfl ?_
      refine run_seq ?_
      refine run_region ?_
      refine run_q (.none rfl) rfl rfl (q_assign rfl rfl) ?_
      refine run_q (.none rfl) rfl rfl (q_assign rfl rfl) ?_
      refine run_nil ?_
      refine run_ret ?_
      refine run_sub (subMk .refl (MemSub.nilOwn 46 4)) ?_
      refine run_sub (subMk .refl (.cons Sel.here .refl .nil)) ?_
      exact end2 rfl rfl rfl ⟨none, 0, by rw [delV_rng hc (by omega)]; rfl, by rw [delV_rng hc (by omega)]; rfl⟩
    · have g25' := g25
      try simp only [decide_eq_true_eq, decide_eq_false_iff_not, beq_iff_eq, beq_eq_false_iff_ne, bne_iff_ne, bne_eq_false_iff_eq, Bool.not_eq_true', Bool.not_eq_false', ne_eq, Int.not_lt, Int.not_le, Decidable.not_not] at g25'
      refine run_q (.on rfl rfl rfl g25) rfl rfl (q_loadB rfl one3 rfl Sel.here rfl) ?_
      refine run_q (.on rfl rfl rfl g25) rfl rfl (q_lss rfl rfl rfl) ?_
      refine run_q (.none rfl) rfl rfl (q_pickF rfl rfl g25 rfl) ?_
      refine run_q (.none rfl) rfl rfl (q_move rfl rfl) ?_
      refine run_split 29 rfl (fun g29 => ?_) (fun g29 => ?_)
      · have g29' := g29
        try simp only [decide_eq_true_eq, decide_eq_false_iff_not, beq_iff_eq, beq_eq_false_iff_ne, bne_iff_ne, bne_eq_false_iff_eq, Bool.not_eq_true', Bool.not_eq_false', ne_eq, Int.not_lt, Int.not_le, Decidable.not_not] at g29'
        refine run_off (.no rfl rfl rfl g29) rfl rfl ?_
        refine run_off (.no rfl rfl rfl g29) rfl rfl ?_
        refine run_off (.no rfl rfl rfl g29) rfl rfl ?_
        refine run_q (.none rfl) rfl rfl (q_pickT rfl rfl g29 rfl) ?_
        refine run_q (.none rfl) rfl rfl (q_move rfl rfl) ?_
        refine run_off (.no rfl rfl rfl rfl) rfl rfl ?_
        refine run_off (.no rfl rfl rfl rfl) rfl rfl ?_
        refine run_off (.no rfl rfl rfl rfl) rfl rfl ?_
        refine run_off (.no rfl rfl rfl rfl) rfl rfl ?_
        refine run_off (.no rfl rfl rfl rfl) rfl rfl ?_
        refine run_q (.none rfl) rfl rfl (q_pickT rfl rfl rfl rfl) ?_
        refine run_nil ?_
        refine run_sub (subMk (.cons (s := 0) rfl (.cons (s := 6) rfl (.cons (s := 7) rfl (.cons (s := 8) rfl (.cons (s := 9) rfl (.cons (s := 40) rfl .nil)))))) .refl) ?_
        refine run_condT rfl rfl ?_
        refine run_seq ?_
        refine run_region ?_
        refine run_q (.none rfl) rfl rfl (q_assign rfl rfl) ?_
        refine run_q (.none rfl) rfl rfl (q_assign rfl rfl) ?_
        refine run_nil ?_
        refine run_ret ?_
        refine run_sub (subMk .refl (MemSub.nilOwn 46 4)) ?_
        refine run_sub (subMk .refl (.cons Sel.here .refl .nil)) ?_
        exact end2 rfl rfl rfl ⟨none, 0, by rw [delV_rng hc (by omega)]; rfl, by rw [delV_rng hc (by omega)]; rfl⟩
      · have g29' := g29
        try simp only [decide_eq_true_eq, decide_eq_false_iff_not, beq_iff_eq, beq_eq_false_iff_ne, bne_iff_ne, bne_eq_false_iff_eq, Bool.not_eq_true', Bool.not_eq_false', ne_eq, Int.not_lt, Int.not_le, Decidable.not_not] at g29'
        refine run_q (.on rfl rfl rfl g29) rfl rfl (q_loadB rfl one3 rfl (.there Sel.here) rfl) ?_
        refine run_q (.on rfl rfl rfl g29) rfl rfl (q_move rfl rfl) ?_
        refine run_q (.on rfl rfl rfl g29) rfl rfl (q_gtr rfl rfl rfl) ?_
        refine run_q (.none rfl) rfl rfl (q_pickF rfl rfl g29 rfl) ?_
        refine run_q (.none rfl) rfl rfl (q_move rfl rfl) ?_
        refine run_split 34 rfl (fun g34 => ?_) (fun g34 => ?_)
        · have g34' := g34
          try simp only [decide_eq_true_eq, decide_eq_false_iff_not, beq_iff_eq, beq_eq_false_iff_ne, bne_iff_ne, bne_eq_false_iff_eq, Bool.not_eq_true', Bool.not_eq_false', ne_eq, Int.not_lt, Int.not_le, Decidable.not_not] at g34'
          refine run_off (.no rfl rfl rfl g34) rfl rfl ?_
          refine run_off (.no rfl rfl rfl g34) rfl rfl ?_
          refine run_off (.no rfl rfl rfl g34) rfl rfl ?_
          refine run_off (.no rfl rfl rfl g34) rfl rfl ?_
          refine run_off (.no rfl rfl rfl g34) rfl rfl ?_
          refine run_q (.none rfl) rfl rfl (q_pickT rfl rfl g34 rfl) ?_
          refine run_nil ?_
          refine run_sub (subMk (.cons (s := 0) rfl (.cons (s := 6) rfl (.cons (s := 7) rfl (.cons (s := 8) rfl (.cons (s := 9) rfl (.cons (s := 40) rfl .nil)))))) .refl) ?_
          refine run_condT rfl rfl ?_
          refine run_seq ?_
          refine run_region ?_
          refine run_q (.none rfl) rfl rfl (q_assign rfl rfl) ?_
          refine run_q (.none rfl) rfl rfl (q_assign rfl rfl) ?_
          refine run_nil ?_
          refine run_ret ?_
          refine run_sub (subMk .refl (MemSub.nilOwn 46 4)) ?_
          refine run_sub (subMk .refl (.cons Sel.here .refl .nil)) ?_
          exact end2 rfl rfl rfl ⟨none, 0, by rw [delV_rng hc (by omega)]; rfl, by rw [delV_rng hc (by omega)]; rfl⟩
        · have g34' := g34
          try simp only [decide_eq_true_eq, decide_eq_false_iff_not, beq_iff_eq, beq_eq_false_iff_ne, bne_iff_ne, bne_eq_false_iff_eq, Bool.not_eq_true', Bool.not_eq_false', ne_eq, Int.not_lt, Int.not_le, Decidable.not_not] at g34'
          refine run_q (.on rfl rfl rfl g34) rfl rfl (q_loadB rfl one3 rfl Sel.here rfl) ?_
          refine run_q (.on rfl rfl rfl g34) rfl rfl (q_move rfl rfl) ?_
          refine run_q (.on rfl rfl rfl g34) rfl rfl (q_loadB rfl one3 rfl (.there Sel.here) rfl) ?_
          refine run_q (.on rfl rfl rfl g34) rfl rfl (q_sub rfl rfl rfl (by omega)) ?_
          refine run_q (.on rfl rfl rfl g34) rfl rfl (q_gtr rfl rfl rfl) ?_
          refine run_q (.none rfl) rfl rfl (q_pickF rfl rfl g34 rfl) ?_
          refine run_nil ?_
          refine run_sub (subMk (.cons (s := 0) rfl (.cons (s := 6) rfl (.cons (s := 7) rfl (.cons (s := 8) rfl (.cons (s := 9) rfl (.cons (s := 40) rfl .nil)))))) .refl) ?_
          refine run_cond rfl (fun g40 => ?_) (fun g40 => ?_)
          · have g40' := g40
            try simp only [decide_eq_true_eq, decide_eq_false_iff_not, beq_iff_eq, beq_eq_false_iff_ne, bne_iff_ne, bne_eq_false_iff_eq, Bool.not_eq_true', Bool.not_eq_false', ne_eq, Int.not_lt, Int.not_le, Decidable.not_not] at g40'
            refine run_seq ?_
            refine run_region ?_
            refine run_q (.none rfl) rfl rfl (q_assign rfl rfl) ?_
            refine run_q (.none rfl) rfl rfl (q_assign rfl rfl) ?_
            refine run_nil ?_
            refine run_ret ?_
            refine run_sub (subMk .refl (MemSub.nilOwn 46 4)) ?_
            refine run_sub (subMk .refl (.cons Sel.here .refl .nil)) ?_
            exact end2 rfl rfl rfl ⟨none, 0, by rw [delV_rng hc (by omega)]; rfl, by rw [delV_rng hc (by omega)]; rfl⟩
          · have g40' := g40
            try simp only [decide_eq_true_eq, decide_eq_false_iff_not, beq_iff_eq, beq_eq_false_iff_ne, bne_iff_ne, bne_eq_false_iff_eq, Bool.not_eq_true', Bool.not_eq_false', ne_eq, Int.not_lt, Int.not_le, Decidable.not_not] at g40'
            refine run_skip ?_
            refine run_seq ?_
            refine run_region ?_
            refine run_q (.none rfl) rfl rfl (q_makeFunc rfl (.cons rfl (.cons rfl Evs.nil))) ?_
            refine run_q (.none rfl) rfl rfl (q_assign rfl rfl) ?_
            refine run_nil ?_
            refine run_sub (subMk (.cons (s := 0) rfl (.cons (s := 8) rfl (.cons (s := 9) rfl (.cons (s := 11) rfl .nil)))) .refl) ?_
            refine run_seq ?_
            refine run_region ?_
            refine run_q (.none rfl) rfl rfl (q_assign rfl rfl) ?_
            refine run_nil ?_
            refine run_seq ?_
            refine run_seq ?_
            refine run_region ?_
            refine run_q (.none rfl) rfl rfl (q_move rfl rfl) ?_
            refine run_q (.none rfl) rfl rfl (q_len rfl Try.underlying22 rfl) ?_
            refine run_q (.none rfl) rfl rfl (q_move rfl rfl) ?_
            refine run_nil ?_
            refine run_block ?_
            refine run_sub (subMk .refl (MemSub.nilOwn 46 4)) ?_
            refine run_sub (subMk (.cons (s := 44) rfl (.cons (s := 12) rfl (.cons (s := 8) rfl (.cons (s := 9) rfl (.cons (s := 11) rfl (.cons (s := 42) rfl (.cons (s := 43) rfl .nil))))))) (.cons Sel.here .refl (.cons Sel.here .refl (.cons Sel.here .refl .nil)))) ?_
            refine run_loopC2M1 (ι := Nat × (Option Addr) × Nat) (fun gg => gg.1 ≤ ts.length) (fun gg => .int .i64 (gg.1 : Int)) (fun gg => .slice gg.2.1 (delK p c ts gg.1).length gg.2.2) (fun gg => .own 46 4 gg.2.1 (delK p c ts gg.1).length gg.2.2 ((delK p c ts gg.1).map Tup.enc)) (fun gg => ts.length - gg.1) (0, none, 0) (by (try dsimp only); exact (by omega)) rfl (by simp [delK, delL]) (.own rfl (by simp [delK, delL]) rfl (by simp [delK, delL])) ?_
            rintro ⟨k, O, co⟩ hk
            (try dsimp only at hk)
            show Run _ _ _ _ _ _ _ ⟨(44, .int .i64 (k : Int)) :: (12, .slice O (delK p c ts k).length co) :: _, .own 46 4 O (delK p c ts k).length co ((delK p c ts k).map Tup.enc) :: _⟩
            refine run_seq ?_
            refine run_region ?_
            refine run_q (.none rfl) rfl rfl (q_lss rfl rfl rfl) ?_
            refine run_nil ?_
            refine run_seq ?_
            refine run_cond rfl (fun g45 => ?_) (fun g45 => ?_)
            · have g45' := g45
              try simp only [decide_eq_true_eq, decide_eq_false_iff_not, beq_iff_eq, beq_eq_false_iff_ne, bne_iff_ne, bne_eq_false_iff_eq, Bool.not_eq_true', Bool.not_eq_false', ne_eq, Int.not_lt, Int.not_le, Decidable.not_not] at g45'
              obtain ⟨hok, p1, p2, p3, p4⟩ := hv.prop (k := k) (by omega)
              have hok0 := hok
              unfold TupOk at hok
              have htd : tend (nth ts k) = (nth ts k).first + (nth ts k).count := rfl
              have hdk := delK_len (p := p) (c := c) (ts := ts) (k := k)
              refine run_skip ?_
              refine run_seq ?_
              refine run_block ?_
              refine run_seq ?_
              refine run_region ?_
              refine run_q (.none rfl) rfl rfl (q_indexS (q := k) rfl Try.underlying22 sz46 rfl rfl (.inp hr .no) (by simp <;> omega) rfl (by omega)) ?_
              refine run_q (.none rfl) rfl rfl (q_loadE rfl agg46 rfl (.inp hr .no) (getmap (by omega)) rfl) ?_
              refine run_h (.none rfl) (h_alloc rfl rfl rfl info46) ?_
              rintro b14 -
              refine run_h (.none rfl) (h_storeB rfl rfl sz46 rfl rfl rfl rfl rfl Sel.here rfl) ?_
              rintro - -
              refine run_nil ?_
              refine run_sub (subMk (.cons (s := 8) rfl (.cons (s := 9) rfl (.cons (s := 11) rfl (.cons (s := 12) rfl (.cons (s := 14) rfl (.cons (s := 42) rfl (.cons (s := 43) rfl (.cons (s := 44) rfl .nil)))))))) .refl) ?_
              refine run_seq ?_
              refine run_draw [(0, 0), (1, 0), (2, 0), (3, 0), (4, 0), (5, 0), (6, 0), (7, 0), (8, 0), (9, 0)] mixed (by kernel_rfl) .refl ?_
              refine d_q rfl rfl (.none rfl) rfl rfl (q_move rfl rfl) ?_
              refine d_q rfl rfl (.none rfl) rfl rfl (q_fieldB (d := 0) rfl Try.underlying46 rfl rfl sz3 rfl) ?_
              refine d_q rfl rfl (.none rfl) rfl rfl (q_loadB rfl one3 rfl Sel.here rfl) ?_
              refine d_q rfl rfl (.none rfl) rfl rfl (q_callv rfl rfl call46 (.cons rfl Evs.nil) (fun w hk hm => left_just (nth ts k).first p c b6 b7 w (rd_blk1 (v := .int .i64 p) ((Sel.there (Sel.there (Sel.there Sel.here))).holds hm)) (rd_blk1 (v := .int .i64 c) ((Sel.there (Sel.there Sel.here)).holds hm)) (by omega) (by omega) (by omega))) ?_
              refine d_q rfl rfl (.none rfl) rfl rfl (q_move rfl rfl) ?_
              refine d_q rfl rfl (.none rfl) rfl rfl (q_loadBN rfl agg46 rfl Sel.here (.cons rfl (.cons rfl (.cons rfl (.cons rfl CellsAt.nil)))) rfl) ?_
              refine d_q rfl rfl (.none rfl) rfl rfl (q_call rfl call36 (.cons rfl Evs.nil) (fun w hk hm => end_just (nth ts k) w hok0)) ?_
              refine d_q rfl rfl (.none rfl) rfl rfl (q_callv rfl rfl call46 (.cons rfl Evs.nil) (fun w hk hm => left_just (tend (nth ts k)) p c b6 b7 w (rd_blk1 (v := .int .i64 p) ((Sel.there (Sel.there (Sel.there Sel.here))).holds hm)) (rd_blk1 (v := .int .i64 c) ((Sel.there (Sel.there Sel.here)).holds hm)) (by omega) (by omega) (by omega))) ?_
              refine d_q rfl rfl (.none rfl) rfl rfl (q_assign rfl rfl) ?_
              refine d_q rfl rfl (.none rfl) rfl rfl (q_assign rfl rfl) ?_
              refine d_nil ?_
              refine run_sub (subMk (.cons (s := 8) rfl (.cons (s := 9) rfl (.cons (s := 11) rfl (.cons (s := 12) rfl (.cons (s := 14) rfl (.cons (s := 15) rfl (.cons (s := 16) rfl (.cons (s := 42) rfl (.cons (s := 43) rfl (.cons (s := 44) rfl .nil)))))))))) .refl) ?_
              refine run_seq ?_
              refine run_region ?_
              refine run_q (.none rfl) rfl rfl (q_move rfl rfl) ?_
              refine run_q (.none rfl) rfl rfl (q_move rfl rfl) ?_
              refine run_q (.none rfl) rfl rfl (q_gtr rfl rfl rfl) ?_
              refine run_nil ?_
              refine run_cond rfl (fun g58 => ?_) (fun g58 => ?_)
              · have g58' := g58
                try simp only [decide_eq_true_eq, decide_eq_false_iff_not, beq_iff_eq, beq_eq_false_iff_ne, bne_iff_ne, bne_eq_false_iff_eq, Bool.not_eq_true', Bool.not_eq_false', ne_eq, Int.not_lt, Int.not_le, Decidable.not_not] at g58'
                have hkeep : keepB p c (nth ts k) = true := decide_eq_true (by omega)
                have hlb : 0 ≤ lam p c (nth ts k).first ∧ lam p c (tend (nth ts k)) ≤ 512 := by unfold lam; omega
                refine run_seq ?_
                refine run_region ?_
                refine run_q (.none rfl) rfl rfl (q_move rfl rfl) ?_
                refine run_q (.none rfl) rfl rfl (q_move rfl rfl) ?_
                refine run_q (.none rfl) rfl rfl (q_move rfl rfl) ?_
                refine run_q (.none rfl) rfl rfl (q_sub rfl rfl rfl (by omega)) ?_
                refine run_q (.none rfl) rfl rfl (q_fieldB (d := 0) rfl Try.underlying46 rfl rfl sz3 rfl) ?_
                refine run_h (.none rfl) (h_storeB rfl rfl sz3 rfl rfl rfl rfl rfl Sel.here rfl) ?_
                rintro - -
                refine run_q (.none rfl) rfl rfl (q_fieldB (d := 1) rfl Try.underlying46 rfl rfl sz3 rfl) ?_
                refine run_h (.none rfl) (h_storeB rfl rfl sz3 rfl rfl rfl rfl rfl Sel.here rfl) ?_
                rintro - -
                refine run_nil ?_
                refine run_sub (subMk (.cons (s := 8) rfl (.cons (s := 9) rfl (.cons (s := 11) rfl (.cons (s := 12) rfl (.cons (s := 14) rfl (.cons (s := 42) rfl (.cons (s := 43) rfl (.cons (s := 44) rfl .nil)))))))) .refl) ?_
                refine run_region ?_
                refine run_q (.none rfl) rfl rfl (q_move rfl rfl) ?_
                refine run_q (.none rfl) rfl rfl (q_loadBN rfl agg46 rfl Sel.here (.cons rfl (.cons rfl (.cons rfl (.cons rfl CellsAt.nil)))) rfl) ?_
                refine run_h (.none rfl) (h_buildSlice rfl rfl rfl Try.underlying22 info46 (.cons rfl rfl rfl rfl Parts.nil) rfl (by omega)) ?_
                rintro b67 -
                refine run_h (.none rfl) (h_append rfl rfl rfl Try.underlying22 info46 rfl rfl (.there (.there Sel.here)) rfl (.own Sel.here) rfl (all1 rfl) (all1 rfl) (by omega) (by omega)) ?_
                rintro ⟨A68, c68⟩ -
                refine run_q (.none rfl) rfl rfl (q_assign rfl rfl) ?_
                refine run_nil ?_
                refine run_sub (subMk (.cons (s := 8) rfl (.cons (s := 9) rfl (.cons (s := 11) rfl (.cons (s := 12) rfl (.cons (s := 42) rfl (.cons (s := 43) rfl (.cons (s := 44) rfl .nil))))))) .refl) ?_
                refine run_blk ?_
                refine run_region ?_
                refine run_q (.none rfl) rfl rfl (q_add rfl rfl rfl (by omega)) ?_
                refine run_q (.none rfl) rfl rfl (q_move rfl rfl) ?_
                refine run_nil ?_
                exact run_again (k + 1, A68, c68) (by (try dsimp only); exact (by omega)) (by (try dsimp only); omega) (subMk (.cons' (s := 44) rfl rfl (.cons' (s := 12) rfl (by rw [delK_in (by omega) hkeep]; simp) (.cons (s := 8) rfl (.cons (s := 9) rfl (.cons (s := 11) rfl (.cons (s := 42) rfl (.cons (s := 43) rfl .nil))))))) (.cons Sel.here (.own rfl (by rw [delK_in (by omega) hkeep]; simp) rfl (by rw [delK_in (by omega) hkeep, List.map_append]; rfl)) (.cons (.there (.there Sel.here)) .refl (.cons (.there (.there Sel.here)) .refl .nil))))
              · have g58' := g58
                try simp only [decide_eq_true_eq, decide_eq_false_iff_not, beq_iff_eq, beq_eq_false_iff_ne, bne_iff_ne, bne_eq_false_iff_eq, Bool.not_eq_true', Bool.not_eq_false', ne_eq, Int.not_lt, Int.not_le, Decidable.not_not] at g58'
                have hkeep : keepB p c (nth ts k) = false := decide_eq_false (by omega)
                refine run_skip ?_
                refine run_blk ?_
                refine run_region ?_
                refine run_q (.none rfl) rfl rfl (q_add rfl rfl rfl (by omega)) ?_
                refine run_q (.none rfl) rfl rfl (q_move rfl rfl) ?_
                refine run_nil ?_
                refine run_sub (subMk (.cons (s := 8) rfl (.cons (s := 9) rfl (.cons (s := 11) rfl (.cons (s := 12) rfl (.cons (s := 42) rfl (.cons (s := 43) rfl (.cons (s := 44) rfl .nil))))))) .refl) ?_
                exact run_again (k + 1, O, co) (by (try dsimp only); exact (by omega)) (by (try dsimp only); omega) (subMk (.cons' (s := 44) rfl rfl (.cons' (s := 12) rfl (by rw [delK_out (by omega) hkeep]) (.cons (s := 8) rfl (.cons (s := 9) rfl (.cons (s := 11) rfl (.cons (s := 42) rfl (.cons (s := 43) rfl .nil))))))) (.cons (.there Sel.here) (.own rfl (by rw [delK_out (by omega) hkeep]) rfl (by rw [delK_out (by omega) hkeep])) (.cons (.there Sel.here) .refl (.cons (.there Sel.here) .refl .nil))))
            · have g45' := g45
              try simp only [decide_eq_true_eq, decide_eq_false_iff_not, beq_iff_eq, beq_eq_false_iff_ne, bne_iff_ne, bne_eq_false_iff_eq, Bool.not_eq_true', Bool.not_eq_false', ne_eq, Int.not_lt, Int.not_le, Decidable.not_not] at g45'
              refine run_exit rfl ?_
              refine run_sub (subMk (.cons (s := 8) rfl (.cons (s := 9) rfl (.cons (s := 12) rfl .nil))) .refl) ?_
              refine run_seq ?_
              refine run_region ?_
              refine run_q (.none rfl) rfl rfl (q_move rfl rfl) ?_
              refine run_h (.none rfl) (h_call rfl rfl rfl call30 (.cons rfl Evs.nil) (fun w hk hm => canonical_ret (delK p c ts k) O co w (own_rd (Sel.here.holds hm)) (by have := delK_len (p := p) (c := c) (ts := ts) (k := k); omega))) ?_
              rintro ⟨v, m⟩ ⟨O71, co71, rfl, rfl⟩
              show Run _ _ _ _ _ _ _ ⟨(71, .slice O71 (delK p c ts k).length co71) :: _, _ :: _⟩
              refine run_q (.none rfl) rfl rfl (q_assign rfl rfl) ?_
              refine run_q (.none rfl) rfl rfl (q_assign rfl rfl) ?_
              refine run_nil ?_
              refine run_sub (subMk (.cons (s := 8) rfl (.cons (s := 9) rfl .nil)) .refl) ?_
              refine run_ret ?_
              refine run_sub (subMk .refl (.cons Sel.here .refl .nil)) ?_
              exact end2 rfl rfl rfl ⟨O71, co71, by rw [delV_ok hc (by omega), sortR_len, delK_all (by omega)], by rw [delV_ok hc (by omega), sortR_len, delK_all (by omega)]⟩

set_option maxHeartbeats 1000000 in
set_option maxRecDepth 100000 in
theorem refdelete_ret (ts : List Tup) (A : Option Addr) (ca : Nat) (n p c : Int) (W : World) (hr : Rd W A 4 (ts.map Tup.enc)) (hc : checkV ts n = 0) (hpc : 0 ≤ p ∧ p ≤ n ∧ 0 ≤ c ∧ c ≤ n - p) : Calls Try.prog 34 #[.slice A ts.length ca, .int .i64 n, .int .i64 p, .int .i64 c] W (Ret W nX (fun v m => ∃ O co, v = .slice O (delL p c ts).length co ∧ m = [.own 45 4 O (delL p c ts).length co ((sortR (delL p c ts) (delL p c ts).length).map Tup.enc)])) := by
  have hv := Val.of hc
  obtain ⟨c1, c2, c3, c4⟩ := checkV_good hc
  have hl : ts.length ≤ 1000000 := by omega
  have hc0 : 0 ≤ c := by omega
  refine enterA (X := nX) (vs := [.slice A ts.length ca, .int .i64 n, .int .i64 p, .int .i64 c]) Try.func34 Try.ntmps34 rfl rfl Mem.nil ?_
  refine run_seq ?_
  refine run_region ?_
  refine run_q (.none rfl) rfl rfl (q_assign rfl rfl) ?_
  refine run_nil ?_
  refine run_seq ?_
  refine run_region ?_
  refine run_q (.none rfl) rfl rfl (q_assign rfl rfl) ?_
  refine run_nil ?_
  refine run_seq ?_
  refine run_seq ?_
  refine run_region ?_
  refine run_q (.none rfl) rfl rfl (q_assign rfl rfl) ?_
  refine run_nil ?_
  refine run_block ?_
  refine run_sub (subMk .refl (MemSub.nilOwn 45 4)) ?_
  refine run_sub (subMk (.cons (s := 10) rfl (.cons (s := 9) rfl (.cons (s := 0) rfl (.cons (s := 1) rfl (.cons (s := 2) rfl (.cons (s := 3) rfl (.cons (s := 8) rfl .nil))))))) (.cons Sel.here .refl .nil)) ?_
  refine run_loopC2M1 (ι := Nat × (Option Addr) × Nat) (fun gg => gg.1 ≤ ts.length) (fun gg => .int .i64 (gg.1 : Int)) (fun gg => .slice gg.2.1 (delK p c ts gg.1).length gg.2.2) (fun gg => .own 45 4 gg.2.1 (delK p c ts gg.1).length gg.2.2 ((delK p c ts gg.1).map Tup.enc)) (fun gg => ts.length - gg.1) (0, none, 0) (by (try dsimp only); exact (by omega)) rfl (by simp [delK, delL]) (.own rfl (by simp [delK, delL]) rfl (by simp [delK, delL])) ?_
  rintro ⟨k, O, co⟩ hk
  (try dsimp only at hk)
  show Run _ _ _ _ _ _ _ ⟨(10, .int .i64 (k : Int)) :: (9, .slice O (delK p c ts k).length co) :: _, .own 45 4 O (delK p c ts k).length co ((delK p c ts k).map Tup.enc) :: _⟩
  refine run_seq ?_
  refine run_seq ?_
  refine run_region ?_
  refine run_q (.none rfl) rfl rfl (q_move rfl rfl) ?_
  refine run_q (.none rfl) rfl rfl (q_move rfl rfl) ?_
  refine run_q (.none rfl) rfl rfl (q_len rfl Try.underlying27 rfl) ?_
  refine run_q (.none rfl) rfl rfl (q_lss rfl rfl rfl) ?_
  refine run_nil ?_
  refine run_sub (subMk (.cons (s := 0) rfl (.cons (s := 1) rfl (.cons (s := 2) rfl (.cons (s := 3) rfl (.cons (s := 8) rfl (.cons (s := 9) rfl (.cons (s := 10) rfl (.cons (s := 17) rfl .nil)))))))) .refl) ?_
  refine run_cond rfl (fun g17 => ?_) (fun g17 => ?_)
  · have g17' := g17
    try simp only [decide_eq_true_eq, decide_eq_false_iff_not, beq_iff_eq, beq_eq_false_iff_ne, bne_iff_ne, bne_eq_false_iff_eq, Bool.not_eq_true', Bool.not_eq_false', ne_eq, Int.not_lt, Int.not_le, Decidable.not_not] at g17'
    obtain ⟨hok, p1, p2, p3, p4⟩ := hv.prop (k := k) (by omega)
    have hok0 := hok
    unfold TupOk at hok
    have htd : tend (nth ts k) = (nth ts k).first + (nth ts k).count := rfl
    have hdk := delK_len (p := p) (c := c) (ts := ts) (k := k)
    have hpt := (errT_zero (c4 k (by omega))).1
    unfold propT at hpt
    refine run_skip ?_
    refine run_seq ?_
    refine run_block ?_
    refine run_seq ?_
    refine run_draw [(0, 0), (1, 0), (2, 0), (3, 0), (4, 0), (5, 0), (6, 0), (7, 0), (8, 0), (9, 0), (10, 0), (11, 1), (12, 1)] mixed (by kernel_rfl) .refl ?_
    refine d_q rfl rfl (.none rfl) rfl rfl (q_move rfl rfl) ?_
    refine d_q rfl rfl (.none rfl) rfl rfl (q_move rfl rfl) ?_
    refine d_q rfl rfl (.none rfl) rfl rfl (q_indexS (q := k) rfl Try.underlying27 sz45 rfl rfl (.inp hr .no) (by simp <;> omega) rfl (by omega)) ?_
    refine d_q rfl rfl (.none rfl) rfl rfl (q_fieldAddr (d := 2) rfl Try.underlying45 rfl rfl sz3 rfl) ?_
    refine d_q rfl rfl (.none rfl) rfl rfl (q_loadF rfl one3 rfl (.inp hr .no) (getmap (by omega)) rfl) ?_
    refine d_q rfl rfl (.none rfl) rfl rfl (q_move rfl rfl) ?_
    refine d_q rfl rfl (.none rfl) rfl rfl (q_move rfl rfl) ?_
    refine d_q rfl rfl (.none rfl) rfl rfl (q_indexS (q := k) rfl Try.underlying27 sz45 rfl rfl (.inp hr .no) (by simp <;> omega) rfl (by omega)) ?_
    refine d_q rfl rfl (.none rfl) rfl rfl (q_fieldAddr (d := 3) rfl Try.underlying45 rfl rfl sz3 rfl) ?_
    refine d_q rfl rfl (.none rfl) rfl rfl (q_loadF rfl one3 rfl (.inp hr .no) (getmap (by omega)) rfl) ?_
    refine d_q rfl rfl (.none rfl) rfl rfl (q_build rfl (.cons rfl (.cons rfl PV.nil)) (built45p2p3 _ _)) ?_
    refine d_h rfl rfl (.none rfl) (h_alloc rfl rfl rfl info45) (fun _ _ => (.sub (by repeat (first | exact List.Sublist.refl _ | apply List.Sublist.cons)))) ?_
    rintro b11 -
    refine d_h rfl rfl (.none rfl) (h_storeB rfl rfl sz45 rfl rfl rfl rfl rfl Sel.here rfl) (fun _ _ => (.sub (by repeat (first | exact List.Sublist.refl _ | apply List.Sublist.cons)))) ?_
    rintro - -
    refine d_nil ?_
    refine run_sub (subMk (.cons (s := 0) rfl (.cons (s := 1) rfl (.cons (s := 2) rfl (.cons (s := 3) rfl (.cons (s := 8) rfl (.cons (s := 9) rfl (.cons (s := 10) rfl (.cons (s := 11) rfl .nil)))))))) .refl) ?_
    refine run_seq ?_
    refine run_region ?_
    refine run_q (.none rfl) rfl rfl (q_assign rfl rfl) ?_
    refine run_nil ?_
    refine run_seq ?_
    refine run_seq ?_
    refine run_region ?_
    refine run_q (.none rfl) rfl rfl (q_assign rfl rfl) ?_
    refine run_nil ?_
    refine run_block ?_
    refine run_sub (subMk (.cons (s := 13) rfl (.cons (s := 12) rfl (.cons (s := 0) rfl (.cons (s := 1) rfl (.cons (s := 2) rfl (.cons (s := 3) rfl (.cons (s := 8) rfl (.cons (s := 9) rfl (.cons (s := 10) rfl (.cons (s := 11) rfl .nil)))))))))) (.cons Sel.here .refl (.cons Sel.here .refl .nil))) ?_
    refine run_loopC2M1 (ι := Nat) (fun e => (e : Int) ≤ n) (fun e => .int .i64 (e : Int)) (fun e => .int .i64 (lam p c e)) (fun e => .blk b11 45 [(0, .int .i64 (fstD p c (nth ts k) e)), (1, .int .i64 (cntD p c (nth ts k) e)), (2, .int .i64 (nth ts k).actual), (3, .int .i64 (nth ts k).normal)]) (fun e => n.toNat - e) 0 (by (try dsimp only); exact (by omega)) rfl (vint (lam_zero (by omega) (by omega)).symm) (.blk (.cons' rfl (vint (by rw [fstD, show ((0 : Nat) : Int) = 0 from rfl, cntD_zero (by omega)]; rfl)) (.cons' rfl (vint (by rw [show ((0 : Nat) : Int) = 0 from rfl, cntD_zero (by omega)])) (.cons rfl (.cons rfl .nil))))) ?_
    rintro e he
    (try dsimp only at he)
    show Run _ _ _ _ _ _ _ ⟨(13, .int .i64 (e : Int)) :: (12, .int .i64 (lam p c e)) :: _, .blk b11 45 [(0, .int .i64 (fstD p c (nth ts k) e)), (1, .int .i64 (cntD p c (nth ts k) e)), (2, .int .i64 (nth ts k).actual), (3, .int .i64 (nth ts k).normal)] :: _⟩
    refine run_seq ?_
    refine run_seq ?_
    refine run_region ?_
    refine run_q (.none rfl) rfl rfl (q_move rfl rfl) ?_
    refine run_q (.none rfl) rfl rfl (q_move rfl rfl) ?_
    refine run_q (.none rfl) rfl rfl (q_lss rfl rfl rfl) ?_
    refine run_nil ?_
    refine run_cond rfl (fun g33 => ?_) (fun g33 => ?_)
    · have g33' := g33
      try simp only [decide_eq_true_eq, decide_eq_false_iff_not, beq_iff_eq, beq_eq_false_iff_ne, bne_iff_ne, bne_eq_false_iff_eq, Bool.not_eq_true', Bool.not_eq_false', ne_eq, Int.not_lt, Int.not_le, Decidable.not_not] at g33'
      have hcl := cntD_le (p := p) (c := c) (t := (nth ts k)) (e := e) hc0 (by omega) (by omega)
      have hcn := cntD_nn (p := p) (c := c) (t := (nth ts k)) (e := e) hc0
      have hlb : 0 ≤ lam p c e ∧ lam p c e ≤ 512 := by unfold lam; omega
      refine run_skip ?_
      refine run_seq ?_
      refine run_block ?_
      refine run_seq ?_
      refine run_seq ?_
      refine run_region ?_
      refine run_q (.none rfl) rfl rfl (q_move rfl rfl) ?_
      refine run_q (.none rfl) rfl rfl (q_move rfl rfl) ?_
      refine run_q (.none rfl) rfl rfl (q_geq rfl rfl rfl) ?_
      refine run_q (.none rfl) rfl rfl (q_move rfl rfl) ?_
      refine run_split 39 rfl (fun g39 => ?_) (fun g39 => ?_)
      · have g39' := g39
        try simp only [decide_eq_true_eq, decide_eq_false_iff_not, beq_iff_eq, beq_eq_false_iff_ne, bne_iff_ne, bne_eq_false_iff_eq, Bool.not_eq_true', Bool.not_eq_false', ne_eq, Int.not_lt, Int.not_le, Decidable.not_not] at g39'
        refine run_q (.on rfl rfl rfl g39) rfl rfl (q_move rfl rfl) ?_
        refine run_q (.on rfl rfl rfl g39) rfl rfl (q_move rfl rfl) ?_
        refine run_q (.on rfl rfl rfl g39) rfl rfl (q_move rfl rfl) ?_
        refine run_q (.on rfl rfl rfl g39) rfl rfl (q_add rfl rfl rfl (by omega)) ?_
        refine run_q (.on rfl rfl rfl g39) rfl rfl (q_lss rfl rfl rfl) ?_
        refine run_q (.none rfl) rfl rfl (q_pickT rfl rfl g39 rfl) ?_
        refine run_nil ?_
        refine run_sub (subMk (.cons (s := 0) rfl (.cons (s := 1) rfl (.cons (s := 2) rfl (.cons (s := 3) rfl (.cons (s := 8) rfl (.cons (s := 9) rfl (.cons (s := 10) rfl (.cons (s := 11) rfl (.cons (s := 12) rfl (.cons (s := 13) rfl (.cons (s := 45) rfl .nil))))))))))) .refl) ?_
        refine run_cond rfl (fun g45 => ?_) (fun g45 => ?_)
        · have g45' := g45
          try simp only [decide_eq_true_eq, decide_eq_false_iff_not, beq_iff_eq, beq_eq_false_iff_ne, bne_iff_ne, bne_eq_false_iff_eq, Bool.not_eq_true', Bool.not_eq_false', ne_eq, Int.not_lt, Int.not_le, Decidable.not_not] at g45'
          refine run_exit rfl ?_
          refine run_region ?_
          refine run_q (.none rfl) rfl rfl (q_move rfl rfl) ?_
          refine run_q (.none rfl) rfl rfl (q_add rfl rfl rfl (by omega)) ?_
          refine run_q (.none rfl) rfl rfl (q_assign rfl rfl) ?_
          refine run_nil ?_
          refine run_sub (subMk (.cons (s := 0) rfl (.cons (s := 1) rfl (.cons (s := 2) rfl (.cons (s := 3) rfl (.cons (s := 8) rfl (.cons (s := 9) rfl (.cons (s := 10) rfl (.cons (s := 11) rfl (.cons (s := 12) rfl (.cons (s := 13) rfl .nil)))))))))) .refl) ?_
          exact run_again (e + 1) (by (try dsimp only); exact (by omega)) (by (try dsimp only); omega) (subMk (.cons' (s := 13) rfl rfl (.cons' (s := 12) rfl (vint (lam_gone (by omega) (by omega)).symm) (.cons (s := 0) rfl (.cons (s := 1) rfl (.cons (s := 2) rfl (.cons (s := 3) rfl (.cons (s := 8) rfl (.cons (s := 9) rfl (.cons (s := 10) rfl (.cons (s := 11) rfl .nil)))))))))) (.cons Sel.here (.blk (.cons' rfl (vint (fstD_gone (by omega) (by omega)).symm) (.cons' rfl (vint (cntD_gone (by omega) (by omega)).symm) (.cons rfl (.cons rfl .nil))))) (.cons Sel.here .refl .nil)))
        · have g45' := g45
          try simp only [decide_eq_true_eq, decide_eq_false_iff_not, beq_iff_eq, beq_eq_false_iff_ne, bne_iff_ne, bne_eq_false_iff_eq, Bool.not_eq_true', Bool.not_eq_false', ne_eq, Int.not_lt, Int.not_le, Decidable.not_not] at g45'
          refine run_skip ?_
          refine run_seq ?_
          refine run_seq ?_
          refine run_region ?_
          refine run_q (.none rfl) rfl rfl (q_move rfl rfl) ?_
          refine run_q (.none rfl) rfl rfl (q_move rfl rfl) ?_
          refine run_q (.none rfl) rfl rfl (q_indexS (q := k) rfl Try.underlying27 sz45 rfl rfl (.inp hr .no) (by simp <;> omega) rfl (by omega)) ?_
          refine run_q (.none rfl) rfl rfl (q_loadE rfl agg45 rfl (.inp hr .no) (getmap (by omega)) rfl) ?_
          refine run_q (.none rfl) rfl rfl (q_move rfl rfl) ?_
          refine run_q (.none rfl) rfl rfl (q_call rfl call22 (.cons rfl (.cons rfl Evs.nil)) (fun w hk hm => in_just (nth ts k) (e : Int) w hok0)) ?_
          refine run_nil ?_
          refine run_sub (subMk (.cons (s := 0) rfl (.cons (s := 1) rfl (.cons (s := 2) rfl (.cons (s := 3) rfl (.cons (s := 8) rfl (.cons (s := 9) rfl (.cons (s := 10) rfl (.cons (s := 11) rfl (.cons (s := 12) rfl (.cons (s := 13) rfl (.cons (s := 51) rfl .nil))))))))))) .refl) ?_
          refine run_cond rfl (fun g51 => ?_) (fun g51 => ?_)
          · have g51' := g51
            try simp only [decide_eq_true_eq, decide_eq_false_iff_not, beq_iff_eq, beq_eq_false_iff_ne, bne_iff_ne, bne_eq_false_iff_eq, Bool.not_eq_true', Bool.not_eq_false', ne_eq, Int.not_lt, Int.not_le, Decidable.not_not] at g51'
            refine run_seq ?_
            refine run_seq ?_
            refine run_region ?_
            refine run_q (.none rfl) rfl rfl (q_fieldB (d := 1) rfl Try.underlying45 rfl rfl sz3 rfl) ?_
            refine run_q (.none rfl) rfl rfl (q_loadB rfl one3 rfl Sel.here rfl) ?_
            refine run_q (.none rfl) rfl rfl (q_eql rfl rfl rfl) ?_
            refine run_nil ?_
            refine run_sub (subMk (.cons (s := 0) rfl (.cons (s := 1) rfl (.cons (s := 2) rfl (.cons (s := 3) rfl (.cons (s := 8) rfl (.cons (s := 9) rfl (.cons (s := 10) rfl (.cons (s := 11) rfl (.cons (s := 12) rfl (.cons (s := 13) rfl (.cons (s := 54) rfl .nil))))))))))) .refl) ?_
            refine run_cond rfl (fun g54 => ?_) (fun g54 => ?_)
            · have g54' := g54
              try simp only [decide_eq_true_eq, decide_eq_false_iff_not, beq_iff_eq, beq_eq_false_iff_ne, bne_iff_ne, bne_eq_false_iff_eq, Bool.not_eq_true', Bool.not_eq_false', ne_eq, Int.not_lt, Int.not_le, Decidable.not_not] at g54'
              refine run_region ?_
              refine run_q (.none rfl) rfl rfl (q_move rfl rfl) ?_
              refine run_q (.none rfl) rfl rfl (q_fieldB (d := 0) rfl Try.underlying45 rfl rfl sz3 rfl) ?_
              refine run_h (.none rfl) (h_storeB rfl rfl sz3 rfl rfl rfl rfl rfl Sel.here rfl) ?_
              rintro - -
              refine run_nil ?_
              refine run_sub (subMk (.cons (s := 0) rfl (.cons (s := 1) rfl (.cons (s := 2) rfl (.cons (s := 3) rfl (.cons (s := 8) rfl (.cons (s := 9) rfl (.cons (s := 10) rfl (.cons (s := 11) rfl (.cons (s := 12) rfl (.cons (s := 13) rfl .nil)))))))))) .refl) ?_
              refine run_region ?_
              refine run_q (.none rfl) rfl rfl (q_fieldB (d := 1) rfl Try.underlying45 rfl rfl sz3 rfl) ?_
              refine run_q (.none rfl) rfl rfl (q_loadB rfl one3 rfl Sel.here rfl) ?_
              refine run_q (.none rfl) rfl rfl (q_add rfl rfl rfl (by omega)) ?_
              refine run_q (.none rfl) rfl rfl (q_fieldB (d := 1) rfl Try.underlying45 rfl rfl sz3 rfl) ?_
              refine run_h (.none rfl) (h_storeB rfl rfl sz3 rfl rfl rfl rfl rfl Sel.here rfl) ?_
              rintro - -
              refine run_nil ?_
              refine run_sub (subMk (.cons (s := 0) rfl (.cons (s := 1) rfl (.cons (s := 2) rfl (.cons (s := 3) rfl (.cons (s := 8) rfl (.cons (s := 9) rfl (.cons (s := 10) rfl (.cons (s := 11) rfl (.cons (s := 12) rfl (.cons (s := 13) rfl .nil)))))))))) .refl) ?_
              refine run_region ?_
              refine run_q (.none rfl) rfl rfl (q_move rfl rfl) ?_
              refine run_q (.none rfl) rfl rfl (q_add rfl rfl rfl (by omega)) ?_
              refine run_q (.none rfl) rfl rfl (q_assign rfl rfl) ?_
              refine run_nil ?_
              refine run_blk ?_
              refine run_region ?_
              refine run_q (.none rfl) rfl rfl (q_move rfl rfl) ?_
              refine run_q (.none rfl) rfl rfl (q_add rfl rfl rfl (by omega)) ?_
              refine run_q (.none rfl) rfl rfl (q_assign rfl rfl) ?_
              refine run_nil ?_
              refine run_sub (subMk (.cons (s := 0) rfl (.cons (s := 1) rfl (.cons (s := 2) rfl (.cons (s := 3) rfl (.cons (s := 8) rfl (.cons (s := 9) rfl (.cons (s := 10) rfl (.cons (s := 11) rfl (.cons (s := 12) rfl (.cons (s := 13) rfl .nil)))))))))) .refl) ?_
              exact run_again (e + 1) (by (try dsimp only); exact (by omega)) (by (try dsimp only); omega) (subMk (.cons' (s := 13) rfl rfl (.cons' (s := 12) rfl (vint (lam_next hc0 (by omega)).symm) (.cons (s := 0) rfl (.cons (s := 1) rfl (.cons (s := 2) rfl (.cons (s := 3) rfl (.cons (s := 8) rfl (.cons (s := 9) rfl (.cons (s := 10) rfl (.cons (s := 11) rfl .nil)))))))))) (.cons Sel.here (.blk (.cons' rfl (vint (fstD_new hc0 (by omega) g51 (by omega))) (.cons' rfl (vint (cntD_in hc0 (by omega) g51).symm) (.cons rfl (.cons rfl .nil))))) (.cons Sel.here .refl .nil)))
            · have g54' := g54
              try simp only [decide_eq_true_eq, decide_eq_false_iff_not, beq_iff_eq, beq_eq_false_iff_ne, bne_iff_ne, bne_eq_false_iff_eq, Bool.not_eq_true', Bool.not_eq_false', ne_eq, Int.not_lt, Int.not_le, Decidable.not_not] at g54'
              refine run_skip ?_
              refine run_region ?_
              refine run_q (.none rfl) rfl rfl (q_fieldB (d := 1) rfl Try.underlying45 rfl rfl sz3 rfl) ?_
              refine run_q (.none rfl) rfl rfl (q_loadB rfl one3 rfl Sel.here rfl) ?_
              refine run_q (.none rfl) rfl rfl (q_add rfl rfl rfl (by omega)) ?_
              refine run_q (.none rfl) rfl rfl (q_fieldB (d := 1) rfl Try.underlying45 rfl rfl sz3 rfl) ?_
              refine run_h (.none rfl) (h_storeB rfl rfl sz3 rfl rfl rfl rfl rfl Sel.here rfl) ?_
              rintro - -
              refine run_nil ?_
              refine run_sub (subMk (.cons (s := 0) rfl (.cons (s := 1) rfl (.cons (s := 2) rfl (.cons (s := 3) rfl (.cons (s := 8) rfl (.cons (s := 9) rfl (.cons (s := 10) rfl (.cons (s := 11) rfl (.cons (s := 12) rfl (.cons (s := 13) rfl .nil)))))))))) .refl) ?_
              refine run_region ?_
              refine run_q (.none rfl) rfl rfl (q_move rfl rfl) ?_
              refine run_q (.none rfl) rfl rfl (q_add rfl rfl rfl (by omega)) ?_
              refine run_q (.none rfl) rfl rfl (q_assign rfl rfl) ?_
              refine run_nil ?_
              refine run_blk ?_
              refine run_region ?_
              refine run_q (.none rfl) rfl rfl (q_move rfl rfl) ?_
              refine run_q (.none rfl) rfl rfl (q_add rfl rfl rfl (by omega)) ?_
              refine run_q (.none rfl) rfl rfl (q_assign rfl rfl) ?_
              refine run_nil ?_
              refine run_sub (subMk (.cons (s := 0) rfl (.cons (s := 1) rfl (.cons (s := 2) rfl (.cons (s := 3) rfl (.cons (s := 8) rfl (.cons (s := 9) rfl (.cons (s := 10) rfl (.cons (s := 11) rfl (.cons (s := 12) rfl (.cons (s := 13) rfl .nil)))))))))) .refl) ?_
              exact run_again (e + 1) (by (try dsimp only); exact (by omega)) (by (try dsimp only); omega) (subMk (.cons' (s := 13) rfl rfl (.cons' (s := 12) rfl (vint (lam_next hc0 (by omega)).symm) (.cons (s := 0) rfl (.cons (s := 1) rfl (.cons (s := 2) rfl (.cons (s := 3) rfl (.cons (s := 8) rfl (.cons (s := 9) rfl (.cons (s := 10) rfl (.cons (s := 11) rfl .nil)))))))))) (.cons Sel.here (.blk (.cons' rfl (vint (fstD_on hc0 (by omega) g51 (by omega))) (.cons' rfl (vint (cntD_in hc0 (by omega) g51).symm) (.cons rfl (.cons rfl .nil))))) (.cons Sel.here .refl .nil)))
          · have g51' := g51
            try simp only [decide_eq_true_eq, decide_eq_false_iff_not, beq_iff_eq, beq_eq_false_iff_ne, bne_iff_ne, bne_eq_false_iff_eq, Bool.not_eq_true', Bool.not_eq_false', ne_eq, Int.not_lt, Int.not_le, Decidable.not_not] at g51'
            refine run_skip ?_
            refine run_region ?_
            refine run_q (.none rfl) rfl rfl (q_move rfl rfl) ?_
            refine run_q (.none rfl) rfl rfl (q_add rfl rfl rfl (by omega)) ?_
            refine run_q (.none rfl) rfl rfl (q_assign rfl rfl) ?_
            refine run_nil ?_
            refine run_sub (subMk (.cons (s := 0) rfl (.cons (s := 1) rfl (.cons (s := 2) rfl (.cons (s := 3) rfl (.cons (s := 8) rfl (.cons (s := 9) rfl (.cons (s := 10) rfl (.cons (s := 11) rfl (.cons (s := 12) rfl (.cons (s := 13) rfl .nil)))))))))) .refl) ?_
            refine run_blk ?_
            refine run_region ?_
            refine run_q (.none rfl) rfl rfl (q_move rfl rfl) ?_
            refine run_q (.none rfl) rfl rfl (q_add rfl rfl rfl (by omega)) ?_
            refine run_q (.none rfl) rfl rfl (q_assign rfl rfl) ?_
            refine run_nil ?_
            exact run_again (e + 1) (by (try dsimp only); exact (by omega)) (by (try dsimp only); omega) (subMk (.cons' (s := 13) rfl rfl (.cons' (s := 12) rfl (vint (lam_next hc0 (by omega)).symm) (.cons (s := 0) rfl (.cons (s := 1) rfl (.cons (s := 2) rfl (.cons (s := 3) rfl (.cons (s := 8) rfl (.cons (s := 9) rfl (.cons (s := 10) rfl (.cons (s := 11) rfl .nil)))))))))) (.cons Sel.here (.blk (.cons' rfl (vint (fstD_out (by omega) (by simpa using g51)).symm) (.cons' rfl (vint (cntD_out (by omega) (by simpa using g51)).symm) (.cons rfl (.cons rfl .nil))))) (.cons Sel.here .refl .nil)))
      · have g39' := g39
        try simp only [decide_eq_true_eq, decide_eq_false_iff_not, beq_iff_eq, beq_eq_false_iff_ne, bne_iff_ne, bne_eq_false_iff_eq, Bool.not_eq_true', Bool.not_eq_false', ne_eq, Int.not_lt, Int.not_le, Decidable.not_not] at g39'
        refine run_off (.no rfl rfl rfl g39) rfl rfl ?_
        refine run_off (.no rfl rfl rfl g39) rfl rfl ?_
        refine run_off (.no rfl rfl rfl g39) rfl rfl ?_
        refine run_off (.no rfl rfl rfl g39) rfl rfl ?_
        refine run_off (.no rfl rfl rfl g39) rfl rfl ?_
        refine run_q (.none rfl) rfl rfl (q_pickF rfl rfl g39 rfl) ?_
        refine run_nil ?_
        refine run_sub (subMk (.cons (s := 0) rfl (.cons (s := 1) rfl (.cons (s := 2) rfl (.cons (s := 3) rfl (.cons (s := 8) rfl (.cons (s := 9) rfl (.cons (s := 10) rfl (.cons (s := 11) rfl (.cons (s := 12) rfl (.cons (s := 13) rfl (.cons (s := 45) rfl .nil))))))))))) .refl) ?_
        refine run_condF rfl rfl ?_
        refine run_skip ?_
        refine run_seq ?_
        refine run_seq ?_
        refine run_region ?_
        refine run_q (.none rfl) rfl rfl (q_move rfl rfl) ?_
        refine run_q (.none rfl) rfl rfl (q_move rfl rfl) ?_
        refine run_q (.none rfl) rfl rfl (q_indexS (q := k) rfl Try.underlying27 sz45 rfl rfl (.inp hr .no) (by simp <;> omega) rfl (by omega)) ?_
        refine run_q (.none rfl) rfl rfl (q_loadE rfl agg45 rfl (.inp hr .no) (getmap (by omega)) rfl) ?_
        refine run_q (.none rfl) rfl rfl (q_move rfl rfl) ?_
        refine run_q (.none rfl) rfl rfl (q_call rfl call22 (.cons rfl (.cons rfl Evs.nil)) (fun w hk hm => in_just (nth ts k) (e : Int) w hok0)) ?_
        refine run_nil ?_
        refine run_sub (subMk (.cons (s := 0) rfl (.cons (s := 1) rfl (.cons (s := 2) rfl (.cons (s := 3) rfl (.cons (s := 8) rfl (.cons (s := 9) rfl (.cons (s := 10) rfl (.cons (s := 11) rfl (.cons (s := 12) rfl (.cons (s := 13) rfl (.cons (s := 51) rfl .nil))))))))))) .refl) ?_
        refine run_cond rfl (fun g51 => ?_) (fun g51 => ?_)
        · have g51' := g51
          try simp only [decide_eq_true_eq, decide_eq_false_iff_not, beq_iff_eq, beq_eq_false_iff_ne, bne_iff_ne, bne_eq_false_iff_eq, Bool.not_eq_true', Bool.not_eq_false', ne_eq, Int.not_lt, Int.not_le, Decidable.not_not] at g51'
          refine run_seq ?_
          refine run_seq ?_
          refine run_region ?_
          refine run_q (.none rfl) rfl rfl (q_fieldB (d := 1) rfl Try.underlying45 rfl rfl sz3 rfl) ?_
          refine run_q (.none rfl) rfl rfl (q_loadB rfl one3 rfl Sel.here rfl) ?_
          refine run_q (.none rfl) rfl rfl (q_eql rfl rfl rfl) ?_
          refine run_nil ?_
          refine run_sub (subMk (.cons (s := 0) rfl (.cons (s := 1) rfl (.cons (s := 2) rfl (.cons (s := 3) rfl (.cons (s := 8) rfl (.cons (s := 9) rfl (.cons (s := 10) rfl (.cons (s := 11) rfl (.cons (s := 12) rfl (.cons (s := 13) rfl (.cons (s := 54) rfl .nil))))))))))) .refl) ?_
          refine run_cond rfl (fun g54 => ?_) (fun g54 => ?_)
          · have g54' := g54
            try simp only [decide_eq_true_eq, decide_eq_false_iff_not, beq_iff_eq, beq_eq_false_iff_ne, bne_iff_ne, bne_eq_false_iff_eq, Bool.not_eq_true', Bool.not_eq_false', ne_eq, Int.not_lt, Int.not_le, Decidable.not_not] at g54'
            refine run_region ?_
            refine run_q (.none rfl) rfl rfl (q_move rfl rfl) ?_
            refine run_q (.none rfl) rfl rfl (q_fieldB (d := 0) rfl Try.underlying45 rfl rfl sz3 rfl) ?_
            refine run_h (.none rfl) (h_storeB rfl rfl sz3 rfl rfl rfl rfl rfl Sel.here rfl) ?_
            rintro - -
            refine run_nil ?_
            refine run_sub (subMk (.cons (s := 0) rfl (.cons (s := 1) rfl (.cons (s := 2) rfl (.cons (s := 3) rfl (.cons (s := 8) rfl (.cons (s := 9) rfl (.cons (s := 10) rfl (.cons (s := 11) rfl (.cons (s := 12) rfl (.cons (s := 13) rfl .nil)))))))))) .refl) ?_
            refine run_region ?_
            refine run_q (.none rfl) rfl rfl (q_fieldB (d := 1) rfl Try.underlying45 rfl rfl sz3 rfl) ?_
            refine run_q (.none rfl) rfl rfl (q_loadB rfl one3 rfl Sel.here rfl) ?_
            refine run_q (.none rfl) rfl rfl (q_add rfl rfl rfl (by omega)) ?_
            refine run_q (.none rfl) rfl rfl (q_fieldB (d := 1) rfl Try.underlying45 rfl rfl sz3 rfl) ?_
            refine run_h (.none rfl) (h_storeB rfl rfl sz3 rfl rfl rfl rfl rfl Sel.here rfl) ?_
            rintro - -
            refine run_nil ?_
            refine run_sub (subMk (.cons (s := 0) rfl (.cons (s := 1) rfl (.cons (s := 2) rfl (.cons (s := 3) rfl (.cons (s := 8) rfl (.cons (s := 9) rfl (.cons (s := 10) rfl (.cons (s := 11) rfl (.cons (s := 12) rfl (.cons (s := 13) rfl .nil)))))))))) .refl) ?_
            refine run_region ?_
            refine run_q (.none rfl) rfl rfl (q_move rfl rfl) ?_
            refine run_q (.none rfl) rfl rfl (q_add rfl rfl rfl (by omega)) ?_
            refine run_q (.none rfl) rfl rfl (q_assign rfl rfl) ?_
            refine run_nil ?_
            refine run_blk ?_
            refine run_region ?_
            refine run_q (.none rfl) rfl rfl (q_move rfl rfl) ?_
            refine run_q (.none rfl) rfl rfl (q_add rfl rfl rfl (by omega)) ?_
            refine run_q (.none rfl) rfl rfl (q_assign rfl rfl) ?_
            refine run_nil ?_
            refine run_sub (subMk (.cons (s := 0) rfl (.cons (s := 1) rfl (.cons (s := 2) rfl (.cons (s := 3) rfl (.cons (s := 8) rfl (.cons (s := 9) rfl (.cons (s := 10) rfl (.cons (s := 11) rfl (.cons (s := 12) rfl (.cons (s := 13) rfl .nil)))))))))) .refl) ?_
            exact run_again (e + 1) (by (try dsimp only); exact (by omega)) (by (try dsimp only); omega) (subMk (.cons' (s := 13) rfl rfl (.cons' (s := 12) rfl (vint (lam_next hc0 (by omega)).symm) (.cons (s := 0) rfl (.cons (s := 1) rfl (.cons (s := 2) rfl (.cons (s := 3) rfl (.cons (s := 8) rfl (.cons (s := 9) rfl (.cons (s := 10) rfl (.cons (s := 11) rfl .nil)))))))))) (.cons Sel.here (.blk (.cons' rfl (vint (fstD_new hc0 (by omega) g51 (by omega))) (.cons' rfl (vint (cntD_in hc0 (by omega) g51).symm) (.cons rfl (.cons rfl .nil))))) (.cons Sel.here .refl .nil)))
          · have g54' := g54
            try simp only [decide_eq_true_eq, decide_eq_false_iff_not, beq_iff_eq, beq_eq_false_iff_ne, bne_iff_ne, bne_eq_false_iff_eq, Bool.not_eq_true', Bool.not_eq_false', ne_eq, Int.not_lt, Int.not_le, Decidable.not_not] at g54'
            refine run_skip ?_
            refine run_region ?_
            refine run_q (.none rfl) rfl rfl (q_fieldB (d := 1) rfl Try.underlying45 rfl rfl sz3 rfl) ?_
            refine run_q (.none rfl) rfl rfl (q_loadB rfl one3 rfl Sel.here rfl) ?_
            refine run_q (.none rfl) rfl rfl (q_add rfl rfl rfl (by omega)) ?_
            refine run_q (.none rfl) rfl rfl (q_fieldB (d := 1) rfl Try.underlying45 rfl rfl sz3 rfl) ?_
            refine run_h (.none rfl) (h_storeB rfl rfl sz3 rfl rfl rfl rfl rfl Sel.here rfl) ?_
            rintro - -
            refine run_nil ?_
            refine run_sub (subMk (.cons (s := 0) rfl (.cons (s := 1) rfl (.cons (s := 2) rfl (.cons (s := 3) rfl (.cons (s := 8) rfl (.cons (s := 9) rfl (.cons (s := 10) rfl (.cons (s := 11) rfl (.cons (s := 12) rfl (.cons (s := 13) rfl .nil)))))))))) .refl) ?_
            refine run_region ?_
            refine run_q (.none rfl) rfl rfl (q_move rfl rfl) ?_
            refine run_q (.none rfl) rfl rfl (q_add rfl rfl rfl (by omega)) ?_
            refine run_q (.none rfl) rfl rfl (q_assign rfl rfl) ?_
            refine run_nil ?_
            refine run_blk ?_
            refine run_region ?_
            refine run_q (.none rfl) rfl rfl (q_move rfl rfl) ?_
            refine run_q (.none rfl) rfl rfl (q_add rfl rfl rfl (by omega)) ?_
            refine run_q (.none rfl) rfl rfl (q_assign rfl rfl) ?_
            refine run_nil ?_
            refine run_sub (subMk (.cons (s := 0) rfl (.cons (s := 1) rfl (.cons (s := 2) rfl (.cons (s := 3) rfl (.cons (s := 8) rfl (.cons (s := 9) rfl (.cons (s := 10) rfl (.cons (s := 11) rfl (.cons (s := 12) rfl (.cons (s := 13) rfl .nil)))))))))) .refl) ?_
            exact run_again (e + 1) (by (try dsimp only); exact (by omega)) (by (try dsimp only); omega) (subMk (.cons' (s := 13) rfl rfl (.cons' (s := 12) rfl (vint (lam_next hc0 (by omega)).symm) (.cons (s := 0) rfl (.cons (s := 1) rfl (.cons (s := 2) rfl (.cons (s := 3) rfl (.cons (s := 8) rfl (.cons (s := 9) rfl (.cons (s := 10) rfl (.cons (s := 11) rfl .nil)))))))))) (.cons Sel.here (.blk (.cons' rfl (vint (fstD_on hc0 (by omega) g51 (by omega))) (.cons' rfl (vint (cntD_in hc0 (by omega) g51).symm) (.cons rfl (.cons rfl .nil))))) (.cons Sel.here .refl .nil)))
        · have g51' := g51
          try simp only [decide_eq_true_eq, decide_eq_false_iff_not, beq_iff_eq, beq_eq_false_iff_ne, bne_iff_ne, bne_eq_false_iff_eq, Bool.not_eq_true', Bool.not_eq_false', ne_eq, Int.not_lt, Int.not_le, Decidable.not_not] at g51'
          refine run_skip ?_
          refine run_region ?_
          refine run_q (.none rfl) rfl rfl (q_move rfl rfl) ?_
          refine run_q (.none rfl) rfl rfl (q_add rfl rfl rfl (by omega)) ?_
          refine run_q (.none rfl) rfl rfl (q_assign rfl rfl) ?_
          refine run_nil ?_
          refine run_sub (subMk (.cons (s := 0) rfl (.cons (s := 1) rfl (.cons (s := 2) rfl (.cons (s := 3) rfl (.cons (s := 8) rfl (.cons (s := 9) rfl (.cons (s := 10) rfl (.cons (s := 11) rfl (.cons (s := 12) rfl (.cons (s := 13) rfl .nil)))))))))) .refl) ?_
          refine run_blk ?_
          refine run_region ?_
          refine run_q (.none rfl) rfl rfl (q_move rfl rfl) ?_
          refine run_q (.none rfl) rfl rfl (q_add rfl rfl rfl (by omega)) ?_
          refine run_q (.none rfl) rfl rfl (q_assign rfl rfl) ?_
          refine run_nil ?_
          exact run_again (e + 1) (by (try dsimp only); exact (by omega)) (by (try dsimp only); omega) (subMk (.cons' (s := 13) rfl rfl (.cons' (s := 12) rfl (vint (lam_next hc0 (by omega)).symm) (.cons (s := 0) rfl (.cons (s := 1) rfl (.cons (s := 2) rfl (.cons (s := 3) rfl (.cons (s := 8) rfl (.cons (s := 9) rfl (.cons (s := 10) rfl (.cons (s := 11) rfl .nil)))))))))) (.cons Sel.here (.blk (.cons' rfl (vint (fstD_out (by omega) (by simpa using g51)).symm) (.cons' rfl (vint (cntD_out (by omega) (by simpa using g51)).symm) (.cons rfl (.cons rfl .nil))))) (.cons Sel.here .refl .nil)))
    · have g33' := g33
      try simp only [decide_eq_true_eq, decide_eq_false_iff_not, beq_iff_eq, beq_eq_false_iff_ne, bne_iff_ne, bne_eq_false_iff_eq, Bool.not_eq_true', Bool.not_eq_false', ne_eq, Int.not_lt, Int.not_le, Decidable.not_not] at g33'
      refine run_exit rfl ?_
      refine run_sub (subMk (.cons (s := 0) rfl (.cons (s := 1) rfl (.cons (s := 2) rfl (.cons (s := 3) rfl (.cons (s := 8) rfl (.cons (s := 9) rfl (.cons (s := 10) rfl (.cons (s := 11) rfl .nil)))))))) .refl) ?_
      refine run_seq ?_
      refine run_region ?_
      refine run_q (.none rfl) rfl rfl (q_fieldB (d := 1) rfl Try.underlying45 rfl rfl sz3 rfl) ?_
      refine run_q (.none rfl) rfl rfl (q_loadB rfl one3 rfl Sel.here rfl) ?_
      refine run_q (.none rfl) rfl rfl (q_gtr rfl rfl rfl) ?_
      refine run_nil ?_
      refine run_cond rfl (fun g65 => ?_) (fun g65 => ?_)
      · have g65' := g65
        try simp only [decide_eq_true_eq, decide_eq_false_iff_not, beq_iff_eq, beq_eq_false_iff_ne, bne_iff_ne, bne_eq_false_iff_eq, Bool.not_eq_true', Bool.not_eq_false', ne_eq, Int.not_lt, Int.not_le, Decidable.not_not] at g65'
        have hkeep : keepB p c (nth ts k) = true := by rw [keepB_end (e := e) (by omega) (by omega)]; exact decide_eq_true (by omega)
        refine run_region ?_
        refine run_q (.none rfl) rfl rfl (q_move rfl rfl) ?_
        refine run_q (.none rfl) rfl rfl (q_loadBN rfl agg45 rfl Sel.here (.cons rfl (.cons rfl (.cons rfl (.cons rfl CellsAt.nil)))) rfl) ?_
        refine run_h (.none rfl) (h_buildSlice rfl rfl rfl Try.underlying27 info45 (.cons rfl rfl rfl rfl Parts.nil) rfl (by omega)) ?_
        rintro b68 -
        refine run_h (.none rfl) (h_append rfl rfl rfl Try.underlying27 info45 rfl rfl (.there (.there Sel.here)) rfl (.own Sel.here) rfl (all1 rfl) (all1 rfl) (by omega) (by omega)) ?_
        rintro ⟨A69, c69⟩ -
        refine run_q (.none rfl) rfl rfl (q_assign rfl rfl) ?_
        refine run_nil ?_
        refine run_sub (subMk (.cons (s := 0) rfl (.cons (s := 1) rfl (.cons (s := 2) rfl (.cons (s := 3) rfl (.cons (s := 8) rfl (.cons (s := 9) rfl (.cons (s := 10) rfl .nil))))))) .refl) ?_
        refine run_blk ?_
        refine run_region ?_
        refine run_q (.none rfl) rfl rfl (q_move rfl rfl) ?_
        refine run_q (.none rfl) rfl rfl (q_add rfl rfl rfl (by omega)) ?_
        refine run_q (.none rfl) rfl rfl (q_assign rfl rfl) ?_
        refine run_nil ?_
        exact run_again (k + 1, A69, c69) (by (try dsimp only); exact (by omega)) (by (try dsimp only); omega) (subMk (.cons' (s := 10) rfl rfl (.cons' (s := 9) rfl (by rw [delK_in (by omega) hkeep]; simp) (.cons (s := 0) rfl (.cons (s := 1) rfl (.cons (s := 2) rfl (.cons (s := 3) rfl (.cons (s := 8) rfl .nil))))))) (.cons Sel.here (.own rfl (by rw [delK_in (by omega) hkeep]; simp) rfl (by rw [delK_in (by omega) hkeep, List.map_append]; show _ ++ [_] = _ ++ [(delT p c (nth ts k)).enc]; rw [delT_enc (e := e) (by omega) (by omega) (by omega)]; rfl)) .nil))
      · have g65' := g65
        try simp only [decide_eq_true_eq, decide_eq_false_iff_not, beq_iff_eq, beq_eq_false_iff_ne, bne_iff_ne, bne_eq_false_iff_eq, Bool.not_eq_true', Bool.not_eq_false', ne_eq, Int.not_lt, Int.not_le, Decidable.not_not] at g65'
        have hkeep : keepB p c (nth ts k) = false := by rw [keepB_end (e := e) (by omega) (by omega)]; exact decide_eq_false (by omega)
        refine run_skip ?_
        refine run_blk ?_
        refine run_region ?_
        refine run_q (.none rfl) rfl rfl (q_move rfl rfl) ?_
        refine run_q (.none rfl) rfl rfl (q_add rfl rfl rfl (by omega)) ?_
        refine run_q (.none rfl) rfl rfl (q_assign rfl rfl) ?_
        refine run_nil ?_
        refine run_sub (subMk (.cons (s := 0) rfl (.cons (s := 1) rfl (.cons (s := 2) rfl (.cons (s := 3) rfl (.cons (s := 8) rfl (.cons (s := 9) rfl (.cons (s := 10) rfl .nil))))))) .refl) ?_
        exact run_again (k + 1, O, co) (by (try dsimp only); exact (by omega)) (by (try dsimp only); omega) (subMk (.cons' (s := 10) rfl rfl (.cons' (s := 9) rfl (by rw [delK_out (by omega) hkeep]) (.cons (s := 0) rfl (.cons (s := 1) rfl (.cons (s := 2) rfl (.cons (s := 3) rfl (.cons (s := 8) rfl .nil))))))) (.cons (.there Sel.here) (.own rfl (by rw [delK_out (by omega) hkeep]) rfl (by rw [delK_out (by omega) hkeep])) .nil))
  · have g17' := g17
    try simp only [decide_eq_true_eq, decide_eq_false_iff_not, beq_iff_eq, beq_eq_false_iff_ne, bne_iff_ne, bne_eq_false_iff_eq, Bool.not_eq_true', Bool.not_eq_false', ne_eq, Int.not_lt, Int.not_le, Decidable.not_not] at g17'
    refine run_exit rfl ?_
    refine run_sub (subMk (.cons (s := 8) rfl (.cons (s := 9) rfl .nil)) .refl) ?_
    refine run_seq ?_
    refine run_region ?_
    refine run_q (.none rfl) rfl rfl (q_move rfl rfl) ?_
    refine run_h (.none rfl) (h_call rfl rfl rfl call31 (.cons rfl Evs.nil) (fun w hk hm => refsort_ret (delK p c ts k) O co w (own_rd (Sel.here.holds hm)) (by have := delK_len (p := p) (c := c) (ts := ts) (k := k); omega))) ?_
    rintro ⟨v, m⟩ ⟨O71, co71, rfl, rfl⟩
    show Run _ _ _ _ _ _ _ ⟨(71, .slice O71 (delK p c ts k).length co71) :: _, _ :: _⟩
    refine run_q (.none rfl) rfl rfl (q_assign rfl rfl) ?_
    refine run_nil ?_
    refine run_sub (subMk (.cons (s := 8) rfl .nil) .refl) ?_
    refine run_ret ?_
    refine run_sub (subMk .refl (.cons Sel.here .refl .nil)) ?_
    exact end1 rfl rfl ⟨O71, co71, by rw [delK_all (by omega)], by rw [delK_all (by omega)]⟩

end Go.Proofs.Yticofkkkafhpiaa
