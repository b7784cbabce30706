/- Two laws more, in the program. -/
import Derived.Test.YticofkkkafhpiaaE
set_option linter.unusedSimpArgs false
set_option linter.unusedVariables false
namespace Go.Proofs.Yticofkkkafhpiaa
open Go Go.RowKit Hr

theorem call20 : Hr.Callable Try.prog 20 := fun args w => by kernel_rfl

theorem law6_at (l : List Tup) (A : Option Addr) (ca : Nat) (e x : Int) (W : World) (hr0 : Rd W A 4 (l.map Tup.enc)) (hca : l.length ≤ ca) (a : List Tup) (ha : a = l.take 20) : Calls Try.prog 6 #[.slice A l.length ca, .int .i64 e, .int .i64 x] W (Hr.Just W (.bool true)) := by
  have hra := rd_take (enc := Tup.enc) hr0 ha
  have hla : a.length = min l.length 20 := by rw [ha]; simp [Nat.min_comm]
  refine Just.of_ret ?_
  refine enterA (X := nX) (vs := [.slice A l.length ca, .int .i64 e, .int .i64 x]) Try.func6 Try.ntmps6 rfl rfl Mem.nil ?_
  refine run_seq ?_
  refine run_region ?_
  refine run_q (.none rfl) rfl rfl (q_assign rfl rfl) ?_
  refine run_nil ?_
  refine run_seq ?_
  refine run_region ?_
  refine run_q (.none rfl) rfl rfl (q_move rfl rfl) ?_
  refine run_q (.none rfl) rfl rfl (q_move rfl rfl) ?_
  refine run_q (.none rfl) rfl rfl (q_len rfl Try.underlying22 rfl) ?_
  refine run_q (.none rfl) rfl rfl (q_min2 rfl rfl rfl) ?_
  refine run_q (.none rfl) rfl rfl (q_sliceH rfl Try.underlying22 sz46 rfl rfl (by omega)) ?_
  refine run_q (.none rfl) rfl rfl (q_assign rfl rfl) ?_
  refine run_nil ?_
  refine run_sub (subMk (.cons (s := 0) rfl (.cons (s := 1) rfl (.cons (s := 2) rfl (.cons (s := 6) rfl .nil)))) .refl) ?_
  refine run_seq ?_
  refine run_sub (subMk (.cons' (s := 0) (v' := .slice A a.length ca) rfl (by rw [hla]; congr 1; omega) (.cons (s := 1) rfl (.cons (s := 2) rfl (.cons (s := 6) rfl .nil)))) .refl) ?_
  refine run_region ?_
  refine run_q (.none rfl) rfl rfl (q_move rfl rfl) ?_
  refine run_q (.none rfl) rfl rfl (q_move rfl rfl) ?_
  refine run_q (.none rfl) rfl rfl (q_move rfl rfl) ?_
  refine run_q (.none rfl) rfl rfl (q_call rfl call20 (.cons rfl (.cons rfl (.cons rfl Evs.nil))) (fun w hk hm => length_just a A ca e x w (hra.kept0 hk) (by omega))) ?_
  refine run_q (.none rfl) rfl rfl (q_move rfl rfl) ?_
  refine run_q (.none rfl) rfl rfl (q_extract rfl rfl rfl) ?_
  refine run_q (.none rfl) rfl rfl (q_extract rfl rfl rfl) ?_
  refine run_q (.none rfl) rfl rfl (q_assign rfl rfl) ?_
  refine run_q (.none rfl) rfl rfl (q_assign rfl rfl) ?_
  refine run_nil ?_
  refine run_sub (subMk (.cons (s := 0) rfl (.cons (s := 1) rfl (.cons (s := 2) rfl (.cons (s := 6) rfl (.cons (s := 7) rfl (.cons (s := 8) rfl .nil)))))) .refl) ?_
  refine run_seq ?_
  refine run_region ?_
  refine run_q (.none rfl) rfl rfl (q_move rfl rfl) ?_
  refine run_h (.none rfl) (h_call rfl rfl rfl call15 (.cons rfl Evs.nil) (fun w hk hm => to_ret a A ca w (hra.kept0 hk) (by omega))) ?_
  rintro ⟨v, m⟩ ⟨O30, co30, rfl, rfl⟩
  show Run _ _ _ _ _ _ _ ⟨(30, .slice O30 a.length co30) :: _, _ :: _⟩
  refine run_q (.none rfl) rfl rfl (q_assign rfl rfl) ?_
  refine run_nil ?_
  refine run_seq ?_
  refine run_seq ?_
  refine run_region ?_
  refine run_q (.none rfl) rfl rfl (q_call rfl call12 Evs.nil (fun w hk hm => known_just w)) ?_
  refine run_q (.none rfl) rfl rfl (q_not rfl rfl) ?_
  refine run_nil ?_
  refine run_sub (subMk (.cons (s := 0) rfl (.cons (s := 1) rfl (.cons (s := 2) rfl (.cons (s := 6) rfl (.cons (s := 7) rfl (.cons (s := 8) rfl (.cons (s := 9) rfl (.cons (s := 32) rfl .nil)))))))) .refl) ?_
  refine run_condF rfl rfl ?_
  refine run_skip ?_
  refine run_seq ?_
  refine run_seq ?_
  refine run_region ?_
  refine run_q (.none rfl) rfl rfl (q_move rfl rfl) ?_
  refine run_q (.none rfl) rfl rfl (q_call rfl call14 (.cons rfl (.cons rfl Evs.nil)) (fun w hk hm => refcheck_just a O30 co30 128 w (own_rd (Sel.here.holds hm)) (by omega))) ?_
  refine run_q (.none rfl) rfl rfl (q_assign rfl rfl) ?_
  refine run_nil ?_
  refine run_sub (subMk (.cons (s := 0) rfl (.cons (s := 1) rfl (.cons (s := 2) rfl (.cons (s := 6) rfl (.cons (s := 7) rfl (.cons (s := 8) rfl (.cons (s := 9) rfl (.cons (s := 10) rfl .nil)))))))) .refl) ?_
  refine run_seq ?_
  refine run_region ?_
  refine run_q (.none rfl) rfl rfl (q_move rfl rfl) ?_
  refine run_q (.none rfl) rfl rfl (q_neq rfl rfl rfl) ?_
  refine run_nil ?_
  refine run_cond rfl (fun g36 => ?_) (fun g36 => ?_)
  · have g36' := g36
    try simp only [decide_eq_true_eq, decide_eq_false_iff_not, beq_iff_eq, beq_eq_false_iff_ne, bne_iff_ne, bne_eq_false_iff_eq, Bool.not_eq_true', Bool.not_eq_false', ne_eq, Int.not_lt, Int.not_le, Decidable.not_not] at g36'
    have hl1 := lengthV_c (ts := a) (e := e) (x := x) (by simpa using g36)
    refine run_seq ?_
    refine run_region ?_
    refine run_q (.none rfl) rfl rfl (q_move rfl rfl) ?_
    refine run_q (.none rfl) rfl rfl (q_move rfl rfl) ?_
    refine run_q (.none rfl) rfl rfl (q_eql rfl rfl rfl) ?_
    refine run_q (.none rfl) rfl rfl (q_move rfl rfl) ?_
    refine run_q (.on rfl rfl rfl (by rw [hl1]; simp)) rfl rfl (q_move rfl rfl) ?_
    refine run_q (.on rfl rfl rfl (by rw [hl1]; simp)) rfl rfl (q_eql rfl rfl rfl) ?_
    refine run_q (.none rfl) rfl rfl (q_pickT rfl rfl (by rw [hl1]; simp) rfl) ?_
    refine run_q (.none rfl) rfl rfl (q_assign rfl rfl) ?_
    refine run_nil ?_
    refine run_sub (subMk (.cons (s := 0) rfl (.cons (s := 1) rfl (.cons (s := 2) rfl (.cons (s := 6) rfl (.cons (s := 7) rfl (.cons (s := 8) rfl (.cons (s := 9) rfl .nil))))))) .refl) ?_
    refine run_ret ?_
    exact end1 rfl rfl (by rw [hl1]; rfl)
  · have g36' := g36
    try simp only [decide_eq_true_eq, decide_eq_false_iff_not, beq_iff_eq, beq_eq_false_iff_ne, bne_iff_ne, bne_eq_false_iff_eq, Bool.not_eq_true', Bool.not_eq_false', ne_eq, Int.not_lt, Int.not_le, Decidable.not_not] at g36'
    have hc : checkV a 128 = 0 := by simpa using g36
    refine run_skip ?_
    refine run_seq ?_
    refine run_seq ?_
    refine run_region ?_
    refine run_q (.none rfl) rfl rfl (q_move rfl rfl) ?_
    refine run_q (.none rfl) rfl rfl (q_lss rfl rfl rfl) ?_
    refine run_q (.none rfl) rfl rfl (q_move rfl rfl) ?_
    refine run_split 46 rfl (fun g46 => ?_) (fun g46 => ?_)
    · have g46' := g46
      try simp only [decide_eq_true_eq, decide_eq_false_iff_not, beq_iff_eq, beq_eq_false_iff_ne, bne_iff_ne, bne_eq_false_iff_eq, Bool.not_eq_true', Bool.not_eq_false', ne_eq, Int.not_lt, Int.not_le, Decidable.not_not] at g46'
      refine run_off (.no rfl rfl rfl g46) rfl rfl ?_
      refine run_off (.no rfl rfl rfl g46) rfl rfl ?_
      refine run_q (.none rfl) rfl rfl (q_pickT rfl rfl g46 rfl) ?_
      refine run_q (.none rfl) rfl rfl (q_move rfl rfl) ?_
      refine run_off (.no rfl rfl rfl rfl) rfl rfl ?_
      refine run_off (.no rfl rfl rfl rfl) rfl rfl ?_
      refine run_q (.none rfl) rfl rfl (q_pickT rfl rfl rfl rfl) ?_
      refine run_q (.none rfl) rfl rfl (q_move rfl rfl) ?_
      refine run_off (.no rfl rfl rfl rfl) rfl rfl ?_
      refine run_off (.no rfl rfl rfl rfl) rfl rfl ?_
      refine run_q (.none rfl) rfl rfl (q_pickT rfl rfl rfl rfl) ?_
      refine run_nil ?_
      refine run_sub (subMk (.cons (s := 0) rfl (.cons (s := 1) rfl (.cons (s := 2) rfl (.cons (s := 6) rfl (.cons (s := 7) rfl (.cons (s := 8) rfl (.cons (s := 9) rfl (.cons (s := 57) rfl .nil)))))))) .refl) ?_
      refine run_condT rfl rfl ?_
      refine run_seq ?_
      have hl2 := lengthV_2 (x := x) (e := e) hc (by omega)
      refine run_region ?_
      refine run_q (.none rfl) rfl rfl (q_move rfl rfl) ?_
      refine run_q (.none rfl) rfl rfl (q_eql rfl rfl rfl) ?_
      refine run_q (.none rfl) rfl rfl (q_move rfl rfl) ?_
      refine run_q (.on rfl rfl rfl (by rw [hl2]; rfl)) rfl rfl (q_move rfl rfl) ?_
      refine run_q (.on rfl rfl rfl (by rw [hl2]; rfl)) rfl rfl (q_eql rfl rfl rfl) ?_
      refine run_q (.none rfl) rfl rfl (q_pickT rfl rfl (by rw [hl2]; rfl) rfl) ?_
      refine run_q (.none rfl) rfl rfl (q_assign rfl rfl) ?_
      refine run_nil ?_
      refine run_sub (subMk (.cons (s := 0) rfl (.cons (s := 1) rfl (.cons (s := 2) rfl (.cons (s := 6) rfl (.cons (s := 7) rfl (.cons (s := 8) rfl (.cons (s := 9) rfl .nil))))))) .refl) ?_
      refine run_ret ?_
      exact end1 rfl rfl (by rw [hl2]; rfl)
    · have g46' := g46
      try simp only [decide_eq_true_eq, decide_eq_false_iff_not, beq_iff_eq, beq_eq_false_iff_ne, bne_iff_ne, bne_eq_false_iff_eq, Bool.not_eq_true', Bool.not_eq_false', ne_eq, Int.not_lt, Int.not_le, Decidable.not_not] at g46'
      refine run_q (.on rfl rfl rfl g46) rfl rfl (q_move rfl rfl) ?_
      refine run_q (.on rfl rfl rfl g46) rfl rfl (q_geq rfl rfl rfl) ?_
      refine run_q (.none rfl) rfl rfl (q_pickF rfl rfl g46 rfl) ?_
      refine run_q (.none rfl) rfl rfl (q_move rfl rfl) ?_
      refine run_split 50 rfl (fun g50 => ?_) (fun g50 => ?_)
      · have g50' := g50
        try simp only [decide_eq_true_eq, decide_eq_false_iff_not, beq_iff_eq, beq_eq_false_iff_ne, bne_iff_ne, bne_eq_false_iff_eq, Bool.not_eq_true', Bool.not_eq_false', ne_eq, Int.not_lt, Int.not_le, Decidable.not_not] at g50'
        refine run_off (.no rfl rfl rfl g50) rfl rfl ?_
        refine run_off (.no rfl rfl rfl g50) rfl rfl ?_
        refine run_q (.none rfl) rfl rfl (q_pickT rfl rfl g50 rfl) ?_
        refine run_q (.none rfl) rfl rfl (q_move rfl rfl) ?_
        refine run_off (.no rfl rfl rfl rfl) rfl rfl ?_
        refine run_off (.no rfl rfl rfl rfl) rfl rfl ?_
        refine run_q (.none rfl) rfl rfl (q_pickT rfl rfl rfl rfl) ?_
        refine run_nil ?_
        refine run_sub (subMk (.cons (s := 0) rfl (.cons (s := 1) rfl (.cons (s := 2) rfl (.cons (s := 6) rfl (.cons (s := 7) rfl (.cons (s := 8) rfl (.cons (s := 9) rfl (.cons (s := 57) rfl .nil)))))))) .refl) ?_
        refine run_condT rfl rfl ?_
        refine run_seq ?_
        have hl2 := lengthV_2 (x := x) (e := e) hc (by omega)
        refine run_region ?_
        refine run_q (.none rfl) rfl rfl (q_move rfl rfl) ?_
        refine run_q (.none rfl) rfl rfl (q_eql rfl rfl rfl) ?_
        refine run_q (.none rfl) rfl rfl (q_move rfl rfl) ?_
        refine run_q (.on rfl rfl rfl (by rw [hl2]; rfl)) rfl rfl (q_move rfl rfl) ?_
        refine run_q (.on rfl rfl rfl (by rw [hl2]; rfl)) rfl rfl (q_eql rfl rfl rfl) ?_
        refine run_q (.none rfl) rfl rfl (q_pickT rfl rfl (by rw [hl2]; rfl) rfl) ?_
        refine run_q (.none rfl) rfl rfl (q_assign rfl rfl) ?_
        refine run_nil ?_
        refine run_sub (subMk (.cons (s := 0) rfl (.cons (s := 1) rfl (.cons (s := 2) rfl (.cons (s := 6) rfl (.cons (s := 7) rfl (.cons (s := 8) rfl (.cons (s := 9) rfl .nil))))))) .refl) ?_
        refine run_ret ?_
        exact end1 rfl rfl (by rw [hl2]; rfl)
      · have g50' := g50
        try simp only [decide_eq_true_eq, decide_eq_false_iff_not, beq_iff_eq, beq_eq_false_iff_ne, bne_iff_ne, bne_eq_false_iff_eq, Bool.not_eq_true', Bool.not_eq_false', ne_eq, Int.not_lt, Int.not_le, Decidable.not_not] at g50'
        refine run_q (.on rfl rfl rfl g50) rfl rfl (q_move rfl rfl) ?_
        refine run_q (.on rfl rfl rfl g50) rfl rfl (q_lss rfl rfl rfl) ?_
        refine run_q (.none rfl) rfl rfl (q_pickF rfl rfl g50 rfl) ?_
        refine run_q (.none rfl) rfl rfl (q_move rfl rfl) ?_
        refine run_split 54 rfl (fun g54 => ?_) (fun g54 => ?_)
        · have g54' := g54
          try simp only [decide_eq_true_eq, decide_eq_false_iff_not, beq_iff_eq, beq_eq_false_iff_ne, bne_iff_ne, bne_eq_false_iff_eq, Bool.not_eq_true', Bool.not_eq_false', ne_eq, Int.not_lt, Int.not_le, Decidable.not_not] at g54'
          refine run_off (.no rfl rfl rfl g54) rfl rfl ?_
          refine run_off (.no rfl rfl rfl g54) rfl rfl ?_
          refine run_q (.none rfl) rfl rfl (q_pickT rfl rfl g54 rfl) ?_
          refine run_nil ?_
          refine run_sub (subMk (.cons (s := 0) rfl (.cons (s := 1) rfl (.cons (s := 2) rfl (.cons (s := 6) rfl (.cons (s := 7) rfl (.cons (s := 8) rfl (.cons (s := 9) rfl (.cons (s := 57) rfl .nil)))))))) .refl) ?_
          refine run_condT rfl rfl ?_
          refine run_seq ?_
          have hl2 := lengthV_2 (x := x) (e := e) hc (by omega)
          refine run_region ?_
          refine run_q (.none rfl) rfl rfl (q_move rfl rfl) ?_
          refine run_q (.none rfl) rfl rfl (q_eql rfl rfl rfl) ?_
          refine run_q (.none rfl) rfl rfl (q_move rfl rfl) ?_
          refine run_q (.on rfl rfl rfl (by rw [hl2]; rfl)) rfl rfl (q_move rfl rfl) ?_
          refine run_q (.on rfl rfl rfl (by rw [hl2]; rfl)) rfl rfl (q_eql rfl rfl rfl) ?_
          refine run_q (.none rfl) rfl rfl (q_pickT rfl rfl (by rw [hl2]; rfl) rfl) ?_
          refine run_q (.none rfl) rfl rfl (q_assign rfl rfl) ?_
          refine run_nil ?_
          refine run_sub (subMk (.cons (s := 0) rfl (.cons (s := 1) rfl (.cons (s := 2) rfl (.cons (s := 6) rfl (.cons (s := 7) rfl (.cons (s := 8) rfl (.cons (s := 9) rfl .nil))))))) .refl) ?_
          refine run_ret ?_
          exact end1 rfl rfl (by rw [hl2]; rfl)
        · have g54' := g54
          try simp only [decide_eq_true_eq, decide_eq_false_iff_not, beq_iff_eq, beq_eq_false_iff_ne, bne_iff_ne, bne_eq_false_iff_eq, Bool.not_eq_true', Bool.not_eq_false', ne_eq, Int.not_lt, Int.not_le, Decidable.not_not] at g54'
          refine run_q (.on rfl rfl rfl g54) rfl rfl (q_move rfl rfl) ?_
          refine run_q (.on rfl rfl rfl g54) rfl rfl (q_gtr rfl rfl rfl) ?_
          refine run_q (.none rfl) rfl rfl (q_pickF rfl rfl g54 rfl) ?_
          refine run_nil ?_
          refine run_sub (subMk (.cons (s := 0) rfl (.cons (s := 1) rfl (.cons (s := 2) rfl (.cons (s := 6) rfl (.cons (s := 7) rfl (.cons (s := 8) rfl (.cons (s := 9) rfl (.cons (s := 57) rfl .nil)))))))) .refl) ?_
          refine run_cond rfl (fun g57 => ?_) (fun g57 => ?_)
          · have g57' := g57
            try simp only [decide_eq_true_eq, decide_eq_false_iff_not, beq_iff_eq, beq_eq_false_iff_ne, bne_iff_ne, bne_eq_false_iff_eq, Bool.not_eq_true', Bool.not_eq_false', ne_eq, Int.not_lt, Int.not_le, Decidable.not_not] at g57'
            refine run_seq ?_
            have hl2 := lengthV_2 (x := x) (e := e) hc (by omega)
            refine run_region ?_
            refine run_q (.none rfl) rfl rfl (q_move rfl rfl) ?_
            refine run_q (.none rfl) rfl rfl (q_eql rfl rfl rfl) ?_
            refine run_q (.none rfl) rfl rfl (q_move rfl rfl) ?_
            refine run_q (.on rfl rfl rfl (by rw [hl2]; rfl)) rfl rfl (q_move rfl rfl) ?_
            refine run_q (.on rfl rfl rfl (by rw [hl2]; rfl)) rfl rfl (q_eql rfl rfl rfl) ?_
            refine run_q (.none rfl) rfl rfl (q_pickT rfl rfl (by rw [hl2]; rfl) rfl) ?_
            refine run_q (.none rfl) rfl rfl (q_assign rfl rfl) ?_
            refine run_nil ?_
            refine run_sub (subMk (.cons (s := 0) rfl (.cons (s := 1) rfl (.cons (s := 2) rfl (.cons (s := 6) rfl (.cons (s := 7) rfl (.cons (s := 8) rfl (.cons (s := 9) rfl .nil))))))) .refl) ?_
            refine run_ret ?_
            exact end1 rfl rfl (by rw [hl2]; rfl)
          · have g57' := g57
            try simp only [decide_eq_true_eq, decide_eq_false_iff_not, beq_iff_eq, beq_eq_false_iff_ne, bne_iff_ne, bne_eq_false_iff_eq, Bool.not_eq_true', Bool.not_eq_false', ne_eq, Int.not_lt, Int.not_le, Decidable.not_not] at g57'
            refine run_skip ?_
            refine run_seq ?_
            refine run_region ?_
            refine run_q (.none rfl) rfl rfl (q_move rfl rfl) ?_
            refine run_q (.none rfl) rfl rfl (q_move rfl rfl) ?_
            refine run_q (.none rfl) rfl rfl (q_move rfl rfl) ?_
            refine run_q (.none rfl) rfl rfl (q_call rfl call21 (.cons rfl (.cons rfl (.cons rfl (.cons rfl Evs.nil)))) (fun w hk hm => refscale_just a O30 co30 e x w (own_rd (Sel.here.holds hm)) (by omega) (Val.of hc) (by omega))) ?_
            refine run_q (.none rfl) rfl rfl (q_move rfl rfl) ?_
            refine run_q (.none rfl) rfl rfl (q_extract rfl rfl rfl) ?_
            refine run_q (.none rfl) rfl rfl (q_extract rfl rfl rfl) ?_
            refine run_q (.none rfl) rfl rfl (q_assign rfl rfl) ?_
            refine run_q (.none rfl) rfl rfl (q_assign rfl rfl) ?_
            refine run_nil ?_
            refine run_sub (subMk (.cons (s := 0) rfl (.cons (s := 1) rfl (.cons (s := 2) rfl (.cons (s := 6) rfl (.cons (s := 7) rfl (.cons (s := 8) rfl (.cons (s := 9) rfl (.cons (s := 11) rfl (.cons (s := 12) rfl .nil))))))))) .refl) ?_
            refine run_seq ?_
            refine run_region ?_
            refine run_q (.none rfl) rfl rfl (q_assign rfl rfl) ?_
            refine run_nil ?_
            refine run_seq ?_
            refine run_seq ?_
            refine run_region ?_
            refine run_q (.none rfl) rfl rfl (q_assign rfl rfl) ?_
            refine run_nil ?_
            refine run_block ?_
            refine run_sub (subMk .refl (MemSub.nilOwn 46 4)) ?_
            refine run_sub (subMk (.cons (s := 14) rfl (.cons (s := 13) rfl (.cons (s := 0) rfl (.cons (s := 1) rfl (.cons (s := 2) rfl (.cons (s := 6) rfl (.cons (s := 7) rfl (.cons (s := 8) rfl (.cons (s := 9) rfl (.cons (s := 11) rfl (.cons (s := 12) rfl .nil))))))))))) (.cons Sel.here .refl (.cons Sel.here .refl .nil))) ?_
            refine run_loopC2M1 (ι := Nat × (Option Addr) × Nat) (fun gg => gg.1 ≤ a.length) (fun gg => .int .i64 (gg.1 : Int)) (fun gg => .slice gg.2.1 (flt a e gg.1).length gg.2.2) (fun gg => .own 46 4 gg.2.1 (flt a e gg.1).length gg.2.2 ((flt a e gg.1).map Tup.enc)) (fun gg => a.length - gg.1) (0, none, 0) (by (try dsimp only); exact (by omega)) rfl rfl .refl ?_
            rintro ⟨k, O, co⟩ hk
            (try dsimp only at hk)
            show Run _ _ _ _ _ _ _ ⟨(14, .int .i64 (k : Int)) :: (13, .slice O (flt a e k).length co) :: _, .own 46 4 O (flt a e k).length co ((flt a e k).map Tup.enc) :: _⟩
            refine run_seq ?_
            refine run_seq ?_
            refine run_region ?_
            refine run_q (.none rfl) rfl rfl (q_move rfl rfl) ?_
            refine run_q (.none rfl) rfl rfl (q_move rfl rfl) ?_
            refine run_q (.none rfl) rfl rfl (q_len rfl Try.underlying22 rfl) ?_
            refine run_q (.none rfl) rfl rfl (q_lss rfl rfl rfl) ?_
            refine run_nil ?_
            refine run_sub (subMk (.cons (s := 0) rfl (.cons (s := 1) rfl (.cons (s := 2) rfl (.cons (s := 6) rfl (.cons (s := 7) rfl (.cons (s := 8) rfl (.cons (s := 9) rfl (.cons (s := 11) rfl (.cons (s := 12) rfl (.cons (s := 13) rfl (.cons (s := 14) rfl (.cons (s := 74) rfl .nil)))))))))))) .refl) ?_
            refine run_cond rfl (fun g74 => ?_) (fun g74 => ?_)
            · have g74' := g74
              try simp only [decide_eq_true_eq, decide_eq_false_iff_not, beq_iff_eq, beq_eq_false_iff_ne, bne_iff_ne, bne_eq_false_iff_eq, Bool.not_eq_true', Bool.not_eq_false', ne_eq, Int.not_lt, Int.not_le, Decidable.not_not] at g74'
              have hfl := flt_len a e k
              refine run_skip ?_
              refine run_seq ?_
              refine run_block ?_
              refine run_seq ?_
              refine run_region ?_
              refine run_q (.none rfl) rfl rfl (q_move rfl rfl) ?_
              refine run_q (.none rfl) rfl rfl (q_move rfl rfl) ?_
              refine run_q (.none rfl) rfl rfl (q_indexS (q := k) rfl Try.underlying27 sz45 rfl rfl (.own (.there Sel.here)) (by simp <;> omega) rfl (by omega)) ?_
              refine run_q (.none rfl) rfl rfl (q_loadE rfl agg45 rfl (.own (.there Sel.here)) (getmap (by omega)) rfl) ?_
              refine run_q (.none rfl) rfl rfl (q_move rfl rfl) ?_
              refine run_q (.none rfl) rfl rfl (q_call rfl call22 (.cons rfl (.cons rfl Evs.nil)) (fun w hk hm => in_just (nth a k) e w ((Val.of hc).prop (by omega)).1)) ?_
              refine run_nil ?_
              refine run_sub (subMk (.cons (s := 0) rfl (.cons (s := 1) rfl (.cons (s := 2) rfl (.cons (s := 6) rfl (.cons (s := 7) rfl (.cons (s := 8) rfl (.cons (s := 9) rfl (.cons (s := 11) rfl (.cons (s := 12) rfl (.cons (s := 13) rfl (.cons (s := 14) rfl (.cons (s := 82) rfl .nil)))))))))))) .refl) ?_
              refine run_cond rfl (fun g82 => ?_) (fun g82 => ?_)
              · have g82' := g82
                try simp only [decide_eq_true_eq, decide_eq_false_iff_not, beq_iff_eq, beq_eq_false_iff_ne, bne_iff_ne, bne_eq_false_iff_eq, Bool.not_eq_true', Bool.not_eq_false', ne_eq, Int.not_lt, Int.not_le, Decidable.not_not] at g82'
                refine run_region ?_
                refine run_q (.none rfl) rfl rfl (q_move rfl rfl) ?_
                refine run_q (.none rfl) rfl rfl (q_move rfl rfl) ?_
                refine run_q (.none rfl) rfl rfl (q_move rfl rfl) ?_
                refine run_q (.none rfl) rfl rfl (q_indexS (q := k) rfl Try.underlying22 sz46 rfl rfl (.inp hra .no) (by simp <;> omega) rfl (by omega)) ?_
                refine run_q (.none rfl) rfl rfl (q_loadE rfl agg46 rfl (.inp hra .no) (getmap (by omega)) rfl) ?_
                refine run_h (.none rfl) (h_buildSlice rfl rfl rfl Try.underlying22 info46 (.cons rfl rfl rfl rfl Parts.nil) rfl (by omega)) ?_
                rintro b88 -
                refine run_h (.none rfl) (h_append rfl rfl rfl Try.underlying22 info46 rfl rfl (.there Sel.here) rfl (.own Sel.here) rfl (all1 rfl) (all1 rfl) (by omega) (by omega)) ?_
                rintro ⟨A89, c89⟩ -
                refine run_q (.none rfl) rfl rfl (q_assign rfl rfl) ?_
                refine run_nil ?_
                refine run_sub (subMk (.cons (s := 0) rfl (.cons (s := 1) rfl (.cons (s := 2) rfl (.cons (s := 6) rfl (.cons (s := 7) rfl (.cons (s := 8) rfl (.cons (s := 9) rfl (.cons (s := 11) rfl (.cons (s := 12) rfl (.cons (s := 13) rfl (.cons (s := 14) rfl .nil))))))))))) .refl) ?_
                refine run_blk ?_
                refine run_region ?_
                refine run_q (.none rfl) rfl rfl (q_move rfl rfl) ?_
                refine run_q (.none rfl) rfl rfl (q_add rfl rfl rfl (by omega)) ?_
                refine run_q (.none rfl) rfl rfl (q_assign rfl rfl) ?_
                refine run_nil ?_
                exact run_again (k + 1, A89, c89) (by (try dsimp only); exact (by omega)) (by (try dsimp only); omega) (subMk (.cons' (s := 14) rfl rfl (.cons' (s := 13) rfl (by rw [flt_in (by omega) g82]; simp) (.cons (s := 0) rfl (.cons (s := 1) rfl (.cons (s := 2) rfl (.cons (s := 6) rfl (.cons (s := 7) rfl (.cons (s := 8) rfl (.cons (s := 9) rfl (.cons (s := 11) rfl (.cons (s := 12) rfl .nil))))))))))) (.cons Sel.here (.own rfl (by rw [flt_in (by omega) g82]; simp) rfl (by rw [flt_in (by omega) g82, List.map_append]; rfl)) (.cons (.there Sel.here) .refl .nil)))
              · have g82' := g82
                try simp only [decide_eq_true_eq, decide_eq_false_iff_not, beq_iff_eq, beq_eq_false_iff_ne, bne_iff_ne, bne_eq_false_iff_eq, Bool.not_eq_true', Bool.not_eq_false', ne_eq, Int.not_lt, Int.not_le, Decidable.not_not] at g82'
                refine run_skip ?_
                refine run_blk ?_
                refine run_region ?_
                refine run_q (.none rfl) rfl rfl (q_move rfl rfl) ?_
                refine run_q (.none rfl) rfl rfl (q_add rfl rfl rfl (by omega)) ?_
                refine run_q (.none rfl) rfl rfl (q_assign rfl rfl) ?_
                refine run_nil ?_
                refine run_sub (subMk (.cons (s := 0) rfl (.cons (s := 1) rfl (.cons (s := 2) rfl (.cons (s := 6) rfl (.cons (s := 7) rfl (.cons (s := 8) rfl (.cons (s := 9) rfl (.cons (s := 11) rfl (.cons (s := 12) rfl (.cons (s := 13) rfl (.cons (s := 14) rfl .nil))))))))))) .refl) ?_
                exact run_again (k + 1, O, co) (by (try dsimp only); exact (by omega)) (by (try dsimp only); omega) (subMk (.cons' (s := 14) rfl rfl (.cons' (s := 13) rfl (by rw [flt_out (by omega) (by simpa using g82)]) (.cons (s := 0) rfl (.cons (s := 1) rfl (.cons (s := 2) rfl (.cons (s := 6) rfl (.cons (s := 7) rfl (.cons (s := 8) rfl (.cons (s := 9) rfl (.cons (s := 11) rfl (.cons (s := 12) rfl .nil))))))))))) (.cons Sel.here (.own rfl (by rw [flt_out (by omega) (by simpa using g82)]) rfl (by rw [flt_out (by omega) (by simpa using g82)])) (.cons Sel.here .refl .nil)))
            · have g74' := g74
              try simp only [decide_eq_true_eq, decide_eq_false_iff_not, beq_iff_eq, beq_eq_false_iff_ne, bne_iff_ne, bne_eq_false_iff_eq, Bool.not_eq_true', Bool.not_eq_false', ne_eq, Int.not_lt, Int.not_le, Decidable.not_not] at g74'
              refine run_exit rfl ?_
              refine run_sub (subMk (.cons (s := 1) rfl (.cons (s := 2) rfl (.cons (s := 6) rfl (.cons (s := 7) rfl (.cons (s := 8) rfl (.cons (s := 11) rfl (.cons (s := 12) rfl (.cons (s := 13) rfl .nil)))))))) .refl) ?_
              refine run_seq ?_
              obtain rfl : k = a.length := by omega
              refine run_region ?_
              refine run_q (.none rfl) rfl rfl (q_move rfl rfl) ?_
              refine run_q (.none rfl) rfl rfl (q_move rfl rfl) ?_
              refine run_q (.none rfl) rfl rfl (q_move rfl rfl) ?_
              refine run_q (.none rfl) rfl rfl (q_call rfl call20 (.cons rfl (.cons rfl (.cons rfl Evs.nil))) (fun w hk hm => length_just (flt a e a.length) O co e x w (own_rd (Sel.here.holds hm)) (by have := flt_len a e a.length; omega))) ?_
              refine run_q (.none rfl) rfl rfl (q_move rfl rfl) ?_
              refine run_q (.none rfl) rfl rfl (q_extract rfl rfl rfl) ?_
              refine run_q (.none rfl) rfl rfl (q_extract rfl rfl rfl) ?_
              refine run_q (.none rfl) rfl rfl (q_assign rfl rfl) ?_
              refine run_q (.none rfl) rfl rfl (q_assign rfl rfl) ?_
              refine run_nil ?_
              refine run_sub (subMk (.cons (s := 6) rfl (.cons (s := 7) rfl (.cons (s := 8) rfl (.cons (s := 11) rfl (.cons (s := 12) rfl (.cons (s := 15) rfl (.cons (s := 16) rfl .nil))))))) .refl) ?_
              refine run_seq ?_
              refine run_seq ?_
              refine run_region ?_
              refine run_q (.none rfl) rfl rfl (q_move rfl rfl) ?_
              refine run_q (.none rfl) rfl rfl (q_not rfl rfl) ?_
              refine run_nil ?_
              refine run_cond rfl (fun g98 => ?_) (fun g98 => ?_)
              · have g98' := g98
                try simp only [decide_eq_true_eq, decide_eq_false_iff_not, beq_iff_eq, beq_eq_false_iff_ne, bne_iff_ne, bne_eq_false_iff_eq, Bool.not_eq_true', Bool.not_eq_false', ne_eq, Int.not_lt, Int.not_le, Decidable.not_not] at g98'
                refine run_seq ?_
                have hl3 : lengthV a e x = (0, 16) := by rw [lengthV_s hc (by omega), scaleV_16 (by omega) (by simpa using g98)]
                refine run_region ?_
                refine run_q (.none rfl) rfl rfl (q_move rfl rfl) ?_
                refine run_q (.none rfl) rfl rfl (q_eql rfl rfl rfl) ?_
                refine run_q (.none rfl) rfl rfl (q_move rfl rfl) ?_
                refine run_q (.on rfl rfl rfl (by rw [hl3]; rfl)) rfl rfl (q_move rfl rfl) ?_
                refine run_q (.on rfl rfl rfl (by rw [hl3]; rfl)) rfl rfl (q_eql rfl rfl rfl) ?_
                refine run_q (.none rfl) rfl rfl (q_pickT rfl rfl (by rw [hl3]; rfl) rfl) ?_
                refine run_q (.none rfl) rfl rfl (q_move rfl rfl) ?_
                refine run_q (.on rfl rfl rfl (by rw [hl3]; rfl)) rfl rfl (q_move rfl rfl) ?_
                refine run_q (.on rfl rfl rfl (by rw [hl3]; rfl)) rfl rfl (q_move rfl rfl) ?_
                refine run_q (.on rfl rfl rfl (by rw [hl3]; rfl)) rfl rfl (q_eql rfl rfl rfl) ?_
                refine run_q (.none rfl) rfl rfl (q_pickT rfl rfl (by rw [hl3]; rfl) rfl) ?_
                refine run_q (.none rfl) rfl rfl (q_move rfl rfl) ?_
                refine run_q (.on rfl rfl rfl (by rw [flt_length hc e x (by omega)]; simp)) rfl rfl (q_move rfl rfl) ?_
                refine run_q (.on rfl rfl rfl (by rw [flt_length hc e x (by omega)]; simp)) rfl rfl (q_eql rfl rfl rfl) ?_
                refine run_q (.none rfl) rfl rfl (q_pickT rfl rfl (by rw [flt_length hc e x (by omega)]; simp) rfl) ?_
                refine run_q (.none rfl) rfl rfl (q_assign rfl rfl) ?_
                refine run_nil ?_
                refine run_sub (subMk (.cons (s := 6) rfl (.cons (s := 7) rfl (.cons (s := 8) rfl (.cons (s := 11) rfl (.cons (s := 15) rfl (.cons (s := 16) rfl .nil)))))) .refl) ?_
                refine run_ret ?_
                exact end1 rfl rfl (by rw [flt_length hc e x (by omega), hl3]; rfl)
              · have g98' := g98
                try simp only [decide_eq_true_eq, decide_eq_false_iff_not, beq_iff_eq, beq_eq_false_iff_ne, bne_iff_ne, bne_eq_false_iff_eq, Bool.not_eq_true', Bool.not_eq_false', ne_eq, Int.not_lt, Int.not_le, Decidable.not_not] at g98'
                refine run_skip ?_
                refine run_seq ?_
                have hl0 : lengthV a e x = (x * NN a e a.length / DD a e a.length, 0) := by rw [lengthV_s hc (by omega), scaleV_0 (by omega) (by simpa using g98)]
                refine run_region ?_
                refine run_q (.none rfl) rfl rfl (q_move rfl rfl) ?_
                refine run_q (.none rfl) rfl rfl (q_eql rfl rfl rfl) ?_
                refine run_q (.none rfl) rfl rfl (q_move rfl rfl) ?_
                refine run_q (.on rfl rfl rfl (by rw [hl0]; rfl)) rfl rfl (q_move rfl rfl) ?_
                refine run_q (.on rfl rfl rfl (by rw [hl0]; rfl)) rfl rfl (q_move rfl rfl) ?_
                refine run_q (.on rfl rfl rfl (by rw [hl0]; rfl)) rfl rfl (q_eql rfl rfl rfl) ?_
                refine run_q (.none rfl) rfl rfl (q_pickT rfl rfl (by rw [hl0]; rfl) rfl) ?_
                refine run_q (.none rfl) rfl rfl (q_move rfl rfl) ?_
                refine run_q (.on rfl rfl rfl (by rw [hl0]; simp)) rfl rfl (q_move rfl rfl) ?_
                refine run_q (.on rfl rfl rfl (by rw [hl0]; simp)) rfl rfl (q_eql rfl rfl rfl) ?_
                refine run_q (.none rfl) rfl rfl (q_pickT rfl rfl (by rw [hl0]; simp) rfl) ?_
                refine run_q (.none rfl) rfl rfl (q_move rfl rfl) ?_
                refine run_q (.on rfl rfl rfl (by rw [flt_length hc e x (by omega), hl0]; rfl)) rfl rfl (q_move rfl rfl) ?_
                refine run_q (.on rfl rfl rfl (by rw [flt_length hc e x (by omega), hl0]; rfl)) rfl rfl (q_move rfl rfl) ?_
                refine run_q (.on rfl rfl rfl (by rw [flt_length hc e x (by omega), hl0]; rfl)) rfl rfl (q_eql rfl rfl rfl) ?_
                refine run_q (.none rfl) rfl rfl (q_pickT rfl rfl (by rw [flt_length hc e x (by omega), hl0]; rfl) rfl) ?_
                refine run_q (.none rfl) rfl rfl (q_assign rfl rfl) ?_
                refine run_nil ?_
                refine run_sub (subMk (.cons (s := 6) rfl .nil) .refl) ?_
                refine run_ret ?_
                exact end1 rfl rfl (by rw [flt_length hc e x (by omega)]; simp)

theorem law6_just (l : List Tup) (A : Option Addr) (ca : Nat) (e x : Int) (W : World) (hr0 : Rd W A 4 (l.map Tup.enc)) (hca : l.length ≤ ca) : Calls Try.prog 6 #[.slice A l.length ca, .int .i64 e, .int .i64 x] W (Just W (.bool true)) := law6_at l A ca e x W hr0 hca _ rfl

theorem law4_at (l : List Tup) (A : Option Addr) (ca : Nat) (lw : List Int) (B : Option Addr) (cb : Nat) (x : Int) (W : World) (hr0 : Rd W A 4 (l.map Tup.enc)) (hca : l.length ≤ ca) (hrw0 : Rd W B 1 (lw.map encI)) (hcb : lw.length ≤ cb) (a : List Tup) (ha : a = l.take 20) (ws : List Int) (hws : ws = lw.take 130) (hx : 0 ≤ x ∧ x ≤ 255) : Calls Try.prog 4 #[.slice A l.length ca, .slice B lw.length cb, .int .u8 x] W (Hr.Just W (.bool true)) := by
  have hra := rd_take (enc := Tup.enc) hr0 ha
  have hla : a.length = min l.length 20 := by rw [ha]; simp [Nat.min_comm]
  have hrw := rd_take (enc := encI) hrw0 hws
  have hlw : ws.length = min lw.length 130 := by rw [hws]; simp [Nat.min_comm]
  have hl8 := lenV_len2 a ws
  obtain ⟨m, hm⟩ : ∃ m, m = 1 + x % 16 := ⟨_, rfl⟩
  have hm1 : 1 ≤ m ∧ m ≤ 16 := by omega
  refine Just.of_ret ?_
  refine enterA (X := nX) (vs := [.slice A l.length ca, .slice B lw.length cb, .int .u8 x]) Try.func4 Try.ntmps4 rfl rfl Mem.nil ?_
  refine run_seq ?_
  refine run_region ?_
  refine run_q (.none rfl) rfl rfl (q_assign rfl rfl) ?_
  refine run_nil ?_
  refine run_seq ?_
  refine run_draw [(0, 0), (1, 0), (2, 0), (3, 0), (4, 0), (5, 0), (6, 0), (7, 0), (8, 0), (9, 0), (10, 0), (11, 0)] mixed (by kernel_rfl) .refl ?_
  refine d_q rfl rfl (.none rfl) rfl rfl (q_move rfl rfl) ?_
  refine d_q rfl rfl (.none rfl) rfl rfl (q_move rfl rfl) ?_
  refine d_q rfl rfl (.none rfl) rfl rfl (q_len rfl Try.underlying22 rfl) ?_
  refine d_q rfl rfl (.none rfl) rfl rfl (q_min2 rfl rfl rfl) ?_
  refine d_q rfl rfl (.none rfl) rfl rfl (q_sliceH rfl Try.underlying22 sz46 rfl rfl (by omega)) ?_
  refine d_q rfl rfl (.none rfl) rfl rfl (q_move rfl rfl) ?_
  refine d_q rfl rfl (.none rfl) rfl rfl (q_move rfl rfl) ?_
  refine d_q rfl rfl (.none rfl) rfl rfl (q_len rfl Try.underlying30 rfl) ?_
  refine d_q rfl rfl (.none rfl) rfl rfl (q_min2 rfl rfl rfl) ?_
  refine d_q rfl rfl (.none rfl) rfl rfl (q_sliceH rfl Try.underlying30 sz3 rfl rfl (by omega)) ?_
  refine d_q rfl rfl (.none rfl) rfl rfl (q_assign rfl rfl) ?_
  refine d_q rfl rfl (.none rfl) rfl rfl (q_assign rfl rfl) ?_
  refine d_nil ?_
  refine run_sub (subMk (.cons (s := 0) rfl (.cons (s := 1) rfl (.cons (s := 2) rfl (.cons (s := 6) rfl .nil)))) .refl) ?_
  refine run_seq ?_
  refine run_sub (subMk (.cons' (s := 0) (v' := .slice A a.length ca) rfl (by rw [hla]; congr 1; omega) (.cons' (s := 1) (v' := .slice B ws.length cb) rfl (by rw [hlw]; congr 1; omega) (.cons (s := 2) rfl (.cons (s := 6) rfl .nil)))) .refl) ?_
  refine run_region ?_
  refine run_q (.none rfl) rfl rfl (q_move rfl rfl) ?_
  refine run_q (.none rfl) rfl rfl (q_rem rfl rfl rfl (by omega)) ?_
  refine run_q (.none rfl) rfl rfl (q_convert' rfl rfl Try.underlying5 Try.underlying3 (by rw [IntKind.wrap_i64]; omega)) ?_
  refine run_q (.none rfl) rfl rfl (q_add rfl rfl rfl (by omega)) ?_
  refine run_q (.none rfl) rfl rfl (q_assign rfl rfl) ?_
  refine run_nil ?_
  refine run_sub (subMk (.cons (s := 0) rfl (.cons (s := 1) rfl (.cons (s := 6) rfl (.cons (s := 7) rfl .nil)))) .refl) ?_
  refine run_seq ?_
  refine run_sub (subMk (.cons (s := 0) rfl (.cons (s := 1) rfl (.cons (s := 6) rfl (.cons' (s := 7) (v' := .int .i64 m) rfl (vint hm.symm) .nil)))) .refl) ?_
  refine run_region ?_
  refine run_q (.none rfl) rfl rfl (q_move rfl rfl) ?_
  refine run_q (.none rfl) rfl rfl (q_move rfl rfl) ?_
  refine run_h (.none rfl) (h_call rfl rfl rfl call16 (.cons rfl (.cons rfl Evs.nil)) (fun w hk hm => lengths_ret a A ca ws B cb w (hra.kept0 hk) (hrw.kept0 hk) (by omega) (by omega))) ?_
  rintro ⟨v, m⟩ ⟨O32, co32, rfl, rfl⟩
  show Run _ _ _ _ _ _ _ ⟨(32, .tuple #[.slice O32 (lenV a ws).1.length co32, .int .i64 (lenV a ws).2]) :: _, _ :: _⟩
  refine run_q (.none rfl) rfl rfl (q_move rfl rfl) ?_
  refine run_q (.none rfl) rfl rfl (q_extract rfl rfl rfl) ?_
  refine run_q (.none rfl) rfl rfl (q_extract rfl rfl rfl) ?_
  refine run_q (.none rfl) rfl rfl (q_assign rfl rfl) ?_
  refine run_q (.none rfl) rfl rfl (q_assign rfl rfl) ?_
  refine run_nil ?_
  refine run_sub (subMk (.cons (s := 0) rfl (.cons (s := 1) rfl (.cons (s := 6) rfl (.cons (s := 7) rfl (.cons (s := 8) rfl (.cons (s := 9) rfl .nil)))))) .refl) ?_
  refine run_seq ?_
  refine run_region ?_
  refine run_q (.none rfl) rfl rfl (q_assign rfl rfl) ?_
  refine run_nil ?_
  refine run_seq ?_
  refine run_seq ?_
  refine run_region ?_
  refine run_q (.none rfl) rfl rfl (q_assign rfl rfl) ?_
  refine run_nil ?_
  refine run_block ?_
  refine run_sub (subMk .refl (MemSub.nilOwn 3 1)) ?_
  refine run_sub (subMk (.cons (s := 11) rfl (.cons (s := 10) rfl (.cons (s := 0) rfl (.cons (s := 1) rfl (.cons (s := 6) rfl (.cons (s := 7) rfl (.cons (s := 8) rfl (.cons (s := 9) rfl .nil)))))))) (.cons Sel.here .refl (.cons Sel.here .refl .nil))) ?_
  refine run_loopC2M1 (ι := Nat × (Option Addr) × Nat) (fun gg => gg.1 ≤ ws.length ∧ ∀ j, j < gg.1 → nth ws j * m ≤ 7741440) (fun gg => .int .i64 (gg.1 : Int)) (fun gg => .slice gg.2.1 gg.1 gg.2.2) (fun gg => .own 3 1 gg.2.1 gg.1 gg.2.2 ((mulW ws m gg.1).map encI)) (fun gg => ws.length - gg.1) (0, none, 0) (by (try dsimp only); exact ⟨by omega, fun j hj => absurd hj (by omega)⟩) rfl rfl (.own rfl rfl rfl (by simp [mulW])) ?_
  rintro ⟨k, O, co⟩ hq
  (try dsimp only at hq)
  obtain ⟨hk, hinv⟩ := hq
  show Run _ _ _ _ _ _ _ ⟨(11, .int .i64 (k : Int)) :: (10, .slice O k co) :: _, .own 3 1 O k co ((mulW ws m k).map encI) :: _⟩
  refine run_seq ?_
  refine run_seq ?_
  refine run_region ?_
  refine run_q (.none rfl) rfl rfl (q_move rfl rfl) ?_
  refine run_q (.none rfl) rfl rfl (q_move rfl rfl) ?_
  refine run_q (.none rfl) rfl rfl (q_len rfl Try.underlying30 rfl) ?_
  refine run_q (.none rfl) rfl rfl (q_lss rfl rfl rfl) ?_
  refine run_q (.none rfl) rfl rfl (q_move rfl rfl) ?_
  refine run_split 39 rfl (fun g39 => ?_) (fun g39 => ?_)
  · have g39' := g39
    try simp only [decide_eq_true_eq, decide_eq_false_iff_not, beq_iff_eq, beq_eq_false_iff_ne, bne_iff_ne, bne_eq_false_iff_eq, Bool.not_eq_true', Bool.not_eq_false', ne_eq, Int.not_lt, Int.not_le, Decidable.not_not] at g39'
    refine run_q (.on rfl rfl rfl g39) rfl rfl (q_move rfl rfl) ?_
    refine run_q (.on rfl rfl rfl g39) rfl rfl (q_eql rfl rfl rfl) ?_
    refine run_q (.none rfl) rfl rfl (q_pickT rfl rfl g39 rfl) ?_
    refine run_nil ?_
    refine run_sub (subMk (.cons (s := 0) rfl (.cons (s := 1) rfl (.cons (s := 6) rfl (.cons (s := 7) rfl (.cons (s := 8) rfl (.cons (s := 9) rfl (.cons (s := 10) rfl (.cons (s := 11) rfl (.cons (s := 42) rfl .nil))))))))) .refl) ?_
    refine run_cond rfl (fun g42 => ?_) (fun g42 => ?_)
    · have g42' := g42
      try simp only [decide_eq_true_eq, decide_eq_false_iff_not, beq_iff_eq, beq_eq_false_iff_ne, bne_iff_ne, bne_eq_false_iff_eq, Bool.not_eq_true', Bool.not_eq_false', ne_eq, Int.not_lt, Int.not_le, Decidable.not_not] at g42'
      obtain ⟨hc0, hz0, hl0⟩ := lenV_zero (show (lenV a ws).2 = 0 by simpa using g42)
      have hxk := scaleV_nn (hz0 k (by omega))
      refine run_skip ?_
      refine run_seq ?_
      refine run_block ?_
      refine run_seq ?_
      refine run_seq ?_
      refine run_draw [(0, 0), (1, 0), (2, 0), (3, 0), (4, 0), (5, 0), (6, 0)] mixed (by kernel_rfl) .refl ?_
      refine d_q rfl rfl (.none rfl) rfl rfl (q_move rfl rfl) ?_
      refine d_q rfl rfl (.none rfl) rfl rfl (q_move rfl rfl) ?_
      refine d_q rfl rfl (.none rfl) rfl rfl (q_indexS (q := k) rfl Try.underlying30 sz3 rfl rfl (.inp hrw .no) (by simp <;> omega) rfl (by omega)) ?_
      refine d_q rfl rfl (.none rfl) rfl rfl (q_loadC rfl one3 rfl (.inp hrw .no) (getmap (by omega))) ?_
      refine d_q rfl rfl (.none rfl) rfl rfl (q_move rfl rfl) ?_
      refine d_q rfl rfl (.none rfl) rfl rfl (q_quo rfl rfl rfl (by omega)) ?_
      refine d_q rfl rfl (.none rfl) rfl rfl (q_gtr rfl rfl rfl) ?_
      refine d_nil ?_
      refine run_sub (subMk (.cons (s := 0) rfl (.cons (s := 1) rfl (.cons (s := 6) rfl (.cons (s := 7) rfl (.cons (s := 8) rfl (.cons (s := 9) rfl (.cons (s := 10) rfl (.cons (s := 11) rfl (.cons (s := 51) rfl .nil))))))))) .refl) ?_
      refine run_cond rfl (fun g51 => ?_) (fun g51 => ?_)
      · have g51' := g51
        try simp only [decide_eq_true_eq, decide_eq_false_iff_not, beq_iff_eq, beq_eq_false_iff_ne, bne_iff_ne, bne_eq_false_iff_eq, Bool.not_eq_true', Bool.not_eq_false', ne_eq, Int.not_lt, Int.not_le, Decidable.not_not] at g51'
        refine run_seq ?_
        refine run_region ?_
        refine run_q (.none rfl) rfl rfl (q_call rfl call12 Evs.nil (fun w hk hm => known_just w)) ?_
        refine run_q (.none rfl) rfl rfl (q_assign rfl rfl) ?_
        refine run_nil ?_
        refine run_ret ?_
        exact end1 rfl rfl rfl
      · have g51' := g51
        try simp only [decide_eq_true_eq, decide_eq_false_iff_not, beq_iff_eq, beq_eq_false_iff_ne, bne_iff_ne, bne_eq_false_iff_eq, Bool.not_eq_true', Bool.not_eq_false', ne_eq, Int.not_lt, Int.not_le, Decidable.not_not] at g51'
        refine run_skip ?_
        have hxm := Int.mul_le_of_le_ediv (show (0 : Int) < m by omega) g51'
        have hx0 : 0 ≤ nth ws k * m := Int.mul_nonneg hxk.1 (by omega)
        refine run_region ?_
        refine run_q (.none rfl) rfl rfl (q_move rfl rfl) ?_
        refine run_q (.none rfl) rfl rfl (q_move rfl rfl) ?_
        refine run_q (.none rfl) rfl rfl (q_move rfl rfl) ?_
        refine run_q (.none rfl) rfl rfl (q_indexS (q := k) rfl Try.underlying30 sz3 rfl rfl (.inp hrw .no) (by simp <;> omega) rfl (by omega)) ?_
        refine run_q (.none rfl) rfl rfl (q_loadC rfl one3 rfl (.inp hrw .no) (getmap (by omega))) ?_
        refine run_q (.none rfl) rfl rfl (q_move rfl rfl) ?_
        refine run_q (.none rfl) rfl rfl (q_mul rfl rfl rfl (by omega)) ?_
        refine run_h (.none rfl) (h_buildSlice rfl rfl rfl Try.underlying30 info3 (.cons rfl rfl rfl rfl Parts.nil) rfl (by omega)) ?_
        rintro b60 -
        refine run_h (.none rfl) (h_append rfl rfl rfl Try.underlying30 info3 rfl rfl (.there Sel.here) rfl (.own Sel.here) rfl (all1 rfl) (all1 rfl) (by omega) (by omega)) ?_
        rintro ⟨A61, c61⟩ -
        refine run_q (.none rfl) rfl rfl (q_assign rfl rfl) ?_
        refine run_nil ?_
        refine run_sub (subMk (.cons (s := 0) rfl (.cons (s := 1) rfl (.cons (s := 6) rfl (.cons (s := 7) rfl (.cons (s := 8) rfl (.cons (s := 9) rfl (.cons (s := 10) rfl (.cons (s := 11) rfl .nil)))))))) .refl) ?_
        refine run_blk ?_
        refine run_region ?_
        refine run_q (.none rfl) rfl rfl (q_move rfl rfl) ?_
        refine run_q (.none rfl) rfl rfl (q_add rfl rfl rfl (by omega)) ?_
        refine run_q (.none rfl) rfl rfl (q_assign rfl rfl) ?_
        refine run_nil ?_
        exact run_again (k + 1, A61, c61) (by (try dsimp only); exact ⟨by omega, upto_succ hinv hxm⟩) (by (try dsimp only); omega) (subMk (.cons' (s := 11) rfl rfl (.cons' (s := 10) rfl (by simp) (.cons (s := 0) rfl (.cons (s := 1) rfl (.cons (s := 6) rfl (.cons (s := 7) rfl (.cons (s := 8) rfl (.cons (s := 9) rfl .nil)))))))) (.cons Sel.here (.own rfl (by simp) rfl (by rw [mulW_succ]; simp [encI, vlist])) (.cons (.there Sel.here) .refl .nil)))
    · have g42' := g42
      try simp only [decide_eq_true_eq, decide_eq_false_iff_not, beq_iff_eq, beq_eq_false_iff_ne, bne_iff_ne, bne_eq_false_iff_eq, Bool.not_eq_true', Bool.not_eq_false', ne_eq, Int.not_lt, Int.not_le, Decidable.not_not] at g42'
      refine run_exit rfl ?_
      refine run_sub (subMk (.cons (s := 0) rfl (.cons (s := 6) rfl (.cons (s := 7) rfl (.cons (s := 8) rfl (.cons (s := 9) rfl (.cons (s := 10) rfl .nil)))))) .refl) ?_
      refine run_seq ?_
      refine run_seq ?_
      refine run_region ?_
      refine run_q (.none rfl) rfl rfl (q_move rfl rfl) ?_
      refine run_q (.none rfl) rfl rfl (q_neq rfl rfl rfl) ?_
      refine run_nil ?_
      refine run_condT rfl (by simpa using g42) ?_
      refine run_seq ?_
      refine run_region ?_
      refine run_q (.none rfl) rfl rfl (q_call rfl call12 Evs.nil (fun w hk hm => known_just w)) ?_
      refine run_q (.none rfl) rfl rfl (q_assign rfl rfl) ?_
      refine run_nil ?_
      refine run_sub (subMk (.cons (s := 0) rfl (.cons (s := 6) rfl (.cons (s := 7) rfl (.cons (s := 8) rfl (.cons (s := 10) rfl .nil))))) .refl) ?_
      refine run_ret ?_
      exact end1 rfl rfl rfl
  · have g39' := g39
    try simp only [decide_eq_true_eq, decide_eq_false_iff_not, beq_iff_eq, beq_eq_false_iff_ne, bne_iff_ne, bne_eq_false_iff_eq, Bool.not_eq_true', Bool.not_eq_false', ne_eq, Int.not_lt, Int.not_le, Decidable.not_not] at g39'
    refine run_off (.no rfl rfl rfl g39) rfl rfl ?_
    refine run_off (.no rfl rfl rfl g39) rfl rfl ?_
    refine run_q (.none rfl) rfl rfl (q_pickF rfl rfl g39 rfl) ?_
    refine run_nil ?_
    refine run_sub (subMk (.cons (s := 0) rfl (.cons (s := 1) rfl (.cons (s := 6) rfl (.cons (s := 7) rfl (.cons (s := 8) rfl (.cons (s := 9) rfl (.cons (s := 10) rfl (.cons (s := 11) rfl (.cons (s := 42) rfl .nil))))))))) .refl) ?_
    refine run_condF rfl rfl ?_
    refine run_exit rfl ?_
    refine run_sub (subMk (.cons (s := 0) rfl (.cons (s := 6) rfl (.cons (s := 7) rfl (.cons (s := 8) rfl (.cons (s := 9) rfl (.cons (s := 10) rfl .nil)))))) .refl) ?_
    refine run_seq ?_
    refine run_seq ?_
    refine run_region ?_
    refine run_q (.none rfl) rfl rfl (q_move rfl rfl) ?_
    refine run_q (.none rfl) rfl rfl (q_neq rfl rfl rfl) ?_
    refine run_nil ?_
    refine run_cond rfl (fun g63 => ?_) (fun g63 => ?_)
    · have g63' := g63
      try simp only [decide_eq_true_eq, decide_eq_false_iff_not, beq_iff_eq, beq_eq_false_iff_ne, bne_iff_ne, bne_eq_false_iff_eq, Bool.not_eq_true', Bool.not_eq_false', ne_eq, Int.not_lt, Int.not_le, Decidable.not_not] at g63'
      refine run_seq ?_
      refine run_region ?_
      refine run_q (.none rfl) rfl rfl (q_call rfl call12 Evs.nil (fun w hk hm => known_just w)) ?_
      refine run_q (.none rfl) rfl rfl (q_assign rfl rfl) ?_
      refine run_nil ?_
      refine run_sub (subMk (.cons (s := 0) rfl (.cons (s := 6) rfl (.cons (s := 7) rfl (.cons (s := 8) rfl (.cons (s := 10) rfl .nil))))) .refl) ?_
      refine run_ret ?_
      exact end1 rfl rfl rfl
    · have g63' := g63
      try simp only [decide_eq_true_eq, decide_eq_false_iff_not, beq_iff_eq, beq_eq_false_iff_ne, bne_iff_ne, bne_eq_false_iff_eq, Bool.not_eq_true', Bool.not_eq_false', ne_eq, Int.not_lt, Int.not_le, Decidable.not_not] at g63'
      have hE : (lenV a ws).2 = 0 := by simpa using g63
      obtain ⟨hc0, hz0, hl0⟩ := lenV_zero hE
      obtain rfl : k = ws.length := by omega
      have hlm := lens_mul (m := m) hE hm1.1 hinv
      refine run_skip ?_
      refine run_seq ?_
      refine run_sub (subMk (.cons (s := 0) rfl (.cons (s := 6) rfl (.cons (s := 7) rfl (.cons (s := 8) rfl (.cons (s := 9) rfl (.cons' (s := 10) (v' := .slice O (mulW ws m ws.length).length co) rfl (by rw [mulW_len]) (.cons (s := 62) rfl (.cons (s := 63) rfl .nil)))))))) .refl) ?_
      refine run_region ?_
      refine run_q (.none rfl) rfl rfl (q_move rfl rfl) ?_
      refine run_q (.none rfl) rfl rfl (q_move rfl rfl) ?_
      refine run_h (.none rfl) (h_call rfl rfl rfl call16 (.cons rfl (.cons rfl Evs.nil)) (fun w hk hm => lengths_ret a A ca (mulW ws m ws.length) O co w (hra.kept0 hk) (own_rd (Sel.here.holds hm)) (by omega) (by rw [mulW_len]; omega))) ?_
      rw [hlm]
      rintro ⟨v, mm⟩ ⟨O68, co68, rfl, rfl⟩
      show Run _ _ _ _ _ _ _ ⟨(68, .tuple #[.slice O68 (mulW (lensK a ws ws.length) m ws.length).length co68, .int .i64 0]) :: _, _ :: _⟩
      refine run_q (.none rfl) rfl rfl (q_move rfl rfl) ?_
      refine run_q (.none rfl) rfl rfl (q_extract rfl rfl rfl) ?_
      refine run_q (.none rfl) rfl rfl (q_extract rfl rfl rfl) ?_
      refine run_q (.none rfl) rfl rfl (q_assign rfl rfl) ?_
      refine run_q (.none rfl) rfl rfl (q_assign rfl rfl) ?_
      refine run_nil ?_
      refine run_sub (subMk (.cons (s := 6) rfl (.cons (s := 7) rfl (.cons (s := 8) rfl (.cons (s := 12) rfl (.cons (s := 13) rfl .nil))))) .refl) ?_
      refine run_seq ?_
      refine run_seq ?_
      refine run_region ?_
      refine run_q (.none rfl) rfl rfl (q_call rfl call12 Evs.nil (fun w hk hm => known_just w)) ?_
      refine run_q (.none rfl) rfl rfl (q_not rfl rfl) ?_
      refine run_q (.none rfl) rfl rfl (q_move rfl rfl) ?_
      refine run_q (.on rfl rfl rfl rfl) rfl rfl (q_move rfl rfl) ?_
      refine run_q (.on rfl rfl rfl rfl) rfl rfl (q_neq rfl rfl rfl) ?_
      refine run_q (.none rfl) rfl rfl (q_pickF rfl rfl rfl rfl) ?_
      refine run_q (.none rfl) rfl rfl (q_move rfl rfl) ?_
      refine run_q (.on rfl rfl rfl rfl) rfl rfl (q_move rfl rfl) ?_
      refine run_q (.on rfl rfl rfl rfl) rfl rfl (q_len rfl Try.underlying30 rfl) ?_
      refine run_q (.on rfl rfl rfl rfl) rfl rfl (q_move rfl rfl) ?_
      refine run_q (.on rfl rfl rfl rfl) rfl rfl (q_len rfl Try.underlying30 rfl) ?_
      refine run_q (.on rfl rfl rfl rfl) rfl rfl (q_neq rfl rfl rfl) ?_
      refine run_q (.none rfl) rfl rfl (q_pickF rfl rfl rfl rfl) ?_
      refine run_nil ?_
      refine run_sub (subMk (.cons (s := 6) rfl (.cons (s := 7) rfl (.cons (s := 8) rfl (.cons (s := 12) rfl (.cons (s := 83) rfl .nil))))) .refl) ?_
      refine run_condF rfl (by rw [mulW_len, hl0, lensK_len]; simp) ?_
      refine run_skip ?_
      refine run_seq ?_
      refine run_seq ?_
      refine run_region ?_
      refine run_q (.none rfl) rfl rfl (q_assign rfl rfl) ?_
      refine run_nil ?_
      refine run_block ?_
      refine run_sub (subMk (.cons (s := 14) rfl (.cons (s := 6) rfl (.cons (s := 7) rfl (.cons (s := 8) rfl (.cons (s := 12) rfl .nil))))) (.cons Sel.here .refl (.cons Sel.here .refl (.cons Sel.here .refl .nil)))) ?_
      refine run_loopC1M0 (ι := Nat) (fun j => j ≤ (lenV a ws).1.length) (fun j => .int .i64 (j : Int))  (fun j => (lenV a ws).1.length - j) 0 (by (try dsimp only); exact (by omega)) rfl  ?_
      rintro j hj
      (try dsimp only at hj)
      show Run _ _ _ _ _ _ _ ⟨(14, .int .i64 (j : Int)) :: _, _⟩
      refine run_seq ?_
      refine run_seq ?_
      refine run_region ?_
      refine run_q (.none rfl) rfl rfl (q_move rfl rfl) ?_
      refine run_q (.none rfl) rfl rfl (q_move rfl rfl) ?_
      refine run_q (.none rfl) rfl rfl (q_len rfl Try.underlying30 rfl) ?_
      refine run_q (.none rfl) rfl rfl (q_lss rfl rfl rfl) ?_
      refine run_nil ?_
      refine run_sub (subMk (.cons (s := 6) rfl (.cons (s := 7) rfl (.cons (s := 8) rfl (.cons (s := 12) rfl (.cons (s := 14) rfl (.cons (s := 87) rfl .nil)))))) .refl) ?_
      refine run_cond rfl (fun g87 => ?_) (fun g87 => ?_)
      · have g87' := g87
        try simp only [decide_eq_true_eq, decide_eq_false_iff_not, beq_iff_eq, beq_eq_false_iff_ne, bne_iff_ne, bne_eq_false_iff_eq, Bool.not_eq_true', Bool.not_eq_false', ne_eq, Int.not_lt, Int.not_le, Decidable.not_not] at g87'
        have hj1 : j < ws.length := by have hh := g87'; rw [hl0, lensK_len] at hh; omega
        have hj2 := mulW_len (lensK a ws ws.length) m ws.length
        have hj3 : ((mulW (lensK a ws ws.length) m ws.length, (0 : Int)).1).length = ws.length := mulW_len _ _ _
        have hxb := lenV_bd (ts := a) (w := ws) _ (nth_mem (show j < (lenV a ws).1.length by omega))
        refine run_skip ?_
        refine run_seq ?_
        refine run_block ?_
        refine run_seq ?_
        refine run_draw [(0, 0), (1, 0), (2, 0), (3, 0), (4, 0), (5, 0), (6, 0), (7, 0), (8, 0), (9, 0), (10, 0)] mixed (by kernel_rfl) .refl ?_
        refine d_q rfl rfl (.none rfl) rfl rfl (q_move rfl rfl) ?_
        refine d_q rfl rfl (.none rfl) rfl rfl (q_move rfl rfl) ?_
        refine d_q rfl rfl (.none rfl) rfl rfl (q_indexS (q := j) rfl Try.underlying30 sz3 rfl rfl (.own Sel.here) (by simp <;> omega) rfl (by omega)) ?_
        refine d_q rfl rfl (.none rfl) rfl rfl (q_loadC rfl one3 rfl (.own Sel.here) (getmap (by omega))) ?_
        refine d_q rfl rfl (.none rfl) rfl rfl (q_move rfl rfl) ?_
        refine d_q rfl rfl (.none rfl) rfl rfl (q_move rfl rfl) ?_
        refine d_q rfl rfl (.none rfl) rfl rfl (q_indexS (q := j) rfl Try.underlying30 sz3 rfl rfl (.own (.there (.there Sel.here))) (by simp <;> omega) rfl (by omega)) ?_
        refine d_q rfl rfl (.none rfl) rfl rfl (q_loadC rfl one3 rfl (.own (.there (.there Sel.here))) (getmap (by omega))) ?_
        refine d_q rfl rfl (.none rfl) rfl rfl (q_move rfl rfl) ?_
        refine d_q rfl rfl (.none rfl) rfl rfl (q_mul rfl rfl rfl (by have := mulM hxb hm1; omega)) ?_
        refine d_q rfl rfl (.none rfl) rfl rfl (q_neq rfl rfl rfl) ?_
        refine d_nil ?_
        refine run_sub (subMk (.cons (s := 6) rfl (.cons (s := 7) rfl (.cons (s := 8) rfl (.cons (s := 12) rfl (.cons (s := 14) rfl (.cons (s := 100) rfl .nil)))))) .refl) ?_
        refine run_condF rfl (by rw [mulW_nth (by omega), hl0]; simp) ?_
        refine run_skip ?_
        refine run_blk ?_
        refine run_region ?_
        refine run_q (.none rfl) rfl rfl (q_move rfl rfl) ?_
        refine run_q (.none rfl) rfl rfl (q_add rfl rfl rfl (by omega)) ?_
        refine run_q (.none rfl) rfl rfl (q_assign rfl rfl) ?_
        refine run_nil ?_
        refine run_sub (subMk (.cons (s := 6) rfl (.cons (s := 7) rfl (.cons (s := 8) rfl (.cons (s := 12) rfl (.cons (s := 14) rfl .nil))))) .refl) ?_
        exact run_again (j + 1) (by (try dsimp only); exact (by omega)) (by (try dsimp only); omega) (subMk (.cons' (s := 14) rfl rfl (.cons (s := 6) rfl (.cons (s := 7) rfl (.cons (s := 8) rfl (.cons (s := 12) rfl .nil))))) (.cons Sel.here .refl (.cons Sel.here .refl (.cons Sel.here .refl .nil))))
      · have g87' := g87
        try simp only [decide_eq_true_eq, decide_eq_false_iff_not, beq_iff_eq, beq_eq_false_iff_ne, bne_iff_ne, bne_eq_false_iff_eq, Bool.not_eq_true', Bool.not_eq_false', ne_eq, Int.not_lt, Int.not_le, Decidable.not_not] at g87'
        refine run_exit rfl ?_
        refine run_sub (subMk (.cons (s := 6) rfl .nil) .refl) ?_
        refine run_seq ?_
        refine run_region ?_
        refine run_q (.none rfl) rfl rfl (q_assign rfl rfl) ?_
        refine run_nil ?_
        refine run_ret ?_
        exact end1 rfl rfl rfl

theorem law4_just (l : List Tup) (A : Option Addr) (ca : Nat) (lw : List Int) (B : Option Addr) (cb : Nat) (x : Int) (W : World) (hr0 : Rd W A 4 (l.map Tup.enc)) (hca : l.length ≤ ca) (hrw0 : Rd W B 1 (lw.map encI)) (hcb : lw.length ≤ cb) (hx : 0 ≤ x ∧ x ≤ 255) : Calls Try.prog 4 #[.slice A l.length ca, .slice B lw.length cb, .int .u8 x] W (Just W (.bool true)) := law4_at l A ca lw B cb x W hr0 hca hrw0 hcb _ rfl _ rfl hx

end Go.Proofs.Yticofkkkafhpiaa
