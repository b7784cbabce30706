/- When a list of pairs is an alignment, in the program. -/
import Derived.Test.YtbkmmjpklkallaaG
import Derived.Test.YtbkmmjpklkallaaChk
set_option linter.unusedSimpArgs false
set_option linter.unusedVariables false
namespace Go.Proofs.Ytbkmmjpklkallaa
open Go Go.RowKit Hr



set_option maxRecDepth 100000 in
theorem checked_just (a b : List Note) (A B : Option Addr) (ca cb : Nat) (ps : List Pair) (Q : Option Addr) (cq : Nat) (W : World) (hra : Rd W A 7 (a.map Note.enc)) (hrb : Rd W B 7 (b.map Note.enc)) (hrq : Rd W Q 3 (ps.map Pair.enc)) (hla : a.length ≤ 1000000000000) (hlb : b.length ≤ 1000000000000) (hlq : ps.length ≤ 1000000000000) : Calls Try.prog 21 #[.slice A a.length ca, .slice B b.length cb, .slice Q ps.length cq] W (Hr.Just W (.int .i64 (checkV a b ps))) := by
  refine Just.of_ret ?_
  refine enterA (X := nX) (vs := [.slice A a.length ca, .slice B b.length cb, .slice Q ps.length cq]) Try.func21 Try.ntmps21 rfl rfl Mem.nil ?_
  refine run_seq ?_
  refine run_region ?_
  refine run_q (.none rfl) rfl rfl (q_assign rfl rfl) ?_
  refine run_nil ?_
  refine run_seq ?_
  refine run_seq ?_
  refine run_region ?_
  refine run_q (.none rfl) rfl rfl (q_move rfl rfl) ?_
  refine run_q (.none rfl) rfl rfl (q_call rfl call15 (.cons rfl Evs.nil) (fun w hk hm => bad_just a A a.length ca w (hra.kept0 hk) rfl (by omega))) ?_
  refine run_q (.none rfl) rfl rfl (q_assign rfl rfl) ?_
  refine run_nil ?_
  refine run_seq ?_
  refine run_region ?_
  refine run_q (.none rfl) rfl rfl (q_move rfl rfl) ?_
  refine run_q (.none rfl) rfl rfl (q_neq rfl rfl rfl) ?_
  refine run_nil ?_
  refine run_sub (subMk (.cons (s := 0) rfl (.cons (s := 1) rfl (.cons (s := 2) rfl (.cons (s := 6) rfl (.cons (s := 7) rfl (.cons (s := 18) rfl .nil)))))) .refl) ?_
  refine run_cond rfl (fun g18 => ?_) (fun g18 => ?_)
  · have g18' := g18
    try simp only [decide_eq_true_eq, decide_eq_false_iff_not, beq_iff_eq, beq_eq_false_iff_ne, bne_iff_ne, bne_eq_false_iff_eq, Bool.not_eq_true', Bool.not_eq_false', ne_eq, Int.not_lt, Int.not_le, Decidable.not_not] at g18'
    refine run_seq ?_
    refine run_region ?_
    refine run_q (.none rfl) rfl rfl (q_move rfl rfl) ?_
    refine run_q (.none rfl) rfl rfl (q_assign rfl rfl) ?_
    refine run_nil ?_
    refine run_sub (subMk (.cons (s := 0) rfl (.cons (s := 1) rfl (.cons (s := 2) rfl (.cons (s := 6) rfl .nil)))) .refl) ?_
    refine run_ret ?_
    exact end1 rfl rfl (by rw [checkV, if_pos (by omega)])
  · have g18' := g18
    try simp only [decide_eq_true_eq, decide_eq_false_iff_not, beq_iff_eq, beq_eq_false_iff_ne, bne_iff_ne, bne_eq_false_iff_eq, Bool.not_eq_true', Bool.not_eq_false', ne_eq, Int.not_lt, Int.not_le, Decidable.not_not] at g18'
    have hwa : wrongL a = 0 := by omega
    refine run_skip ?_
    refine run_seq ?_
    refine run_seq ?_
    refine run_region ?_
    refine run_q (.none rfl) rfl rfl (q_move rfl rfl) ?_
    refine run_q (.none rfl) rfl rfl (q_call rfl call15 (.cons rfl Evs.nil) (fun w hk hm => bad_just b B b.length cb w (hrb.kept0 hk) rfl (by omega))) ?_
    refine run_q (.none rfl) rfl rfl (q_assign rfl rfl) ?_
    refine run_nil ?_
    refine run_sub (subMk (.cons (s := 0) rfl (.cons (s := 1) rfl (.cons (s := 2) rfl (.cons (s := 6) rfl (.cons (s := 8) rfl .nil))))) .refl) ?_
    refine run_seq ?_
    refine run_region ?_
    refine run_q (.none rfl) rfl rfl (q_move rfl rfl) ?_
    refine run_q (.none rfl) rfl rfl (q_neq rfl rfl rfl) ?_
    refine run_nil ?_
    refine run_cond rfl (fun g23 => ?_) (fun g23 => ?_)
    · have g23' := g23
      try simp only [decide_eq_true_eq, decide_eq_false_iff_not, beq_iff_eq, beq_eq_false_iff_ne, bne_iff_ne, bne_eq_false_iff_eq, Bool.not_eq_true', Bool.not_eq_false', ne_eq, Int.not_lt, Int.not_le, Decidable.not_not] at g23'
      refine run_seq ?_
      refine run_region ?_
      refine run_q (.none rfl) rfl rfl (q_move rfl rfl) ?_
      refine run_q (.none rfl) rfl rfl (q_assign rfl rfl) ?_
      refine run_nil ?_
      refine run_sub (subMk (.cons (s := 0) rfl (.cons (s := 1) rfl (.cons (s := 2) rfl (.cons (s := 6) rfl .nil)))) .refl) ?_
      refine run_ret ?_
      exact end1 rfl rfl (by rw [checkV, if_neg (by omega), if_pos (by omega)])
    · have g23' := g23
      try simp only [decide_eq_true_eq, decide_eq_false_iff_not, beq_iff_eq, beq_eq_false_iff_ne, bne_iff_ne, bne_eq_false_iff_eq, Bool.not_eq_true', Bool.not_eq_false', ne_eq, Int.not_lt, Int.not_le, Decidable.not_not] at g23'
      have hwb : wrongL b = 0 := by omega
      refine run_skip ?_
      refine run_seq ?_
      refine run_region ?_
      refine run_q (.none rfl) rfl rfl (q_assign rfl rfl) ?_
      refine run_q (.none rfl) rfl rfl (q_assign rfl rfl) ?_
      refine run_nil ?_
      refine run_sub (subMk (.cons (s := 0) rfl (.cons (s := 1) rfl (.cons (s := 2) rfl (.cons (s := 6) rfl (.cons (s := 9) rfl (.cons (s := 10) rfl .nil)))))) .refl) ?_
      refine run_seq ?_
      refine run_seq ?_
      refine run_region ?_
      refine run_q (.none rfl) rfl rfl (q_move rfl rfl) ?_
      refine run_q (.none rfl) rfl rfl (q_len rfl Try.underlying28 rfl) ?_
      refine run_q (.none rfl) rfl rfl (q_move rfl rfl) ?_
      refine run_nil ?_
      refine run_block ?_
      refine run_sub (subMk (.cons (s := 27) rfl (.cons (s := 9) rfl (.cons (s := 10) rfl (.cons (s := 0) rfl (.cons (s := 1) rfl (.cons (s := 6) rfl (.cons (s := 25) rfl (.cons (s := 26) rfl .nil)))))))) .nil) ?_
      refine run_loopC3M0 (ι := Nat × Nat × Nat) (fun gg => gg.1 ≤ ps.length ∧ gg.2.1 ≤ a.length ∧ gg.2.2 ≤ b.length ∧ errPs a b ps 0 0 = errPs a b (ps.drop gg.1) gg.2.1 gg.2.2) (fun gg => .int .i64 (gg.1 : Int)) (fun gg => .int .i64 (gg.2.1 : Int)) (fun gg => .int .i64 (gg.2.2 : Int))  (fun gg => ps.length - gg.1) (0, 0, 0) (by (try dsimp only); exact ⟨by omega, by omega, by omega, rfl⟩) rfl rfl rfl  ?_
      rintro ⟨j, i, k⟩ hq
      (try dsimp only at hq)
      obtain ⟨hj, hi, hk, hinv⟩ := hq
      show Run _ _ _ _ _ _ _ ⟨(27, .int .i64 (j : Int)) :: (9, .int .i64 (i : Int)) :: (10, .int .i64 (k : Int)) :: _, _⟩
      refine run_seq ?_
      refine run_region ?_
      refine run_q (.none rfl) rfl rfl (q_lss rfl rfl rfl) ?_
      refine run_nil ?_
      refine run_seq ?_
      refine run_cond rfl (fun g28 => ?_) (fun g28 => ?_)
      · have g28' := g28
        try simp only [decide_eq_true_eq, decide_eq_false_iff_not, beq_iff_eq, beq_eq_false_iff_ne, bne_iff_ne, bne_eq_false_iff_eq, Bool.not_eq_true', Bool.not_eq_false', ne_eq, Int.not_lt, Int.not_le, Decidable.not_not] at g28'
        refine run_skip ?_
        refine run_seq ?_
        refine run_block ?_
        refine run_seq ?_
        refine run_region ?_
        refine run_q (.none rfl) rfl rfl (q_indexS (q := j) rfl Try.underlying28 sz40 rfl rfl (.inp hrq .no) (by simp <;> omega) rfl (by omega)) ?_
        refine run_q (.none rfl) rfl rfl (q_loadE rfl agg40 rfl (.inp hrq .no) (getmap (by omega)) rfl) ?_
        refine run_h (.none rfl) (h_alloc rfl rfl rfl info40) ?_
        rintro b12 -
        refine run_h (.none rfl) (h_storeB rfl rfl sz40 rfl rfl rfl rfl rfl Sel.here rfl) ?_
        rintro - -
        refine run_nil ?_
        refine run_sub (subMk (.cons (s := 0) rfl (.cons (s := 1) rfl (.cons (s := 6) rfl (.cons (s := 9) rfl (.cons (s := 10) rfl (.cons (s := 12) rfl (.cons (s := 25) rfl (.cons (s := 26) rfl (.cons (s := 27) rfl .nil))))))))) .refl) ?_
        refine run_seq ?_
        refine run_seq ?_
        refine run_region ?_
        refine run_q (.none rfl) rfl rfl (q_fieldB (d := 0) rfl Try.underlying40 rfl rfl sz3 rfl) ?_
        refine run_q (.none rfl) rfl rfl (q_loadB rfl one3 rfl Sel.here rfl) ?_
        refine run_q (.none rfl) rfl rfl (q_lss rfl rfl rfl) ?_
        refine run_q (.none rfl) rfl rfl (q_move rfl rfl) ?_
        refine run_split 34 rfl (fun g34 => ?_) (fun g34 => ?_)
        · have g34' := g34
          try simp only [decide_eq_true_eq, decide_eq_false_iff_not, beq_iff_eq, beq_eq_false_iff_ne, bne_iff_ne, bne_eq_false_iff_eq, Bool.not_eq_true', Bool.not_eq_false', ne_eq, Int.not_lt, Int.not_le, Decidable.not_not] at g34'
          refine run_off (.no rfl rfl rfl g34) rfl rfl ?_
          refine run_off (.no rfl rfl rfl g34) rfl rfl ?_
          refine run_off (.no rfl rfl rfl g34) rfl rfl ?_
          refine run_q (.none rfl) rfl rfl (q_pickT rfl rfl g34 rfl) ?_
          refine run_nil ?_
          refine run_sub (subMk (.cons (s := 0) rfl (.cons (s := 1) rfl (.cons (s := 6) rfl (.cons (s := 9) rfl (.cons (s := 10) rfl (.cons (s := 12) rfl (.cons (s := 25) rfl (.cons (s := 26) rfl (.cons (s := 27) rfl (.cons (s := 38) rfl .nil)))))))))) .refl) ?_
          refine run_condT rfl rfl ?_
          refine run_seq ?_
          refine run_region ?_
          refine run_q (.none rfl) rfl rfl (q_assign rfl rfl) ?_
          refine run_nil ?_
          refine run_ret ?_
          exact end1 rfl rfl (by rw [checkV_ok hwa hwb, hinv]; rw [errPs_hit (by omega) (errP_11 (by omega)) (by omega)])
        · have g34' := g34
          try simp only [decide_eq_true_eq, decide_eq_false_iff_not, beq_iff_eq, beq_eq_false_iff_ne, bne_iff_ne, bne_eq_false_iff_eq, Bool.not_eq_true', Bool.not_eq_false', ne_eq, Int.not_lt, Int.not_le, Decidable.not_not] at g34'
          refine run_q (.on rfl rfl rfl g34) rfl rfl (q_fieldB (d := 0) rfl Try.underlying40 rfl rfl sz3 rfl) ?_
          refine run_q (.on rfl rfl rfl g34) rfl rfl (q_loadB rfl one3 rfl Sel.here rfl) ?_
          refine run_q (.on rfl rfl rfl g34) rfl rfl (q_gtr rfl rfl rfl) ?_
          refine run_q (.none rfl) rfl rfl (q_pickF rfl rfl g34 rfl) ?_
          refine run_nil ?_
          refine run_sub (subMk (.cons (s := 0) rfl (.cons (s := 1) rfl (.cons (s := 6) rfl (.cons (s := 9) rfl (.cons (s := 10) rfl (.cons (s := 12) rfl (.cons (s := 25) rfl (.cons (s := 26) rfl (.cons (s := 27) rfl (.cons (s := 38) rfl .nil)))))))))) .refl) ?_
          refine run_cond rfl (fun g38 => ?_) (fun g38 => ?_)
          · have g38' := g38
            try simp only [decide_eq_true_eq, decide_eq_false_iff_not, beq_iff_eq, beq_eq_false_iff_ne, bne_iff_ne, bne_eq_false_iff_eq, Bool.not_eq_true', Bool.not_eq_false', ne_eq, Int.not_lt, Int.not_le, Decidable.not_not] at g38'
            refine run_seq ?_
            refine run_region ?_
            refine run_q (.none rfl) rfl rfl (q_assign rfl rfl) ?_
            refine run_nil ?_
            refine run_ret ?_
            exact end1 rfl rfl (by rw [checkV_ok hwa hwb, hinv]; rw [errPs_hit (by omega) (errP_11 (by omega)) (by omega)])
          · have g38' := g38
            try simp only [decide_eq_true_eq, decide_eq_false_iff_not, beq_iff_eq, beq_eq_false_iff_ne, bne_iff_ne, bne_eq_false_iff_eq, Bool.not_eq_true', Bool.not_eq_false', ne_eq, Int.not_lt, Int.not_le, Decidable.not_not] at g38'
            refine run_skip ?_
            refine run_seq ?_
            refine run_region ?_
            refine run_q (.none rfl) rfl rfl (q_move rfl rfl) ?_
            refine run_q (.none rfl) rfl rfl (q_move rfl rfl) ?_
            refine run_q (.none rfl) rfl rfl (q_assign rfl rfl) ?_
            refine run_q (.none rfl) rfl rfl (q_assign rfl rfl) ?_
            refine run_nil ?_
            refine run_sub (subMk (.cons (s := 0) rfl (.cons (s := 1) rfl (.cons (s := 6) rfl (.cons (s := 9) rfl (.cons (s := 10) rfl (.cons (s := 12) rfl (.cons (s := 13) rfl (.cons (s := 14) rfl (.cons (s := 25) rfl (.cons (s := 26) rfl (.cons (s := 27) rfl .nil))))))))))) .refl) ?_
            refine run_seq ?_
            refine run_seq ?_
            refine run_region ?_
            refine run_q (.none rfl) rfl rfl (q_fieldB (d := 0) rfl Try.underlying40 rfl rfl sz3 rfl) ?_
            refine run_q (.none rfl) rfl rfl (q_loadB rfl one3 rfl Sel.here rfl) ?_
            refine run_q (.none rfl) rfl rfl (q_eql rfl rfl rfl) ?_
            refine run_nil ?_
            refine run_cond rfl (fun g43 => ?_) (fun g43 => ?_)
            · have g43' := g43
              try simp only [decide_eq_true_eq, decide_eq_false_iff_not, beq_iff_eq, beq_eq_false_iff_ne, bne_iff_ne, bne_eq_false_iff_eq, Bool.not_eq_true', Bool.not_eq_false', ne_eq, Int.not_lt, Int.not_le, Decidable.not_not] at g43'
              refine run_region ?_
              refine run_q (.none rfl) rfl rfl (q_assign rfl rfl) ?_
              refine run_nil ?_
              refine run_sub (subMk (.cons (s := 0) rfl (.cons (s := 1) rfl (.cons (s := 6) rfl (.cons (s := 9) rfl (.cons (s := 10) rfl (.cons (s := 12) rfl (.cons (s := 13) rfl (.cons (s := 14) rfl (.cons (s := 25) rfl (.cons (s := 26) rfl (.cons (s := 27) rfl .nil))))))))))) .refl) ?_
              refine run_seq ?_
              refine run_seq ?_
              refine run_region ?_
              refine run_q (.none rfl) rfl rfl (q_fieldB (d := 0) rfl Try.underlying40 rfl rfl sz3 rfl) ?_
              refine run_q (.none rfl) rfl rfl (q_loadB rfl one3 rfl Sel.here rfl) ?_
              refine run_q (.none rfl) rfl rfl (q_eql rfl rfl rfl) ?_
              refine run_nil ?_
              refine run_condF rfl (by simp; omega) ?_
              refine run_skip ?_
              refine run_seq ?_
              refine run_seq ?_
              refine run_region ?_
              refine run_q (.none rfl) rfl rfl (q_fieldB (d := 1) rfl Try.underlying40 rfl rfl sz3 rfl) ?_
              refine run_q (.none rfl) rfl rfl (q_loadB rfl one3 rfl Sel.here rfl) ?_
              refine run_q (.none rfl) rfl rfl (q_move rfl rfl) ?_
              refine run_q (.none rfl) rfl rfl (q_neq rfl rfl rfl) ?_
              refine run_q (.none rfl) rfl rfl (q_move rfl rfl) ?_
              refine run_split 51 rfl (fun g51 => ?_) (fun g51 => ?_)
              · have g51' := g51
                try simp only [decide_eq_true_eq, decide_eq_false_iff_not, beq_iff_eq, beq_eq_false_iff_ne, bne_iff_ne, bne_eq_false_iff_eq, Bool.not_eq_true', Bool.not_eq_false', ne_eq, Int.not_lt, Int.not_le, Decidable.not_not] at g51'
                refine run_off (.no rfl rfl rfl g51) rfl rfl ?_
                refine run_off (.no rfl rfl rfl g51) rfl rfl ?_
                refine run_off (.no rfl rfl rfl g51) rfl rfl ?_
                refine run_off (.no rfl rfl rfl g51) rfl rfl ?_
                refine run_q (.none rfl) rfl rfl (q_pickT rfl rfl g51 rfl) ?_
                refine run_q (.none rfl) rfl rfl (q_move rfl rfl) ?_
                refine run_off (.no rfl rfl rfl rfl) rfl rfl ?_
                refine run_off (.no rfl rfl rfl rfl) rfl rfl ?_
                refine run_off (.no rfl rfl rfl rfl) rfl rfl ?_
                refine run_off (.no rfl rfl rfl rfl) rfl rfl ?_
                refine run_q (.none rfl) rfl rfl (q_pickT rfl rfl rfl rfl) ?_
                refine run_q (.none rfl) rfl rfl (q_move rfl rfl) ?_
                refine run_off (.no rfl rfl rfl rfl) rfl rfl ?_
                refine run_off (.no rfl rfl rfl rfl) rfl rfl ?_
                refine run_off (.no rfl rfl rfl rfl) rfl rfl ?_
                refine run_off (.no rfl rfl rfl rfl) rfl rfl ?_
                refine run_q (.none rfl) rfl rfl (q_pickT rfl rfl rfl rfl) ?_
                refine run_nil ?_
                refine run_sub (subMk (.cons (s := 0) rfl (.cons (s := 1) rfl (.cons (s := 6) rfl (.cons (s := 9) rfl (.cons (s := 10) rfl (.cons (s := 12) rfl (.cons (s := 13) rfl (.cons (s := 14) rfl (.cons (s := 25) rfl (.cons (s := 26) rfl (.cons (s := 27) rfl (.cons (s := 68) rfl .nil)))))))))))) .refl) ?_
                refine run_condT rfl rfl ?_
                refine run_seq ?_
                refine run_region ?_
                refine run_q (.none rfl) rfl rfl (q_assign rfl rfl) ?_
                refine run_nil ?_
                refine run_ret ?_
                exact end1 rfl rfl (by rw [checkV_ok hwa hwb, hinv]; rw [errPs_hit (by omega) (errP_38 (by omega) (by omega)) (by omega)])
              · have g51' := g51
                try simp only [decide_eq_true_eq, decide_eq_false_iff_not, beq_iff_eq, beq_eq_false_iff_ne, bne_iff_ne, bne_eq_false_iff_eq, Bool.not_eq_true', Bool.not_eq_false', ne_eq, Int.not_lt, Int.not_le, Decidable.not_not] at g51'
                refine run_q (.on rfl rfl rfl g51) rfl rfl (q_fieldB (d := 2) rfl Try.underlying40 rfl rfl sz3 rfl) ?_
                refine run_q (.on rfl rfl rfl g51) rfl rfl (q_loadB rfl one3 rfl Sel.here rfl) ?_
                refine run_q (.on rfl rfl rfl g51) rfl rfl (q_move rfl rfl) ?_
                refine run_q (.on rfl rfl rfl g51) rfl rfl (q_neq rfl rfl rfl) ?_
                refine run_q (.none rfl) rfl rfl (q_pickF rfl rfl g51 rfl) ?_
                refine run_q (.none rfl) rfl rfl (q_move rfl rfl) ?_
                refine run_split 57 rfl (fun g57 => ?_) (fun g57 => ?_)
                · have g57' := g57
                  try simp only [decide_eq_true_eq, decide_eq_false_iff_not, beq_iff_eq, beq_eq_false_iff_ne, bne_iff_ne, bne_eq_false_iff_eq, Bool.not_eq_true', Bool.not_eq_false', ne_eq, Int.not_lt, Int.not_le, Decidable.not_not] at g57'
                  refine run_off (.no rfl rfl rfl g57) rfl rfl ?_
                  refine run_off (.no rfl rfl rfl g57) rfl rfl ?_
                  refine run_off (.no rfl rfl rfl g57) rfl rfl ?_
                  refine run_off (.no rfl rfl rfl g57) rfl rfl ?_
                  refine run_q (.none rfl) rfl rfl (q_pickT rfl rfl g57 rfl) ?_
                  refine run_q (.none rfl) rfl rfl (q_move rfl rfl) ?_
                  refine run_off (.no rfl rfl rfl rfl) rfl rfl ?_
                  refine run_off (.no rfl rfl rfl rfl) rfl rfl ?_
                  refine run_off (.no rfl rfl rfl rfl) rfl rfl ?_
                  refine run_off (.no rfl rfl rfl rfl) rfl rfl ?_
                  refine run_q (.none rfl) rfl rfl (q_pickT rfl rfl rfl rfl) ?_
                  refine run_nil ?_
                  refine run_sub (subMk (.cons (s := 0) rfl (.cons (s := 1) rfl (.cons (s := 6) rfl (.cons (s := 9) rfl (.cons (s := 10) rfl (.cons (s := 12) rfl (.cons (s := 13) rfl (.cons (s := 14) rfl (.cons (s := 25) rfl (.cons (s := 26) rfl (.cons (s := 27) rfl (.cons (s := 68) rfl .nil)))))))))))) .refl) ?_
                  refine run_condT rfl rfl ?_
                  refine run_seq ?_
                  refine run_region ?_
                  refine run_q (.none rfl) rfl rfl (q_assign rfl rfl) ?_
                  refine run_nil ?_
                  refine run_ret ?_
                  exact end1 rfl rfl (by rw [checkV_ok hwa hwb, hinv]; rw [errPs_hit (by omega) (errP_38 (by omega) (by omega)) (by omega)])
                · have g57' := g57
                  try simp only [decide_eq_true_eq, decide_eq_false_iff_not, beq_iff_eq, beq_eq_false_iff_ne, bne_iff_ne, bne_eq_false_iff_eq, Bool.not_eq_true', Bool.not_eq_false', ne_eq, Int.not_lt, Int.not_le, Decidable.not_not] at g57'
                  refine run_q (.on rfl rfl rfl g57) rfl rfl (q_move rfl rfl) ?_
                  refine run_q (.on rfl rfl rfl g57) rfl rfl (q_move rfl rfl) ?_
                  refine run_q (.on rfl rfl rfl g57) rfl rfl (q_len rfl Try.underlying22 rfl) ?_
                  refine run_q (.on rfl rfl rfl g57) rfl rfl (q_geq rfl rfl rfl) ?_
                  refine run_q (.none rfl) rfl rfl (q_pickF rfl rfl g57 rfl) ?_
                  refine run_q (.none rfl) rfl rfl (q_move rfl rfl) ?_
                  refine run_q (.on rfl rfl rfl (decide_eq_false (by omega))) rfl rfl (q_move rfl rfl) ?_
                  refine run_q (.on rfl rfl rfl (decide_eq_false (by omega))) rfl rfl (q_move rfl rfl) ?_
                  refine run_q (.on rfl rfl rfl (decide_eq_false (by omega))) rfl rfl (q_len rfl Try.underlying22 rfl) ?_
                  refine run_q (.on rfl rfl rfl (decide_eq_false (by omega))) rfl rfl (q_geq rfl rfl rfl) ?_
                  refine run_q (.none rfl) rfl rfl (q_pickF rfl rfl (decide_eq_false (by omega)) rfl) ?_
                  refine run_nil ?_
                  refine run_sub (subMk (.cons (s := 0) rfl (.cons (s := 1) rfl (.cons (s := 6) rfl (.cons (s := 9) rfl (.cons (s := 10) rfl (.cons (s := 12) rfl (.cons (s := 13) rfl (.cons (s := 14) rfl (.cons (s := 25) rfl (.cons (s := 26) rfl (.cons (s := 27) rfl (.cons (s := 68) rfl .nil)))))))))))) .refl) ?_
                  refine run_cond rfl (fun g68 => ?_) (fun g68 => ?_)
                  · have g68' := g68
                    try simp only [decide_eq_true_eq, decide_eq_false_iff_not, beq_iff_eq, beq_eq_false_iff_ne, bne_iff_ne, bne_eq_false_iff_eq, Bool.not_eq_true', Bool.not_eq_false', ne_eq, Int.not_lt, Int.not_le, Decidable.not_not] at g68'
                    refine run_seq ?_
                    refine run_region ?_
                    refine run_q (.none rfl) rfl rfl (q_assign rfl rfl) ?_
                    refine run_nil ?_
                    refine run_ret ?_
                    exact end1 rfl rfl (by rw [checkV_ok hwa hwb, hinv]; rw [errPs_hit (by omega) (errP_38 (by omega) (by omega)) (by omega)])
                  · have g68' := g68
                    try simp only [decide_eq_true_eq, decide_eq_false_iff_not, beq_iff_eq, beq_eq_false_iff_ne, bne_iff_ne, bne_eq_false_iff_eq, Bool.not_eq_true', Bool.not_eq_false', ne_eq, Int.not_lt, Int.not_le, Decidable.not_not] at g68'
                    refine run_skip ?_
                    refine run_seq ?_
                    refine run_seq ?_
                    refine run_draw [(0, 0), (1, 0), (2, 0), (3, 0), (4, 0), (5, 0), (6, 0), (7, 0), (8, 0), (9, 0), (10, 0), (11, 0), (12, 0), (13, 0), (14, 0), (15, 0), (16, 0), (17, 0), (18, 0), (19, 0)] mixed (by kernel_rfl) .refl ?_
                    refine d_q rfl rfl (.none rfl) rfl rfl (q_fieldB (d := 0) rfl Try.underlying40 rfl rfl sz3 rfl) ?_
                    refine d_q rfl rfl (.none rfl) rfl rfl (q_loadB rfl one3 rfl Sel.here rfl) ?_
                    refine d_q rfl rfl (.none rfl) rfl rfl (q_lss rfl rfl rfl) ?_
                    refine d_q rfl rfl (.none rfl) rfl rfl (q_move rfl rfl) ?_
                    refine d_off rfl rfl (.no rfl rfl rfl (decide_eq_false (by omega))) rfl rfl ?_
                    refine d_off rfl rfl (.no rfl rfl rfl (decide_eq_false (by omega))) rfl rfl ?_
                    refine d_off rfl rfl (.no rfl rfl rfl (decide_eq_false (by omega))) rfl rfl ?_
                    refine d_off rfl rfl (.no rfl rfl rfl (decide_eq_false (by omega))) rfl rfl ?_
                    refine d_off rfl rfl (.no rfl rfl rfl (decide_eq_false (by omega))) rfl rfl ?_
                    refine d_off rfl rfl (.no rfl rfl rfl (decide_eq_false (by omega))) rfl rfl ?_
                    refine d_off rfl rfl (.no rfl rfl rfl (decide_eq_false (by omega))) rfl rfl ?_
                    refine d_off rfl rfl (.no rfl rfl rfl (decide_eq_false (by omega))) rfl rfl ?_
                    refine d_off rfl rfl (.no rfl rfl rfl (decide_eq_false (by omega))) rfl rfl ?_
                    refine d_off rfl rfl (.no rfl rfl rfl (decide_eq_false (by omega))) rfl rfl ?_
                    refine d_off rfl rfl (.no rfl rfl rfl (decide_eq_false (by omega))) rfl rfl ?_
                    refine d_off rfl rfl (.no rfl rfl rfl (decide_eq_false (by omega))) rfl rfl ?_
                    refine d_off rfl rfl (.no rfl rfl rfl (decide_eq_false (by omega))) rfl rfl ?_
                    refine d_off rfl rfl (.no rfl rfl rfl (decide_eq_false (by omega))) rfl rfl ?_
                    refine d_off rfl rfl (.no rfl rfl rfl (decide_eq_false (by omega))) rfl rfl ?_
                    refine d_q rfl rfl (.none rfl) rfl rfl (q_pickF rfl rfl (decide_eq_false (by omega)) rfl) ?_
                    refine d_nil ?_
                    refine run_sub (subMk (.cons (s := 0) rfl (.cons (s := 1) rfl (.cons (s := 6) rfl (.cons (s := 9) rfl (.cons (s := 10) rfl (.cons (s := 13) rfl (.cons (s := 14) rfl (.cons (s := 25) rfl (.cons (s := 26) rfl (.cons (s := 27) rfl (.cons (s := 88) rfl .nil))))))))))) .refl) ?_
                    refine run_condF rfl rfl ?_
                    refine run_skip ?_
                    refine run_seq ?_
                    refine run_seq ?_
                    refine run_region ?_
                    refine run_q (.none rfl) rfl rfl (q_move rfl rfl) ?_
                    refine run_q (.none rfl) rfl rfl (q_geq rfl rfl rfl) ?_
                    refine run_nil ?_
                    refine run_sub (subMk (.cons (s := 0) rfl (.cons (s := 1) rfl (.cons (s := 6) rfl (.cons (s := 9) rfl (.cons (s := 10) rfl (.cons (s := 14) rfl (.cons (s := 25) rfl (.cons (s := 26) rfl (.cons (s := 27) rfl (.cons (s := 90) rfl .nil)))))))))) .refl) ?_
                    refine run_condF rfl (decide_eq_false (by omega)) ?_
                    refine run_skip ?_
                    refine run_seq ?_
                    refine run_region ?_
                    refine run_q (.none rfl) rfl rfl (q_move rfl rfl) ?_
                    refine run_q (.none rfl) rfl rfl (q_geq rfl rfl rfl) ?_
                    refine run_nil ?_
                    refine run_sub (subMk (.cons (s := 0) rfl (.cons (s := 1) rfl (.cons (s := 6) rfl (.cons (s := 9) rfl (.cons (s := 10) rfl (.cons (s := 25) rfl (.cons (s := 26) rfl (.cons (s := 27) rfl (.cons (s := 94) rfl .nil))))))))) .refl) ?_
                    refine run_condT rfl (decide_eq_true (by omega)) ?_
                    refine run_region ?_
                    refine run_q (.none rfl) rfl rfl (q_move rfl rfl) ?_
                    refine run_q (.none rfl) rfl rfl (q_add rfl rfl rfl (by omega)) ?_
                    refine run_q (.none rfl) rfl rfl (q_assign rfl rfl) ?_
                    refine run_nil ?_
                    refine run_sub (subMk (.cons (s := 0) rfl (.cons (s := 1) rfl (.cons (s := 6) rfl (.cons (s := 9) rfl (.cons (s := 10) rfl (.cons (s := 25) rfl (.cons (s := 26) rfl (.cons (s := 27) rfl .nil)))))))) .refl) ?_
                    refine run_blk ?_
                    refine run_region ?_
                    refine run_q (.none rfl) rfl rfl (q_add rfl rfl rfl (by omega)) ?_
                    refine run_q (.none rfl) rfl rfl (q_move rfl rfl) ?_
                    refine run_nil ?_
                    exact run_again (j + 1, i, k + 1) (by (try dsimp only); exact ⟨by omega, by omega, by omega, by rw [hinv, errPs_4 (by omega) (by omega) (by omega) (by omega) (by omega)]⟩) (by (try dsimp only); omega) (subMk (.cons' (s := 27) rfl rfl (.cons' (s := 9) rfl rfl (.cons' (s := 10) rfl rfl (.cons (s := 0) rfl (.cons (s := 1) rfl (.cons (s := 6) rfl (.cons (s := 25) rfl (.cons (s := 26) rfl .nil)))))))) .nil)
            · have g43' := g43
              try simp only [decide_eq_true_eq, decide_eq_false_iff_not, beq_iff_eq, beq_eq_false_iff_ne, bne_iff_ne, bne_eq_false_iff_eq, Bool.not_eq_true', Bool.not_eq_false', ne_eq, Int.not_lt, Int.not_le, Decidable.not_not] at g43'
              refine run_skip ?_
              refine run_seq ?_
              refine run_seq ?_
              refine run_region ?_
              refine run_q (.none rfl) rfl rfl (q_fieldB (d := 0) rfl Try.underlying40 rfl rfl sz3 rfl) ?_
              refine run_q (.none rfl) rfl rfl (q_loadB rfl one3 rfl Sel.here rfl) ?_
              refine run_q (.none rfl) rfl rfl (q_eql rfl rfl rfl) ?_
              refine run_nil ?_
              refine run_sub (subMk (.cons (s := 0) rfl (.cons (s := 1) rfl (.cons (s := 6) rfl (.cons (s := 9) rfl (.cons (s := 10) rfl (.cons (s := 12) rfl (.cons (s := 13) rfl (.cons (s := 14) rfl (.cons (s := 25) rfl (.cons (s := 26) rfl (.cons (s := 27) rfl (.cons (s := 46) rfl .nil)))))))))))) .refl) ?_
              refine run_cond rfl (fun g46 => ?_) (fun g46 => ?_)
              · have g46' := g46
                try simp only [decide_eq_true_eq, decide_eq_false_iff_not, beq_iff_eq, beq_eq_false_iff_ne, bne_iff_ne, bne_eq_false_iff_eq, Bool.not_eq_true', Bool.not_eq_false', ne_eq, Int.not_lt, Int.not_le, Decidable.not_not] at g46'
                refine run_region ?_
                refine run_q (.none rfl) rfl rfl (q_assign rfl rfl) ?_
                refine run_nil ?_
                refine run_seq ?_
                refine run_seq ?_
                refine run_region ?_
                refine run_q (.none rfl) rfl rfl (q_fieldB (d := 1) rfl Try.underlying40 rfl rfl sz3 rfl) ?_
                refine run_q (.none rfl) rfl rfl (q_loadB rfl one3 rfl Sel.here rfl) ?_
                refine run_q (.none rfl) rfl rfl (q_move rfl rfl) ?_
                refine run_q (.none rfl) rfl rfl (q_neq rfl rfl rfl) ?_
                refine run_q (.none rfl) rfl rfl (q_move rfl rfl) ?_
                refine run_split 51 rfl (fun g51 => ?_) (fun g51 => ?_)
                · have g51' := g51
                  try simp only [decide_eq_true_eq, decide_eq_false_iff_not, beq_iff_eq, beq_eq_false_iff_ne, bne_iff_ne, bne_eq_false_iff_eq, Bool.not_eq_true', Bool.not_eq_false', ne_eq, Int.not_lt, Int.not_le, Decidable.not_not] at g51'
                  refine run_off (.no rfl rfl rfl g51) rfl rfl ?_
                  refine run_off (.no rfl rfl rfl g51) rfl rfl ?_
                  refine run_off (.no rfl rfl rfl g51) rfl rfl ?_
                  refine run_off (.no rfl rfl rfl g51) rfl rfl ?_
                  refine run_q (.none rfl) rfl rfl (q_pickT rfl rfl g51 rfl) ?_
                  refine run_q (.none rfl) rfl rfl (q_move rfl rfl) ?_
                  refine run_off (.no rfl rfl rfl rfl) rfl rfl ?_
                  refine run_off (.no rfl rfl rfl rfl) rfl rfl ?_
                  refine run_off (.no rfl rfl rfl rfl) rfl rfl ?_
                  refine run_off (.no rfl rfl rfl rfl) rfl rfl ?_
                  refine run_q (.none rfl) rfl rfl (q_pickT rfl rfl rfl rfl) ?_
                  refine run_q (.none rfl) rfl rfl (q_move rfl rfl) ?_
                  refine run_off (.no rfl rfl rfl rfl) rfl rfl ?_
                  refine run_off (.no rfl rfl rfl rfl) rfl rfl ?_
                  refine run_off (.no rfl rfl rfl rfl) rfl rfl ?_
                  refine run_off (.no rfl rfl rfl rfl) rfl rfl ?_
                  refine run_q (.none rfl) rfl rfl (q_pickT rfl rfl rfl rfl) ?_
                  refine run_nil ?_
                  refine run_sub (subMk (.cons (s := 0) rfl (.cons (s := 1) rfl (.cons (s := 6) rfl (.cons (s := 9) rfl (.cons (s := 10) rfl (.cons (s := 12) rfl (.cons (s := 13) rfl (.cons (s := 14) rfl (.cons (s := 25) rfl (.cons (s := 26) rfl (.cons (s := 27) rfl (.cons (s := 68) rfl .nil)))))))))))) .refl) ?_
                  refine run_condT rfl rfl ?_
                  refine run_seq ?_
                  refine run_region ?_
                  refine run_q (.none rfl) rfl rfl (q_assign rfl rfl) ?_
                  refine run_nil ?_
                  refine run_ret ?_
                  exact end1 rfl rfl (by rw [checkV_ok hwa hwb, hinv]; rw [errPs_hit (by omega) (errP_38 (by omega) (by omega)) (by omega)])
                · have g51' := g51
                  try simp only [decide_eq_true_eq, decide_eq_false_iff_not, beq_iff_eq, beq_eq_false_iff_ne, bne_iff_ne, bne_eq_false_iff_eq, Bool.not_eq_true', Bool.not_eq_false', ne_eq, Int.not_lt, Int.not_le, Decidable.not_not] at g51'
                  refine run_q (.on rfl rfl rfl g51) rfl rfl (q_fieldB (d := 2) rfl Try.underlying40 rfl rfl sz3 rfl) ?_
                  refine run_q (.on rfl rfl rfl g51) rfl rfl (q_loadB rfl one3 rfl Sel.here rfl) ?_
                  refine run_q (.on rfl rfl rfl g51) rfl rfl (q_move rfl rfl) ?_
                  refine run_q (.on rfl rfl rfl g51) rfl rfl (q_neq rfl rfl rfl) ?_
                  refine run_q (.none rfl) rfl rfl (q_pickF rfl rfl g51 rfl) ?_
                  refine run_q (.none rfl) rfl rfl (q_move rfl rfl) ?_
                  refine run_split 57 rfl (fun g57 => ?_) (fun g57 => ?_)
                  · have g57' := g57
                    try simp only [decide_eq_true_eq, decide_eq_false_iff_not, beq_iff_eq, beq_eq_false_iff_ne, bne_iff_ne, bne_eq_false_iff_eq, Bool.not_eq_true', Bool.not_eq_false', ne_eq, Int.not_lt, Int.not_le, Decidable.not_not] at g57'
                    refine run_off (.no rfl rfl rfl g57) rfl rfl ?_
                    refine run_off (.no rfl rfl rfl g57) rfl rfl ?_
                    refine run_off (.no rfl rfl rfl g57) rfl rfl ?_
                    refine run_off (.no rfl rfl rfl g57) rfl rfl ?_
                    refine run_q (.none rfl) rfl rfl (q_pickT rfl rfl g57 rfl) ?_
                    refine run_q (.none rfl) rfl rfl (q_move rfl rfl) ?_
                    refine run_off (.no rfl rfl rfl rfl) rfl rfl ?_
                    refine run_off (.no rfl rfl rfl rfl) rfl rfl ?_
                    refine run_off (.no rfl rfl rfl rfl) rfl rfl ?_
                    refine run_off (.no rfl rfl rfl rfl) rfl rfl ?_
                    refine run_q (.none rfl) rfl rfl (q_pickT rfl rfl rfl rfl) ?_
                    refine run_nil ?_
                    refine run_sub (subMk (.cons (s := 0) rfl (.cons (s := 1) rfl (.cons (s := 6) rfl (.cons (s := 9) rfl (.cons (s := 10) rfl (.cons (s := 12) rfl (.cons (s := 13) rfl (.cons (s := 14) rfl (.cons (s := 25) rfl (.cons (s := 26) rfl (.cons (s := 27) rfl (.cons (s := 68) rfl .nil)))))))))))) .refl) ?_
                    refine run_condT rfl rfl ?_
                    refine run_seq ?_
                    refine run_region ?_
                    refine run_q (.none rfl) rfl rfl (q_assign rfl rfl) ?_
                    refine run_nil ?_
                    refine run_ret ?_
                    exact end1 rfl rfl (by rw [checkV_ok hwa hwb, hinv]; rw [errPs_hit (by omega) (errP_38 (by omega) (by omega)) (by omega)])
                  · have g57' := g57
                    try simp only [decide_eq_true_eq, decide_eq_false_iff_not, beq_iff_eq, beq_eq_false_iff_ne, bne_iff_ne, bne_eq_false_iff_eq, Bool.not_eq_true', Bool.not_eq_false', ne_eq, Int.not_lt, Int.not_le, Decidable.not_not] at g57'
                    refine run_q (.on rfl rfl rfl g57) rfl rfl (q_move rfl rfl) ?_
                    refine run_q (.on rfl rfl rfl g57) rfl rfl (q_move rfl rfl) ?_
                    refine run_q (.on rfl rfl rfl g57) rfl rfl (q_len rfl Try.underlying22 rfl) ?_
                    refine run_q (.on rfl rfl rfl g57) rfl rfl (q_geq rfl rfl rfl) ?_
                    refine run_q (.none rfl) rfl rfl (q_pickF rfl rfl g57 rfl) ?_
                    refine run_q (.none rfl) rfl rfl (q_move rfl rfl) ?_
                    refine run_split 63 rfl (fun g63 => ?_) (fun g63 => ?_)
                    · have g63' := g63
                      try simp only [decide_eq_true_eq, decide_eq_false_iff_not, beq_iff_eq, beq_eq_false_iff_ne, bne_iff_ne, bne_eq_false_iff_eq, Bool.not_eq_true', Bool.not_eq_false', ne_eq, Int.not_lt, Int.not_le, Decidable.not_not] at g63'
                      refine run_off (.no rfl rfl rfl g63) rfl rfl ?_
                      refine run_off (.no rfl rfl rfl g63) rfl rfl ?_
                      refine run_off (.no rfl rfl rfl g63) rfl rfl ?_
                      refine run_off (.no rfl rfl rfl g63) rfl rfl ?_
                      refine run_q (.none rfl) rfl rfl (q_pickT rfl rfl g63 rfl) ?_
                      refine run_nil ?_
                      refine run_sub (subMk (.cons (s := 0) rfl (.cons (s := 1) rfl (.cons (s := 6) rfl (.cons (s := 9) rfl (.cons (s := 10) rfl (.cons (s := 12) rfl (.cons (s := 13) rfl (.cons (s := 14) rfl (.cons (s := 25) rfl (.cons (s := 26) rfl (.cons (s := 27) rfl (.cons (s := 68) rfl .nil)))))))))))) .refl) ?_
                      refine run_condT rfl rfl ?_
                      refine run_seq ?_
                      refine run_region ?_
                      refine run_q (.none rfl) rfl rfl (q_assign rfl rfl) ?_
                      refine run_nil ?_
                      refine run_ret ?_
                      exact end1 rfl rfl (by rw [checkV_ok hwa hwb, hinv]; rw [errPs_hit (by omega) (errP_38 (by omega) (by omega)) (by omega)])
                    · have g63' := g63
                      try simp only [decide_eq_true_eq, decide_eq_false_iff_not, beq_iff_eq, beq_eq_false_iff_ne, bne_iff_ne, bne_eq_false_iff_eq, Bool.not_eq_true', Bool.not_eq_false', ne_eq, Int.not_lt, Int.not_le, Decidable.not_not] at g63'
                      refine run_q (.on rfl rfl rfl g63) rfl rfl (q_move rfl rfl) ?_
                      refine run_q (.on rfl rfl rfl g63) rfl rfl (q_move rfl rfl) ?_
                      refine run_q (.on rfl rfl rfl g63) rfl rfl (q_len rfl Try.underlying22 rfl) ?_
                      refine run_q (.on rfl rfl rfl g63) rfl rfl (q_geq rfl rfl rfl) ?_
                      refine run_q (.none rfl) rfl rfl (q_pickF rfl rfl g63 rfl) ?_
                      refine run_nil ?_
                      refine run_sub (subMk (.cons (s := 0) rfl (.cons (s := 1) rfl (.cons (s := 6) rfl (.cons (s := 9) rfl (.cons (s := 10) rfl (.cons (s := 12) rfl (.cons (s := 13) rfl (.cons (s := 14) rfl (.cons (s := 25) rfl (.cons (s := 26) rfl (.cons (s := 27) rfl (.cons (s := 68) rfl .nil)))))))))))) .refl) ?_
                      refine run_cond rfl (fun g68 => ?_) (fun g68 => ?_)
                      · have g68' := g68
                        try simp only [decide_eq_true_eq, decide_eq_false_iff_not, beq_iff_eq, beq_eq_false_iff_ne, bne_iff_ne, bne_eq_false_iff_eq, Bool.not_eq_true', Bool.not_eq_false', ne_eq, Int.not_lt, Int.not_le, Decidable.not_not] at g68'
                        refine run_seq ?_
                        refine run_region ?_
                        refine run_q (.none rfl) rfl rfl (q_assign rfl rfl) ?_
                        refine run_nil ?_
                        refine run_ret ?_
                        exact end1 rfl rfl (by rw [checkV_ok hwa hwb, hinv]; rw [errPs_hit (by omega) (errP_38 (by omega) (by omega)) (by omega)])
                      · have g68' := g68
                        try simp only [decide_eq_true_eq, decide_eq_false_iff_not, beq_iff_eq, beq_eq_false_iff_ne, bne_iff_ne, bne_eq_false_iff_eq, Bool.not_eq_true', Bool.not_eq_false', ne_eq, Int.not_lt, Int.not_le, Decidable.not_not] at g68'
                        refine run_skip ?_
                        refine run_seq ?_
                        refine run_seq ?_
                        refine run_draw [(0, 0), (1, 0), (2, 0), (3, 0), (4, 0), (5, 0), (6, 0), (7, 0), (8, 0), (9, 0), (10, 0), (11, 0), (12, 0), (13, 0), (14, 0), (15, 0), (16, 0), (17, 0), (18, 0), (19, 0)] mixed (by kernel_rfl) .refl ?_
                        refine d_q rfl rfl (.none rfl) rfl rfl (q_fieldB (d := 0) rfl Try.underlying40 rfl rfl sz3 rfl) ?_
                        refine d_q rfl rfl (.none rfl) rfl rfl (q_loadB rfl one3 rfl Sel.here rfl) ?_
                        refine d_q rfl rfl (.none rfl) rfl rfl (q_lss rfl rfl rfl) ?_
                        refine d_q rfl rfl (.none rfl) rfl rfl (q_move rfl rfl) ?_
                        refine d_off rfl rfl (.no rfl rfl rfl (decide_eq_false (by omega))) rfl rfl ?_
                        refine d_off rfl rfl (.no rfl rfl rfl (decide_eq_false (by omega))) rfl rfl ?_
                        refine d_off rfl rfl (.no rfl rfl rfl (decide_eq_false (by omega))) rfl rfl ?_
                        refine d_off rfl rfl (.no rfl rfl rfl (decide_eq_false (by omega))) rfl rfl ?_
                        refine d_off rfl rfl (.no rfl rfl rfl (decide_eq_false (by omega))) rfl rfl ?_
                        refine d_off rfl rfl (.no rfl rfl rfl (decide_eq_false (by omega))) rfl rfl ?_
                        refine d_off rfl rfl (.no rfl rfl rfl (decide_eq_false (by omega))) rfl rfl ?_
                        refine d_off rfl rfl (.no rfl rfl rfl (decide_eq_false (by omega))) rfl rfl ?_
                        refine d_off rfl rfl (.no rfl rfl rfl (decide_eq_false (by omega))) rfl rfl ?_
                        refine d_off rfl rfl (.no rfl rfl rfl (decide_eq_false (by omega))) rfl rfl ?_
                        refine d_off rfl rfl (.no rfl rfl rfl (decide_eq_false (by omega))) rfl rfl ?_
                        refine d_off rfl rfl (.no rfl rfl rfl (decide_eq_false (by omega))) rfl rfl ?_
                        refine d_off rfl rfl (.no rfl rfl rfl (decide_eq_false (by omega))) rfl rfl ?_
                        refine d_off rfl rfl (.no rfl rfl rfl (decide_eq_false (by omega))) rfl rfl ?_
                        refine d_off rfl rfl (.no rfl rfl rfl (decide_eq_false (by omega))) rfl rfl ?_
                        refine d_q rfl rfl (.none rfl) rfl rfl (q_pickF rfl rfl (decide_eq_false (by omega)) rfl) ?_
                        refine d_nil ?_
                        refine run_sub (subMk (.cons (s := 0) rfl (.cons (s := 1) rfl (.cons (s := 6) rfl (.cons (s := 9) rfl (.cons (s := 10) rfl (.cons (s := 13) rfl (.cons (s := 14) rfl (.cons (s := 25) rfl (.cons (s := 26) rfl (.cons (s := 27) rfl (.cons (s := 88) rfl .nil))))))))))) .refl) ?_
                        refine run_condF rfl rfl ?_
                        refine run_skip ?_
                        refine run_seq ?_
                        refine run_seq ?_
                        refine run_region ?_
                        refine run_q (.none rfl) rfl rfl (q_move rfl rfl) ?_
                        refine run_q (.none rfl) rfl rfl (q_geq rfl rfl rfl) ?_
                        refine run_nil ?_
                        refine run_sub (subMk (.cons (s := 0) rfl (.cons (s := 1) rfl (.cons (s := 6) rfl (.cons (s := 9) rfl (.cons (s := 10) rfl (.cons (s := 14) rfl (.cons (s := 25) rfl (.cons (s := 26) rfl (.cons (s := 27) rfl (.cons (s := 90) rfl .nil)))))))))) .refl) ?_
                        refine run_condT rfl (decide_eq_true (by omega)) ?_
                        refine run_region ?_
                        refine run_q (.none rfl) rfl rfl (q_move rfl rfl) ?_
                        refine run_q (.none rfl) rfl rfl (q_add rfl rfl rfl (by omega)) ?_
                        refine run_q (.none rfl) rfl rfl (q_assign rfl rfl) ?_
                        refine run_nil ?_
                        refine run_sub (subMk (.cons (s := 0) rfl (.cons (s := 1) rfl (.cons (s := 6) rfl (.cons (s := 9) rfl (.cons (s := 10) rfl (.cons (s := 14) rfl (.cons (s := 25) rfl (.cons (s := 26) rfl (.cons (s := 27) rfl .nil))))))))) .refl) ?_
                        refine run_seq ?_
                        refine run_region ?_
                        refine run_q (.none rfl) rfl rfl (q_move rfl rfl) ?_
                        refine run_q (.none rfl) rfl rfl (q_geq rfl rfl rfl) ?_
                        refine run_nil ?_
                        refine run_condF rfl (decide_eq_false (by omega)) ?_
                        refine run_skip ?_
                        refine run_blk ?_
                        refine run_region ?_
                        refine run_q (.none rfl) rfl rfl (q_add rfl rfl rfl (by omega)) ?_
                        refine run_q (.none rfl) rfl rfl (q_move rfl rfl) ?_
                        refine run_nil ?_
                        refine run_sub (subMk (.cons (s := 0) rfl (.cons (s := 1) rfl (.cons (s := 6) rfl (.cons (s := 9) rfl (.cons (s := 10) rfl (.cons (s := 25) rfl (.cons (s := 26) rfl (.cons (s := 27) rfl .nil)))))))) .refl) ?_
                        exact run_again (j + 1, i + 1, k) (by (try dsimp only); exact ⟨by omega, by omega, by omega, by rw [hinv, errPs_3 (by omega) (by omega) (by omega) (by omega) (by omega)]⟩) (by (try dsimp only); omega) (subMk (.cons' (s := 27) rfl rfl (.cons' (s := 9) rfl rfl (.cons' (s := 10) rfl rfl (.cons (s := 0) rfl (.cons (s := 1) rfl (.cons (s := 6) rfl (.cons (s := 25) rfl (.cons (s := 26) rfl .nil)))))))) .nil)
              · have g46' := g46
                try simp only [decide_eq_true_eq, decide_eq_false_iff_not, beq_iff_eq, beq_eq_false_iff_ne, bne_iff_ne, bne_eq_false_iff_eq, Bool.not_eq_true', Bool.not_eq_false', ne_eq, Int.not_lt, Int.not_le, Decidable.not_not] at g46'
                refine run_skip ?_
                refine run_seq ?_
                refine run_seq ?_
                refine run_region ?_
                refine run_q (.none rfl) rfl rfl (q_fieldB (d := 1) rfl Try.underlying40 rfl rfl sz3 rfl) ?_
                refine run_q (.none rfl) rfl rfl (q_loadB rfl one3 rfl Sel.here rfl) ?_
                refine run_q (.none rfl) rfl rfl (q_move rfl rfl) ?_
                refine run_q (.none rfl) rfl rfl (q_neq rfl rfl rfl) ?_
                refine run_q (.none rfl) rfl rfl (q_move rfl rfl) ?_
                refine run_split 51 rfl (fun g51 => ?_) (fun g51 => ?_)
                · have g51' := g51
                  try simp only [decide_eq_true_eq, decide_eq_false_iff_not, beq_iff_eq, beq_eq_false_iff_ne, bne_iff_ne, bne_eq_false_iff_eq, Bool.not_eq_true', Bool.not_eq_false', ne_eq, Int.not_lt, Int.not_le, Decidable.not_not] at g51'
                  refine run_off (.no rfl rfl rfl g51) rfl rfl ?_
                  refine run_off (.no rfl rfl rfl g51) rfl rfl ?_
                  refine run_off (.no rfl rfl rfl g51) rfl rfl ?_
                  refine run_off (.no rfl rfl rfl g51) rfl rfl ?_
                  refine run_q (.none rfl) rfl rfl (q_pickT rfl rfl g51 rfl) ?_
                  refine run_q (.none rfl) rfl rfl (q_move rfl rfl) ?_
                  refine run_off (.no rfl rfl rfl rfl) rfl rfl ?_
                  refine run_off (.no rfl rfl rfl rfl) rfl rfl ?_
                  refine run_off (.no rfl rfl rfl rfl) rfl rfl ?_
                  refine run_off (.no rfl rfl rfl rfl) rfl rfl ?_
                  refine run_q (.none rfl) rfl rfl (q_pickT rfl rfl rfl rfl) ?_
                  refine run_q (.none rfl) rfl rfl (q_move rfl rfl) ?_
                  refine run_off (.no rfl rfl rfl rfl) rfl rfl ?_
                  refine run_off (.no rfl rfl rfl rfl) rfl rfl ?_
                  refine run_off (.no rfl rfl rfl rfl) rfl rfl ?_
                  refine run_off (.no rfl rfl rfl rfl) rfl rfl ?_
                  refine run_q (.none rfl) rfl rfl (q_pickT rfl rfl rfl rfl) ?_
                  refine run_nil ?_
                  refine run_sub (subMk (.cons (s := 0) rfl (.cons (s := 1) rfl (.cons (s := 6) rfl (.cons (s := 9) rfl (.cons (s := 10) rfl (.cons (s := 12) rfl (.cons (s := 13) rfl (.cons (s := 14) rfl (.cons (s := 25) rfl (.cons (s := 26) rfl (.cons (s := 27) rfl (.cons (s := 68) rfl .nil)))))))))))) .refl) ?_
                  refine run_condT rfl rfl ?_
                  refine run_seq ?_
                  refine run_region ?_
                  refine run_q (.none rfl) rfl rfl (q_assign rfl rfl) ?_
                  refine run_nil ?_
                  refine run_ret ?_
                  exact end1 rfl rfl (by rw [checkV_ok hwa hwb, hinv]; rw [errPs_hit (by omega) (errP_38 (by omega) (by omega)) (by omega)])
                · have g51' := g51
                  try simp only [decide_eq_true_eq, decide_eq_false_iff_not, beq_iff_eq, beq_eq_false_iff_ne, bne_iff_ne, bne_eq_false_iff_eq, Bool.not_eq_true', Bool.not_eq_false', ne_eq, Int.not_lt, Int.not_le, Decidable.not_not] at g51'
                  refine run_q (.on rfl rfl rfl g51) rfl rfl (q_fieldB (d := 2) rfl Try.underlying40 rfl rfl sz3 rfl) ?_
                  refine run_q (.on rfl rfl rfl g51) rfl rfl (q_loadB rfl one3 rfl Sel.here rfl) ?_
                  refine run_q (.on rfl rfl rfl g51) rfl rfl (q_move rfl rfl) ?_
                  refine run_q (.on rfl rfl rfl g51) rfl rfl (q_neq rfl rfl rfl) ?_
                  refine run_q (.none rfl) rfl rfl (q_pickF rfl rfl g51 rfl) ?_
                  refine run_q (.none rfl) rfl rfl (q_move rfl rfl) ?_
                  refine run_split 57 rfl (fun g57 => ?_) (fun g57 => ?_)
                  · have g57' := g57
                    try simp only [decide_eq_true_eq, decide_eq_false_iff_not, beq_iff_eq, beq_eq_false_iff_ne, bne_iff_ne, bne_eq_false_iff_eq, Bool.not_eq_true', Bool.not_eq_false', ne_eq, Int.not_lt, Int.not_le, Decidable.not_not] at g57'
                    refine run_off (.no rfl rfl rfl g57) rfl rfl ?_
                    refine run_off (.no rfl rfl rfl g57) rfl rfl ?_
                    refine run_off (.no rfl rfl rfl g57) rfl rfl ?_
                    refine run_off (.no rfl rfl rfl g57) rfl rfl ?_
                    refine run_q (.none rfl) rfl rfl (q_pickT rfl rfl g57 rfl) ?_
                    refine run_q (.none rfl) rfl rfl (q_move rfl rfl) ?_
                    refine run_off (.no rfl rfl rfl rfl) rfl rfl ?_
                    refine run_off (.no rfl rfl rfl rfl) rfl rfl ?_
                    refine run_off (.no rfl rfl rfl rfl) rfl rfl ?_
                    refine run_off (.no rfl rfl rfl rfl) rfl rfl ?_
                    refine run_q (.none rfl) rfl rfl (q_pickT rfl rfl rfl rfl) ?_
                    refine run_nil ?_
                    refine run_sub (subMk (.cons (s := 0) rfl (.cons (s := 1) rfl (.cons (s := 6) rfl (.cons (s := 9) rfl (.cons (s := 10) rfl (.cons (s := 12) rfl (.cons (s := 13) rfl (.cons (s := 14) rfl (.cons (s := 25) rfl (.cons (s := 26) rfl (.cons (s := 27) rfl (.cons (s := 68) rfl .nil)))))))))))) .refl) ?_
                    refine run_condT rfl rfl ?_
                    refine run_seq ?_
                    refine run_region ?_
                    refine run_q (.none rfl) rfl rfl (q_assign rfl rfl) ?_
                    refine run_nil ?_
                    refine run_ret ?_
                    exact end1 rfl rfl (by rw [checkV_ok hwa hwb, hinv]; rw [errPs_hit (by omega) (errP_38 (by omega) (by omega)) (by omega)])
                  · have g57' := g57
                    try simp only [decide_eq_true_eq, decide_eq_false_iff_not, beq_iff_eq, beq_eq_false_iff_ne, bne_iff_ne, bne_eq_false_iff_eq, Bool.not_eq_true', Bool.not_eq_false', ne_eq, Int.not_lt, Int.not_le, Decidable.not_not] at g57'
                    refine run_q (.on rfl rfl rfl g57) rfl rfl (q_move rfl rfl) ?_
                    refine run_q (.on rfl rfl rfl g57) rfl rfl (q_move rfl rfl) ?_
                    refine run_q (.on rfl rfl rfl g57) rfl rfl (q_len rfl Try.underlying22 rfl) ?_
                    refine run_q (.on rfl rfl rfl g57) rfl rfl (q_geq rfl rfl rfl) ?_
                    refine run_q (.none rfl) rfl rfl (q_pickF rfl rfl g57 rfl) ?_
                    refine run_q (.none rfl) rfl rfl (q_move rfl rfl) ?_
                    refine run_split 63 rfl (fun g63 => ?_) (fun g63 => ?_)
                    · have g63' := g63
                      try simp only [decide_eq_true_eq, decide_eq_false_iff_not, beq_iff_eq, beq_eq_false_iff_ne, bne_iff_ne, bne_eq_false_iff_eq, Bool.not_eq_true', Bool.not_eq_false', ne_eq, Int.not_lt, Int.not_le, Decidable.not_not] at g63'
                      refine run_off (.no rfl rfl rfl g63) rfl rfl ?_
                      refine run_off (.no rfl rfl rfl g63) rfl rfl ?_
                      refine run_off (.no rfl rfl rfl g63) rfl rfl ?_
                      refine run_off (.no rfl rfl rfl g63) rfl rfl ?_
                      refine run_q (.none rfl) rfl rfl (q_pickT rfl rfl g63 rfl) ?_
                      refine run_nil ?_
                      refine run_sub (subMk (.cons (s := 0) rfl (.cons (s := 1) rfl (.cons (s := 6) rfl (.cons (s := 9) rfl (.cons (s := 10) rfl (.cons (s := 12) rfl (.cons (s := 13) rfl (.cons (s := 14) rfl (.cons (s := 25) rfl (.cons (s := 26) rfl (.cons (s := 27) rfl (.cons (s := 68) rfl .nil)))))))))))) .refl) ?_
                      refine run_condT rfl rfl ?_
                      refine run_seq ?_
                      refine run_region ?_
                      refine run_q (.none rfl) rfl rfl (q_assign rfl rfl) ?_
                      refine run_nil ?_
                      refine run_ret ?_
                      exact end1 rfl rfl (by rw [checkV_ok hwa hwb, hinv]; rw [errPs_hit (by omega) (errP_38 (by omega) (by omega)) (by omega)])
                    · have g63' := g63
                      try simp only [decide_eq_true_eq, decide_eq_false_iff_not, beq_iff_eq, beq_eq_false_iff_ne, bne_iff_ne, bne_eq_false_iff_eq, Bool.not_eq_true', Bool.not_eq_false', ne_eq, Int.not_lt, Int.not_le, Decidable.not_not] at g63'
                      refine run_q (.on rfl rfl rfl g63) rfl rfl (q_move rfl rfl) ?_
                      refine run_q (.on rfl rfl rfl g63) rfl rfl (q_move rfl rfl) ?_
                      refine run_q (.on rfl rfl rfl g63) rfl rfl (q_len rfl Try.underlying22 rfl) ?_
                      refine run_q (.on rfl rfl rfl g63) rfl rfl (q_geq rfl rfl rfl) ?_
                      refine run_q (.none rfl) rfl rfl (q_pickF rfl rfl g63 rfl) ?_
                      refine run_nil ?_
                      refine run_sub (subMk (.cons (s := 0) rfl (.cons (s := 1) rfl (.cons (s := 6) rfl (.cons (s := 9) rfl (.cons (s := 10) rfl (.cons (s := 12) rfl (.cons (s := 13) rfl (.cons (s := 14) rfl (.cons (s := 25) rfl (.cons (s := 26) rfl (.cons (s := 27) rfl (.cons (s := 68) rfl .nil)))))))))))) .refl) ?_
                      refine run_cond rfl (fun g68 => ?_) (fun g68 => ?_)
                      · have g68' := g68
                        try simp only [decide_eq_true_eq, decide_eq_false_iff_not, beq_iff_eq, beq_eq_false_iff_ne, bne_iff_ne, bne_eq_false_iff_eq, Bool.not_eq_true', Bool.not_eq_false', ne_eq, Int.not_lt, Int.not_le, Decidable.not_not] at g68'
                        refine run_seq ?_
                        refine run_region ?_
                        refine run_q (.none rfl) rfl rfl (q_assign rfl rfl) ?_
                        refine run_nil ?_
                        refine run_ret ?_
                        exact end1 rfl rfl (by rw [checkV_ok hwa hwb, hinv]; rw [errPs_hit (by omega) (errP_38 (by omega) (by omega)) (by omega)])
                      · have g68' := g68
                        try simp only [decide_eq_true_eq, decide_eq_false_iff_not, beq_iff_eq, beq_eq_false_iff_ne, bne_iff_ne, bne_eq_false_iff_eq, Bool.not_eq_true', Bool.not_eq_false', ne_eq, Int.not_lt, Int.not_le, Decidable.not_not] at g68'
                        refine run_skip ?_
                        refine run_seq ?_
                        refine run_seq ?_
                        refine run_draw [(0, 0), (1, 0), (2, 0), (3, 0), (4, 0), (5, 0), (6, 0), (7, 0), (8, 0), (9, 0), (10, 0), (11, 0), (12, 0), (13, 0), (14, 0), (15, 0), (16, 0), (17, 0), (18, 0), (19, 0)] mixed (by kernel_rfl) .refl ?_
                        refine d_q rfl rfl (.none rfl) rfl rfl (q_fieldB (d := 0) rfl Try.underlying40 rfl rfl sz3 rfl) ?_
                        refine d_q rfl rfl (.none rfl) rfl rfl (q_loadB rfl one3 rfl Sel.here rfl) ?_
                        refine d_q rfl rfl (.none rfl) rfl rfl (q_lss rfl rfl rfl) ?_
                        refine d_q rfl rfl (.none rfl) rfl rfl (q_move rfl rfl) ?_
                        refine d_q rfl rfl (.on rfl rfl rfl (decide_eq_true (by omega))) rfl rfl (q_move rfl rfl) ?_
                        refine d_q rfl rfl (.on rfl rfl rfl (decide_eq_true (by omega))) rfl rfl (q_move rfl rfl) ?_
                        refine d_q rfl rfl (.on rfl rfl rfl (decide_eq_true (by omega))) rfl rfl (q_indexS (q := i) rfl Try.underlying22 sz47 rfl rfl (.inp hra .no) (by simp <;> omega) rfl (by omega)) ?_
                        refine d_q rfl rfl (.on rfl rfl rfl (decide_eq_true (by omega))) rfl rfl (q_fieldAddr (d := 2) rfl Try.underlying47 rfl rfl sz3 rfl) ?_
                        refine d_q rfl rfl (.on rfl rfl rfl (decide_eq_true (by omega))) rfl rfl (q_loadF rfl one3 rfl (.inp hra .no) (getmap (by omega)) rfl) ?_
                        refine d_q rfl rfl (.on rfl rfl rfl (decide_eq_true (by omega))) rfl rfl (q_move rfl rfl) ?_
                        refine d_q rfl rfl (.on rfl rfl rfl (decide_eq_true (by omega))) rfl rfl (q_move rfl rfl) ?_
                        refine d_q rfl rfl (.on rfl rfl rfl (decide_eq_true (by omega))) rfl rfl (q_indexS (q := k) rfl Try.underlying22 sz47 rfl rfl (.inp hrb .no) (by simp <;> omega) rfl (by omega)) ?_
                        refine d_q rfl rfl (.on rfl rfl rfl (decide_eq_true (by omega))) rfl rfl (q_fieldAddr (d := 2) rfl Try.underlying47 rfl rfl sz3 rfl) ?_
                        refine d_q rfl rfl (.on rfl rfl rfl (decide_eq_true (by omega))) rfl rfl (q_loadF rfl one3 rfl (.inp hrb .no) (getmap (by omega)) rfl) ?_
                        refine d_q rfl rfl (.on rfl rfl rfl (decide_eq_true (by omega))) rfl rfl (q_eql rfl rfl rfl) ?_
                        refine d_q rfl rfl (.on rfl rfl rfl (decide_eq_true (by omega))) rfl rfl (q_fieldB (d := 0) rfl Try.underlying40 rfl rfl sz3 rfl) ?_
                        refine d_q rfl rfl (.on rfl rfl rfl (decide_eq_true (by omega))) rfl rfl (q_loadB rfl one3 rfl Sel.here rfl) ?_
                        refine d_q rfl rfl (.on rfl rfl rfl (decide_eq_true (by omega))) rfl rfl (q_eql rfl rfl rfl) ?_
                        refine d_q rfl rfl (.on rfl rfl rfl (decide_eq_true (by omega))) rfl rfl (q_neqB rfl rfl rfl Try.underlying4) ?_
                        refine d_q rfl rfl (.none rfl) rfl rfl (q_pickT rfl rfl (decide_eq_true (by omega)) rfl) ?_
                        refine d_nil ?_
                        refine run_sub (subMk (.cons (s := 0) rfl (.cons (s := 1) rfl (.cons (s := 6) rfl (.cons (s := 9) rfl (.cons (s := 10) rfl (.cons (s := 13) rfl (.cons (s := 14) rfl (.cons (s := 25) rfl (.cons (s := 26) rfl (.cons (s := 27) rfl (.cons (s := 88) rfl .nil))))))))))) .refl) ?_
                        refine run_cond rfl (fun g88 => ?_) (fun g88 => ?_)
                        · have g88' := g88
                          try simp only [decide_eq_true_eq, decide_eq_false_iff_not, beq_iff_eq, beq_eq_false_iff_ne, bne_iff_ne, bne_eq_false_iff_eq, Bool.not_eq_true', Bool.not_eq_false', ne_eq, Int.not_lt, Int.not_le, Decidable.not_not] at g88'
                          refine run_seq ?_
                          refine run_region ?_
                          refine run_q (.none rfl) rfl rfl (q_assign rfl rfl) ?_
                          refine run_nil ?_
                          refine run_ret ?_
                          exact end1 rfl rfl (by rw [checkV_ok hwa hwb, hinv]; rw [errPs_hit (by omega) (errP_k (by omega) (by omega) (by omega) (by omega) (by omega) (by omega) (by have hk := g88; rw [kind_iff (by omega) (by omega)] at hk; simpa [kindV] using hk)) (by omega)])
                        · have g88' := g88
                          try simp only [decide_eq_true_eq, decide_eq_false_iff_not, beq_iff_eq, beq_eq_false_iff_ne, bne_iff_ne, bne_eq_false_iff_eq, Bool.not_eq_true', Bool.not_eq_false', ne_eq, Int.not_lt, Int.not_le, Decidable.not_not] at g88'
                          refine run_skip ?_
                          refine run_seq ?_
                          refine run_seq ?_
                          refine run_region ?_
                          refine run_q (.none rfl) rfl rfl (q_move rfl rfl) ?_
                          refine run_q (.none rfl) rfl rfl (q_geq rfl rfl rfl) ?_
                          refine run_nil ?_
                          refine run_sub (subMk (.cons (s := 0) rfl (.cons (s := 1) rfl (.cons (s := 6) rfl (.cons (s := 9) rfl (.cons (s := 10) rfl (.cons (s := 14) rfl (.cons (s := 25) rfl (.cons (s := 26) rfl (.cons (s := 27) rfl (.cons (s := 90) rfl .nil)))))))))) .refl) ?_
                          refine run_condT rfl (decide_eq_true (by omega)) ?_
                          refine run_region ?_
                          refine run_q (.none rfl) rfl rfl (q_move rfl rfl) ?_
                          refine run_q (.none rfl) rfl rfl (q_add rfl rfl rfl (by omega)) ?_
                          refine run_q (.none rfl) rfl rfl (q_assign rfl rfl) ?_
                          refine run_nil ?_
                          refine run_sub (subMk (.cons (s := 0) rfl (.cons (s := 1) rfl (.cons (s := 6) rfl (.cons (s := 9) rfl (.cons (s := 10) rfl (.cons (s := 14) rfl (.cons (s := 25) rfl (.cons (s := 26) rfl (.cons (s := 27) rfl .nil))))))))) .refl) ?_
                          refine run_seq ?_
                          refine run_region ?_
                          refine run_q (.none rfl) rfl rfl (q_move rfl rfl) ?_
                          refine run_q (.none rfl) rfl rfl (q_geq rfl rfl rfl) ?_
                          refine run_nil ?_
                          refine run_condT rfl (decide_eq_true (by omega)) ?_
                          refine run_region ?_
                          refine run_q (.none rfl) rfl rfl (q_move rfl rfl) ?_
                          refine run_q (.none rfl) rfl rfl (q_add rfl rfl rfl (by omega)) ?_
                          refine run_q (.none rfl) rfl rfl (q_assign rfl rfl) ?_
                          refine run_nil ?_
                          refine run_sub (subMk (.cons (s := 0) rfl (.cons (s := 1) rfl (.cons (s := 6) rfl (.cons (s := 9) rfl (.cons (s := 10) rfl (.cons (s := 25) rfl (.cons (s := 26) rfl (.cons (s := 27) rfl .nil)))))))) .refl) ?_
                          refine run_blk ?_
                          refine run_region ?_
                          refine run_q (.none rfl) rfl rfl (q_add rfl rfl rfl (by omega)) ?_
                          refine run_q (.none rfl) rfl rfl (q_move rfl rfl) ?_
                          refine run_nil ?_
                          exact run_again (j + 1, i + 1, k + 1) (by (try dsimp only); exact ⟨by omega, by omega, by omega, by rw [hinv, errPs_J (by omega) (by omega) (by omega) (by omega) (by omega) (by omega) (by omega) (by have hk := g88; rw [kind_iff (by omega) (by omega)] at hk; simpa [kindV] using hk)]⟩) (by (try dsimp only); omega) (subMk (.cons' (s := 27) rfl rfl (.cons' (s := 9) rfl rfl (.cons' (s := 10) rfl rfl (.cons (s := 0) rfl (.cons (s := 1) rfl (.cons (s := 6) rfl (.cons (s := 25) rfl (.cons (s := 26) rfl .nil)))))))) .nil)
      · have g28' := g28
        try simp only [decide_eq_true_eq, decide_eq_false_iff_not, beq_iff_eq, beq_eq_false_iff_ne, bne_iff_ne, bne_eq_false_iff_eq, Bool.not_eq_true', Bool.not_eq_false', ne_eq, Int.not_lt, Int.not_le, Decidable.not_not] at g28'
        refine run_exit rfl ?_
        refine run_sub (subMk (.cons (s := 0) rfl (.cons (s := 1) rfl (.cons (s := 6) rfl (.cons (s := 9) rfl (.cons (s := 10) rfl .nil))))) .refl) ?_
        refine run_seq ?_
        refine run_seq ?_
        refine run_region ?_
        refine run_q (.none rfl) rfl rfl (q_move rfl rfl) ?_
        refine run_q (.none rfl) rfl rfl (q_move rfl rfl) ?_
        refine run_q (.none rfl) rfl rfl (q_len rfl Try.underlying22 rfl) ?_
        refine run_q (.none rfl) rfl rfl (q_lss rfl rfl rfl) ?_
        refine run_q (.none rfl) rfl rfl (q_move rfl rfl) ?_
        refine run_split 102 rfl (fun g102 => ?_) (fun g102 => ?_)
        · have g102' := g102
          try simp only [decide_eq_true_eq, decide_eq_false_iff_not, beq_iff_eq, beq_eq_false_iff_ne, bne_iff_ne, bne_eq_false_iff_eq, Bool.not_eq_true', Bool.not_eq_false', ne_eq, Int.not_lt, Int.not_le, Decidable.not_not] at g102'
          refine run_off (.no rfl rfl rfl g102) rfl rfl ?_
          refine run_off (.no rfl rfl rfl g102) rfl rfl ?_
          refine run_off (.no rfl rfl rfl g102) rfl rfl ?_
          refine run_off (.no rfl rfl rfl g102) rfl rfl ?_
          refine run_q (.none rfl) rfl rfl (q_pickT rfl rfl g102 rfl) ?_
          refine run_nil ?_
          refine run_sub (subMk (.cons (s := 6) rfl (.cons (s := 107) rfl .nil)) .refl) ?_
          refine run_condT rfl rfl ?_
          refine run_seq ?_
          refine run_region ?_
          refine run_q (.none rfl) rfl rfl (q_assign rfl rfl) ?_
          refine run_nil ?_
          refine run_ret ?_
          exact end1 rfl rfl (by rw [checkV_ok hwa hwb, hinv]; rw [errPs_end (by omega), if_pos (by omega)])
        · have g102' := g102
          try simp only [decide_eq_true_eq, decide_eq_false_iff_not, beq_iff_eq, beq_eq_false_iff_ne, bne_iff_ne, bne_eq_false_iff_eq, Bool.not_eq_true', Bool.not_eq_false', ne_eq, Int.not_lt, Int.not_le, Decidable.not_not] at g102'
          refine run_q (.on rfl rfl rfl g102) rfl rfl (q_move rfl rfl) ?_
          refine run_q (.on rfl rfl rfl g102) rfl rfl (q_move rfl rfl) ?_
          refine run_q (.on rfl rfl rfl g102) rfl rfl (q_len rfl Try.underlying22 rfl) ?_
          refine run_q (.on rfl rfl rfl g102) rfl rfl (q_lss rfl rfl rfl) ?_
          refine run_q (.none rfl) rfl rfl (q_pickF rfl rfl g102 rfl) ?_
          refine run_nil ?_
          refine run_sub (subMk (.cons (s := 6) rfl (.cons (s := 107) rfl .nil)) .refl) ?_
          refine run_cond rfl (fun g107 => ?_) (fun g107 => ?_)
          · have g107' := g107
            try simp only [decide_eq_true_eq, decide_eq_false_iff_not, beq_iff_eq, beq_eq_false_iff_ne, bne_iff_ne, bne_eq_false_iff_eq, Bool.not_eq_true', Bool.not_eq_false', ne_eq, Int.not_lt, Int.not_le, Decidable.not_not] at g107'
            refine run_seq ?_
            refine run_region ?_
            refine run_q (.none rfl) rfl rfl (q_assign rfl rfl) ?_
            refine run_nil ?_
            refine run_ret ?_
            exact end1 rfl rfl (by rw [checkV_ok hwa hwb, hinv]; rw [errPs_end (by omega), if_pos (by omega)])
          · have g107' := g107
            try simp only [decide_eq_true_eq, decide_eq_false_iff_not, beq_iff_eq, beq_eq_false_iff_ne, bne_iff_ne, bne_eq_false_iff_eq, Bool.not_eq_true', Bool.not_eq_false', ne_eq, Int.not_lt, Int.not_le, Decidable.not_not] at g107'
            refine run_skip ?_
            refine run_seq ?_
            refine run_region ?_
            refine run_q (.none rfl) rfl rfl (q_assign rfl rfl) ?_
            refine run_nil ?_
            refine run_ret ?_
            exact end1 rfl rfl (by rw [checkV_ok hwa hwb, hinv]; rw [errPs_end (by omega), if_neg (by omega)])

set_option maxRecDepth 100000 in
theorem lcheck_just (a b : List Note) (A B : Option Addr) (ca cb : Nat) (ps : List Pair) (Q : Option Addr) (cq : Nat) (W : World) (hra : Rd W A 7 (a.map Note.enc)) (hrb : Rd W B 7 (b.map Note.enc)) (hrq : Rd W Q 3 (ps.map Pair.enc)) (hla : a.length ≤ 1000000000000) (hlb : b.length ≤ 1000000000000) (hlq : ps.length ≤ 1000000000000) : Calls Try.prog 22 #[.slice A a.length ca, .slice B b.length cb, .slice Q ps.length cq] W (Hr.Just W (.int .i64 (checkV a b ps))) := by
  refine Just.of_ret ?_
  refine enterA (X := nX) (vs := [.slice A a.length ca, .slice B b.length cb, .slice Q ps.length cq]) Try.func22 Try.ntmps22 rfl rfl Mem.nil ?_
  refine run_seq ?_
  refine run_region ?_
  refine run_q (.none rfl) rfl rfl (q_assign rfl rfl) ?_
  refine run_nil ?_
  refine run_seq ?_
  refine run_seq ?_
  refine run_region ?_
  refine run_q (.none rfl) rfl rfl (q_move rfl rfl) ?_
  refine run_q (.none rfl) rfl rfl (q_call rfl call36 (.cons rfl Evs.nil) (fun w hk hm => wrong_just a A a.length ca w (hra.kept0 hk) rfl hla)) ?_
  refine run_q (.none rfl) rfl rfl (q_move rfl rfl) ?_
  refine run_q (.none rfl) rfl rfl (q_call rfl call36 (.cons rfl Evs.nil) (fun w hk hm => wrong_just b B b.length cb w (hrb.kept0 hk) rfl hlb)) ?_
  refine run_h (.none rfl) (h_buildSlice rfl rfl rfl Try.underlying89 info29 (.cons rfl rfl rfl rfl (.cons rfl rfl rfl rfl Parts.nil)) rfl (by omega)) ?_
  rintro b17 -
  refine run_q (.none rfl) rfl rfl (q_call rfl call35 (.cons rfl Evs.nil) (fun w hk hm => first_just [wrongL a, wrongL b] (some ⟨b17, 0, none⟩) 2 2 w (own_rd (Sel.here.holds hm)) (by simp) (by simp))) ?_
  refine run_q (.none rfl) rfl rfl (q_assign rfl rfl) ?_
  refine run_nil ?_
  refine run_sub (subMk (.cons (s := 0) rfl (.cons (s := 1) rfl (.cons (s := 2) rfl (.cons (s := 6) rfl (.cons (s := 7) rfl .nil))))) .refl) ?_
  refine run_seq ?_
  refine run_region ?_
  refine run_q (.none rfl) rfl rfl (q_move rfl rfl) ?_
  refine run_q (.none rfl) rfl rfl (q_neq rfl rfl rfl) ?_
  refine run_nil ?_
  refine run_cond rfl (fun g20 => ?_) (fun g20 => ?_)
  · have g20' := g20
    try simp only [decide_eq_true_eq, decide_eq_false_iff_not, beq_iff_eq, beq_eq_false_iff_ne, bne_iff_ne, bne_eq_false_iff_eq, Bool.not_eq_true', Bool.not_eq_false', ne_eq, Int.not_lt, Int.not_le, Decidable.not_not] at g20'
    refine run_seq ?_
    refine run_region ?_
    refine run_q (.none rfl) rfl rfl (q_move rfl rfl) ?_
    refine run_q (.none rfl) rfl rfl (q_assign rfl rfl) ?_
    refine run_nil ?_
    refine run_sub (subMk (.cons (s := 0) rfl (.cons (s := 1) rfl (.cons (s := 2) rfl (.cons (s := 6) rfl .nil)))) .refl) ?_
    refine run_ret ?_
    exact end1 rfl rfl (by rw [checkV_first (by simpa using g20)])
  · have g20' := g20
    try simp only [decide_eq_true_eq, decide_eq_false_iff_not, beq_iff_eq, beq_eq_false_iff_ne, bne_iff_ne, bne_eq_false_iff_eq, Bool.not_eq_true', Bool.not_eq_false', ne_eq, Int.not_lt, Int.not_le, Decidable.not_not] at g20'
    obtain ⟨hwa, hwb⟩ := firstNZ2 g20'
    refine run_skip ?_
    refine run_seq ?_
    refine run_region ?_
    refine run_q (.none rfl) rfl rfl (q_assign rfl rfl) ?_
    refine run_q (.none rfl) rfl rfl (q_assign rfl rfl) ?_
    refine run_nil ?_
    refine run_sub (subMk (.cons (s := 0) rfl (.cons (s := 1) rfl (.cons (s := 2) rfl (.cons (s := 6) rfl (.cons (s := 8) rfl (.cons (s := 9) rfl .nil)))))) .refl) ?_
    refine run_seq ?_
    refine run_seq ?_
    refine run_region ?_
    refine run_q (.none rfl) rfl rfl (q_move rfl rfl) ?_
    refine run_q (.none rfl) rfl rfl (q_len rfl Try.underlying28 rfl) ?_
    refine run_q (.none rfl) rfl rfl (q_move rfl rfl) ?_
    refine run_nil ?_
    refine run_block ?_
    refine run_sub (subMk (.cons (s := 24) rfl (.cons (s := 8) rfl (.cons (s := 9) rfl (.cons (s := 0) rfl (.cons (s := 1) rfl (.cons (s := 6) rfl (.cons (s := 22) rfl (.cons (s := 23) rfl .nil)))))))) (.cons Sel.here .refl .nil)) ?_
    refine run_loopC3M0 (ι := Nat × Nat × Nat) (fun gg => gg.1 ≤ ps.length ∧ gg.2.1 ≤ a.length ∧ gg.2.2 ≤ b.length ∧ errPs a b ps 0 0 = errPs a b (ps.drop gg.1) gg.2.1 gg.2.2) (fun gg => .int .i64 (gg.1 : Int)) (fun gg => .int .i64 (gg.2.1 : Int)) (fun gg => .int .i64 (gg.2.2 : Int))  (fun gg => ps.length - gg.1) (0, 0, 0) (by (try dsimp only); exact ⟨by omega, by omega, by omega, rfl⟩) rfl rfl rfl  ?_
    rintro ⟨j, i, k⟩ hq
    (try dsimp only at hq)
    obtain ⟨hj, hi, hk, hinv⟩ := hq
    show Run _ _ _ _ _ _ _ ⟨(24, .int .i64 (j : Int)) :: (8, .int .i64 (i : Int)) :: (9, .int .i64 (k : Int)) :: _, _⟩
    refine run_seq ?_
    refine run_region ?_
    refine run_q (.none rfl) rfl rfl (q_lss rfl rfl rfl) ?_
    refine run_nil ?_
    refine run_seq ?_
    refine run_cond rfl (fun g25 => ?_) (fun g25 => ?_)
    · have g25' := g25
      try simp only [decide_eq_true_eq, decide_eq_false_iff_not, beq_iff_eq, beq_eq_false_iff_ne, bne_iff_ne, bne_eq_false_iff_eq, Bool.not_eq_true', Bool.not_eq_false', ne_eq, Int.not_lt, Int.not_le, Decidable.not_not] at g25'
      refine run_skip ?_
      refine run_seq ?_
      refine run_block ?_
      refine run_seq ?_
      refine run_region ?_
      refine run_q (.none rfl) rfl rfl (q_indexS (q := j) rfl Try.underlying28 sz40 rfl rfl (.inp hrq .no) (by simp <;> omega) rfl (by omega)) ?_
      refine run_q (.none rfl) rfl rfl (q_loadE rfl agg40 rfl (.inp hrq .no) (getmap (by omega)) rfl) ?_
      refine run_h (.none rfl) (h_alloc rfl rfl rfl info40) ?_
      rintro b11 -
      refine run_h (.none rfl) (h_storeB rfl rfl sz40 rfl rfl rfl rfl rfl Sel.here rfl) ?_
      rintro - -
      refine run_nil ?_
      refine run_sub (subMk (.cons (s := 0) rfl (.cons (s := 1) rfl (.cons (s := 6) rfl (.cons (s := 8) rfl (.cons (s := 9) rfl (.cons (s := 11) rfl (.cons (s := 22) rfl (.cons (s := 23) rfl (.cons (s := 24) rfl .nil))))))))) .refl) ?_
      refine run_seq ?_
      refine run_seq ?_
      refine run_region ?_
      refine run_q (.none rfl) rfl rfl (q_fieldB (d := 0) rfl Try.underlying40 rfl rfl sz3 rfl) ?_
      refine run_q (.none rfl) rfl rfl (q_loadB rfl one3 rfl Sel.here rfl) ?_
      refine run_q (.none rfl) rfl rfl (q_call rfl call42 (.cons rfl (.cons rfl (.cons rfl Evs.nil))) (fun w hk hm => in_just _ _ _ _)) ?_
      refine run_q (.none rfl) rfl rfl (q_not rfl rfl) ?_
      refine run_nil ?_
      refine run_sub (subMk (.cons (s := 0) rfl (.cons (s := 1) rfl (.cons (s := 6) rfl (.cons (s := 8) rfl (.cons (s := 9) rfl (.cons (s := 11) rfl (.cons (s := 22) rfl (.cons (s := 23) rfl (.cons (s := 24) rfl (.cons (s := 31) rfl .nil)))))))))) .refl) ?_
      refine run_cond rfl (fun g31 => ?_) (fun g31 => ?_)
      · have g31' := g31
        try simp only [decide_eq_true_eq, decide_eq_false_iff_not, beq_iff_eq, beq_eq_false_iff_ne, bne_iff_ne, bne_eq_false_iff_eq, Bool.not_eq_true', Bool.not_eq_false', ne_eq, Int.not_lt, Int.not_le, Decidable.not_not] at g31'
        have h31 := g31
        simp [inB] at h31
        refine run_seq ?_
        refine run_region ?_
        refine run_q (.none rfl) rfl rfl (q_assign rfl rfl) ?_
        refine run_nil ?_
        refine run_ret ?_
        exact end1 rfl rfl (by rw [checkV_ok hwa hwb, hinv]; rw [errPs_hit (by omega) (errP_11 (by omega)) (by omega)])
      · have g31' := g31
        try simp only [decide_eq_true_eq, decide_eq_false_iff_not, beq_iff_eq, beq_eq_false_iff_ne, bne_iff_ne, bne_eq_false_iff_eq, Bool.not_eq_true', Bool.not_eq_false', ne_eq, Int.not_lt, Int.not_le, Decidable.not_not] at g31'
        have h31 := g31
        simp [inB] at h31
        refine run_skip ?_
        refine run_seq ?_
        refine run_region ?_
        refine run_q (.none rfl) rfl rfl (q_fieldB (d := 0) rfl Try.underlying40 rfl rfl sz3 rfl) ?_
        refine run_q (.none rfl) rfl rfl (q_loadB rfl one3 rfl Sel.here rfl) ?_
        refine run_q (.none rfl) rfl rfl (q_move rfl rfl) ?_
        refine run_q (.none rfl) rfl rfl (q_move rfl rfl) ?_
        refine run_q (.none rfl) rfl rfl (q_build rfl (.cons rfl (.cons rfl (.cons rfl PV.nil))) (built40p0p1p2 _ _ _)) ?_
        refine run_h (.none rfl) (h_alloc rfl rfl rfl info40) ?_
        rintro b12 -
        refine run_h (.none rfl) (h_storeB rfl rfl sz40 rfl rfl rfl rfl rfl Sel.here rfl) ?_
        rintro - -
        refine run_nil ?_
        refine run_sub (subMk (.cons (s := 0) rfl (.cons (s := 1) rfl (.cons (s := 6) rfl (.cons (s := 8) rfl (.cons (s := 9) rfl (.cons (s := 11) rfl (.cons (s := 12) rfl (.cons (s := 22) rfl (.cons (s := 23) rfl (.cons (s := 24) rfl .nil)))))))))) .refl) ?_
        refine run_seq ?_
        refine run_seq ?_
        refine run_region ?_
        refine run_q (.none rfl) rfl rfl (q_fieldB (d := 0) rfl Try.underlying40 rfl rfl sz3 rfl) ?_
        refine run_q (.none rfl) rfl rfl (q_loadB rfl one3 rfl (.there Sel.here) rfl) ?_
        refine run_nil ?_
        refine run_block ?_
        refine run_seq ?_
        refine run_region ?_
        refine run_q (.none rfl) rfl rfl (q_eql rfl rfl rfl) ?_
        refine run_q (.none rfl) rfl rfl (q_assign rfl rfl) ?_
        refine run_nil ?_
        refine run_cond rfl (fun g39 => ?_) (fun g39 => ?_)
        · have g39' := g39
          try simp only [decide_eq_true_eq, decide_eq_false_iff_not, beq_iff_eq, beq_eq_false_iff_ne, bne_iff_ne, bne_eq_false_iff_eq, Bool.not_eq_true', Bool.not_eq_false', ne_eq, Int.not_lt, Int.not_le, Decidable.not_not] at g39'
          refine run_region ?_
          refine run_q (.none rfl) rfl rfl (q_fieldB (d := 2) rfl Try.underlying40 rfl rfl sz3 rfl) ?_
          refine run_h (.none rfl) (h_storeB rfl rfl sz3 rfl rfl rfl rfl rfl Sel.here rfl) ?_
          rintro - -
          refine run_nil ?_
          refine run_sub (subMk (.cons (s := 0) rfl (.cons (s := 1) rfl (.cons (s := 6) rfl (.cons (s := 8) rfl (.cons (s := 9) rfl (.cons (s := 11) rfl (.cons (s := 12) rfl (.cons (s := 22) rfl (.cons (s := 23) rfl (.cons (s := 24) rfl .nil)))))))))) .refl) ?_
          refine run_blk ?_
          refine run_seq ?_
          refine run_seq ?_
          refine run_region ?_
          refine run_q (.none rfl) rfl rfl (q_loadBN rfl agg40 rfl (.there Sel.here) (.cons rfl (.cons rfl (.cons rfl CellsAt.nil))) rfl) ?_
          refine run_q (.none rfl) rfl rfl (q_loadBN rfl agg40 rfl Sel.here (.cons rfl (.cons rfl (.cons rfl CellsAt.nil))) rfl) ?_
          refine run_q (.none rfl) rfl rfl (q_neqS rfl rfl rfl eqg40 (fun w => eqs40 _ _ _ _ _ _ w)) ?_
          refine run_q (.none rfl) rfl rfl (q_move rfl rfl) ?_
          refine run_split 48 rfl (fun g48 => ?_) (fun g48 => ?_)
          · have g48' := g48
            try simp only [decide_eq_true_eq, decide_eq_false_iff_not, beq_iff_eq, beq_eq_false_iff_ne, bne_iff_ne, bne_eq_false_iff_eq, Bool.not_eq_true', Bool.not_eq_false', ne_eq, Int.not_lt, Int.not_le, Decidable.not_not] at g48'
            have h48 := g48
            simp at h48
            refine run_off (.no rfl rfl rfl g48) rfl rfl ?_
            refine run_off (.no rfl rfl rfl g48) rfl rfl ?_
            refine run_off (.no rfl rfl rfl g48) rfl rfl ?_
            refine run_off (.no rfl rfl rfl g48) rfl rfl ?_
            refine run_off (.off rfl rfl rfl) rfl rfl ?_
            refine run_off (.off rfl rfl rfl) rfl rfl ?_
            refine run_off (.off rfl rfl rfl) rfl rfl ?_
            refine run_off (.off rfl rfl rfl) rfl rfl ?_
            refine run_off (.no rfl rfl rfl g48) rfl rfl ?_
            refine run_q (.none rfl) rfl rfl (q_pickT rfl rfl g48 rfl) ?_
            refine run_q (.none rfl) rfl rfl (q_move rfl rfl) ?_
            refine run_off (.no rfl rfl rfl rfl) rfl rfl ?_
            refine run_off (.no rfl rfl rfl rfl) rfl rfl ?_
            refine run_off (.no rfl rfl rfl rfl) rfl rfl ?_
            refine run_off (.no rfl rfl rfl rfl) rfl rfl ?_
            refine run_off (.off rfl rfl rfl) rfl rfl ?_
            refine run_off (.off rfl rfl rfl) rfl rfl ?_
            refine run_off (.off rfl rfl rfl) rfl rfl ?_
            refine run_off (.off rfl rfl rfl) rfl rfl ?_
            refine run_off (.no rfl rfl rfl rfl) rfl rfl ?_
            refine run_q (.none rfl) rfl rfl (q_pickT rfl rfl rfl rfl) ?_
            refine run_nil ?_
            refine run_sub (subMk (.cons (s := 0) rfl (.cons (s := 1) rfl (.cons (s := 6) rfl (.cons (s := 8) rfl (.cons (s := 9) rfl (.cons (s := 11) rfl (.cons (s := 22) rfl (.cons (s := 23) rfl (.cons (s := 24) rfl (.cons (s := 69) rfl .nil)))))))))) .refl) ?_
            refine run_condT rfl rfl ?_
            refine run_seq ?_
            refine run_region ?_
            refine run_q (.none rfl) rfl rfl (q_assign rfl rfl) ?_
            refine run_nil ?_
            refine run_ret ?_
            exact end1 rfl rfl (by rw [checkV_ok hwa hwb, hinv]; rw [errPs_hit (by omega) (errP_38 (by omega) (by omega)) (by omega)])
          · have g48' := g48
            try simp only [decide_eq_true_eq, decide_eq_false_iff_not, beq_iff_eq, beq_eq_false_iff_ne, bne_iff_ne, bne_eq_false_iff_eq, Bool.not_eq_true', Bool.not_eq_false', ne_eq, Int.not_lt, Int.not_le, Decidable.not_not] at g48'
            have h48 := g48
            simp at h48
            refine run_q (.on rfl rfl rfl g48) rfl rfl (q_fieldB (d := 0) rfl Try.underlying40 rfl rfl sz3 rfl) ?_
            refine run_q (.on rfl rfl rfl g48) rfl rfl (q_loadB rfl one3 rfl (.there Sel.here) rfl) ?_
            refine run_q (.on rfl rfl rfl g48) rfl rfl (q_neq rfl rfl rfl) ?_
            refine run_q (.on rfl rfl rfl g48) rfl rfl (q_move rfl rfl) ?_
            refine run_q (.on rfl rfl rfl (by simp; omega)) rfl rfl (q_move rfl rfl) ?_
            refine run_q (.on rfl rfl rfl (by simp; omega)) rfl rfl (q_move rfl rfl) ?_
            refine run_q (.on rfl rfl rfl (by simp; omega)) rfl rfl (q_len rfl Try.underlying22 rfl) ?_
            refine run_q (.on rfl rfl rfl (by simp; omega)) rfl rfl (q_eql rfl rfl rfl) ?_
            refine run_q (.on rfl rfl rfl g48) rfl rfl (q_pickT rfl rfl (by simp; omega) rfl) ?_
            refine run_q (.none rfl) rfl rfl (q_pickF rfl rfl g48 rfl) ?_
            refine run_q (.none rfl) rfl rfl (q_move rfl rfl) ?_
            refine run_split 59 rfl (fun g59 => ?_) (fun g59 => ?_)
            · have g59' := g59
              try simp only [decide_eq_true_eq, decide_eq_false_iff_not, beq_iff_eq, beq_eq_false_iff_ne, bne_iff_ne, bne_eq_false_iff_eq, Bool.not_eq_true', Bool.not_eq_false', ne_eq, Int.not_lt, Int.not_le, Decidable.not_not] at g59'
              refine run_off (.no rfl rfl rfl g59) rfl rfl ?_
              refine run_off (.no rfl rfl rfl g59) rfl rfl ?_
              refine run_off (.no rfl rfl rfl g59) rfl rfl ?_
              refine run_off (.no rfl rfl rfl g59) rfl rfl ?_
              refine run_off (.off rfl rfl rfl) rfl rfl ?_
              refine run_off (.off rfl rfl rfl) rfl rfl ?_
              refine run_off (.off rfl rfl rfl) rfl rfl ?_
              refine run_off (.off rfl rfl rfl) rfl rfl ?_
              refine run_off (.no rfl rfl rfl g59) rfl rfl ?_
              refine run_q (.none rfl) rfl rfl (q_pickT rfl rfl g59 rfl) ?_
              refine run_nil ?_
              refine run_sub (subMk (.cons (s := 0) rfl (.cons (s := 1) rfl (.cons (s := 6) rfl (.cons (s := 8) rfl (.cons (s := 9) rfl (.cons (s := 11) rfl (.cons (s := 22) rfl (.cons (s := 23) rfl (.cons (s := 24) rfl (.cons (s := 69) rfl .nil)))))))))) .refl) ?_
              refine run_condT rfl rfl ?_
              refine run_seq ?_
              refine run_region ?_
              refine run_q (.none rfl) rfl rfl (q_assign rfl rfl) ?_
              refine run_nil ?_
              refine run_ret ?_
              exact end1 rfl rfl (by rw [checkV_ok hwa hwb, hinv]; rw [errPs_hit (by omega) (errP_38 (by omega) (by omega)) (by omega)])
            · have g59' := g59
              try simp only [decide_eq_true_eq, decide_eq_false_iff_not, beq_iff_eq, beq_eq_false_iff_ne, bne_iff_ne, bne_eq_false_iff_eq, Bool.not_eq_true', Bool.not_eq_false', ne_eq, Int.not_lt, Int.not_le, Decidable.not_not] at g59'
              refine run_q (.on rfl rfl rfl g59) rfl rfl (q_fieldB (d := 0) rfl Try.underlying40 rfl rfl sz3 rfl) ?_
              refine run_q (.on rfl rfl rfl g59) rfl rfl (q_loadB rfl one3 rfl (.there Sel.here) rfl) ?_
              refine run_q (.on rfl rfl rfl g59) rfl rfl (q_neq rfl rfl rfl) ?_
              refine run_q (.on rfl rfl rfl g59) rfl rfl (q_move rfl rfl) ?_
              refine run_off (.no rfl rfl rfl (by simp; omega)) rfl rfl ?_
              refine run_off (.no rfl rfl rfl (by simp; omega)) rfl rfl ?_
              refine run_off (.no rfl rfl rfl (by simp; omega)) rfl rfl ?_
              refine run_off (.no rfl rfl rfl (by simp; omega)) rfl rfl ?_
              refine run_q (.on rfl rfl rfl g59) rfl rfl (q_pickF rfl rfl (by simp; omega) rfl) ?_
              refine run_q (.none rfl) rfl rfl (q_pickF rfl rfl g59 rfl) ?_
              refine run_nil ?_
              refine run_sub (subMk (.cons (s := 0) rfl (.cons (s := 1) rfl (.cons (s := 6) rfl (.cons (s := 8) rfl (.cons (s := 9) rfl (.cons (s := 11) rfl (.cons (s := 22) rfl (.cons (s := 23) rfl (.cons (s := 24) rfl (.cons (s := 69) rfl .nil)))))))))) .refl) ?_
              refine run_condF rfl rfl ?_
              refine run_skip ?_
              refine run_seq ?_
              refine run_seq ?_
              refine run_draw [(0, 0), (1, 0), (2, 0), (3, 0), (4, 0), (5, 0), (6, 0), (7, 0), (8, 0), (9, 0), (10, 0), (11, 0), (12, 0), (13, 0), (14, 0), (15, 0), (16, 0)] mixed (by kernel_rfl) .refl ?_
              refine d_q rfl rfl (.none rfl) rfl rfl (q_fieldB (d := 0) rfl Try.underlying40 rfl rfl sz3 rfl) ?_
              refine d_q rfl rfl (.none rfl) rfl rfl (q_loadB rfl one3 rfl (.there Sel.here) rfl) ?_
              refine d_q rfl rfl (.none rfl) rfl rfl (q_leq rfl rfl rfl) ?_
              refine d_q rfl rfl (.none rfl) rfl rfl (q_move rfl rfl) ?_
              refine d_off rfl rfl (.no rfl rfl rfl (decide_eq_false (by omega))) rfl rfl ?_
              refine d_off rfl rfl (.no rfl rfl rfl (decide_eq_false (by omega))) rfl rfl ?_
              refine d_off rfl rfl (.no rfl rfl rfl (decide_eq_false (by omega))) rfl rfl ?_
              refine d_off rfl rfl (.no rfl rfl rfl (decide_eq_false (by omega))) rfl rfl ?_
              refine d_off rfl rfl (.no rfl rfl rfl (decide_eq_false (by omega))) rfl rfl ?_
              refine d_off rfl rfl (.no rfl rfl rfl (decide_eq_false (by omega))) rfl rfl ?_
              refine d_off rfl rfl (.no rfl rfl rfl (decide_eq_false (by omega))) rfl rfl ?_
              refine d_off rfl rfl (.no rfl rfl rfl (decide_eq_false (by omega))) rfl rfl ?_
              refine d_off rfl rfl (.no rfl rfl rfl (decide_eq_false (by omega))) rfl rfl ?_
              refine d_off rfl rfl (.no rfl rfl rfl (decide_eq_false (by omega))) rfl rfl ?_
              refine d_off rfl rfl (.no rfl rfl rfl (decide_eq_false (by omega))) rfl rfl ?_
              refine d_off rfl rfl (.no rfl rfl rfl (decide_eq_false (by omega))) rfl rfl ?_
              refine d_q rfl rfl (.none rfl) rfl rfl (q_pickF rfl rfl (decide_eq_false (by omega)) rfl) ?_
              refine d_nil ?_
              refine run_sub (subMk (.cons (s := 0) rfl (.cons (s := 1) rfl (.cons (s := 6) rfl (.cons (s := 8) rfl (.cons (s := 9) rfl (.cons (s := 11) rfl (.cons (s := 22) rfl (.cons (s := 23) rfl (.cons (s := 24) rfl (.cons (s := 86) rfl .nil)))))))))) .refl) ?_
              refine run_condF rfl rfl ?_
              refine run_skip ?_
              refine run_seq ?_
              refine run_seq ?_
              refine run_region ?_
              refine run_q (.none rfl) rfl rfl (q_fieldB (d := 0) rfl Try.underlying40 rfl rfl sz3 rfl) ?_
              refine run_q (.none rfl) rfl rfl (q_loadB rfl one3 rfl (.there Sel.here) rfl) ?_
              refine run_q (.none rfl) rfl rfl (q_neq rfl rfl rfl) ?_
              refine run_nil ?_
              refine run_sub (subMk (.cons (s := 0) rfl (.cons (s := 1) rfl (.cons (s := 6) rfl (.cons (s := 8) rfl (.cons (s := 9) rfl (.cons (s := 11) rfl (.cons (s := 22) rfl (.cons (s := 23) rfl (.cons (s := 24) rfl (.cons (s := 89) rfl .nil)))))))))) .refl) ?_
              refine run_condT rfl (by simp; omega) ?_
              refine run_region ?_
              refine run_q (.none rfl) rfl rfl (q_move rfl rfl) ?_
              refine run_q (.none rfl) rfl rfl (q_add rfl rfl rfl (by omega)) ?_
              refine run_q (.none rfl) rfl rfl (q_assign rfl rfl) ?_
              refine run_nil ?_
              refine run_sub (subMk (.cons (s := 0) rfl (.cons (s := 1) rfl (.cons (s := 6) rfl (.cons (s := 8) rfl (.cons (s := 9) rfl (.cons (s := 11) rfl (.cons (s := 22) rfl (.cons (s := 23) rfl (.cons (s := 24) rfl .nil))))))))) .refl) ?_
              refine run_seq ?_
              refine run_region ?_
              refine run_q (.none rfl) rfl rfl (q_fieldB (d := 0) rfl Try.underlying40 rfl rfl sz3 rfl) ?_
              refine run_q (.none rfl) rfl rfl (q_loadB rfl one3 rfl (.there Sel.here) rfl) ?_
              refine run_q (.none rfl) rfl rfl (q_neq rfl rfl rfl) ?_
              refine run_nil ?_
              refine run_sub (subMk (.cons (s := 0) rfl (.cons (s := 1) rfl (.cons (s := 6) rfl (.cons (s := 8) rfl (.cons (s := 9) rfl (.cons (s := 22) rfl (.cons (s := 23) rfl (.cons (s := 24) rfl (.cons (s := 94) rfl .nil))))))))) .refl) ?_
              refine run_condF rfl (by simp; omega) ?_
              refine run_skip ?_
              refine run_blk ?_
              refine run_region ?_
              refine run_q (.none rfl) rfl rfl (q_add rfl rfl rfl (by omega)) ?_
              refine run_q (.none rfl) rfl rfl (q_move rfl rfl) ?_
              refine run_nil ?_
              exact run_again (j + 1, i + 1, k) (by (try dsimp only); exact ⟨by omega, by omega, by omega, by rw [hinv, errPs_3 (by omega) (by omega) (by omega) (by omega) (by omega)]⟩) (by (try dsimp only); omega) (subMk (.cons' (s := 24) rfl rfl (.cons' (s := 8) rfl rfl (.cons' (s := 9) rfl rfl (.cons (s := 0) rfl (.cons (s := 1) rfl (.cons (s := 6) rfl (.cons (s := 22) rfl (.cons (s := 23) rfl .nil)))))))) (.cons (.there (.there Sel.here)) .refl .nil))
        · have g39' := g39
          try simp only [decide_eq_true_eq, decide_eq_false_iff_not, beq_iff_eq, beq_eq_false_iff_ne, bne_iff_ne, bne_eq_false_iff_eq, Bool.not_eq_true', Bool.not_eq_false', ne_eq, Int.not_lt, Int.not_le, Decidable.not_not] at g39'
          refine run_seq ?_
          refine run_region ?_
          refine run_q (.none rfl) rfl rfl (q_eql rfl rfl rfl) ?_
          refine run_q (.none rfl) rfl rfl (q_assign rfl rfl) ?_
          refine run_nil ?_
          refine run_sub (subMk (.cons (s := 0) rfl (.cons (s := 1) rfl (.cons (s := 6) rfl (.cons (s := 8) rfl (.cons (s := 9) rfl (.cons (s := 11) rfl (.cons (s := 12) rfl (.cons (s := 22) rfl (.cons (s := 23) rfl (.cons (s := 24) rfl (.cons (s := 42) rfl .nil))))))))))) .refl) ?_
          refine run_cond rfl (fun g42 => ?_) (fun g42 => ?_)
          · have g42' := g42
            try simp only [decide_eq_true_eq, decide_eq_false_iff_not, beq_iff_eq, beq_eq_false_iff_ne, bne_iff_ne, bne_eq_false_iff_eq, Bool.not_eq_true', Bool.not_eq_false', ne_eq, Int.not_lt, Int.not_le, Decidable.not_not] at g42'
            refine run_region ?_
            refine run_q (.none rfl) rfl rfl (q_fieldB (d := 1) rfl Try.underlying40 rfl rfl sz3 rfl) ?_
            refine run_h (.none rfl) (h_storeB rfl rfl sz3 rfl rfl rfl rfl rfl Sel.here rfl) ?_
            rintro - -
            refine run_nil ?_
            refine run_blk ?_
            refine run_seq ?_
            refine run_seq ?_
            refine run_region ?_
            refine run_q (.none rfl) rfl rfl (q_loadBN rfl agg40 rfl (.there Sel.here) (.cons rfl (.cons rfl (.cons rfl CellsAt.nil))) rfl) ?_
            refine run_q (.none rfl) rfl rfl (q_loadBN rfl agg40 rfl Sel.here (.cons rfl (.cons rfl (.cons rfl CellsAt.nil))) rfl) ?_
            refine run_q (.none rfl) rfl rfl (q_neqS rfl rfl rfl eqg40 (fun w => eqs40 _ _ _ _ _ _ w)) ?_
            refine run_q (.none rfl) rfl rfl (q_move rfl rfl) ?_
            refine run_split 48 rfl (fun g48 => ?_) (fun g48 => ?_)
            · have g48' := g48
              try simp only [decide_eq_true_eq, decide_eq_false_iff_not, beq_iff_eq, beq_eq_false_iff_ne, bne_iff_ne, bne_eq_false_iff_eq, Bool.not_eq_true', Bool.not_eq_false', ne_eq, Int.not_lt, Int.not_le, Decidable.not_not] at g48'
              have h48 := g48
              simp at h48
              refine run_off (.no rfl rfl rfl g48) rfl rfl ?_
              refine run_off (.no rfl rfl rfl g48) rfl rfl ?_
              refine run_off (.no rfl rfl rfl g48) rfl rfl ?_
              refine run_off (.no rfl rfl rfl g48) rfl rfl ?_
              refine run_off (.off rfl rfl rfl) rfl rfl ?_
              refine run_off (.off rfl rfl rfl) rfl rfl ?_
              refine run_off (.off rfl rfl rfl) rfl rfl ?_
              refine run_off (.off rfl rfl rfl) rfl rfl ?_
              refine run_off (.no rfl rfl rfl g48) rfl rfl ?_
              refine run_q (.none rfl) rfl rfl (q_pickT rfl rfl g48 rfl) ?_
              refine run_q (.none rfl) rfl rfl (q_move rfl rfl) ?_
              refine run_off (.no rfl rfl rfl rfl) rfl rfl ?_
              refine run_off (.no rfl rfl rfl rfl) rfl rfl ?_
              refine run_off (.no rfl rfl rfl rfl) rfl rfl ?_
              refine run_off (.no rfl rfl rfl rfl) rfl rfl ?_
              refine run_off (.off rfl rfl rfl) rfl rfl ?_
              refine run_off (.off rfl rfl rfl) rfl rfl ?_
              refine run_off (.off rfl rfl rfl) rfl rfl ?_
              refine run_off (.off rfl rfl rfl) rfl rfl ?_
              refine run_off (.no rfl rfl rfl rfl) rfl rfl ?_
              refine run_q (.none rfl) rfl rfl (q_pickT rfl rfl rfl rfl) ?_
              refine run_nil ?_
              refine run_sub (subMk (.cons (s := 0) rfl (.cons (s := 1) rfl (.cons (s := 6) rfl (.cons (s := 8) rfl (.cons (s := 9) rfl (.cons (s := 11) rfl (.cons (s := 22) rfl (.cons (s := 23) rfl (.cons (s := 24) rfl (.cons (s := 69) rfl .nil)))))))))) .refl) ?_
              refine run_condT rfl rfl ?_
              refine run_seq ?_
              refine run_region ?_
              refine run_q (.none rfl) rfl rfl (q_assign rfl rfl) ?_
              refine run_nil ?_
              refine run_ret ?_
              exact end1 rfl rfl (by rw [checkV_ok hwa hwb, hinv]; rw [errPs_hit (by omega) (errP_38 (by omega) (by omega)) (by omega)])
            · have g48' := g48
              try simp only [decide_eq_true_eq, decide_eq_false_iff_not, beq_iff_eq, beq_eq_false_iff_ne, bne_iff_ne, bne_eq_false_iff_eq, Bool.not_eq_true', Bool.not_eq_false', ne_eq, Int.not_lt, Int.not_le, Decidable.not_not] at g48'
              have h48 := g48
              simp at h48
              refine run_q (.on rfl rfl rfl g48) rfl rfl (q_fieldB (d := 0) rfl Try.underlying40 rfl rfl sz3 rfl) ?_
              refine run_q (.on rfl rfl rfl g48) rfl rfl (q_loadB rfl one3 rfl (.there Sel.here) rfl) ?_
              refine run_q (.on rfl rfl rfl g48) rfl rfl (q_neq rfl rfl rfl) ?_
              refine run_q (.on rfl rfl rfl g48) rfl rfl (q_move rfl rfl) ?_
              refine run_off (.no rfl rfl rfl (by simp; omega)) rfl rfl ?_
              refine run_off (.no rfl rfl rfl (by simp; omega)) rfl rfl ?_
              refine run_off (.no rfl rfl rfl (by simp; omega)) rfl rfl ?_
              refine run_off (.no rfl rfl rfl (by simp; omega)) rfl rfl ?_
              refine run_q (.on rfl rfl rfl g48) rfl rfl (q_pickF rfl rfl (by simp; omega) rfl) ?_
              refine run_q (.none rfl) rfl rfl (q_pickF rfl rfl g48 rfl) ?_
              refine run_q (.none rfl) rfl rfl (q_move rfl rfl) ?_
              refine run_q (.on rfl rfl rfl rfl) rfl rfl (q_fieldB (d := 0) rfl Try.underlying40 rfl rfl sz3 rfl) ?_
              refine run_q (.on rfl rfl rfl rfl) rfl rfl (q_loadB rfl one3 rfl (.there Sel.here) rfl) ?_
              refine run_q (.on rfl rfl rfl rfl) rfl rfl (q_neq rfl rfl rfl) ?_
              refine run_q (.on rfl rfl rfl rfl) rfl rfl (q_move rfl rfl) ?_
              refine run_q (.on rfl rfl rfl (by simp; omega)) rfl rfl (q_move rfl rfl) ?_
              refine run_q (.on rfl rfl rfl (by simp; omega)) rfl rfl (q_move rfl rfl) ?_
              refine run_q (.on rfl rfl rfl (by simp; omega)) rfl rfl (q_len rfl Try.underlying22 rfl) ?_
              refine run_q (.on rfl rfl rfl (by simp; omega)) rfl rfl (q_eql rfl rfl rfl) ?_
              refine run_q (.on rfl rfl rfl rfl) rfl rfl (q_pickT rfl rfl (by simp; omega) rfl) ?_
              refine run_q (.none rfl) rfl rfl (q_pickF rfl rfl rfl rfl) ?_
              refine run_nil ?_
              refine run_sub (subMk (.cons (s := 0) rfl (.cons (s := 1) rfl (.cons (s := 6) rfl (.cons (s := 8) rfl (.cons (s := 9) rfl (.cons (s := 11) rfl (.cons (s := 22) rfl (.cons (s := 23) rfl (.cons (s := 24) rfl (.cons (s := 69) rfl .nil)))))))))) .refl) ?_
              refine run_cond rfl (fun g69 => ?_) (fun g69 => ?_)
              · have g69' := g69
                try simp only [decide_eq_true_eq, decide_eq_false_iff_not, beq_iff_eq, beq_eq_false_iff_ne, bne_iff_ne, bne_eq_false_iff_eq, Bool.not_eq_true', Bool.not_eq_false', ne_eq, Int.not_lt, Int.not_le, Decidable.not_not] at g69'
                refine run_seq ?_
                refine run_region ?_
                refine run_q (.none rfl) rfl rfl (q_assign rfl rfl) ?_
                refine run_nil ?_
                refine run_ret ?_
                exact end1 rfl rfl (by rw [checkV_ok hwa hwb, hinv]; rw [errPs_hit (by omega) (errP_38 (by omega) (by omega)) (by omega)])
              · have g69' := g69
                try simp only [decide_eq_true_eq, decide_eq_false_iff_not, beq_iff_eq, beq_eq_false_iff_ne, bne_iff_ne, bne_eq_false_iff_eq, Bool.not_eq_true', Bool.not_eq_false', ne_eq, Int.not_lt, Int.not_le, Decidable.not_not] at g69'
                refine run_skip ?_
                refine run_seq ?_
                refine run_seq ?_
                refine run_draw [(0, 0), (1, 0), (2, 0), (3, 0), (4, 0), (5, 0), (6, 0), (7, 0), (8, 0), (9, 0), (10, 0), (11, 0), (12, 0), (13, 0), (14, 0), (15, 0), (16, 0)] mixed (by kernel_rfl) .refl ?_
                refine d_q rfl rfl (.none rfl) rfl rfl (q_fieldB (d := 0) rfl Try.underlying40 rfl rfl sz3 rfl) ?_
                refine d_q rfl rfl (.none rfl) rfl rfl (q_loadB rfl one3 rfl (.there Sel.here) rfl) ?_
                refine d_q rfl rfl (.none rfl) rfl rfl (q_leq rfl rfl rfl) ?_
                refine d_q rfl rfl (.none rfl) rfl rfl (q_move rfl rfl) ?_
                refine d_off rfl rfl (.no rfl rfl rfl (decide_eq_false (by omega))) rfl rfl ?_
                refine d_off rfl rfl (.no rfl rfl rfl (decide_eq_false (by omega))) rfl rfl ?_
                refine d_off rfl rfl (.no rfl rfl rfl (decide_eq_false (by omega))) rfl rfl ?_
                refine d_off rfl rfl (.no rfl rfl rfl (decide_eq_false (by omega))) rfl rfl ?_
                refine d_off rfl rfl (.no rfl rfl rfl (decide_eq_false (by omega))) rfl rfl ?_
                refine d_off rfl rfl (.no rfl rfl rfl (decide_eq_false (by omega))) rfl rfl ?_
                refine d_off rfl rfl (.no rfl rfl rfl (decide_eq_false (by omega))) rfl rfl ?_
                refine d_off rfl rfl (.no rfl rfl rfl (decide_eq_false (by omega))) rfl rfl ?_
                refine d_off rfl rfl (.no rfl rfl rfl (decide_eq_false (by omega))) rfl rfl ?_
                refine d_off rfl rfl (.no rfl rfl rfl (decide_eq_false (by omega))) rfl rfl ?_
                refine d_off rfl rfl (.no rfl rfl rfl (decide_eq_false (by omega))) rfl rfl ?_
                refine d_off rfl rfl (.no rfl rfl rfl (decide_eq_false (by omega))) rfl rfl ?_
                refine d_q rfl rfl (.none rfl) rfl rfl (q_pickF rfl rfl (decide_eq_false (by omega)) rfl) ?_
                refine d_nil ?_
                refine run_sub (subMk (.cons (s := 0) rfl (.cons (s := 1) rfl (.cons (s := 6) rfl (.cons (s := 8) rfl (.cons (s := 9) rfl (.cons (s := 11) rfl (.cons (s := 22) rfl (.cons (s := 23) rfl (.cons (s := 24) rfl (.cons (s := 86) rfl .nil)))))))))) .refl) ?_
                refine run_condF rfl rfl ?_
                refine run_skip ?_
                refine run_seq ?_
                refine run_seq ?_
                refine run_region ?_
                refine run_q (.none rfl) rfl rfl (q_fieldB (d := 0) rfl Try.underlying40 rfl rfl sz3 rfl) ?_
                refine run_q (.none rfl) rfl rfl (q_loadB rfl one3 rfl (.there Sel.here) rfl) ?_
                refine run_q (.none rfl) rfl rfl (q_neq rfl rfl rfl) ?_
                refine run_nil ?_
                refine run_sub (subMk (.cons (s := 0) rfl (.cons (s := 1) rfl (.cons (s := 6) rfl (.cons (s := 8) rfl (.cons (s := 9) rfl (.cons (s := 11) rfl (.cons (s := 22) rfl (.cons (s := 23) rfl (.cons (s := 24) rfl (.cons (s := 89) rfl .nil)))))))))) .refl) ?_
                refine run_condF rfl (by simp; omega) ?_
                refine run_skip ?_
                refine run_seq ?_
                refine run_region ?_
                refine run_q (.none rfl) rfl rfl (q_fieldB (d := 0) rfl Try.underlying40 rfl rfl sz3 rfl) ?_
                refine run_q (.none rfl) rfl rfl (q_loadB rfl one3 rfl (.there Sel.here) rfl) ?_
                refine run_q (.none rfl) rfl rfl (q_neq rfl rfl rfl) ?_
                refine run_nil ?_
                refine run_sub (subMk (.cons (s := 0) rfl (.cons (s := 1) rfl (.cons (s := 6) rfl (.cons (s := 8) rfl (.cons (s := 9) rfl (.cons (s := 22) rfl (.cons (s := 23) rfl (.cons (s := 24) rfl (.cons (s := 94) rfl .nil))))))))) .refl) ?_
                refine run_condT rfl (by simp; omega) ?_
                refine run_region ?_
                refine run_q (.none rfl) rfl rfl (q_move rfl rfl) ?_
                refine run_q (.none rfl) rfl rfl (q_add rfl rfl rfl (by omega)) ?_
                refine run_q (.none rfl) rfl rfl (q_assign rfl rfl) ?_
                refine run_nil ?_
                refine run_sub (subMk (.cons (s := 0) rfl (.cons (s := 1) rfl (.cons (s := 6) rfl (.cons (s := 8) rfl (.cons (s := 9) rfl (.cons (s := 22) rfl (.cons (s := 23) rfl (.cons (s := 24) rfl .nil)))))))) .refl) ?_
                refine run_blk ?_
                refine run_region ?_
                refine run_q (.none rfl) rfl rfl (q_add rfl rfl rfl (by omega)) ?_
                refine run_q (.none rfl) rfl rfl (q_move rfl rfl) ?_
                refine run_nil ?_
                exact run_again (j + 1, i, k + 1) (by (try dsimp only); exact ⟨by omega, by omega, by omega, by rw [hinv, errPs_4 (by omega) (by omega) (by omega) (by omega) (by omega)]⟩) (by (try dsimp only); omega) (subMk (.cons' (s := 24) rfl rfl (.cons' (s := 8) rfl rfl (.cons' (s := 9) rfl rfl (.cons (s := 0) rfl (.cons (s := 1) rfl (.cons (s := 6) rfl (.cons (s := 22) rfl (.cons (s := 23) rfl .nil)))))))) (.cons (.there (.there Sel.here)) .refl .nil))
          · have g42' := g42
            try simp only [decide_eq_true_eq, decide_eq_false_iff_not, beq_iff_eq, beq_eq_false_iff_ne, bne_iff_ne, bne_eq_false_iff_eq, Bool.not_eq_true', Bool.not_eq_false', ne_eq, Int.not_lt, Int.not_le, Decidable.not_not] at g42'
            refine run_skip ?_
            refine run_blk ?_
            refine run_seq ?_
            refine run_seq ?_
            refine run_region ?_
            refine run_q (.none rfl) rfl rfl (q_loadBN rfl agg40 rfl (.there Sel.here) (.cons rfl (.cons rfl (.cons rfl CellsAt.nil))) rfl) ?_
            refine run_q (.none rfl) rfl rfl (q_loadBN rfl agg40 rfl Sel.here (.cons rfl (.cons rfl (.cons rfl CellsAt.nil))) rfl) ?_
            refine run_q (.none rfl) rfl rfl (q_neqS rfl rfl rfl eqg40 (fun w => eqs40 _ _ _ _ _ _ w)) ?_
            refine run_q (.none rfl) rfl rfl (q_move rfl rfl) ?_
            refine run_split 48 rfl (fun g48 => ?_) (fun g48 => ?_)
            · have g48' := g48
              try simp only [decide_eq_true_eq, decide_eq_false_iff_not, beq_iff_eq, beq_eq_false_iff_ne, bne_iff_ne, bne_eq_false_iff_eq, Bool.not_eq_true', Bool.not_eq_false', ne_eq, Int.not_lt, Int.not_le, Decidable.not_not] at g48'
              have h48 := g48
              simp at h48
              refine run_off (.no rfl rfl rfl g48) rfl rfl ?_
              refine run_off (.no rfl rfl rfl g48) rfl rfl ?_
              refine run_off (.no rfl rfl rfl g48) rfl rfl ?_
              refine run_off (.no rfl rfl rfl g48) rfl rfl ?_
              refine run_off (.off rfl rfl rfl) rfl rfl ?_
              refine run_off (.off rfl rfl rfl) rfl rfl ?_
              refine run_off (.off rfl rfl rfl) rfl rfl ?_
              refine run_off (.off rfl rfl rfl) rfl rfl ?_
              refine run_off (.no rfl rfl rfl g48) rfl rfl ?_
              refine run_q (.none rfl) rfl rfl (q_pickT rfl rfl g48 rfl) ?_
              refine run_q (.none rfl) rfl rfl (q_move rfl rfl) ?_
              refine run_off (.no rfl rfl rfl rfl) rfl rfl ?_
              refine run_off (.no rfl rfl rfl rfl) rfl rfl ?_
              refine run_off (.no rfl rfl rfl rfl) rfl rfl ?_
              refine run_off (.no rfl rfl rfl rfl) rfl rfl ?_
              refine run_off (.off rfl rfl rfl) rfl rfl ?_
              refine run_off (.off rfl rfl rfl) rfl rfl ?_
              refine run_off (.off rfl rfl rfl) rfl rfl ?_
              refine run_off (.off rfl rfl rfl) rfl rfl ?_
              refine run_off (.no rfl rfl rfl rfl) rfl rfl ?_
              refine run_q (.none rfl) rfl rfl (q_pickT rfl rfl rfl rfl) ?_
              refine run_nil ?_
              refine run_sub (subMk (.cons (s := 0) rfl (.cons (s := 1) rfl (.cons (s := 6) rfl (.cons (s := 8) rfl (.cons (s := 9) rfl (.cons (s := 11) rfl (.cons (s := 22) rfl (.cons (s := 23) rfl (.cons (s := 24) rfl (.cons (s := 69) rfl .nil)))))))))) .refl) ?_
              refine run_condT rfl rfl ?_
              refine run_seq ?_
              refine run_region ?_
              refine run_q (.none rfl) rfl rfl (q_assign rfl rfl) ?_
              refine run_nil ?_
              refine run_ret ?_
              exact end1 rfl rfl (by rw [checkV_ok hwa hwb, hinv]; rw [errPs_hit (by omega) (errP_38 (by omega) (by omega)) (by omega)])
            · have g48' := g48
              try simp only [decide_eq_true_eq, decide_eq_false_iff_not, beq_iff_eq, beq_eq_false_iff_ne, bne_iff_ne, bne_eq_false_iff_eq, Bool.not_eq_true', Bool.not_eq_false', ne_eq, Int.not_lt, Int.not_le, Decidable.not_not] at g48'
              have h48 := g48
              simp at h48
              refine run_q (.on rfl rfl rfl g48) rfl rfl (q_fieldB (d := 0) rfl Try.underlying40 rfl rfl sz3 rfl) ?_
              refine run_q (.on rfl rfl rfl g48) rfl rfl (q_loadB rfl one3 rfl (.there Sel.here) rfl) ?_
              refine run_q (.on rfl rfl rfl g48) rfl rfl (q_neq rfl rfl rfl) ?_
              refine run_q (.on rfl rfl rfl g48) rfl rfl (q_move rfl rfl) ?_
              refine run_q (.on rfl rfl rfl (by simp; omega)) rfl rfl (q_move rfl rfl) ?_
              refine run_q (.on rfl rfl rfl (by simp; omega)) rfl rfl (q_move rfl rfl) ?_
              refine run_q (.on rfl rfl rfl (by simp; omega)) rfl rfl (q_len rfl Try.underlying22 rfl) ?_
              refine run_q (.on rfl rfl rfl (by simp; omega)) rfl rfl (q_eql rfl rfl rfl) ?_
              refine run_q (.on rfl rfl rfl g48) rfl rfl (q_pickT rfl rfl (by simp; omega) rfl) ?_
              refine run_q (.none rfl) rfl rfl (q_pickF rfl rfl g48 rfl) ?_
              refine run_q (.none rfl) rfl rfl (q_move rfl rfl) ?_
              refine run_split 59 rfl (fun g59 => ?_) (fun g59 => ?_)
              · have g59' := g59
                try simp only [decide_eq_true_eq, decide_eq_false_iff_not, beq_iff_eq, beq_eq_false_iff_ne, bne_iff_ne, bne_eq_false_iff_eq, Bool.not_eq_true', Bool.not_eq_false', ne_eq, Int.not_lt, Int.not_le, Decidable.not_not] at g59'
                refine run_off (.no rfl rfl rfl g59) rfl rfl ?_
                refine run_off (.no rfl rfl rfl g59) rfl rfl ?_
                refine run_off (.no rfl rfl rfl g59) rfl rfl ?_
                refine run_off (.no rfl rfl rfl g59) rfl rfl ?_
                refine run_off (.off rfl rfl rfl) rfl rfl ?_
                refine run_off (.off rfl rfl rfl) rfl rfl ?_
                refine run_off (.off rfl rfl rfl) rfl rfl ?_
                refine run_off (.off rfl rfl rfl) rfl rfl ?_
                refine run_off (.no rfl rfl rfl g59) rfl rfl ?_
                refine run_q (.none rfl) rfl rfl (q_pickT rfl rfl g59 rfl) ?_
                refine run_nil ?_
                refine run_sub (subMk (.cons (s := 0) rfl (.cons (s := 1) rfl (.cons (s := 6) rfl (.cons (s := 8) rfl (.cons (s := 9) rfl (.cons (s := 11) rfl (.cons (s := 22) rfl (.cons (s := 23) rfl (.cons (s := 24) rfl (.cons (s := 69) rfl .nil)))))))))) .refl) ?_
                refine run_condT rfl rfl ?_
                refine run_seq ?_
                refine run_region ?_
                refine run_q (.none rfl) rfl rfl (q_assign rfl rfl) ?_
                refine run_nil ?_
                refine run_ret ?_
                exact end1 rfl rfl (by rw [checkV_ok hwa hwb, hinv]; rw [errPs_hit (by omega) (errP_38 (by omega) (by omega)) (by omega)])
              · have g59' := g59
                try simp only [decide_eq_true_eq, decide_eq_false_iff_not, beq_iff_eq, beq_eq_false_iff_ne, bne_iff_ne, bne_eq_false_iff_eq, Bool.not_eq_true', Bool.not_eq_false', ne_eq, Int.not_lt, Int.not_le, Decidable.not_not] at g59'
                refine run_q (.on rfl rfl rfl g59) rfl rfl (q_fieldB (d := 0) rfl Try.underlying40 rfl rfl sz3 rfl) ?_
                refine run_q (.on rfl rfl rfl g59) rfl rfl (q_loadB rfl one3 rfl (.there Sel.here) rfl) ?_
                refine run_q (.on rfl rfl rfl g59) rfl rfl (q_neq rfl rfl rfl) ?_
                refine run_q (.on rfl rfl rfl g59) rfl rfl (q_move rfl rfl) ?_
                refine run_q (.on rfl rfl rfl (by simp; omega)) rfl rfl (q_move rfl rfl) ?_
                refine run_q (.on rfl rfl rfl (by simp; omega)) rfl rfl (q_move rfl rfl) ?_
                refine run_q (.on rfl rfl rfl (by simp; omega)) rfl rfl (q_len rfl Try.underlying22 rfl) ?_
                refine run_q (.on rfl rfl rfl (by simp; omega)) rfl rfl (q_eql rfl rfl rfl) ?_
                refine run_q (.on rfl rfl rfl g59) rfl rfl (q_pickT rfl rfl (by simp; omega) rfl) ?_
                refine run_q (.none rfl) rfl rfl (q_pickF rfl rfl g59 rfl) ?_
                refine run_nil ?_
                refine run_sub (subMk (.cons (s := 0) rfl (.cons (s := 1) rfl (.cons (s := 6) rfl (.cons (s := 8) rfl (.cons (s := 9) rfl (.cons (s := 11) rfl (.cons (s := 22) rfl (.cons (s := 23) rfl (.cons (s := 24) rfl (.cons (s := 69) rfl .nil)))))))))) .refl) ?_
                refine run_cond rfl (fun g69 => ?_) (fun g69 => ?_)
                · have g69' := g69
                  try simp only [decide_eq_true_eq, decide_eq_false_iff_not, beq_iff_eq, beq_eq_false_iff_ne, bne_iff_ne, bne_eq_false_iff_eq, Bool.not_eq_true', Bool.not_eq_false', ne_eq, Int.not_lt, Int.not_le, Decidable.not_not] at g69'
                  refine run_seq ?_
                  refine run_region ?_
                  refine run_q (.none rfl) rfl rfl (q_assign rfl rfl) ?_
                  refine run_nil ?_
                  refine run_ret ?_
                  exact end1 rfl rfl (by rw [checkV_ok hwa hwb, hinv]; rw [errPs_hit (by omega) (errP_38 (by omega) (by omega)) (by omega)])
                · have g69' := g69
                  try simp only [decide_eq_true_eq, decide_eq_false_iff_not, beq_iff_eq, beq_eq_false_iff_ne, bne_iff_ne, bne_eq_false_iff_eq, Bool.not_eq_true', Bool.not_eq_false', ne_eq, Int.not_lt, Int.not_le, Decidable.not_not] at g69'
                  refine run_skip ?_
                  refine run_seq ?_
                  refine run_seq ?_
                  refine run_draw [(0, 0), (1, 0), (2, 0), (3, 0), (4, 0), (5, 0), (6, 0), (7, 0), (8, 0), (9, 0), (10, 0), (11, 0), (12, 0), (13, 0), (14, 0), (15, 0), (16, 0)] mixed (by kernel_rfl) .refl ?_
                  refine d_q rfl rfl (.none rfl) rfl rfl (q_fieldB (d := 0) rfl Try.underlying40 rfl rfl sz3 rfl) ?_
                  refine d_q rfl rfl (.none rfl) rfl rfl (q_loadB rfl one3 rfl (.there Sel.here) rfl) ?_
                  refine d_q rfl rfl (.none rfl) rfl rfl (q_leq rfl rfl rfl) ?_
                  refine d_q rfl rfl (.none rfl) rfl rfl (q_move rfl rfl) ?_
                  refine d_q rfl rfl (.on rfl rfl rfl (decide_eq_true (by omega))) rfl rfl (q_fieldB (d := 0) rfl Try.underlying40 rfl rfl sz3 rfl) ?_
                  refine d_q rfl rfl (.on rfl rfl rfl (decide_eq_true (by omega))) rfl rfl (q_loadB rfl one3 rfl (.there Sel.here) rfl) ?_
                  refine d_q rfl rfl (.on rfl rfl rfl (decide_eq_true (by omega))) rfl rfl (q_move rfl rfl) ?_
                  refine d_q rfl rfl (.on rfl rfl rfl (decide_eq_true (by omega))) rfl rfl (q_move rfl rfl) ?_
                  refine d_q rfl rfl (.on rfl rfl rfl (decide_eq_true (by omega))) rfl rfl (q_indexS (q := i) rfl Try.underlying22 sz47 rfl rfl (.inp hra .no) (by simp <;> omega) rfl (by omega)) ?_
                  refine d_q rfl rfl (.on rfl rfl rfl (decide_eq_true (by omega))) rfl rfl (q_loadE rfl agg47 rfl (.inp hra .no) (getmap (by omega)) rfl) ?_
                  refine d_q rfl rfl (.on rfl rfl rfl (decide_eq_true (by omega))) rfl rfl (q_move rfl rfl) ?_
                  refine d_q rfl rfl (.on rfl rfl rfl (decide_eq_true (by omega))) rfl rfl (q_move rfl rfl) ?_
                  refine d_q rfl rfl (.on rfl rfl rfl (decide_eq_true (by omega))) rfl rfl (q_indexS (q := k) rfl Try.underlying22 sz47 rfl rfl (.inp hrb .no) (by simp <;> omega) rfl (by omega)) ?_
                  refine d_q rfl rfl (.on rfl rfl rfl (decide_eq_true (by omega))) rfl rfl (q_loadE rfl agg47 rfl (.inp hrb .no) (getmap (by omega)) rfl) ?_
                  refine d_q rfl rfl (.on rfl rfl rfl (decide_eq_true (by omega))) rfl rfl (q_call rfl call43 (.cons rfl (.cons rfl Evs.nil)) (fun w hk hm => kind_just _ _ _)) ?_
                  refine d_q rfl rfl (.on rfl rfl rfl (decide_eq_true (by omega))) rfl rfl (q_neq rfl rfl rfl) ?_
                  refine d_q rfl rfl (.none rfl) rfl rfl (q_pickT rfl rfl (decide_eq_true (by omega)) rfl) ?_
                  refine d_nil ?_
                  refine run_sub (subMk (.cons (s := 0) rfl (.cons (s := 1) rfl (.cons (s := 6) rfl (.cons (s := 8) rfl (.cons (s := 9) rfl (.cons (s := 11) rfl (.cons (s := 22) rfl (.cons (s := 23) rfl (.cons (s := 24) rfl (.cons (s := 86) rfl .nil)))))))))) .refl) ?_
                  refine run_cond rfl (fun g86 => ?_) (fun g86 => ?_)
                  · have g86' := g86
                    try simp only [decide_eq_true_eq, decide_eq_false_iff_not, beq_iff_eq, beq_eq_false_iff_ne, bne_iff_ne, bne_eq_false_iff_eq, Bool.not_eq_true', Bool.not_eq_false', ne_eq, Int.not_lt, Int.not_le, Decidable.not_not] at g86'
                    refine run_seq ?_
                    refine run_region ?_
                    refine run_q (.none rfl) rfl rfl (q_assign rfl rfl) ?_
                    refine run_nil ?_
                    refine run_ret ?_
                    exact end1 rfl rfl (by rw [checkV_ok hwa hwb, hinv]; rw [errPs_hit (by omega) (errP_k (by omega) (by omega) (by omega) (by omega) (by omega) (by omega) g86') (by omega)])
                  · have g86' := g86
                    try simp only [decide_eq_true_eq, decide_eq_false_iff_not, beq_iff_eq, beq_eq_false_iff_ne, bne_iff_ne, bne_eq_false_iff_eq, Bool.not_eq_true', Bool.not_eq_false', ne_eq, Int.not_lt, Int.not_le, Decidable.not_not] at g86'
                    refine run_skip ?_
                    refine run_seq ?_
                    refine run_seq ?_
                    refine run_region ?_
                    refine run_q (.none rfl) rfl rfl (q_fieldB (d := 0) rfl Try.underlying40 rfl rfl sz3 rfl) ?_
                    refine run_q (.none rfl) rfl rfl (q_loadB rfl one3 rfl (.there Sel.here) rfl) ?_
                    refine run_q (.none rfl) rfl rfl (q_neq rfl rfl rfl) ?_
                    refine run_nil ?_
                    refine run_sub (subMk (.cons (s := 0) rfl (.cons (s := 1) rfl (.cons (s := 6) rfl (.cons (s := 8) rfl (.cons (s := 9) rfl (.cons (s := 11) rfl (.cons (s := 22) rfl (.cons (s := 23) rfl (.cons (s := 24) rfl (.cons (s := 89) rfl .nil)))))))))) .refl) ?_
                    refine run_condT rfl (by simp; omega) ?_
                    refine run_region ?_
                    refine run_q (.none rfl) rfl rfl (q_move rfl rfl) ?_
                    refine run_q (.none rfl) rfl rfl (q_add rfl rfl rfl (by omega)) ?_
                    refine run_q (.none rfl) rfl rfl (q_assign rfl rfl) ?_
                    refine run_nil ?_
                    refine run_sub (subMk (.cons (s := 0) rfl (.cons (s := 1) rfl (.cons (s := 6) rfl (.cons (s := 8) rfl (.cons (s := 9) rfl (.cons (s := 11) rfl (.cons (s := 22) rfl (.cons (s := 23) rfl (.cons (s := 24) rfl .nil))))))))) .refl) ?_
                    refine run_seq ?_
                    refine run_region ?_
                    refine run_q (.none rfl) rfl rfl (q_fieldB (d := 0) rfl Try.underlying40 rfl rfl sz3 rfl) ?_
                    refine run_q (.none rfl) rfl rfl (q_loadB rfl one3 rfl (.there Sel.here) rfl) ?_
                    refine run_q (.none rfl) rfl rfl (q_neq rfl rfl rfl) ?_
                    refine run_nil ?_
                    refine run_sub (subMk (.cons (s := 0) rfl (.cons (s := 1) rfl (.cons (s := 6) rfl (.cons (s := 8) rfl (.cons (s := 9) rfl (.cons (s := 22) rfl (.cons (s := 23) rfl (.cons (s := 24) rfl (.cons (s := 94) rfl .nil))))))))) .refl) ?_
                    refine run_condT rfl (by simp; omega) ?_
                    refine run_region ?_
                    refine run_q (.none rfl) rfl rfl (q_move rfl rfl) ?_
                    refine run_q (.none rfl) rfl rfl (q_add rfl rfl rfl (by omega)) ?_
                    refine run_q (.none rfl) rfl rfl (q_assign rfl rfl) ?_
                    refine run_nil ?_
                    refine run_sub (subMk (.cons (s := 0) rfl (.cons (s := 1) rfl (.cons (s := 6) rfl (.cons (s := 8) rfl (.cons (s := 9) rfl (.cons (s := 22) rfl (.cons (s := 23) rfl (.cons (s := 24) rfl .nil)))))))) .refl) ?_
                    refine run_blk ?_
                    refine run_region ?_
                    refine run_q (.none rfl) rfl rfl (q_add rfl rfl rfl (by omega)) ?_
                    refine run_q (.none rfl) rfl rfl (q_move rfl rfl) ?_
                    refine run_nil ?_
                    exact run_again (j + 1, i + 1, k + 1) (by (try dsimp only); exact ⟨by omega, by omega, by omega, by rw [hinv, errPs_J (by omega) (by omega) (by omega) (by omega) (by omega) (by omega) (by omega) g86']⟩) (by (try dsimp only); omega) (subMk (.cons' (s := 24) rfl rfl (.cons' (s := 8) rfl rfl (.cons' (s := 9) rfl rfl (.cons (s := 0) rfl (.cons (s := 1) rfl (.cons (s := 6) rfl (.cons (s := 22) rfl (.cons (s := 23) rfl .nil)))))))) (.cons (.there (.there Sel.here)) .refl .nil))
    · have g25' := g25
      try simp only [decide_eq_true_eq, decide_eq_false_iff_not, beq_iff_eq, beq_eq_false_iff_ne, bne_iff_ne, bne_eq_false_iff_eq, Bool.not_eq_true', Bool.not_eq_false', ne_eq, Int.not_lt, Int.not_le, Decidable.not_not] at g25'
      refine run_exit rfl ?_
      refine run_sub (subMk (.cons (s := 0) rfl (.cons (s := 1) rfl (.cons (s := 6) rfl (.cons (s := 8) rfl (.cons (s := 9) rfl .nil))))) .refl) ?_
      refine run_seq ?_
      refine run_seq ?_
      refine run_region ?_
      refine run_q (.none rfl) rfl rfl (q_move rfl rfl) ?_
      refine run_q (.none rfl) rfl rfl (q_move rfl rfl) ?_
      refine run_q (.none rfl) rfl rfl (q_len rfl Try.underlying22 rfl) ?_
      refine run_q (.none rfl) rfl rfl (q_lss rfl rfl rfl) ?_
      refine run_q (.none rfl) rfl rfl (q_move rfl rfl) ?_
      refine run_split 102 rfl (fun g102 => ?_) (fun g102 => ?_)
      · have g102' := g102
        try simp only [decide_eq_true_eq, decide_eq_false_iff_not, beq_iff_eq, beq_eq_false_iff_ne, bne_iff_ne, bne_eq_false_iff_eq, Bool.not_eq_true', Bool.not_eq_false', ne_eq, Int.not_lt, Int.not_le, Decidable.not_not] at g102'
        refine run_off (.no rfl rfl rfl g102) rfl rfl ?_
        refine run_off (.no rfl rfl rfl g102) rfl rfl ?_
        refine run_off (.no rfl rfl rfl g102) rfl rfl ?_
        refine run_off (.no rfl rfl rfl g102) rfl rfl ?_
        refine run_q (.none rfl) rfl rfl (q_pickT rfl rfl g102 rfl) ?_
        refine run_nil ?_
        refine run_sub (subMk (.cons (s := 6) rfl (.cons (s := 107) rfl .nil)) .refl) ?_
        refine run_condT rfl rfl ?_
        refine run_seq ?_
        refine run_region ?_
        refine run_q (.none rfl) rfl rfl (q_assign rfl rfl) ?_
        refine run_nil ?_
        refine run_ret ?_
        exact end1 rfl rfl (by rw [checkV_ok hwa hwb, hinv]; rw [errPs_end (by omega), if_pos (by omega)])
      · have g102' := g102
        try simp only [decide_eq_true_eq, decide_eq_false_iff_not, beq_iff_eq, beq_eq_false_iff_ne, bne_iff_ne, bne_eq_false_iff_eq, Bool.not_eq_true', Bool.not_eq_false', ne_eq, Int.not_lt, Int.not_le, Decidable.not_not] at g102'
        refine run_q (.on rfl rfl rfl g102) rfl rfl (q_move rfl rfl) ?_
        refine run_q (.on rfl rfl rfl g102) rfl rfl (q_move rfl rfl) ?_
        refine run_q (.on rfl rfl rfl g102) rfl rfl (q_len rfl Try.underlying22 rfl) ?_
        refine run_q (.on rfl rfl rfl g102) rfl rfl (q_lss rfl rfl rfl) ?_
        refine run_q (.none rfl) rfl rfl (q_pickF rfl rfl g102 rfl) ?_
        refine run_nil ?_
        refine run_sub (subMk (.cons (s := 6) rfl (.cons (s := 107) rfl .nil)) .refl) ?_
        refine run_cond rfl (fun g107 => ?_) (fun g107 => ?_)
        · have g107' := g107
          try simp only [decide_eq_true_eq, decide_eq_false_iff_not, beq_iff_eq, beq_eq_false_iff_ne, bne_iff_ne, bne_eq_false_iff_eq, Bool.not_eq_true', Bool.not_eq_false', ne_eq, Int.not_lt, Int.not_le, Decidable.not_not] at g107'
          refine run_seq ?_
          refine run_region ?_
          refine run_q (.none rfl) rfl rfl (q_assign rfl rfl) ?_
          refine run_nil ?_
          refine run_ret ?_
          exact end1 rfl rfl (by rw [checkV_ok hwa hwb, hinv]; rw [errPs_end (by omega), if_pos (by omega)])
        · have g107' := g107
          try simp only [decide_eq_true_eq, decide_eq_false_iff_not, beq_iff_eq, beq_eq_false_iff_ne, bne_iff_ne, bne_eq_false_iff_eq, Bool.not_eq_true', Bool.not_eq_false', ne_eq, Int.not_lt, Int.not_le, Decidable.not_not] at g107'
          refine run_skip ?_
          refine run_seq ?_
          refine run_region ?_
          refine run_q (.none rfl) rfl rfl (q_assign rfl rfl) ?_
          refine run_nil ?_
          refine run_ret ?_
          exact end1 rfl rfl (by rw [checkV_ok hwa hwb, hinv]; rw [errPs_end (by omega), if_neg (by omega)])

end Go.Proofs.Ytbkmmjpklkallaa
