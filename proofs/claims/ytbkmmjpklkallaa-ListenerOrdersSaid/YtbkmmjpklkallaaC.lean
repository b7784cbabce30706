/- The reference's small functions. -/
import Derived.Test.YtbkmmjpklkallaaB
set_option linter.unusedSimpArgs false
set_option linter.unusedVariables false
namespace Go.Proofs.Ytbkmmjpklkallaa
open Go Go.RowKit Hr

theorem call28 : Hr.Callable Try.prog 28 := fun args w => by kernel_rfl

theorem cut_just (A : Option Addr) (n c : Nat) (W : World) (h : n ≤ c) : Calls Try.prog 12 #[.slice A n c] W (Hr.Just W (.slice A (min n 24) c)) := by
  refine Just.of_ret ?_
  refine enterA (X := nX) (vs := [.slice A n c]) Try.func12 Try.ntmps12 rfl rfl Mem.nil ?_
  refine run_seq ?_
  refine run_region ?_
  refine run_q (.none rfl) rfl rfl (q_assign rfl rfl) ?_
  refine run_nil ?_
  refine run_seq ?_
  refine run_region ?_
  refine run_q (.none rfl) rfl rfl (q_move rfl rfl) ?_
  refine run_q (.none rfl) rfl rfl (q_move rfl rfl) ?_
  refine run_q (.none rfl) rfl rfl (q_len rfl Try.underlying22 rfl) ?_
  refine run_q (.none rfl) rfl rfl (q_min2 rfl rfl rfl) ?_
  refine run_q (.none rfl) rfl rfl (q_sliceH rfl Try.underlying22 sz47 rfl rfl (by omega)) ?_
  refine run_q (.none rfl) rfl rfl (q_assign rfl rfl) ?_
  refine run_nil ?_
  refine run_sub (subMk (.cons (s := 2) rfl .nil) .refl) ?_
  refine run_ret ?_
  exact end1 rfl rfl (by rw [show (min (n : Int) 24).toNat = min n 24 from by omega])

theorem properR_just (p : Note) (W : World)  : Calls Try.prog 28 #[p.val] W (Hr.Just W (.bool (properB p))) := by
  refine Just.of_ret ?_
  refine enterA (X := nX) (vs := [p.val]) Try.func28 Try.ntmps28 rfl rfl Mem.nil ?_
  refine run_seq ?_
  refine run_region ?_
  refine run_h (.none rfl) (h_box rfl rfl rfl rfl rfl) ?_
  rintro b1 -
  refine run_q (.none rfl) rfl rfl (q_assign rfl rfl) ?_
  refine run_nil ?_
  refine run_seq ?_
  refine run_region ?_
  refine run_q (.none rfl) rfl rfl (q_fieldB (d := 0) rfl Try.underlying47 rfl rfl sz3 rfl) ?_
  refine run_q (.none rfl) rfl rfl (q_loadB rfl one3 rfl Sel.here rfl) ?_
  refine run_q (.none rfl) rfl rfl (q_geq rfl rfl rfl) ?_
  refine run_q (.none rfl) rfl rfl (q_move rfl rfl) ?_
  refine run_split 6 rfl (fun g6 => ?_) (fun g6 => ?_)
  · have g6' := g6
    try simp only [decide_eq_true_eq, decide_eq_false_iff_not, beq_iff_eq, beq_eq_false_iff_ne, bne_iff_ne, bne_eq_false_iff_eq, Bool.not_eq_true', Bool.not_eq_false', ne_eq, Int.not_lt, Int.not_le, Decidable.not_not] at g6'
    refine run_q (.on rfl rfl rfl g6) rfl rfl (q_fieldB (d := 0) rfl Try.underlying47 rfl rfl sz3 rfl) ?_
    refine run_q (.on rfl rfl rfl g6) rfl rfl (q_loadB rfl one3 rfl Sel.here rfl) ?_
    refine run_q (.on rfl rfl rfl g6) rfl rfl (q_leq rfl rfl rfl) ?_
    refine run_q (.none rfl) rfl rfl (q_pickT rfl rfl g6 rfl) ?_
    refine run_q (.none rfl) rfl rfl (q_move rfl rfl) ?_
    refine run_split 11 rfl (fun g11 => ?_) (fun g11 => ?_)
    · have g11' := g11
      try simp only [decide_eq_true_eq, decide_eq_false_iff_not, beq_iff_eq, beq_eq_false_iff_ne, bne_iff_ne, bne_eq_false_iff_eq, Bool.not_eq_true', Bool.not_eq_false', ne_eq, Int.not_lt, Int.not_le, Decidable.not_not] at g11'
      refine run_q (.on rfl rfl rfl g11) rfl rfl (q_fieldB (d := 1) rfl Try.underlying47 rfl rfl sz3 rfl) ?_
      refine run_q (.on rfl rfl rfl g11) rfl rfl (q_loadB rfl one3 rfl Sel.here rfl) ?_
      refine run_q (.on rfl rfl rfl g11) rfl rfl (q_fieldB (d := 0) rfl Try.underlying47 rfl rfl sz3 rfl) ?_
      refine run_q (.on rfl rfl rfl g11) rfl rfl (q_loadB rfl one3 rfl Sel.here rfl) ?_
      refine run_q (.on rfl rfl rfl g11) rfl rfl (q_geq rfl rfl rfl) ?_
      refine run_q (.none rfl) rfl rfl (q_pickT rfl rfl g11 rfl) ?_
      refine run_q (.none rfl) rfl rfl (q_move rfl rfl) ?_
      refine run_split 18 rfl (fun g18 => ?_) (fun g18 => ?_)
      · have g18' := g18
        try simp only [decide_eq_true_eq, decide_eq_false_iff_not, beq_iff_eq, beq_eq_false_iff_ne, bne_iff_ne, bne_eq_false_iff_eq, Bool.not_eq_true', Bool.not_eq_false', ne_eq, Int.not_lt, Int.not_le, Decidable.not_not] at g18'
        refine run_q (.on rfl rfl rfl g18) rfl rfl (q_fieldB (d := 1) rfl Try.underlying47 rfl rfl sz3 rfl) ?_
        refine run_q (.on rfl rfl rfl g18) rfl rfl (q_loadB rfl one3 rfl Sel.here rfl) ?_
        refine run_q (.on rfl rfl rfl g18) rfl rfl (q_leq rfl rfl rfl) ?_
        refine run_q (.none rfl) rfl rfl (q_pickT rfl rfl g18 rfl) ?_
        refine run_q (.none rfl) rfl rfl (q_move rfl rfl) ?_
        refine run_split 23 rfl (fun g23 => ?_) (fun g23 => ?_)
        · have g23' := g23
          try simp only [decide_eq_true_eq, decide_eq_false_iff_not, beq_iff_eq, beq_eq_false_iff_ne, bne_iff_ne, bne_eq_false_iff_eq, Bool.not_eq_true', Bool.not_eq_false', ne_eq, Int.not_lt, Int.not_le, Decidable.not_not] at g23'
          refine run_q (.on rfl rfl rfl g23) rfl rfl (q_fieldB (d := 2) rfl Try.underlying47 rfl rfl sz3 rfl) ?_
          refine run_q (.on rfl rfl rfl g23) rfl rfl (q_loadB rfl one3 rfl Sel.here rfl) ?_
          refine run_q (.on rfl rfl rfl g23) rfl rfl (q_geq rfl rfl rfl) ?_
          refine run_q (.none rfl) rfl rfl (q_pickT rfl rfl g23 rfl) ?_
          refine run_q (.none rfl) rfl rfl (q_move rfl rfl) ?_
          refine run_split 28 rfl (fun g28 => ?_) (fun g28 => ?_)
          · have g28' := g28
            try simp only [decide_eq_true_eq, decide_eq_false_iff_not, beq_iff_eq, beq_eq_false_iff_ne, bne_iff_ne, bne_eq_false_iff_eq, Bool.not_eq_true', Bool.not_eq_false', ne_eq, Int.not_lt, Int.not_le, Decidable.not_not] at g28'
            refine run_q (.on rfl rfl rfl g28) rfl rfl (q_fieldB (d := 2) rfl Try.underlying47 rfl rfl sz3 rfl) ?_
            refine run_q (.on rfl rfl rfl g28) rfl rfl (q_loadB rfl one3 rfl Sel.here rfl) ?_
            refine run_q (.on rfl rfl rfl g28) rfl rfl (q_leq rfl rfl rfl) ?_
            refine run_q (.none rfl) rfl rfl (q_pickT rfl rfl g28 rfl) ?_
            refine run_q (.none rfl) rfl rfl (q_move rfl rfl) ?_
            refine run_split 33 rfl (fun g33 => ?_) (fun g33 => ?_)
            · have g33' := g33
              try simp only [decide_eq_true_eq, decide_eq_false_iff_not, beq_iff_eq, beq_eq_false_iff_ne, bne_iff_ne, bne_eq_false_iff_eq, Bool.not_eq_true', Bool.not_eq_false', ne_eq, Int.not_lt, Int.not_le, Decidable.not_not] at g33'
              refine run_q (.on rfl rfl rfl g33) rfl rfl (q_fieldB (d := 3) rfl Try.underlying47 rfl rfl sz3 rfl) ?_
              refine run_q (.on rfl rfl rfl g33) rfl rfl (q_loadB rfl one3 rfl Sel.here rfl) ?_
              refine run_q (.on rfl rfl rfl g33) rfl rfl (q_geq rfl rfl rfl) ?_
              refine run_q (.none rfl) rfl rfl (q_pickT rfl rfl g33 rfl) ?_
              refine run_q (.none rfl) rfl rfl (q_move rfl rfl) ?_
              refine run_split 38 rfl (fun g38 => ?_) (fun g38 => ?_)
              · have g38' := g38
                try simp only [decide_eq_true_eq, decide_eq_false_iff_not, beq_iff_eq, beq_eq_false_iff_ne, bne_iff_ne, bne_eq_false_iff_eq, Bool.not_eq_true', Bool.not_eq_false', ne_eq, Int.not_lt, Int.not_le, Decidable.not_not] at g38'
                refine run_q (.on rfl rfl rfl g38) rfl rfl (q_fieldB (d := 3) rfl Try.underlying47 rfl rfl sz3 rfl) ?_
                refine run_q (.on rfl rfl rfl g38) rfl rfl (q_loadB rfl one3 rfl Sel.here rfl) ?_
                refine run_q (.on rfl rfl rfl g38) rfl rfl (q_leq rfl rfl rfl) ?_
                refine run_q (.none rfl) rfl rfl (q_pickT rfl rfl g38 rfl) ?_
                refine run_q (.none rfl) rfl rfl (q_move rfl rfl) ?_
                refine run_split 43 rfl (fun g43 => ?_) (fun g43 => ?_)
                · have g43' := g43
                  try simp only [decide_eq_true_eq, decide_eq_false_iff_not, beq_iff_eq, beq_eq_false_iff_ne, bne_iff_ne, bne_eq_false_iff_eq, Bool.not_eq_true', Bool.not_eq_false', ne_eq, Int.not_lt, Int.not_le, Decidable.not_not] at g43'
                  refine run_q (.on rfl rfl rfl g43) rfl rfl (q_fieldB (d := 4) rfl Try.underlying47 rfl rfl sz3 rfl) ?_
                  refine run_q (.on rfl rfl rfl g43) rfl rfl (q_loadB rfl one3 rfl Sel.here rfl) ?_
                  refine run_q (.on rfl rfl rfl g43) rfl rfl (q_geq rfl rfl rfl) ?_
                  refine run_q (.none rfl) rfl rfl (q_pickT rfl rfl g43 rfl) ?_
                  refine run_q (.none rfl) rfl rfl (q_assign rfl rfl) ?_
                  refine run_nil ?_
                  refine run_sub (subMk (.cons (s := 2) rfl .nil) .refl) ?_
                  refine run_ret ?_
                  exact end1 rfl rfl (by simp [properB, inB, *]; try omega)
                · have g43' := g43
                  try simp only [decide_eq_true_eq, decide_eq_false_iff_not, beq_iff_eq, beq_eq_false_iff_ne, bne_iff_ne, bne_eq_false_iff_eq, Bool.not_eq_true', Bool.not_eq_false', ne_eq, Int.not_lt, Int.not_le, Decidable.not_not] at g43'
                  refine run_off (.no rfl rfl rfl g43) rfl rfl ?_
                  refine run_off (.no rfl rfl rfl g43) rfl rfl ?_
                  refine run_off (.no rfl rfl rfl g43) rfl rfl ?_
                  refine run_q (.none rfl) rfl rfl (q_pickF rfl rfl g43 rfl) ?_
                  refine run_q (.none rfl) rfl rfl (q_assign rfl rfl) ?_
                  refine run_nil ?_
                  refine run_sub (subMk (.cons (s := 2) rfl .nil) .refl) ?_
                  refine run_ret ?_
                  exact end1 rfl rfl (by simp [properB, inB, *]; try omega)
              · have g38' := g38
                try simp only [decide_eq_true_eq, decide_eq_false_iff_not, beq_iff_eq, beq_eq_false_iff_ne, bne_iff_ne, bne_eq_false_iff_eq, Bool.not_eq_true', Bool.not_eq_false', ne_eq, Int.not_lt, Int.not_le, Decidable.not_not] at g38'
                refine run_off (.no rfl rfl rfl g38) rfl rfl ?_
                refine run_off (.no rfl rfl rfl g38) rfl rfl ?_
                refine run_off (.no rfl rfl rfl g38) rfl rfl ?_
                refine run_q (.none rfl) rfl rfl (q_pickF rfl rfl g38 rfl) ?_
                refine run_q (.none rfl) rfl rfl (q_move rfl rfl) ?_
                refine run_off (.no rfl rfl rfl rfl) rfl rfl ?_
                refine run_off (.no rfl rfl rfl rfl) rfl rfl ?_
                refine run_off (.no rfl rfl rfl rfl) rfl rfl ?_
                refine run_q (.none rfl) rfl rfl (q_pickF rfl rfl rfl rfl) ?_
                refine run_q (.none rfl) rfl rfl (q_assign rfl rfl) ?_
                refine run_nil ?_
                refine run_sub (subMk (.cons (s := 2) rfl .nil) .refl) ?_
                refine run_ret ?_
                exact end1 rfl rfl (by simp [properB, inB, *]; try omega)
            · have g33' := g33
              try simp only [decide_eq_true_eq, decide_eq_false_iff_not, beq_iff_eq, beq_eq_false_iff_ne, bne_iff_ne, bne_eq_false_iff_eq, Bool.not_eq_true', Bool.not_eq_false', ne_eq, Int.not_lt, Int.not_le, Decidable.not_not] at g33'
              refine run_off (.no rfl rfl rfl g33) rfl rfl ?_
              refine run_off (.no rfl rfl rfl g33) rfl rfl ?_
              refine run_off (.no rfl rfl rfl g33) rfl rfl ?_
              refine run_q (.none rfl) rfl rfl (q_pickF rfl rfl g33 rfl) ?_
              refine run_q (.none rfl) rfl rfl (q_move rfl rfl) ?_
              refine run_off (.no rfl rfl rfl rfl) rfl rfl ?_
              refine run_off (.no rfl rfl rfl rfl) rfl rfl ?_
              refine run_off (.no rfl rfl rfl rfl) rfl rfl ?_
              refine run_q (.none rfl) rfl rfl (q_pickF rfl rfl rfl rfl) ?_
              refine run_q (.none rfl) rfl rfl (q_move rfl rfl) ?_
              refine run_off (.no rfl rfl rfl rfl) rfl rfl ?_
              refine run_off (.no rfl rfl rfl rfl) rfl rfl ?_
              refine run_off (.no rfl rfl rfl rfl) rfl rfl ?_
              refine run_q (.none rfl) rfl rfl (q_pickF rfl rfl rfl rfl) ?_
              refine run_q (.none rfl) rfl rfl (q_assign rfl rfl) ?_
              refine run_nil ?_
              refine run_sub (subMk (.cons (s := 2) rfl .nil) .refl) ?_
              refine run_ret ?_
              exact end1 rfl rfl (by simp [properB, inB, *]; try omega)
          · have g28' := g28
            try simp only [decide_eq_true_eq, decide_eq_false_iff_not, beq_iff_eq, beq_eq_false_iff_ne, bne_iff_ne, bne_eq_false_iff_eq, Bool.not_eq_true', Bool.not_eq_false', ne_eq, Int.not_lt, Int.not_le, Decidable.not_not] at g28'
            refine run_off (.no rfl rfl rfl g28) rfl rfl ?_
            refine run_off (.no rfl rfl rfl g28) rfl rfl ?_
            refine run_off (.no rfl rfl rfl g28) rfl rfl ?_
            refine run_q (.none rfl) rfl rfl (q_pickF rfl rfl g28 rfl) ?_
            refine run_q (.none rfl) rfl rfl (q_move rfl rfl) ?_
            refine run_off (.no rfl rfl rfl rfl) rfl rfl ?_
            refine run_off (.no rfl rfl rfl rfl) rfl rfl ?_
            refine run_off (.no rfl rfl rfl rfl) rfl rfl ?_
            refine run_q (.none rfl) rfl rfl (q_pickF rfl rfl rfl rfl) ?_
            refine run_q (.none rfl) rfl rfl (q_move rfl rfl) ?_
            refine run_off (.no rfl rfl rfl rfl) rfl rfl ?_
            refine run_off (.no rfl rfl rfl rfl) rfl rfl ?_
            refine run_off (.no rfl rfl rfl rfl) rfl rfl ?_
            refine run_q (.none rfl) rfl rfl (q_pickF rfl rfl rfl rfl) ?_
            refine run_q (.none rfl) rfl rfl (q_move rfl rfl) ?_
            refine run_off (.no rfl rfl rfl rfl) rfl rfl ?_
            refine run_off (.no rfl rfl rfl rfl) rfl rfl ?_
            refine run_off (.no rfl rfl rfl rfl) rfl rfl ?_
            refine run_q (.none rfl) rfl rfl (q_pickF rfl rfl rfl rfl) ?_
            refine run_q (.none rfl) rfl rfl (q_assign rfl rfl) ?_
            refine run_nil ?_
            refine run_sub (subMk (.cons (s := 2) rfl .nil) .refl) ?_
            refine run_ret ?_
            exact end1 rfl rfl (by simp [properB, inB, *]; try omega)
        · have g23' := g23
          try simp only [decide_eq_true_eq, decide_eq_false_iff_not, beq_iff_eq, beq_eq_false_iff_ne, bne_iff_ne, bne_eq_false_iff_eq, Bool.not_eq_true', Bool.not_eq_false', ne_eq, Int.not_lt, Int.not_le, Decidable.not_not] at g23'
          refine run_off (.no rfl rfl rfl g23) rfl rfl ?_
          refine run_off (.no rfl rfl rfl g23) rfl rfl ?_
          refine run_off (.no rfl rfl rfl g23) rfl rfl ?_
          refine run_q (.none rfl) rfl rfl (q_pickF rfl rfl g23 rfl) ?_
          refine run_q (.none rfl) rfl rfl (q_move rfl rfl) ?_
          refine run_off (.no rfl rfl rfl rfl) rfl rfl ?_
          refine run_off (.no rfl rfl rfl rfl) rfl rfl ?_
          refine run_off (.no rfl rfl rfl rfl) rfl rfl ?_
          refine run_q (.none rfl) rfl rfl (q_pickF rfl rfl rfl rfl) ?_
          refine run_q (.none rfl) rfl rfl (q_move rfl rfl) ?_
          refine run_off (.no rfl rfl rfl rfl) rfl rfl ?_
          refine run_off (.no rfl rfl rfl rfl) rfl rfl ?_
          refine run_off (.no rfl rfl rfl rfl) rfl rfl ?_
          refine run_q (.none rfl) rfl rfl (q_pickF rfl rfl rfl rfl) ?_
          refine run_q (.none rfl) rfl rfl (q_move rfl rfl) ?_
          refine run_off (.no rfl rfl rfl rfl) rfl rfl ?_
          refine run_off (.no rfl rfl rfl rfl) rfl rfl ?_
          refine run_off (.no rfl rfl rfl rfl) rfl rfl ?_
          refine run_q (.none rfl) rfl rfl (q_pickF rfl rfl rfl rfl) ?_
          refine run_q (.none rfl) rfl rfl (q_move rfl rfl) ?_
          refine run_off (.no rfl rfl rfl rfl) rfl rfl ?_
          refine run_off (.no rfl rfl rfl rfl) rfl rfl ?_
          refine run_off (.no rfl rfl rfl rfl) rfl rfl ?_
          refine run_q (.none rfl) rfl rfl (q_pickF rfl rfl rfl rfl) ?_
          refine run_q (.none rfl) rfl rfl (q_assign rfl rfl) ?_
          refine run_nil ?_
          refine run_sub (subMk (.cons (s := 2) rfl .nil) .refl) ?_
          refine run_ret ?_
          exact end1 rfl rfl (by simp [properB, inB, *]; try omega)
      · have g18' := g18
        try simp only [decide_eq_true_eq, decide_eq_false_iff_not, beq_iff_eq, beq_eq_false_iff_ne, bne_iff_ne, bne_eq_false_iff_eq, Bool.not_eq_true', Bool.not_eq_false', ne_eq, Int.not_lt, Int.not_le, Decidable.not_not] at g18'
        refine run_off (.no rfl rfl rfl g18) rfl rfl ?_
        refine run_off (.no rfl rfl rfl g18) rfl rfl ?_
        refine run_off (.no rfl rfl rfl g18) rfl rfl ?_
        refine run_q (.none rfl) rfl rfl (q_pickF rfl rfl g18 rfl) ?_
        refine run_q (.none rfl) rfl rfl (q_move rfl rfl) ?_
        refine run_off (.no rfl rfl rfl rfl) rfl rfl ?_
        refine run_off (.no rfl rfl rfl rfl) rfl rfl ?_
        refine run_off (.no rfl rfl rfl rfl) rfl rfl ?_
        refine run_q (.none rfl) rfl rfl (q_pickF rfl rfl rfl rfl) ?_
        refine run_q (.none rfl) rfl rfl (q_move rfl rfl) ?_
        refine run_off (.no rfl rfl rfl rfl) rfl rfl ?_
        refine run_off (.no rfl rfl rfl rfl) rfl rfl ?_
        refine run_off (.no rfl rfl rfl rfl) rfl rfl ?_
        refine run_q (.none rfl) rfl rfl (q_pickF rfl rfl rfl rfl) ?_
        refine run_q (.none rfl) rfl rfl (q_move rfl rfl) ?_
        refine run_off (.no rfl rfl rfl rfl) rfl rfl ?_
        refine run_off (.no rfl rfl rfl rfl) rfl rfl ?_
        refine run_off (.no rfl rfl rfl rfl) rfl rfl ?_
        refine run_q (.none rfl) rfl rfl (q_pickF rfl rfl rfl rfl) ?_
        refine run_q (.none rfl) rfl rfl (q_move rfl rfl) ?_
        refine run_off (.no rfl rfl rfl rfl) rfl rfl ?_
        refine run_off (.no rfl rfl rfl rfl) rfl rfl ?_
        refine run_off (.no rfl rfl rfl rfl) rfl rfl ?_
        refine run_q (.none rfl) rfl rfl (q_pickF rfl rfl rfl rfl) ?_
        refine run_q (.none rfl) rfl rfl (q_move rfl rfl) ?_
        refine run_off (.no rfl rfl rfl rfl) rfl rfl ?_
        refine run_off (.no rfl rfl rfl rfl) rfl rfl ?_
        refine run_off (.no rfl rfl rfl rfl) rfl rfl ?_
        refine run_q (.none rfl) rfl rfl (q_pickF rfl rfl rfl rfl) ?_
        refine run_q (.none rfl) rfl rfl (q_assign rfl rfl) ?_
        refine run_nil ?_
        refine run_sub (subMk (.cons (s := 2) rfl .nil) .refl) ?_
        refine run_ret ?_
        exact end1 rfl rfl (by simp [properB, inB, *]; try omega)
    · have g11' := g11
      try simp only [decide_eq_true_eq, decide_eq_false_iff_not, beq_iff_eq, beq_eq_false_iff_ne, bne_iff_ne, bne_eq_false_iff_eq, Bool.not_eq_true', Bool.not_eq_false', ne_eq, Int.not_lt, Int.not_le, Decidable.not_not] at g11'
      refine run_off (.no rfl rfl rfl g11) rfl rfl ?_
      refine run_off (.no rfl rfl rfl g11) rfl rfl ?_
      refine run_off (.no rfl rfl rfl g11) rfl rfl ?_
      refine run_off (.no rfl rfl rfl g11) rfl rfl ?_
      refine run_off (.no rfl rfl rfl g11) rfl rfl ?_
      refine run_q (.none rfl) rfl rfl (q_pickF rfl rfl g11 rfl) ?_
      refine run_q (.none rfl) rfl rfl (q_move rfl rfl) ?_
      refine run_off (.no rfl rfl rfl rfl) rfl rfl ?_
      refine run_off (.no rfl rfl rfl rfl) rfl rfl ?_
      refine run_off (.no rfl rfl rfl rfl) rfl rfl ?_
      refine run_q (.none rfl) rfl rfl (q_pickF rfl rfl rfl rfl) ?_
      refine run_q (.none rfl) rfl rfl (q_move rfl rfl) ?_
      refine run_off (.no rfl rfl rfl rfl) rfl rfl ?_
      refine run_off (.no rfl rfl rfl rfl) rfl rfl ?_
      refine run_off (.no rfl rfl rfl rfl) rfl rfl ?_
      refine run_q (.none rfl) rfl rfl (q_pickF rfl rfl rfl rfl) ?_
      refine run_q (.none rfl) rfl rfl (q_move rfl rfl) ?_
      refine run_off (.no rfl rfl rfl rfl) rfl rfl ?_
      refine run_off (.no rfl rfl rfl rfl) rfl rfl ?_
      refine run_off (.no rfl rfl rfl rfl) rfl rfl ?_
      refine run_q (.none rfl) rfl rfl (q_pickF rfl rfl rfl rfl) ?_
      refine run_q (.none rfl) rfl rfl (q_move rfl rfl) ?_
      refine run_off (.no rfl rfl rfl rfl) rfl rfl ?_
      refine run_off (.no rfl rfl rfl rfl) rfl rfl ?_
      refine run_off (.no rfl rfl rfl rfl) rfl rfl ?_
      refine run_q (.none rfl) rfl rfl (q_pickF rfl rfl rfl rfl) ?_
      refine run_q (.none rfl) rfl rfl (q_move rfl rfl) ?_
      refine run_off (.no rfl rfl rfl rfl) rfl rfl ?_
      refine run_off (.no rfl rfl rfl rfl) rfl rfl ?_
      refine run_off (.no rfl rfl rfl rfl) rfl rfl ?_
      refine run_q (.none rfl) rfl rfl (q_pickF rfl rfl rfl rfl) ?_
      refine run_q (.none rfl) rfl rfl (q_move rfl rfl) ?_
      refine run_off (.no rfl rfl rfl rfl) rfl rfl ?_
      refine run_off (.no rfl rfl rfl rfl) rfl rfl ?_
      refine run_off (.no rfl rfl rfl rfl) rfl rfl ?_
      refine run_q (.none rfl) rfl rfl (q_pickF rfl rfl rfl rfl) ?_
      refine run_q (.none rfl) rfl rfl (q_assign rfl rfl) ?_
      refine run_nil ?_
      refine run_sub (subMk (.cons (s := 2) rfl .nil) .refl) ?_
      refine run_ret ?_
      exact end1 rfl rfl (by simp [properB, inB, *]; try omega)
  · have g6' := g6
    try simp only [decide_eq_true_eq, decide_eq_false_iff_not, beq_iff_eq, beq_eq_false_iff_ne, bne_iff_ne, bne_eq_false_iff_eq, Bool.not_eq_true', Bool.not_eq_false', ne_eq, Int.not_lt, Int.not_le, Decidable.not_not] at g6'
    refine run_off (.no rfl rfl rfl g6) rfl rfl ?_
    refine run_off (.no rfl rfl rfl g6) rfl rfl ?_
    refine run_off (.no rfl rfl rfl g6) rfl rfl ?_
    refine run_q (.none rfl) rfl rfl (q_pickF rfl rfl g6 rfl) ?_
    refine run_q (.none rfl) rfl rfl (q_move rfl rfl) ?_
    refine run_off (.no rfl rfl rfl rfl) rfl rfl ?_
    refine run_off (.no rfl rfl rfl rfl) rfl rfl ?_
    refine run_off (.no rfl rfl rfl rfl) rfl rfl ?_
    refine run_off (.no rfl rfl rfl rfl) rfl rfl ?_
    refine run_off (.no rfl rfl rfl rfl) rfl rfl ?_
    refine run_q (.none rfl) rfl rfl (q_pickF rfl rfl rfl rfl) ?_
    refine run_q (.none rfl) rfl rfl (q_move rfl rfl) ?_
    refine run_off (.no rfl rfl rfl rfl) rfl rfl ?_
    refine run_off (.no rfl rfl rfl rfl) rfl rfl ?_
    refine run_off (.no rfl rfl rfl rfl) rfl rfl ?_
    refine run_q (.none rfl) rfl rfl (q_pickF rfl rfl rfl rfl) ?_
    refine run_q (.none rfl) rfl rfl (q_move rfl rfl) ?_
    refine run_off (.no rfl rfl rfl rfl) rfl rfl ?_
    refine run_off (.no rfl rfl rfl rfl) rfl rfl ?_
    refine run_off (.no rfl rfl rfl rfl) rfl rfl ?_
    refine run_q (.none rfl) rfl rfl (q_pickF rfl rfl rfl rfl) ?_
    refine run_q (.none rfl) rfl rfl (q_move rfl rfl) ?_
    refine run_off (.no rfl rfl rfl rfl) rfl rfl ?_
    refine run_off (.no rfl rfl rfl rfl) rfl rfl ?_
    refine run_off (.no rfl rfl rfl rfl) rfl rfl ?_
    refine run_q (.none rfl) rfl rfl (q_pickF rfl rfl rfl rfl) ?_
    refine run_q (.none rfl) rfl rfl (q_move rfl rfl) ?_
    refine run_off (.no rfl rfl rfl rfl) rfl rfl ?_
    refine run_off (.no rfl rfl rfl rfl) rfl rfl ?_
    refine run_off (.no rfl rfl rfl rfl) rfl rfl ?_
    refine run_q (.none rfl) rfl rfl (q_pickF rfl rfl rfl rfl) ?_
    refine run_q (.none rfl) rfl rfl (q_move rfl rfl) ?_
    refine run_off (.no rfl rfl rfl rfl) rfl rfl ?_
    refine run_off (.no rfl rfl rfl rfl) rfl rfl ?_
    refine run_off (.no rfl rfl rfl rfl) rfl rfl ?_
    refine run_q (.none rfl) rfl rfl (q_pickF rfl rfl rfl rfl) ?_
    refine run_q (.none rfl) rfl rfl (q_move rfl rfl) ?_
    refine run_off (.no rfl rfl rfl rfl) rfl rfl ?_
    refine run_off (.no rfl rfl rfl rfl) rfl rfl ?_
    refine run_off (.no rfl rfl rfl rfl) rfl rfl ?_
    refine run_q (.none rfl) rfl rfl (q_pickF rfl rfl rfl rfl) ?_
    refine run_q (.none rfl) rfl rfl (q_assign rfl rfl) ?_
    refine run_nil ?_
    refine run_sub (subMk (.cons (s := 2) rfl .nil) .refl) ?_
    refine run_ret ?_
    exact end1 rfl rfl (by simp [properB, inB, *]; try omega)

theorem bad_just (l : List Note) (A : Option Addr) (n c : Nat) (W : World) (hr : Rd W A 7 (l.map Note.enc)) (hn : l.length = n) (hb : n ≤ 1000000000000) : Calls Try.prog 15 #[.slice A n c] W (Hr.Just W (.int .i64 (wrongL l))) := by
  refine Just.of_ret ?_
  refine enterA (X := nX) (vs := [.slice A n c]) Try.func15 Try.ntmps15 rfl rfl Mem.nil ?_
  refine run_seq ?_
  refine run_region ?_
  refine run_q (.none rfl) rfl rfl (q_assign rfl rfl) ?_
  refine run_nil ?_
  refine run_seq ?_
  refine run_seq ?_
  refine run_region ?_
  refine run_q (.none rfl) rfl rfl (q_move rfl rfl) ?_
  refine run_q (.none rfl) rfl rfl (q_len rfl Try.underlying22 rfl) ?_
  refine run_q (.none rfl) rfl rfl (q_gtr rfl rfl rfl) ?_
  refine run_nil ?_
  refine run_cond rfl (fun g6 => ?_) (fun g6 => ?_)
  · have g6' := g6
    try simp only [decide_eq_true_eq, decide_eq_false_iff_not, beq_iff_eq, beq_eq_false_iff_ne, bne_iff_ne, bne_eq_false_iff_eq, Bool.not_eq_true', Bool.not_eq_false', ne_eq, Int.not_lt, Int.not_le, Decidable.not_not] at g6'
    refine run_seq ?_
    refine run_region ?_
    refine run_q (.none rfl) rfl rfl (q_assign rfl rfl) ?_
    refine run_nil ?_
    refine run_sub (subMk (.cons (s := 0) rfl (.cons (s := 2) rfl .nil)) .refl) ?_
    refine run_ret ?_
    exact end1 rfl rfl (by simp [wrongL]; omega)
  · have g6' := g6
    try simp only [decide_eq_true_eq, decide_eq_false_iff_not, beq_iff_eq, beq_eq_false_iff_ne, bne_iff_ne, bne_eq_false_iff_eq, Bool.not_eq_true', Bool.not_eq_false', ne_eq, Int.not_lt, Int.not_le, Decidable.not_not] at g6'
    refine run_skip ?_
    refine run_seq ?_
    refine run_seq ?_
    refine run_region ?_
    refine run_q (.none rfl) rfl rfl (q_assign rfl rfl) ?_
    refine run_nil ?_
    refine run_sub (subMk (.cons (s := 0) rfl (.cons (s := 2) rfl (.cons (s := 3) rfl .nil))) .refl) ?_
    refine run_block ?_
    refine run_sub (subMk (.cons (s := 3) rfl (.cons (s := 0) rfl (.cons (s := 2) rfl .nil))) .nil) ?_
    refine run_loopC1M0 (ι := Nat) (fun k => k ≤ n ∧ firstErr (wrongAt l) n 0 = firstErr (wrongAt l) (n - k) k) (fun k => .int .i64 (k : Int))  (fun k => n - k) 0 (by (try dsimp only); exact ⟨by omega, rfl⟩) rfl  ?_
    rintro k hq
    (try dsimp only at hq)
    obtain ⟨hk, hinv⟩ := hq
    show Run _ _ _ _ _ _ _ ⟨(3, .int .i64 (k : Int)) :: _, _⟩
    refine run_seq ?_
    refine run_seq ?_
    refine run_region ?_
    refine run_q (.none rfl) rfl rfl (q_move rfl rfl) ?_
    refine run_q (.none rfl) rfl rfl (q_move rfl rfl) ?_
    refine run_q (.none rfl) rfl rfl (q_len rfl Try.underlying22 rfl) ?_
    refine run_q (.none rfl) rfl rfl (q_lss rfl rfl rfl) ?_
    refine run_nil ?_
    refine run_sub (subMk (.cons (s := 0) rfl (.cons (s := 2) rfl (.cons (s := 3) rfl (.cons (s := 10) rfl .nil)))) .refl) ?_
    refine run_cond rfl (fun g10 => ?_) (fun g10 => ?_)
    · have g10' := g10
      try simp only [decide_eq_true_eq, decide_eq_false_iff_not, beq_iff_eq, beq_eq_false_iff_ne, bne_iff_ne, bne_eq_false_iff_eq, Bool.not_eq_true', Bool.not_eq_false', ne_eq, Int.not_lt, Int.not_le, Decidable.not_not] at g10'
      refine run_skip ?_
      refine run_seq ?_
      refine run_block ?_
      refine run_seq ?_
      refine run_seq ?_
      refine run_region ?_
      refine run_q (.none rfl) rfl rfl (q_move rfl rfl) ?_
      refine run_q (.none rfl) rfl rfl (q_move rfl rfl) ?_
      refine run_q (.none rfl) rfl rfl (q_indexS rfl Try.underlying22 sz47 rfl rfl (.inp hr .no) (by simp <;> omega) rfl (by omega)) ?_
      refine run_q (.none rfl) rfl rfl (q_loadE rfl agg47 rfl (.inp hr .no) (getmap (by omega)) rfl) ?_
      refine run_q (.none rfl) rfl rfl (q_call rfl call28 (.cons rfl Evs.nil) (fun w hk hm => properR_just _ _)) ?_
      refine run_q (.none rfl) rfl rfl (q_not rfl rfl) ?_
      refine run_nil ?_
      refine run_sub (subMk (.cons (s := 0) rfl (.cons (s := 2) rfl (.cons (s := 3) rfl (.cons (s := 18) rfl .nil)))) .refl) ?_
      refine run_cond rfl (fun g18 => ?_) (fun g18 => ?_)
      · have g18' := g18
        try simp only [decide_eq_true_eq, decide_eq_false_iff_not, beq_iff_eq, beq_eq_false_iff_ne, bne_iff_ne, bne_eq_false_iff_eq, Bool.not_eq_true', Bool.not_eq_false', ne_eq, Int.not_lt, Int.not_le, Decidable.not_not] at g18'
        refine run_seq ?_
        refine run_region ?_
        refine run_q (.none rfl) rfl rfl (q_assign rfl rfl) ?_
        refine run_nil ?_
        refine run_ret ?_
        exact end1 rfl rfl (by rw [wrongL, if_neg (by omega), hn, hinv, firstErr_hit (by omega) (by simp_all [wrongAt])]; simp_all [wrongAt])
      · have g18' := g18
        try simp only [decide_eq_true_eq, decide_eq_false_iff_not, beq_iff_eq, beq_eq_false_iff_ne, bne_iff_ne, bne_eq_false_iff_eq, Bool.not_eq_true', Bool.not_eq_false', ne_eq, Int.not_lt, Int.not_le, Decidable.not_not] at g18'
        refine run_skip ?_
        refine run_seq ?_
        refine run_draw [(0, 0), (1, 0), (2, 0), (3, 0), (4, 0), (5, 0), (6, 0), (7, 0), (8, 0), (9, 0), (10, 0), (11, 0), (12, 0), (13, 0), (14, 0), (15, 0)] mixed (by kernel_rfl) .refl ?_
        refine d_q rfl rfl (.none rfl) rfl rfl (q_move rfl rfl) ?_
        refine d_q rfl rfl (.none rfl) rfl rfl (q_gtr rfl rfl rfl) ?_
        refine d_q rfl rfl (.none rfl) rfl rfl (q_move rfl rfl) ?_
        refine d_split 21 rfl (fun g21 => ?_) (fun g21 => ?_)
        · have g21' := g21
          try simp only [decide_eq_true_eq, decide_eq_false_iff_not, beq_iff_eq, beq_eq_false_iff_ne, bne_iff_ne, bne_eq_false_iff_eq, Bool.not_eq_true', Bool.not_eq_false', ne_eq, Int.not_lt, Int.not_le, Decidable.not_not] at g21'
          refine d_q rfl rfl (.on rfl rfl rfl g21) rfl rfl (q_move rfl rfl) ?_
          refine d_q rfl rfl (.on rfl rfl rfl g21) rfl rfl (q_move rfl rfl) ?_
          refine d_q rfl rfl (.on rfl rfl rfl g21) rfl rfl (q_indexS rfl Try.underlying22 sz47 rfl rfl (.inp hr .no) (by simp <;> omega) rfl (by omega)) ?_
          refine d_q rfl rfl (.on rfl rfl rfl g21) rfl rfl (q_fieldAddr (d := 0) rfl Try.underlying47 rfl rfl sz3 rfl) ?_
          refine d_q rfl rfl (.on rfl rfl rfl g21) rfl rfl (q_loadF rfl one3 rfl (.inp hr .no) (getmap (by omega)) rfl) ?_
          refine d_q rfl rfl (.on rfl rfl rfl g21) rfl rfl (q_move rfl rfl) ?_
          refine d_q rfl rfl (.on rfl rfl rfl g21) rfl rfl (q_move rfl rfl) ?_
          refine d_q rfl rfl (.on rfl rfl rfl g21) rfl rfl (q_sub rfl rfl rfl (by omega)) ?_
          refine d_q rfl rfl (.on rfl rfl rfl g21) rfl rfl (q_indexS (q := (k - 1)) rfl Try.underlying22 sz47 rfl rfl (.inp hr .no) (by simp <;> omega) (by omega) (by omega)) ?_
          refine d_q rfl rfl (.on rfl rfl rfl g21) rfl rfl (q_fieldAddr (d := 0) rfl Try.underlying47 rfl rfl sz3 rfl) ?_
          refine d_q rfl rfl (.on rfl rfl rfl g21) rfl rfl (q_loadF rfl one3 rfl (.inp hr .no) (getmap (by omega)) rfl) ?_
          refine d_q rfl rfl (.on rfl rfl rfl g21) rfl rfl (q_lss rfl rfl rfl) ?_
          refine d_q rfl rfl (.none rfl) rfl rfl (q_pickT rfl rfl g21 rfl) ?_
          refine d_nil ?_
          refine run_sub (subMk (.cons (s := 0) rfl (.cons (s := 2) rfl (.cons (s := 3) rfl (.cons (s := 34) rfl .nil)))) .refl) ?_
          refine run_cond rfl (fun g34 => ?_) (fun g34 => ?_)
          · have g34' := g34
            try simp only [decide_eq_true_eq, decide_eq_false_iff_not, beq_iff_eq, beq_eq_false_iff_ne, bne_iff_ne, bne_eq_false_iff_eq, Bool.not_eq_true', Bool.not_eq_false', ne_eq, Int.not_lt, Int.not_le, Decidable.not_not] at g34'
            refine run_seq ?_
            refine run_region ?_
            refine run_q (.none rfl) rfl rfl (q_assign rfl rfl) ?_
            refine run_nil ?_
            refine run_ret ?_
            exact end1 rfl rfl (by rw [wrongL, if_neg (by omega), hn, hinv, firstErr_hit (by omega) (by simp_all [wrongAt])]; simp_all [wrongAt])
          · have g34' := g34
            try simp only [decide_eq_true_eq, decide_eq_false_iff_not, beq_iff_eq, beq_eq_false_iff_ne, bne_iff_ne, bne_eq_false_iff_eq, Bool.not_eq_true', Bool.not_eq_false', ne_eq, Int.not_lt, Int.not_le, Decidable.not_not] at g34'
            refine run_skip ?_
            refine run_blk ?_
            refine run_region ?_
            refine run_q (.none rfl) rfl rfl (q_move rfl rfl) ?_
            refine run_q (.none rfl) rfl rfl (q_add rfl rfl rfl (by omega)) ?_
            refine run_q (.none rfl) rfl rfl (q_assign rfl rfl) ?_
            refine run_nil ?_
            refine run_sub (subMk (.cons (s := 0) rfl (.cons (s := 2) rfl (.cons (s := 3) rfl .nil))) .refl) ?_
            exact run_again (k + 1) (by (try dsimp only); exact ⟨by omega, by rw [hinv]; exact firstErr_step (by omega) (by simp_all [wrongAt]; try omega)⟩) (by (try dsimp only); omega) (subMk (.cons' (s := 3) rfl rfl (.cons (s := 0) rfl (.cons (s := 2) rfl .nil))) .nil)
        · have g21' := g21
          try simp only [decide_eq_true_eq, decide_eq_false_iff_not, beq_iff_eq, beq_eq_false_iff_ne, bne_iff_ne, bne_eq_false_iff_eq, Bool.not_eq_true', Bool.not_eq_false', ne_eq, Int.not_lt, Int.not_le, Decidable.not_not] at g21'
          refine d_off rfl rfl (.no rfl rfl rfl g21) rfl rfl ?_
          refine d_off rfl rfl (.no rfl rfl rfl g21) rfl rfl ?_
          refine d_off rfl rfl (.no rfl rfl rfl g21) rfl rfl ?_
          refine d_off rfl rfl (.no rfl rfl rfl g21) rfl rfl ?_
          refine d_off rfl rfl (.no rfl rfl rfl g21) rfl rfl ?_
          refine d_off rfl rfl (.no rfl rfl rfl g21) rfl rfl ?_
          refine d_off rfl rfl (.no rfl rfl rfl g21) rfl rfl ?_
          refine d_off rfl rfl (.no rfl rfl rfl g21) rfl rfl ?_
          refine d_off rfl rfl (.no rfl rfl rfl g21) rfl rfl ?_
          refine d_off rfl rfl (.no rfl rfl rfl g21) rfl rfl ?_
          refine d_off rfl rfl (.no rfl rfl rfl g21) rfl rfl ?_
          refine d_off rfl rfl (.no rfl rfl rfl g21) rfl rfl ?_
          refine d_q rfl rfl (.none rfl) rfl rfl (q_pickF rfl rfl g21 rfl) ?_
          refine d_nil ?_
          refine run_sub (subMk (.cons (s := 0) rfl (.cons (s := 2) rfl (.cons (s := 3) rfl (.cons (s := 34) rfl .nil)))) .refl) ?_
          refine run_condF rfl rfl ?_
          refine run_skip ?_
          refine run_blk ?_
          refine run_region ?_
          refine run_q (.none rfl) rfl rfl (q_move rfl rfl) ?_
          refine run_q (.none rfl) rfl rfl (q_add rfl rfl rfl (by omega)) ?_
          refine run_q (.none rfl) rfl rfl (q_assign rfl rfl) ?_
          refine run_nil ?_
          refine run_sub (subMk (.cons (s := 0) rfl (.cons (s := 2) rfl (.cons (s := 3) rfl .nil))) .refl) ?_
          exact run_again (k + 1) (by (try dsimp only); exact ⟨by omega, by rw [hinv]; exact firstErr_step (by omega) (by simp_all [wrongAt]; try omega)⟩) (by (try dsimp only); omega) (subMk (.cons' (s := 3) rfl rfl (.cons (s := 0) rfl (.cons (s := 2) rfl .nil))) .nil)
    · have g10' := g10
      try simp only [decide_eq_true_eq, decide_eq_false_iff_not, beq_iff_eq, beq_eq_false_iff_ne, bne_iff_ne, bne_eq_false_iff_eq, Bool.not_eq_true', Bool.not_eq_false', ne_eq, Int.not_lt, Int.not_le, Decidable.not_not] at g10'
      refine run_exit rfl ?_
      refine run_sub (subMk (.cons (s := 2) rfl .nil) .refl) ?_
      refine run_seq ?_
      refine run_region ?_
      refine run_q (.none rfl) rfl rfl (q_assign rfl rfl) ?_
      refine run_nil ?_
      refine run_ret ?_
      exact end1 rfl rfl (by rw [wrongL, if_neg (by omega), hn, hinv, show n - k = 0 from by omega]; rfl)

theorem badCosts_just (c : Cost) (W : World)  : Calls Try.prog 16 #[c.val] W (Hr.Just W (.int .i64 (costB c))) := by
  refine Just.of_ret ?_
  refine enterA (X := nX) (vs := [c.val]) Try.func16 Try.ntmps16 rfl rfl Mem.nil ?_
  refine run_seq ?_
  refine run_region ?_
  refine run_h (.none rfl) (h_box rfl rfl rfl rfl rfl) ?_
  rintro b1 -
  refine run_q (.none rfl) rfl rfl (q_assign rfl rfl) ?_
  refine run_nil ?_
  refine run_seq ?_
  refine run_seq ?_
  refine run_region ?_
  refine run_q (.none rfl) rfl rfl (q_fieldB (d := 0) rfl Try.underlying26 rfl rfl sz3 rfl) ?_
  refine run_q (.none rfl) rfl rfl (q_loadB rfl one3 rfl Sel.here rfl) ?_
  refine run_q (.none rfl) rfl rfl (q_fieldB (d := 1) rfl Try.underlying26 rfl rfl sz3 rfl) ?_
  refine run_q (.none rfl) rfl rfl (q_loadB rfl one3 rfl Sel.here rfl) ?_
  refine run_q (.none rfl) rfl rfl (q_fieldB (d := 2) rfl Try.underlying26 rfl rfl sz3 rfl) ?_
  refine run_q (.none rfl) rfl rfl (q_loadB rfl one3 rfl Sel.here rfl) ?_
  refine run_q (.none rfl) rfl rfl (q_fieldB (d := 3) rfl Try.underlying26 rfl rfl sz3 rfl) ?_
  refine run_q (.none rfl) rfl rfl (q_loadB rfl one3 rfl Sel.here rfl) ?_
  refine run_q (.none rfl) rfl rfl (q_fieldB (d := 4) rfl Try.underlying26 rfl rfl sz3 rfl) ?_
  refine run_q (.none rfl) rfl rfl (q_loadB rfl one3 rfl Sel.here rfl) ?_
  refine run_h (.none rfl) (h_buildSlice rfl rfl rfl Try.underlying72 info3 (.cons rfl rfl rfl rfl (.cons rfl rfl rfl rfl (.cons rfl rfl rfl rfl (.cons rfl rfl rfl rfl (.cons rfl rfl rfl rfl Parts.nil))))) rfl (by omega)) ?_
  rintro b15 -
  refine run_q (.none rfl) rfl rfl (q_len rfl Try.underlying72 rfl) ?_
  refine run_q (.none rfl) rfl rfl (q_move rfl rfl) ?_
  refine run_nil ?_
  refine run_sub (subMk (.cons (s := 2) rfl (.cons (s := 15) rfl (.cons (s := 16) rfl (.cons (s := 17) rfl .nil)))) .refl) ?_
  refine run_block ?_
  refine run_sub (subMk (.cons (s := 17) rfl (.cons (s := 2) rfl (.cons (s := 15) rfl (.cons (s := 16) rfl .nil)))) (.cons Sel.here .refl (.cons Sel.here .refl .nil))) ?_
  refine run_loopC1M0 (ι := Nat) (fun k => k ≤ 5 ∧ costB c = firstErr (fun i => if inB (nth c.all i) 0 1000000 then 0 else 2) (5 - k) k) (fun k => .int .i64 (k : Int))  (fun k => 5 - k) 0 (by (try dsimp only); exact ⟨by omega, rfl⟩) rfl  ?_
  rintro k hq
  (try dsimp only at hq)
  obtain ⟨hk, hinv⟩ := hq
  show Run _ _ _ _ _ _ _ ⟨(17, .int .i64 (k : Int)) :: _, _⟩
  refine run_seq ?_
  refine run_region ?_
  refine run_q (.none rfl) rfl rfl (q_lss rfl rfl rfl) ?_
  refine run_nil ?_
  refine run_seq ?_
  refine run_cond rfl (fun g18 => ?_) (fun g18 => ?_)
  · have g18' := g18
    try simp only [decide_eq_true_eq, decide_eq_false_iff_not, beq_iff_eq, beq_eq_false_iff_ne, bne_iff_ne, bne_eq_false_iff_eq, Bool.not_eq_true', Bool.not_eq_false', ne_eq, Int.not_lt, Int.not_le, Decidable.not_not] at g18'
    refine run_skip ?_
    refine run_seq ?_
    refine run_block ?_
    refine run_seq ?_
    refine run_region ?_
    have hk5 : k < c.all.length := by simp [Cost.all]; omega
    refine run_q (.none rfl) rfl rfl (q_indexS rfl Try.underlying72 sz3 rfl rfl (.own Sel.here) rfl rfl (by omega)) ?_
    refine run_q (.none rfl) rfl rfl (q_loadC rfl one3 rfl (.own Sel.here) (show _ = some (encI (nth c.all k)) from getmap (enc := encI) (l := c.all) hk5)) ?_
    refine run_q (.none rfl) rfl rfl (q_assign rfl rfl) ?_
    refine run_nil ?_
    refine run_sub (subMk (.cons (s := 2) rfl (.cons (s := 4) rfl (.cons (s := 15) rfl (.cons (s := 16) rfl (.cons (s := 17) rfl .nil))))) .refl) ?_
    refine run_seq ?_
    refine run_region ?_
    refine run_q (.none rfl) rfl rfl (q_move rfl rfl) ?_
    refine run_q (.none rfl) rfl rfl (q_lss rfl rfl rfl) ?_
    refine run_q (.none rfl) rfl rfl (q_move rfl rfl) ?_
    refine run_split 23 rfl (fun g23 => ?_) (fun g23 => ?_)
    · have g23' := g23
      try simp only [decide_eq_true_eq, decide_eq_false_iff_not, beq_iff_eq, beq_eq_false_iff_ne, bne_iff_ne, bne_eq_false_iff_eq, Bool.not_eq_true', Bool.not_eq_false', ne_eq, Int.not_lt, Int.not_le, Decidable.not_not] at g23'
      refine run_off (.no rfl rfl rfl g23) rfl rfl ?_
      refine run_off (.no rfl rfl rfl g23) rfl rfl ?_
      refine run_q (.none rfl) rfl rfl (q_pickT rfl rfl g23 rfl) ?_
      refine run_nil ?_
      refine run_sub (subMk (.cons (s := 2) rfl (.cons (s := 15) rfl (.cons (s := 16) rfl (.cons (s := 17) rfl (.cons (s := 26) rfl .nil))))) .refl) ?_
      refine run_condT rfl rfl ?_
      refine run_seq ?_
      refine run_region ?_
      refine run_q (.none rfl) rfl rfl (q_assign rfl rfl) ?_
      refine run_nil ?_
      refine run_ret ?_
      exact end1 rfl rfl (by rw [hinv, firstErr_hit (by omega) (by rw [if_neg (by rw [inB_iff]; omega)]; decide), if_neg (by rw [inB_iff]; omega)])
    · have g23' := g23
      try simp only [decide_eq_true_eq, decide_eq_false_iff_not, beq_iff_eq, beq_eq_false_iff_ne, bne_iff_ne, bne_eq_false_iff_eq, Bool.not_eq_true', Bool.not_eq_false', ne_eq, Int.not_lt, Int.not_le, Decidable.not_not] at g23'
      refine run_q (.on rfl rfl rfl g23) rfl rfl (q_move rfl rfl) ?_
      refine run_q (.on rfl rfl rfl g23) rfl rfl (q_gtr rfl rfl rfl) ?_
      refine run_q (.none rfl) rfl rfl (q_pickF rfl rfl g23 rfl) ?_
      refine run_nil ?_
      refine run_sub (subMk (.cons (s := 2) rfl (.cons (s := 15) rfl (.cons (s := 16) rfl (.cons (s := 17) rfl (.cons (s := 26) rfl .nil))))) .refl) ?_
      refine run_cond rfl (fun g26 => ?_) (fun g26 => ?_)
      · have g26' := g26
        try simp only [decide_eq_true_eq, decide_eq_false_iff_not, beq_iff_eq, beq_eq_false_iff_ne, bne_iff_ne, bne_eq_false_iff_eq, Bool.not_eq_true', Bool.not_eq_false', ne_eq, Int.not_lt, Int.not_le, Decidable.not_not] at g26'
        refine run_seq ?_
        refine run_region ?_
        refine run_q (.none rfl) rfl rfl (q_assign rfl rfl) ?_
        refine run_nil ?_
        refine run_ret ?_
        exact end1 rfl rfl (by rw [hinv, firstErr_hit (by omega) (by rw [if_neg (by rw [inB_iff]; omega)]; decide), if_neg (by rw [inB_iff]; omega)])
      · have g26' := g26
        try simp only [decide_eq_true_eq, decide_eq_false_iff_not, beq_iff_eq, beq_eq_false_iff_ne, bne_iff_ne, bne_eq_false_iff_eq, Bool.not_eq_true', Bool.not_eq_false', ne_eq, Int.not_lt, Int.not_le, Decidable.not_not] at g26'
        refine run_skip ?_
        refine run_blk ?_
        refine run_region ?_
        refine run_q (.none rfl) rfl rfl (q_add rfl rfl rfl (by omega)) ?_
        refine run_q (.none rfl) rfl rfl (q_move rfl rfl) ?_
        refine run_nil ?_
        exact run_again (k + 1) (by (try dsimp only); exact ⟨by omega, by rw [hinv]; exact firstErr_step (by omega) (by rw [if_pos (by rw [inB_iff]; omega)])⟩) (by (try dsimp only); omega) (subMk (.cons' (s := 17) rfl rfl (.cons (s := 2) rfl (.cons (s := 15) rfl (.cons (s := 16) rfl .nil)))) (.cons Sel.here .refl (.cons Sel.here .refl .nil)))
  · have g18' := g18
    try simp only [decide_eq_true_eq, decide_eq_false_iff_not, beq_iff_eq, beq_eq_false_iff_ne, bne_iff_ne, bne_eq_false_iff_eq, Bool.not_eq_true', Bool.not_eq_false', ne_eq, Int.not_lt, Int.not_le, Decidable.not_not] at g18'
    refine run_exit rfl ?_
    refine run_sub (subMk (.cons (s := 2) rfl .nil) .refl) ?_
    refine run_seq ?_
    refine run_region ?_
    refine run_q (.none rfl) rfl rfl (q_assign rfl rfl) ?_
    refine run_nil ?_
    refine run_ret ?_
    exact end1 rfl rfl (by rw [hinv, show 5 - k = 0 from by omega]; rfl)

theorem joined_just (a b : Note) (c : Cost) (W : World) (hc : CostOk c) (ha : NoteOk a) (hb : NoteOk b) : Calls Try.prog 40 #[a.val, b.val, c.val] W (Hr.Just W (.int .i64 (joinV c a b))) := by
  have hl := hc.l
  have hw := hc.w
  unfold NoteOk at ha hb
  have h1 := mul_bd hc.t (y := min (max (a.on - b.on) (b.on - a.on)) c.late) (by omega)
  have h2 : min c.late (max (a.on - b.on) (b.on - a.on)) = min (max (a.on - b.on) (b.on - a.on)) c.late := by omega
  refine Just.of_ret ?_
  refine enterA (X := nX) (vs := [a.val, b.val, c.val]) Try.func40 Try.ntmps40 rfl rfl Mem.nil ?_
  refine run_seq ?_
  refine run_region ?_
  refine run_h (.none rfl) (h_box rfl rfl rfl rfl rfl) ?_
  rintro b3 -
  refine run_h (.none rfl) (h_box rfl rfl rfl rfl rfl) ?_
  rintro b4 -
  refine run_h (.none rfl) (h_box rfl rfl rfl rfl rfl) ?_
  rintro b5 -
  refine run_q (.none rfl) rfl rfl (q_assign rfl rfl) ?_
  refine run_nil ?_
  refine run_seq ?_
  refine run_region ?_
  refine run_q (.none rfl) rfl rfl (q_fieldB (d := 0) rfl Try.underlying47 rfl rfl sz3 rfl) ?_
  refine run_q (.none rfl) rfl rfl (q_loadB rfl one3 rfl (.there (.there Sel.here)) rfl) ?_
  refine run_q (.none rfl) rfl rfl (q_fieldB (d := 0) rfl Try.underlying47 rfl rfl sz3 rfl) ?_
  refine run_q (.none rfl) rfl rfl (q_loadB rfl one3 rfl (.there Sel.here) rfl) ?_
  refine run_q (.none rfl) rfl rfl (q_sub rfl rfl rfl (by omega)) ?_
  refine run_q (.none rfl) rfl rfl (q_assign rfl rfl) ?_
  refine run_nil ?_
  refine run_sub (subMk (.cons (s := 3) rfl (.cons (s := 4) rfl (.cons (s := 5) rfl (.cons (s := 6) rfl (.cons (s := 7) rfl .nil))))) .refl) ?_
  refine run_seq ?_
  refine run_seq ?_
  refine run_region ?_
  refine run_q (.none rfl) rfl rfl (q_move rfl rfl) ?_
  refine run_q (.none rfl) rfl rfl (q_lss rfl rfl rfl) ?_
  refine run_nil ?_
  refine run_cond rfl (fun g15 => ?_) (fun g15 => ?_)
  · have g15' := g15
    try simp only [decide_eq_true_eq, decide_eq_false_iff_not, beq_iff_eq, beq_eq_false_iff_ne, bne_iff_ne, bne_eq_false_iff_eq, Bool.not_eq_true', Bool.not_eq_false', ne_eq, Int.not_lt, Int.not_le, Decidable.not_not] at g15'
    refine run_region ?_
    refine run_q (.none rfl) rfl rfl (q_move rfl rfl) ?_
    refine run_q (.none rfl) rfl rfl (q_neg rfl rfl (by omega)) ?_
    refine run_q (.none rfl) rfl rfl (q_assign rfl rfl) ?_
    refine run_nil ?_
    refine run_sub (subMk (.cons (s := 3) rfl (.cons (s := 4) rfl (.cons (s := 5) rfl (.cons (s := 6) rfl (.cons (s := 7) rfl .nil))))) .refl) ?_
    refine run_seq ?_
    refine run_sub (subMk (.cons (s := 3) rfl (.cons (s := 4) rfl (.cons (s := 5) rfl (.cons (s := 6) rfl (.cons' (s := 7) (v' := .int .i64 (max (a.on - b.on) (b.on - a.on))) rfl (vint (by omega)) .nil))))) .refl) ?_
    refine run_region ?_
    refine run_q (.none rfl) rfl rfl (q_fieldB (d := 3) rfl Try.underlying26 rfl rfl sz3 rfl) ?_
    refine run_q (.none rfl) rfl rfl (q_loadB rfl one3 rfl Sel.here rfl) ?_
    refine run_q (.none rfl) rfl rfl (q_move rfl rfl) ?_
    refine run_q (.none rfl) rfl rfl (q_fieldB (d := 4) rfl Try.underlying26 rfl rfl sz3 rfl) ?_
    refine run_q (.none rfl) rfl rfl (q_loadB rfl one3 rfl Sel.here rfl) ?_
    refine run_q (.none rfl) rfl rfl (q_min2 rfl rfl rfl) ?_
    refine run_q (.none rfl) rfl rfl (q_mul rfl rfl rfl (by omega)) ?_
    refine run_q (.none rfl) rfl rfl (q_quo rfl rfl rfl (by omega)) ?_
    refine run_q (.none rfl) rfl rfl (q_assign rfl rfl) ?_
    refine run_nil ?_
    refine run_sub (subMk (.cons (s := 3) rfl (.cons (s := 4) rfl (.cons (s := 5) rfl (.cons (s := 6) rfl (.cons (s := 8) rfl .nil))))) .refl) ?_
    refine run_seq ?_
    refine run_seq ?_
    refine run_region ?_
    refine run_q (.none rfl) rfl rfl (q_fieldB (d := 2) rfl Try.underlying47 rfl rfl sz3 rfl) ?_
    refine run_q (.none rfl) rfl rfl (q_loadB rfl one3 rfl (.there (.there Sel.here)) rfl) ?_
    refine run_q (.none rfl) rfl rfl (q_fieldB (d := 2) rfl Try.underlying47 rfl rfl sz3 rfl) ?_
    refine run_q (.none rfl) rfl rfl (q_loadB rfl one3 rfl (.there Sel.here) rfl) ?_
    refine run_q (.none rfl) rfl rfl (q_neq rfl rfl rfl) ?_
    refine run_nil ?_
    refine run_sub (subMk (.cons (s := 5) rfl (.cons (s := 6) rfl (.cons (s := 8) rfl (.cons (s := 30) rfl .nil)))) .refl) ?_
    refine run_cond rfl (fun g30 => ?_) (fun g30 => ?_)
    · have g30' := g30
      try simp only [decide_eq_true_eq, decide_eq_false_iff_not, beq_iff_eq, beq_eq_false_iff_ne, bne_iff_ne, bne_eq_false_iff_eq, Bool.not_eq_true', Bool.not_eq_false', ne_eq, Int.not_lt, Int.not_le, Decidable.not_not] at g30'
      refine run_region ?_
      refine run_q (.none rfl) rfl rfl (q_move rfl rfl) ?_
      refine run_q (.none rfl) rfl rfl (q_fieldB (d := 0) rfl Try.underlying26 rfl rfl sz3 rfl) ?_
      refine run_q (.none rfl) rfl rfl (q_loadB rfl one3 rfl Sel.here rfl) ?_
      refine run_q (.none rfl) rfl rfl (q_add rfl rfl rfl (by omega)) ?_
      refine run_q (.none rfl) rfl rfl (q_assign rfl rfl) ?_
      refine run_nil ?_
      refine run_sub (subMk (.cons (s := 6) rfl (.cons (s := 8) rfl .nil)) .refl) ?_
      refine run_seq ?_
      refine run_region ?_
      refine run_q (.none rfl) rfl rfl (q_move rfl rfl) ?_
      refine run_q (.none rfl) rfl rfl (q_assign rfl rfl) ?_
      refine run_nil ?_
      refine run_ret ?_
      exact end1 rfl rfl (vint (by simp only [joinV, h2]; split <;> simp_all))
    · have g30' := g30
      try simp only [decide_eq_true_eq, decide_eq_false_iff_not, beq_iff_eq, beq_eq_false_iff_ne, bne_iff_ne, bne_eq_false_iff_eq, Bool.not_eq_true', Bool.not_eq_false', ne_eq, Int.not_lt, Int.not_le, Decidable.not_not] at g30'
      refine run_skip ?_
      refine run_seq ?_
      refine run_region ?_
      refine run_q (.none rfl) rfl rfl (q_move rfl rfl) ?_
      refine run_q (.none rfl) rfl rfl (q_assign rfl rfl) ?_
      refine run_nil ?_
      refine run_sub (subMk (.cons (s := 6) rfl .nil) .refl) ?_
      refine run_ret ?_
      exact end1 rfl rfl (vint (by simp only [joinV, h2]; split <;> simp_all))
  · have g15' := g15
    try simp only [decide_eq_true_eq, decide_eq_false_iff_not, beq_iff_eq, beq_eq_false_iff_ne, bne_iff_ne, bne_eq_false_iff_eq, Bool.not_eq_true', Bool.not_eq_false', ne_eq, Int.not_lt, Int.not_le, Decidable.not_not] at g15'
    refine run_skip ?_
    refine run_seq ?_
    refine run_sub (subMk (.cons (s := 3) rfl (.cons (s := 4) rfl (.cons (s := 5) rfl (.cons (s := 6) rfl (.cons' (s := 7) (v' := .int .i64 (max (a.on - b.on) (b.on - a.on))) rfl (vint (by omega)) (.cons (s := 14) rfl (.cons (s := 15) rfl .nil))))))) .refl) ?_
    refine run_region ?_
    refine run_q (.none rfl) rfl rfl (q_fieldB (d := 3) rfl Try.underlying26 rfl rfl sz3 rfl) ?_
    refine run_q (.none rfl) rfl rfl (q_loadB rfl one3 rfl Sel.here rfl) ?_
    refine run_q (.none rfl) rfl rfl (q_move rfl rfl) ?_
    refine run_q (.none rfl) rfl rfl (q_fieldB (d := 4) rfl Try.underlying26 rfl rfl sz3 rfl) ?_
    refine run_q (.none rfl) rfl rfl (q_loadB rfl one3 rfl Sel.here rfl) ?_
    refine run_q (.none rfl) rfl rfl (q_min2 rfl rfl rfl) ?_
    refine run_q (.none rfl) rfl rfl (q_mul rfl rfl rfl (by omega)) ?_
    refine run_q (.none rfl) rfl rfl (q_quo rfl rfl rfl (by omega)) ?_
    refine run_q (.none rfl) rfl rfl (q_assign rfl rfl) ?_
    refine run_nil ?_
    refine run_sub (subMk (.cons (s := 3) rfl (.cons (s := 4) rfl (.cons (s := 5) rfl (.cons (s := 6) rfl (.cons (s := 8) rfl .nil))))) .refl) ?_
    refine run_seq ?_
    refine run_seq ?_
    refine run_region ?_
    refine run_q (.none rfl) rfl rfl (q_fieldB (d := 2) rfl Try.underlying47 rfl rfl sz3 rfl) ?_
    refine run_q (.none rfl) rfl rfl (q_loadB rfl one3 rfl (.there (.there Sel.here)) rfl) ?_
    refine run_q (.none rfl) rfl rfl (q_fieldB (d := 2) rfl Try.underlying47 rfl rfl sz3 rfl) ?_
    refine run_q (.none rfl) rfl rfl (q_loadB rfl one3 rfl (.there Sel.here) rfl) ?_
    refine run_q (.none rfl) rfl rfl (q_neq rfl rfl rfl) ?_
    refine run_nil ?_
    refine run_sub (subMk (.cons (s := 5) rfl (.cons (s := 6) rfl (.cons (s := 8) rfl (.cons (s := 30) rfl .nil)))) .refl) ?_
    refine run_cond rfl (fun g30 => ?_) (fun g30 => ?_)
    · have g30' := g30
      try simp only [decide_eq_true_eq, decide_eq_false_iff_not, beq_iff_eq, beq_eq_false_iff_ne, bne_iff_ne, bne_eq_false_iff_eq, Bool.not_eq_true', Bool.not_eq_false', ne_eq, Int.not_lt, Int.not_le, Decidable.not_not] at g30'
      refine run_region ?_
      refine run_q (.none rfl) rfl rfl (q_move rfl rfl) ?_
      refine run_q (.none rfl) rfl rfl (q_fieldB (d := 0) rfl Try.underlying26 rfl rfl sz3 rfl) ?_
      refine run_q (.none rfl) rfl rfl (q_loadB rfl one3 rfl Sel.here rfl) ?_
      refine run_q (.none rfl) rfl rfl (q_add rfl rfl rfl (by omega)) ?_
      refine run_q (.none rfl) rfl rfl (q_assign rfl rfl) ?_
      refine run_nil ?_
      refine run_sub (subMk (.cons (s := 6) rfl (.cons (s := 8) rfl .nil)) .refl) ?_
      refine run_seq ?_
      refine run_region ?_
      refine run_q (.none rfl) rfl rfl (q_move rfl rfl) ?_
      refine run_q (.none rfl) rfl rfl (q_assign rfl rfl) ?_
      refine run_nil ?_
      refine run_ret ?_
      exact end1 rfl rfl (vint (by simp only [joinV, h2]; split <;> simp_all))
    · have g30' := g30
      try simp only [decide_eq_true_eq, decide_eq_false_iff_not, beq_iff_eq, beq_eq_false_iff_ne, bne_iff_ne, bne_eq_false_iff_eq, Bool.not_eq_true', Bool.not_eq_false', ne_eq, Int.not_lt, Int.not_le, Decidable.not_not] at g30'
      refine run_skip ?_
      refine run_seq ?_
      refine run_region ?_
      refine run_q (.none rfl) rfl rfl (q_move rfl rfl) ?_
      refine run_q (.none rfl) rfl rfl (q_assign rfl rfl) ?_
      refine run_nil ?_
      refine run_sub (subMk (.cons (s := 6) rfl .nil) .refl) ?_
      refine run_ret ?_
      exact end1 rfl rfl (vint (by simp only [joinV, h2]; split <;> simp_all))

end Go.Proofs.Ytbkmmjpklkallaa
