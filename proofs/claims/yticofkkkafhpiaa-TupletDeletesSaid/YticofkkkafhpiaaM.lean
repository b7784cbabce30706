/- Events inserted, in the program. -/
import Derived.Test.YticofkkkafhpiaaK
import Derived.Test.YticofkkkafhpiaaDel
import Derived.Test.YticofkkkafhpiaaArr
set_option linter.unusedSimpArgs false
set_option linter.unusedVariables false
namespace Go.Proofs.Yticofkkkafhpiaa
open Go Go.RowKit Hr

theorem call27 : Hr.Callable Try.prog 27 := fun args w => by kernel_rfl
theorem call29 : Hr.Callable Try.prog 29 := fun args w => by kernel_rfl

theorem insert_ret (ts : List Tup) (A : Option Addr) (ca : Nat) (n p c : Int) (W : World) (hr : Rd W A 4 (ts.map Tup.enc)) (hl : ts.length ≤ 1000000) : Calls Try.prog 27 #[.slice A ts.length ca, .int .i64 n, .int .i64 p, .int .i64 c] W (Ret W nX (fun v m => ∃ O co, v = .tuple #[.slice O (insV ts n p c).1.length co, .int .i64 (insV ts n p c).2] ∧ m = [.own 46 4 O (insV ts n p c).1.length co ((insV ts n p c).1.map Tup.enc)])) := by
  refine enterA (X := nX) (vs := [.slice A ts.length ca, .int .i64 n, .int .i64 p, .int .i64 c]) Try.func27 Try.ntmps27 rfl rfl Mem.nil ?_
  refine run_seq ?_
  refine run_region ?_
  refine run_q (.none rfl) rfl rfl (q_assign rfl rfl) ?_
  refine run_q (.none rfl) rfl rfl (q_assign rfl rfl) ?_
  refine run_nil ?_
  refine run_seq ?_
  refine run_seq ?_
  refine run_region ?_
  refine run_q (.none rfl) rfl rfl (q_move rfl rfl) ?_
  refine run_q (.none rfl) rfl rfl (q_move rfl rfl) ?_
  refine run_q (.none rfl) rfl rfl (q_call rfl call13 (.cons rfl (.cons rfl Evs.nil)) (fun w hk hm => check_just ts A ca n w (hr.kept0 hk) (by omega))) ?_
  refine run_q (.none rfl) rfl rfl (q_assign rfl rfl) ?_
  refine run_nil ?_
  refine run_sub (subMk (.cons (s := 0) rfl (.cons (s := 1) rfl (.cons (s := 2) rfl (.cons (s := 3) rfl (.cons (s := 8) rfl (.cons (s := 9) rfl (.cons (s := 10) rfl .nil))))))) .refl) ?_
  refine run_seq ?_
  refine run_region ?_
  refine run_q (.none rfl) rfl rfl (q_move rfl rfl) ?_
  refine run_q (.none rfl) rfl rfl (q_neq rfl rfl rfl) ?_
  refine run_nil ?_
  refine run_cond rfl (fun g18 => ?_) (fun g18 => ?_)
  · have g18' := g18
    try simp only [decide_eq_true_eq, decide_eq_false_iff_not, beq_iff_eq, beq_eq_false_iff_ne, bne_iff_ne, bne_eq_false_iff_eq, Bool.not_eq_true', Bool.not_eq_false', ne_eq, Int.not_lt, Int.not_le, Decidable.not_not] at g18'
    refine run_seq ?_
    refine run_region ?_
    refine run_q (.none rfl) rfl rfl (q_move rfl rfl) ?_
    refine run_q (.none rfl) rfl rfl (q_assign rfl rfl) ?_
    refine run_q (.none rfl) rfl rfl (q_assign rfl rfl) ?_
    refine run_nil ?_
    refine run_sub (subMk (.cons (s := 0) rfl (.cons (s := 1) rfl (.cons (s := 2) rfl (.cons (s := 3) rfl (.cons (s := 8) rfl (.cons (s := 9) rfl .nil)))))) .refl) ?_
    refine run_ret ?_
    refine run_sub (subMk .refl (MemSub.nilOwn 46 4)) ?_
    refine run_sub (subMk .refl (.cons Sel.here .refl .nil)) ?_
    exact end2 rfl rfl rfl ⟨none, 0, by rw [insV_err (by simpa using g18)]; rfl, by rw [insV_err (by simpa using g18)]; rfl⟩
  · have g18' := g18
    try simp only [decide_eq_true_eq, decide_eq_false_iff_not, beq_iff_eq, beq_eq_false_iff_ne, bne_iff_ne, bne_eq_false_iff_eq, Bool.not_eq_true', Bool.not_eq_false', ne_eq, Int.not_lt, Int.not_le, Decidable.not_not] at g18'
    have hc : checkV ts n = 0 := by simpa using g18
    have hv := Val.of hc
    obtain ⟨c1, c2, c3, c4⟩ := checkV_good hc
    refine run_skip ?_
    refine run_seq ?_
    refine run_seq ?_
    refine run_region ?_
    refine run_q (.none rfl) rfl rfl (q_move rfl rfl) ?_
    refine run_q (.none rfl) rfl rfl (q_lss rfl rfl rfl) ?_
    refine run_q (.none rfl) rfl rfl (q_move rfl rfl) ?_
    refine run_split 22 rfl (fun g22 => ?_) (fun g22 => ?_)
    · have g22' := g22
      try simp only [decide_eq_true_eq, decide_eq_false_iff_not, beq_iff_eq, beq_eq_false_iff_ne, bne_iff_ne, bne_eq_false_iff_eq, Bool.not_eq_true', Bool.not_eq_false', ne_eq, Int.not_lt, Int.not_le, Decidable.not_not] at g22'
      refine run_off (.no rfl rfl rfl g22) rfl rfl ?_
      refine run_off (.no rfl rfl rfl g22) rfl rfl ?_
      refine run_off (.no rfl rfl rfl g22) rfl rfl ?_
      refine run_q (.none rfl) rfl rfl (q_pickT rfl rfl g22 rfl) ?_
      refine run_q (.none rfl) rfl rfl (q_move rfl rfl) ?_
      refine run_off (.no rfl rfl rfl rfl) rfl rfl ?_
      refine run_off (.no rfl rfl rfl rfl) rfl rfl ?_
      refine run_q (.none rfl) rfl rfl (q_pickT rfl rfl rfl rfl) ?_
      refine run_q (.none rfl) rfl rfl (q_move rfl rfl) ?_
      refine run_off (.no rfl rfl rfl rfl) rfl rfl ?_
      refine run_off (.no rfl rfl rfl rfl) rfl rfl ?_
      refine run_off (.no rfl rfl rfl rfl) rfl rfl ?_
      refine run_off (.no rfl rfl rfl rfl) rfl rfl ?_
      refine run_q (.none rfl) rfl rfl (q_pickT rfl rfl rfl rfl) ?_
      refine run_nil ?_
      refine run_sub (subMk (.cons (s := 0) rfl (.cons (s := 2) rfl (.cons (s := 3) rfl (.cons (s := 8) rfl (.cons (s := 9) rfl (.cons (s := 36) rfl .nil)))))) .refl) ?_
      refine run_condT rfl rfl ?_
      refine run_seq ?_
      refine run_region ?_
      refine run_q (.none rfl) rfl rfl (q_assign rfl rfl) ?_
      refine run_q (.none rfl) rfl rfl (q_assign rfl rfl) ?_
      refine run_nil ?_
      refine run_ret ?_
      refine run_sub (subMk .refl (MemSub.nilOwn 46 4)) ?_
      refine run_sub (subMk .refl (.cons Sel.here .refl .nil)) ?_
      exact end2 rfl rfl rfl ⟨none, 0, by rw [insV_rng hc (by omega)]; rfl, by rw [insV_rng hc (by omega)]; rfl⟩
    · have g22' := g22
      try simp only [decide_eq_true_eq, decide_eq_false_iff_not, beq_iff_eq, beq_eq_false_iff_ne, bne_iff_ne, bne_eq_false_iff_eq, Bool.not_eq_true', Bool.not_eq_false', ne_eq, Int.not_lt, Int.not_le, Decidable.not_not] at g22'
      refine run_q (.on rfl rfl rfl g22) rfl rfl (q_move rfl rfl) ?_
      refine run_q (.on rfl rfl rfl g22) rfl rfl (q_move rfl rfl) ?_
      refine run_q (.on rfl rfl rfl g22) rfl rfl (q_gtr rfl rfl rfl) ?_
      refine run_q (.none rfl) rfl rfl (q_pickF rfl rfl g22 rfl) ?_
      refine run_q (.none rfl) rfl rfl (q_move rfl rfl) ?_
      refine run_split 27 rfl (fun g27 => ?_) (fun g27 => ?_)
      · have g27' := g27
        try simp only [decide_eq_true_eq, decide_eq_false_iff_not, beq_iff_eq, beq_eq_false_iff_ne, bne_iff_ne, bne_eq_false_iff_eq, Bool.not_eq_true', Bool.not_eq_false', ne_eq, Int.not_lt, Int.not_le, Decidable.not_not] at g27'
        refine run_off (.no rfl rfl rfl g27) rfl rfl ?_
        refine run_off (.no rfl rfl rfl g27) rfl rfl ?_
        refine run_q (.none rfl) rfl rfl (q_pickT rfl rfl g27 rfl) ?_
        refine run_q (.none rfl) rfl rfl (q_move rfl rfl) ?_
        refine run_off (.no rfl rfl rfl rfl) rfl rfl ?_
        refine run_off (.no rfl rfl rfl rfl) rfl rfl ?_
        refine run_off (.no rfl rfl rfl rfl) rfl rfl ?_
        refine run_off (.no rfl rfl rfl rfl) rfl rfl ?_
        refine run_q (.none rfl) rfl rfl (q_pickT rfl rfl rfl rfl) ?_
        refine run_nil ?_
        refine run_sub (subMk (.cons (s := 0) rfl (.cons (s := 2) rfl (.cons (s := 3) rfl (.cons (s := 8) rfl (.cons (s := 9) rfl (.cons (s := 36) rfl .nil)))))) .refl) ?_
        refine run_condT rfl rfl ?_
        refine run_seq ?_
        refine run_region ?_
        refine run_q (.none rfl) rfl rfl (q_assign rfl rfl) ?_
        refine run_q (.none rfl) rfl rfl (q_assign rfl rfl) ?_
        refine run_nil ?_
        refine run_ret ?_
        refine run_sub (subMk .refl (MemSub.nilOwn 46 4)) ?_
        refine run_sub (subMk .refl (.cons Sel.here .refl .nil)) ?_
        exact end2 rfl rfl rfl ⟨none, 0, by rw [insV_rng hc (by omega)]; rfl, by rw [insV_rng hc (by omega)]; rfl⟩
      · have g27' := g27
        try simp only [decide_eq_true_eq, decide_eq_false_iff_not, beq_iff_eq, beq_eq_false_iff_ne, bne_iff_ne, bne_eq_false_iff_eq, Bool.not_eq_true', Bool.not_eq_false', ne_eq, Int.not_lt, Int.not_le, Decidable.not_not] at g27'
        refine run_q (.on rfl rfl rfl g27) rfl rfl (q_move rfl rfl) ?_
        refine run_q (.on rfl rfl rfl g27) rfl rfl (q_lss rfl rfl rfl) ?_
        refine run_q (.none rfl) rfl rfl (q_pickF rfl rfl g27 rfl) ?_
        refine run_q (.none rfl) rfl rfl (q_move rfl rfl) ?_
        refine run_split 31 rfl (fun g31 => ?_) (fun g31 => ?_)
        · have g31' := g31
          try simp only [decide_eq_true_eq, decide_eq_false_iff_not, beq_iff_eq, beq_eq_false_iff_ne, bne_iff_ne, bne_eq_false_iff_eq, Bool.not_eq_true', Bool.not_eq_false', ne_eq, Int.not_lt, Int.not_le, Decidable.not_not] at g31'
          refine run_off (.no rfl rfl rfl g31) rfl rfl ?_
          refine run_off (.no rfl rfl rfl g31) rfl rfl ?_
          refine run_off (.no rfl rfl rfl g31) rfl rfl ?_
          refine run_off (.no rfl rfl rfl g31) rfl rfl ?_
          refine run_q (.none rfl) rfl rfl (q_pickT rfl rfl g31 rfl) ?_
          refine run_nil ?_
          refine run_sub (subMk (.cons (s := 0) rfl (.cons (s := 2) rfl (.cons (s := 3) rfl (.cons (s := 8) rfl (.cons (s := 9) rfl (.cons (s := 36) rfl .nil)))))) .refl) ?_
          refine run_condT rfl rfl ?_
          refine run_seq ?_
          refine run_region ?_
          refine run_q (.none rfl) rfl rfl (q_assign rfl rfl) ?_
          refine run_q (.none rfl) rfl rfl (q_assign rfl rfl) ?_
          refine run_nil ?_
          refine run_ret ?_
          refine run_sub (subMk .refl (MemSub.nilOwn 46 4)) ?_
          refine run_sub (subMk .refl (.cons Sel.here .refl .nil)) ?_
          exact end2 rfl rfl rfl ⟨none, 0, by rw [insV_rng hc (by omega)]; rfl, by rw [insV_rng hc (by omega)]; rfl⟩
        · have g31' := g31
          try simp only [decide_eq_true_eq, decide_eq_false_iff_not, beq_iff_eq, beq_eq_false_iff_ne, bne_iff_ne, bne_eq_false_iff_eq, Bool.not_eq_true', Bool.not_eq_false', ne_eq, Int.not_lt, Int.not_le, Decidable.not_not] at g31'
          refine run_q (.on rfl rfl rfl g31) rfl rfl (q_move rfl rfl) ?_
          refine run_q (.on rfl rfl rfl g31) rfl rfl (q_move rfl rfl) ?_
          refine run_q (.on rfl rfl rfl g31) rfl rfl (q_sub rfl rfl rfl (by omega)) ?_
          refine run_q (.on rfl rfl rfl g31) rfl rfl (q_gtr rfl rfl rfl) ?_
          refine run_q (.none rfl) rfl rfl (q_pickF rfl rfl g31 rfl) ?_
          refine run_nil ?_
          refine run_sub (subMk (.cons (s := 0) rfl (.cons (s := 2) rfl (.cons (s := 3) rfl (.cons (s := 8) rfl (.cons (s := 9) rfl (.cons (s := 36) rfl .nil)))))) .refl) ?_
          refine run_cond rfl (fun g36 => ?_) (fun g36 => ?_)
          · have g36' := g36
            try simp only [decide_eq_true_eq, decide_eq_false_iff_not, beq_iff_eq, beq_eq_false_iff_ne, bne_iff_ne, bne_eq_false_iff_eq, Bool.not_eq_true', Bool.not_eq_false', ne_eq, Int.not_lt, Int.not_le, Decidable.not_not] at g36'
            refine run_seq ?_
            refine run_region ?_
            refine run_q (.none rfl) rfl rfl (q_assign rfl rfl) ?_
            refine run_q (.none rfl) rfl rfl (q_assign rfl rfl) ?_
            refine run_nil ?_
            refine run_ret ?_
            refine run_sub (subMk .refl (MemSub.nilOwn 46 4)) ?_
            refine run_sub (subMk .refl (.cons Sel.here .refl .nil)) ?_
            exact end2 rfl rfl rfl ⟨none, 0, by rw [insV_rng hc (by omega)]; rfl, by rw [insV_rng hc (by omega)]; rfl⟩
          · have g36' := g36
            try simp only [decide_eq_true_eq, decide_eq_false_iff_not, beq_iff_eq, beq_eq_false_iff_ne, bne_iff_ne, bne_eq_false_iff_eq, Bool.not_eq_true', Bool.not_eq_false', ne_eq, Int.not_lt, Int.not_le, Decidable.not_not] at g36'
            refine run_skip ?_
            refine run_seq ?_
            refine run_region ?_
            refine run_q (.none rfl) rfl rfl (q_move rfl rfl) ?_
            refine run_h (.none rfl) (h_call rfl rfl rfl call43 (.cons rfl Evs.nil) (fun w hk hm => clone_ret ts A ca w (hr.kept0 hk) (by omega))) ?_
            rintro ⟨v, m⟩ ⟨O38, co38, rfl, rfl⟩
            show Run _ _ _ _ _ _ _ ⟨(38, .slice O38 ts.length co38) :: _, _ :: _⟩
            refine run_q (.none rfl) rfl rfl (q_assign rfl rfl) ?_
            refine run_nil ?_
            refine run_sub (subMk (.cons (s := 2) rfl (.cons (s := 3) rfl (.cons (s := 8) rfl (.cons (s := 9) rfl (.cons (s := 11) rfl .nil))))) .refl) ?_
            refine run_seq ?_
            refine run_seq ?_
            refine run_region ?_
            refine run_q (.none rfl) rfl rfl (q_move rfl rfl) ?_
            refine run_q (.none rfl) rfl rfl (q_len rfl Try.underlying22 rfl) ?_
            refine run_q (.none rfl) rfl rfl (q_move rfl rfl) ?_
            refine run_nil ?_
            refine run_block ?_
            refine run_sub (subMk (.cons (s := 41) rfl (.cons (s := 2) rfl (.cons (s := 3) rfl (.cons (s := 8) rfl (.cons (s := 9) rfl (.cons (s := 11) rfl (.cons (s := 40) rfl .nil))))))) (.cons Sel.here .refl .nil)) ?_
            refine run_loopC1M1 (ι := Nat) (fun k => k ≤ ts.length) (fun k => .int .i64 (k : Int)) (fun k => .own 46 4 O38 ts.length co38 ((mapK p c ts k).map Tup.enc)) (fun k => ts.length - k) 0 (by (try dsimp only); exact (by omega)) rfl (.own rfl rfl rfl (by rw [mapK_zero])) ?_
            rintro k hk
            (try dsimp only at hk)
            show Run _ _ _ _ _ _ _ ⟨(41, .int .i64 (k : Int)) :: _, .own 46 4 O38 ts.length co38 ((mapK p c ts k).map Tup.enc) :: _⟩
            refine run_seq ?_
            refine run_region ?_
            refine run_q (.none rfl) rfl rfl (q_lss rfl rfl rfl) ?_
            refine run_nil ?_
            refine run_seq ?_
            refine run_cond rfl (fun g42 => ?_) (fun g42 => ?_)
            · have g42' := g42
              try simp only [decide_eq_true_eq, decide_eq_false_iff_not, beq_iff_eq, beq_eq_false_iff_ne, bne_iff_ne, bne_eq_false_iff_eq, Bool.not_eq_true', Bool.not_eq_false', ne_eq, Int.not_lt, Int.not_le, Decidable.not_not] at g42'
              obtain ⟨hok, p1, p2, p3, p4⟩ := hv.prop (k := k) (by omega)
              unfold TupOk at hok
              refine run_skip ?_
              refine run_seq ?_
              refine run_block ?_
              refine run_seq ?_
              refine run_region ?_
              refine run_q (.none rfl) rfl rfl (q_move rfl rfl) ?_
              refine run_q (.none rfl) rfl rfl (q_assign rfl rfl) ?_
              refine run_nil ?_
              refine run_seq ?_
              refine run_region ?_
              refine run_q (.none rfl) rfl rfl (q_move rfl rfl) ?_
              refine run_q (.none rfl) rfl rfl (q_move rfl rfl) ?_
              refine run_q (.none rfl) rfl rfl (q_indexS (q := k) rfl Try.underlying22 sz46 rfl rfl (.own Sel.here) (by rw [List.length_map, mapK_len]) rfl (by omega)) ?_
              refine run_q (.none rfl) rfl rfl (q_assign rfl rfl) ?_
              refine run_nil ?_
              refine run_sub (subMk (.cons (s := 2) rfl (.cons (s := 3) rfl (.cons (s := 8) rfl (.cons (s := 9) rfl (.cons (s := 11) rfl (.cons (s := 13) rfl (.cons (s := 40) rfl (.cons (s := 41) rfl .nil)))))))) .refl) ?_
              refine run_seq ?_
              refine run_region ?_
              refine run_q (.none rfl) rfl rfl (q_move rfl rfl) ?_
              refine run_q (.none rfl) rfl rfl (q_nilCheck rfl rfl) ?_
              refine run_q (.none rfl) rfl rfl (q_fieldAddr (d := 0) rfl Try.underlying46 rfl rfl sz3 rfl) ?_
              refine run_q (.none rfl) rfl rfl (q_loadF rfl one3 rfl (.own Sel.here) (by rw [getmap (by rw [mapK_len]; omega), mapK_nth (by omega)]) rfl) ?_
              refine run_q (.none rfl) rfl rfl (q_move rfl rfl) ?_
              refine run_q (.none rfl) rfl rfl (q_geq rfl rfl rfl) ?_
              refine run_nil ?_
              refine run_sub (subMk (.cons (s := 2) rfl (.cons (s := 3) rfl (.cons (s := 8) rfl (.cons (s := 9) rfl (.cons (s := 11) rfl (.cons (s := 13) rfl (.cons (s := 40) rfl (.cons (s := 41) rfl (.cons (s := 52) rfl .nil))))))))) .refl) ?_
              refine run_cond rfl (fun g52 => ?_) (fun g52 => ?_)
              · have g52' := g52
                try simp only [decide_eq_true_eq, decide_eq_false_iff_not, beq_iff_eq, beq_eq_false_iff_ne, bne_iff_ne, bne_eq_false_iff_eq, Bool.not_eq_true', Bool.not_eq_false', ne_eq, Int.not_lt, Int.not_le, Decidable.not_not] at g52'
                refine run_region ?_
                refine run_q (.none rfl) rfl rfl (q_move rfl rfl) ?_
                refine run_q (.none rfl) rfl rfl (q_nilCheck rfl rfl) ?_
                refine run_q (.none rfl) rfl rfl (q_fieldAddr (d := 0) rfl Try.underlying46 rfl rfl sz3 rfl) ?_
                refine run_q (.none rfl) rfl rfl (q_loadF rfl one3 rfl (.own Sel.here) (by rw [getmap (by rw [mapK_len]; omega), mapK_nth (by omega)]) rfl) ?_
                refine run_q (.none rfl) rfl rfl (q_move rfl rfl) ?_
                refine run_q (.none rfl) rfl rfl (q_add rfl rfl rfl (by omega)) ?_
                refine run_q (.none rfl) rfl rfl (q_nilCheck rfl rfl) ?_
                refine run_q (.none rfl) rfl rfl (q_fieldAddr (d := 0) rfl Try.underlying46 rfl rfl sz3 rfl) ?_
                refine run_h (.none rfl) (h_storeF rfl rfl sz3 rfl rfl rfl rfl rfl Sel.here (by omega) (by decide) (by rw [getmap (by rw [mapK_len]; omega), mapK_nth (by omega)])) ?_
                rintro - -
                refine run_nil ?_
                refine run_sub (subMk (.cons (s := 2) rfl (.cons (s := 3) rfl (.cons (s := 8) rfl (.cons (s := 9) rfl (.cons (s := 11) rfl (.cons (s := 40) rfl (.cons (s := 41) rfl .nil))))))) .refl) ?_
                refine run_blk ?_
                refine run_region ?_
                refine run_q (.none rfl) rfl rfl (q_add rfl rfl rfl (by omega)) ?_
                refine run_q (.none rfl) rfl rfl (q_move rfl rfl) ?_
                refine run_nil ?_
                exact run_again (k + 1) (by (try dsimp only); exact (by omega)) (by (try dsimp only); omega) (subMk (.cons' (s := 41) rfl rfl (.cons (s := 2) rfl (.cons (s := 3) rfl (.cons (s := 8) rfl (.cons (s := 9) rfl (.cons (s := 11) rfl (.cons (s := 40) rfl .nil))))))) (.cons Sel.here (.own rfl rfl rfl (by rw [← mapK_step (k := k) (by omega) (insT_up (by omega)), List.map_set]; rfl)) .nil))
              · have g52' := g52
                try simp only [decide_eq_true_eq, decide_eq_false_iff_not, beq_iff_eq, beq_eq_false_iff_ne, bne_iff_ne, bne_eq_false_iff_eq, Bool.not_eq_true', Bool.not_eq_false', ne_eq, Int.not_lt, Int.not_le, Decidable.not_not] at g52'
                refine run_seq ?_
                refine run_region ?_
                refine run_q (.none rfl) rfl rfl (q_move rfl rfl) ?_
                refine run_q (.none rfl) rfl rfl (q_nilCheck rfl rfl) ?_
                refine run_q (.none rfl) rfl rfl (q_loadE rfl agg46 rfl (.own Sel.here) (by rw [getmap (by rw [mapK_len]; omega), mapK_nth (by omega)]) rfl) ?_
                refine run_q (.none rfl) rfl rfl (q_call rfl call36 (.cons rfl Evs.nil) (fun w hk hm => end_just (nth ts k) w (hv.prop (by omega)).1)) ?_
                refine run_q (.none rfl) rfl rfl (q_move rfl rfl) ?_
                refine run_q (.none rfl) rfl rfl (q_gtr rfl rfl rfl) ?_
                refine run_nil ?_
                refine run_sub (subMk (.cons (s := 2) rfl (.cons (s := 3) rfl (.cons (s := 8) rfl (.cons (s := 9) rfl (.cons (s := 11) rfl (.cons (s := 13) rfl (.cons (s := 40) rfl (.cons (s := 41) rfl (.cons (s := 66) rfl .nil))))))))) .refl) ?_
                refine run_cond rfl (fun g66 => ?_) (fun g66 => ?_)
                · have g66' := g66
                  try simp only [decide_eq_true_eq, decide_eq_false_iff_not, beq_iff_eq, beq_eq_false_iff_ne, bne_iff_ne, bne_eq_false_iff_eq, Bool.not_eq_true', Bool.not_eq_false', ne_eq, Int.not_lt, Int.not_le, Decidable.not_not] at g66'
                  refine run_region ?_
                  refine run_q (.none rfl) rfl rfl (q_move rfl rfl) ?_
                  refine run_q (.none rfl) rfl rfl (q_nilCheck rfl rfl) ?_
                  refine run_q (.none rfl) rfl rfl (q_fieldAddr (d := 1) rfl Try.underlying46 rfl rfl sz3 rfl) ?_
                  refine run_q (.none rfl) rfl rfl (q_loadF rfl one3 rfl (.own Sel.here) (by rw [getmap (by rw [mapK_len]; omega), mapK_nth (by omega)]) rfl) ?_
                  refine run_q (.none rfl) rfl rfl (q_move rfl rfl) ?_
                  refine run_q (.none rfl) rfl rfl (q_add rfl rfl rfl (by omega)) ?_
                  refine run_q (.none rfl) rfl rfl (q_nilCheck rfl rfl) ?_
                  refine run_q (.none rfl) rfl rfl (q_fieldAddr (d := 1) rfl Try.underlying46 rfl rfl sz3 rfl) ?_
                  refine run_h (.none rfl) (h_storeF rfl rfl sz3 rfl rfl rfl rfl rfl Sel.here (by omega) (by decide) (by rw [getmap (by rw [mapK_len]; omega), mapK_nth (by omega)])) ?_
                  rintro - -
                  refine run_nil ?_
                  refine run_sub (subMk (.cons (s := 2) rfl (.cons (s := 3) rfl (.cons (s := 8) rfl (.cons (s := 9) rfl (.cons (s := 11) rfl (.cons (s := 40) rfl (.cons (s := 41) rfl .nil))))))) .refl) ?_
                  refine run_blk ?_
                  refine run_region ?_
                  refine run_q (.none rfl) rfl rfl (q_add rfl rfl rfl (by omega)) ?_
                  refine run_q (.none rfl) rfl rfl (q_move rfl rfl) ?_
                  refine run_nil ?_
                  exact run_again (k + 1) (by (try dsimp only); exact (by omega)) (by (try dsimp only); omega) (subMk (.cons' (s := 41) rfl rfl (.cons (s := 2) rfl (.cons (s := 3) rfl (.cons (s := 8) rfl (.cons (s := 9) rfl (.cons (s := 11) rfl (.cons (s := 40) rfl .nil))))))) (.cons Sel.here (.own rfl rfl rfl (by rw [← mapK_step (k := k) (by omega) (insT_grow (by omega) (by omega)), List.map_set]; rfl)) .nil))
                · have g66' := g66
                  try simp only [decide_eq_true_eq, decide_eq_false_iff_not, beq_iff_eq, beq_eq_false_iff_ne, bne_iff_ne, bne_eq_false_iff_eq, Bool.not_eq_true', Bool.not_eq_false', ne_eq, Int.not_lt, Int.not_le, Decidable.not_not] at g66'
                  refine run_skip ?_
                  refine run_blk ?_
                  refine run_region ?_
                  refine run_q (.none rfl) rfl rfl (q_add rfl rfl rfl (by omega)) ?_
                  refine run_q (.none rfl) rfl rfl (q_move rfl rfl) ?_
                  refine run_nil ?_
                  refine run_sub (subMk (.cons (s := 2) rfl (.cons (s := 3) rfl (.cons (s := 8) rfl (.cons (s := 9) rfl (.cons (s := 11) rfl (.cons (s := 40) rfl (.cons (s := 41) rfl .nil))))))) .refl) ?_
                  exact run_again (k + 1) (by (try dsimp only); exact (by omega)) (by (try dsimp only); omega) (subMk (.cons' (s := 41) rfl rfl (.cons (s := 2) rfl (.cons (s := 3) rfl (.cons (s := 8) rfl (.cons (s := 9) rfl (.cons (s := 11) rfl (.cons (s := 40) rfl .nil))))))) (.cons Sel.here (.own rfl rfl rfl (by rw [mapK_same (by omega) (insT_id (by omega) (by omega))])) .nil))
            · have g42' := g42
              try simp only [decide_eq_true_eq, decide_eq_false_iff_not, beq_iff_eq, beq_eq_false_iff_ne, bne_iff_ne, bne_eq_false_iff_eq, Bool.not_eq_true', Bool.not_eq_false', ne_eq, Int.not_lt, Int.not_le, Decidable.not_not] at g42'
              refine run_exit rfl ?_
              refine run_sub (subMk (.cons (s := 8) rfl (.cons (s := 9) rfl (.cons (s := 11) rfl .nil))) .refl) ?_
              refine run_seq ?_
              refine run_region ?_
              refine run_q (.none rfl) rfl rfl (q_move rfl rfl) ?_
              refine run_q (.none rfl) rfl rfl (q_assign rfl rfl) ?_
              refine run_q (.none rfl) rfl rfl (q_assign rfl rfl) ?_
              refine run_nil ?_
              refine run_ret ?_
              refine run_sub (subMk .refl (.cons Sel.here .refl .nil)) ?_
              exact end2 rfl rfl rfl ⟨O38, co38, by rw [insV_ok hc (by omega), List.length_map], by rw [insV_ok hc (by omega), List.length_map, mapK_all (by omega)]⟩

theorem refinsert_ret (ts : List Tup) (A : Option Addr) (ca : Nat) (n p c : Int) (W : World) (hr : Rd W A 4 (ts.map Tup.enc)) (hl : ts.length ≤ 1000000) (hv : Val ts) (hc : 0 ≤ c ∧ c ≤ 128) : Calls Try.prog 29 #[.slice A ts.length ca, .int .i64 p, .int .i64 c] W (Ret W nX (fun v m => ∃ O co, v = .slice O ts.length co ∧ m = [.own 45 4 O ts.length co ((ts.map (insT p c)).map Tup.enc)])) := by
  refine enterA (X := nX) (vs := [.slice A ts.length ca, .int .i64 p, .int .i64 c]) Try.func29 Try.ntmps29 rfl rfl Mem.nil ?_
  refine run_seq ?_
  refine run_region ?_
  refine run_q (.none rfl) rfl rfl (q_assign rfl rfl) ?_
  refine run_nil ?_
  refine run_seq ?_
  refine run_region ?_
  refine run_q (.none rfl) rfl rfl (q_assign rfl rfl) ?_
  refine run_nil ?_
  refine run_seq ?_
  refine run_seq ?_
  refine run_region ?_
  refine run_q (.none rfl) rfl rfl (q_assign rfl rfl) ?_
  refine run_nil ?_
  refine run_block ?_
  refine run_sub (subMk .refl (MemSub.nilOwn 45 4)) ?_
  refine run_sub (subMk (.cons (s := 8) rfl (.cons (s := 7) rfl (.cons (s := 0) rfl (.cons (s := 1) rfl (.cons (s := 2) rfl (.cons (s := 6) rfl .nil)))))) (.cons Sel.here .refl .nil)) ?_
  refine run_loopC2M1 (ι := Nat × (Option Addr) × Nat) (fun gg => gg.1 ≤ ts.length) (fun gg => .int .i64 (gg.1 : Int)) (fun gg => .slice gg.2.1 gg.1 gg.2.2) (fun gg => .own 45 4 gg.2.1 gg.1 gg.2.2 (((ts.take gg.1).map (insT p c)).map Tup.enc)) (fun gg => ts.length - gg.1) (0, none, 0) (by (try dsimp only); exact (by omega)) rfl rfl .refl ?_
  rintro ⟨k, O, co⟩ hk
  (try dsimp only at hk)
  show Run _ _ _ _ _ _ _ ⟨(8, .int .i64 (k : Int)) :: (7, .slice O k co) :: _, .own 45 4 O k co (((ts.take k).map (insT p c)).map Tup.enc) :: _⟩
  refine run_seq ?_
  refine run_seq ?_
  refine run_region ?_
  refine run_q (.none rfl) rfl rfl (q_move rfl rfl) ?_
  refine run_q (.none rfl) rfl rfl (q_move rfl rfl) ?_
  refine run_q (.none rfl) rfl rfl (q_len rfl Try.underlying27 rfl) ?_
  refine run_q (.none rfl) rfl rfl (q_lss rfl rfl rfl) ?_
  refine run_nil ?_
  refine run_sub (subMk (.cons (s := 0) rfl (.cons (s := 1) rfl (.cons (s := 2) rfl (.cons (s := 6) rfl (.cons (s := 7) rfl (.cons (s := 8) rfl (.cons (s := 13) rfl .nil))))))) .refl) ?_
  refine run_cond rfl (fun g13 => ?_) (fun g13 => ?_)
  · have g13' := g13
    try simp only [decide_eq_true_eq, decide_eq_false_iff_not, beq_iff_eq, beq_eq_false_iff_ne, bne_iff_ne, bne_eq_false_iff_eq, Bool.not_eq_true', Bool.not_eq_false', ne_eq, Int.not_lt, Int.not_le, Decidable.not_not] at g13'
    obtain ⟨hok, p1, p2, p3, p4⟩ := hv.prop (k := k) (by omega)
    unfold TupOk at hok
    refine run_skip ?_
    refine run_seq ?_
    refine run_block ?_
    refine run_seq ?_
    refine run_region ?_
    refine run_q (.none rfl) rfl rfl (q_move rfl rfl) ?_
    refine run_q (.none rfl) rfl rfl (q_move rfl rfl) ?_
    refine run_q (.none rfl) rfl rfl (q_indexS (q := k) rfl Try.underlying27 sz45 rfl rfl (.inp hr .no) (by simp <;> omega) rfl (by omega)) ?_
    refine run_q (.none rfl) rfl rfl (q_loadE rfl agg45 rfl (.inp hr .no) (getmap (by omega)) rfl) ?_
    refine run_h (.none rfl) (h_alloc rfl rfl rfl info45) ?_
    rintro b9 -
    refine run_h (.none rfl) (h_storeB rfl rfl sz45 rfl rfl rfl rfl rfl Sel.here rfl) ?_
    rintro - -
    refine run_nil ?_
    refine run_sub (subMk (.cons (s := 0) rfl (.cons (s := 1) rfl (.cons (s := 2) rfl (.cons (s := 6) rfl (.cons (s := 7) rfl (.cons (s := 8) rfl (.cons (s := 9) rfl .nil))))))) .refl) ?_
    refine run_seq ?_
    refine run_seq ?_
    refine run_region ?_
    refine run_q (.none rfl) rfl rfl (q_fieldB (d := 0) rfl Try.underlying45 rfl rfl sz3 rfl) ?_
    refine run_q (.none rfl) rfl rfl (q_loadB rfl one3 rfl Sel.here rfl) ?_
    refine run_q (.none rfl) rfl rfl (q_move rfl rfl) ?_
    refine run_q (.none rfl) rfl rfl (q_geq rfl rfl rfl) ?_
    refine run_nil ?_
    refine run_sub (subMk (.cons (s := 0) rfl (.cons (s := 1) rfl (.cons (s := 2) rfl (.cons (s := 6) rfl (.cons (s := 7) rfl (.cons (s := 8) rfl (.cons (s := 9) rfl (.cons (s := 23) rfl .nil)))))))) .refl) ?_
    refine run_cond rfl (fun g23 => ?_) (fun g23 => ?_)
    · have g23' := g23
      try simp only [decide_eq_true_eq, decide_eq_false_iff_not, beq_iff_eq, beq_eq_false_iff_ne, bne_iff_ne, bne_eq_false_iff_eq, Bool.not_eq_true', Bool.not_eq_false', ne_eq, Int.not_lt, Int.not_le, Decidable.not_not] at g23'
      refine run_region ?_
      refine run_q (.none rfl) rfl rfl (q_fieldB (d := 0) rfl Try.underlying45 rfl rfl sz3 rfl) ?_
      refine run_q (.none rfl) rfl rfl (q_loadB rfl one3 rfl Sel.here rfl) ?_
      refine run_q (.none rfl) rfl rfl (q_move rfl rfl) ?_
      refine run_q (.none rfl) rfl rfl (q_add rfl rfl rfl (by omega)) ?_
      refine run_q (.none rfl) rfl rfl (q_fieldB (d := 0) rfl Try.underlying45 rfl rfl sz3 rfl) ?_
      refine run_h (.none rfl) (h_storeB rfl rfl sz3 rfl rfl rfl rfl rfl Sel.here rfl) ?_
      rintro - -
      refine run_nil ?_
      refine run_sub (subMk (.cons (s := 0) rfl (.cons (s := 1) rfl (.cons (s := 2) rfl (.cons (s := 6) rfl (.cons (s := 7) rfl (.cons (s := 8) rfl (.cons (s := 9) rfl .nil))))))) .refl) ?_
      refine run_region ?_
      refine run_q (.none rfl) rfl rfl (q_move rfl rfl) ?_
      refine run_q (.none rfl) rfl rfl (q_loadBN rfl agg45 rfl Sel.here (.cons rfl (.cons rfl (.cons rfl (.cons rfl CellsAt.nil)))) rfl) ?_
      refine run_h (.none rfl) (h_buildSlice rfl rfl rfl Try.underlying27 info45 (.cons rfl rfl rfl rfl Parts.nil) rfl (by omega)) ?_
      rintro b39 -
      refine run_h (.none rfl) (h_append rfl rfl rfl Try.underlying27 info45 rfl rfl (.there (.there Sel.here)) rfl (.own Sel.here) rfl (all1 rfl) (all1 rfl) (by omega) (by omega)) ?_
      rintro ⟨A40, c40⟩ -
      refine run_q (.none rfl) rfl rfl (q_assign rfl rfl) ?_
      refine run_nil ?_
      refine run_sub (subMk (.cons (s := 0) rfl (.cons (s := 1) rfl (.cons (s := 2) rfl (.cons (s := 6) rfl (.cons (s := 7) rfl (.cons (s := 8) rfl .nil)))))) .refl) ?_
      refine run_blk ?_
      refine run_region ?_
      refine run_q (.none rfl) rfl rfl (q_move rfl rfl) ?_
      refine run_q (.none rfl) rfl rfl (q_add rfl rfl rfl (by omega)) ?_
      refine run_q (.none rfl) rfl rfl (q_assign rfl rfl) ?_
      refine run_nil ?_
      exact run_again (k + 1, A40, c40) (by (try dsimp only); exact (by omega)) (by (try dsimp only); omega) (subMk (.cons' (s := 8) rfl rfl (.cons' (s := 7) rfl (by simp) (.cons (s := 0) rfl (.cons (s := 1) rfl (.cons (s := 2) rfl (.cons (s := 6) rfl .nil)))))) (.cons Sel.here (.own rfl (by simp) rfl (by rw [map_take_succ (by omega), insT_up (by omega), List.map_append]; rfl)) .nil))
    · have g23' := g23
      try simp only [decide_eq_true_eq, decide_eq_false_iff_not, beq_iff_eq, beq_eq_false_iff_ne, bne_iff_ne, bne_eq_false_iff_eq, Bool.not_eq_true', Bool.not_eq_false', ne_eq, Int.not_lt, Int.not_le, Decidable.not_not] at g23'
      refine run_seq ?_
      refine run_region ?_
      refine run_q (.none rfl) rfl rfl (q_loadBN rfl agg45 rfl Sel.here (.cons rfl (.cons rfl (.cons rfl (.cons rfl CellsAt.nil)))) rfl) ?_
      refine run_q (.none rfl) rfl rfl (q_move rfl rfl) ?_
      refine run_q (.none rfl) rfl rfl (q_call rfl call22 (.cons rfl (.cons rfl Evs.nil)) (fun w hk hm => in_just (nth ts k) p w (hv.prop (by omega)).1)) ?_
      refine run_nil ?_
      refine run_sub (subMk (.cons (s := 0) rfl (.cons (s := 1) rfl (.cons (s := 2) rfl (.cons (s := 6) rfl (.cons (s := 7) rfl (.cons (s := 8) rfl (.cons (s := 9) rfl (.cons (s := 31) rfl .nil)))))))) .refl) ?_
      refine run_cond rfl (fun g31 => ?_) (fun g31 => ?_)
      · have g31' := g31
        try simp only [decide_eq_true_eq, decide_eq_false_iff_not, beq_iff_eq, beq_eq_false_iff_ne, bne_iff_ne, bne_eq_false_iff_eq, Bool.not_eq_true', Bool.not_eq_false', ne_eq, Int.not_lt, Int.not_le, Decidable.not_not] at g31'
        refine run_region ?_
        refine run_q (.none rfl) rfl rfl (q_fieldB (d := 1) rfl Try.underlying45 rfl rfl sz3 rfl) ?_
        refine run_q (.none rfl) rfl rfl (q_loadB rfl one3 rfl Sel.here rfl) ?_
        refine run_q (.none rfl) rfl rfl (q_move rfl rfl) ?_
        refine run_q (.none rfl) rfl rfl (q_add rfl rfl rfl (by omega)) ?_
        refine run_q (.none rfl) rfl rfl (q_fieldB (d := 1) rfl Try.underlying45 rfl rfl sz3 rfl) ?_
        refine run_h (.none rfl) (h_storeB rfl rfl sz3 rfl rfl rfl rfl rfl Sel.here rfl) ?_
        rintro - -
        refine run_nil ?_
        refine run_sub (subMk (.cons (s := 0) rfl (.cons (s := 1) rfl (.cons (s := 2) rfl (.cons (s := 6) rfl (.cons (s := 7) rfl (.cons (s := 8) rfl (.cons (s := 9) rfl .nil))))))) .refl) ?_
        refine run_region ?_
        refine run_q (.none rfl) rfl rfl (q_move rfl rfl) ?_
        refine run_q (.none rfl) rfl rfl (q_loadBN rfl agg45 rfl Sel.here (.cons rfl (.cons rfl (.cons rfl (.cons rfl CellsAt.nil)))) rfl) ?_
        refine run_h (.none rfl) (h_buildSlice rfl rfl rfl Try.underlying27 info45 (.cons rfl rfl rfl rfl Parts.nil) rfl (by omega)) ?_
        rintro b39 -
        refine run_h (.none rfl) (h_append rfl rfl rfl Try.underlying27 info45 rfl rfl (.there (.there Sel.here)) rfl (.own Sel.here) rfl (all1 rfl) (all1 rfl) (by omega) (by omega)) ?_
        rintro ⟨A40, c40⟩ -
        refine run_q (.none rfl) rfl rfl (q_assign rfl rfl) ?_
        refine run_nil ?_
        refine run_sub (subMk (.cons (s := 0) rfl (.cons (s := 1) rfl (.cons (s := 2) rfl (.cons (s := 6) rfl (.cons (s := 7) rfl (.cons (s := 8) rfl .nil)))))) .refl) ?_
        refine run_blk ?_
        refine run_region ?_
        refine run_q (.none rfl) rfl rfl (q_move rfl rfl) ?_
        refine run_q (.none rfl) rfl rfl (q_add rfl rfl rfl (by omega)) ?_
        refine run_q (.none rfl) rfl rfl (q_assign rfl rfl) ?_
        refine run_nil ?_
        exact run_again (k + 1, A40, c40) (by (try dsimp only); exact (by omega)) (by (try dsimp only); omega) (subMk (.cons' (s := 8) rfl rfl (.cons' (s := 7) rfl (by simp) (.cons (s := 0) rfl (.cons (s := 1) rfl (.cons (s := 2) rfl (.cons (s := 6) rfl .nil)))))) (.cons Sel.here (.own rfl (by simp) rfl (by rw [map_take_succ (by omega), insT_grow (by omega) (by have hq := inB_iff.1 g31; omega), List.map_append]; rfl)) .nil))
      · have g31' := g31
        try simp only [decide_eq_true_eq, decide_eq_false_iff_not, beq_iff_eq, beq_eq_false_iff_ne, bne_iff_ne, bne_eq_false_iff_eq, Bool.not_eq_true', Bool.not_eq_false', ne_eq, Int.not_lt, Int.not_le, Decidable.not_not] at g31'
        refine run_skip ?_
        refine run_region ?_
        refine run_q (.none rfl) rfl rfl (q_move rfl rfl) ?_
        refine run_q (.none rfl) rfl rfl (q_loadBN rfl agg45 rfl Sel.here (.cons rfl (.cons rfl (.cons rfl (.cons rfl CellsAt.nil)))) rfl) ?_
        refine run_h (.none rfl) (h_buildSlice rfl rfl rfl Try.underlying27 info45 (.cons rfl rfl rfl rfl Parts.nil) rfl (by omega)) ?_
        rintro b39 -
        refine run_h (.none rfl) (h_append rfl rfl rfl Try.underlying27 info45 rfl rfl (.there (.there Sel.here)) rfl (.own Sel.here) rfl (all1 rfl) (all1 rfl) (by omega) (by omega)) ?_
        rintro ⟨A40, c40⟩ -
        refine run_q (.none rfl) rfl rfl (q_assign rfl rfl) ?_
        refine run_nil ?_
        refine run_sub (subMk (.cons (s := 0) rfl (.cons (s := 1) rfl (.cons (s := 2) rfl (.cons (s := 6) rfl (.cons (s := 7) rfl (.cons (s := 8) rfl .nil)))))) .refl) ?_
        refine run_blk ?_
        refine run_region ?_
        refine run_q (.none rfl) rfl rfl (q_move rfl rfl) ?_
        refine run_q (.none rfl) rfl rfl (q_add rfl rfl rfl (by omega)) ?_
        refine run_q (.none rfl) rfl rfl (q_assign rfl rfl) ?_
        refine run_nil ?_
        exact run_again (k + 1, A40, c40) (by (try dsimp only); exact (by omega)) (by (try dsimp only); omega) (subMk (.cons' (s := 8) rfl rfl (.cons' (s := 7) rfl (by simp) (.cons (s := 0) rfl (.cons (s := 1) rfl (.cons (s := 2) rfl (.cons (s := 6) rfl .nil)))))) (.cons Sel.here (.own rfl (by simp) rfl (by rw [map_take_succ (by omega), insT_id' (by omega) (by simpa using g31), List.map_append]; rfl)) .nil))
  · have g13' := g13
    try simp only [decide_eq_true_eq, decide_eq_false_iff_not, beq_iff_eq, beq_eq_false_iff_ne, bne_iff_ne, bne_eq_false_iff_eq, Bool.not_eq_true', Bool.not_eq_false', ne_eq, Int.not_lt, Int.not_le, Decidable.not_not] at g13'
    refine run_exit rfl ?_
    refine run_sub (subMk (.cons (s := 6) rfl (.cons (s := 7) rfl .nil)) .refl) ?_
    refine run_seq ?_
    refine run_region ?_
    refine run_q (.none rfl) rfl rfl (q_move rfl rfl) ?_
    refine run_q (.none rfl) rfl rfl (q_assign rfl rfl) ?_
    refine run_nil ?_
    refine run_ret ?_
    refine run_sub (subMk .refl (.cons Sel.here .refl .nil)) ?_
    exact end1 rfl rfl ⟨O, co, by rw [show k = ts.length from by omega], by rw [show k = ts.length from by omega, List.take_length]⟩

theorem same_ins (a : List Tup) (n p c : Int) (A B : Option Addr) (ca cb : Nat) (W : World) (hr : Rd W A 4 ((insV a n p c).1.map Tup.enc)) (hr2 : Rd W B 4 ((a.map (insT p c)).map Tup.enc)) (hc : checkV a n = 0) (hpc : 0 ≤ p ∧ p ≤ n ∧ 0 ≤ c ∧ c ≤ 128 - n) (hl : a.length ≤ 1000000) :
    Calls Try.prog 28 #[.slice A (insV a n p c).1.length ca, .slice B a.length cb] W (Just W (.bool true)) := by
  have h := same_just (insV a n p c).1 (a.map (insT p c)) A B ca cb W hr hr2 (by rw [insV_ok hc hpc, List.length_map]; exact hl)
  rw [insV_ok hc hpc, eqL_refl, List.length_map] at h
  rw [insV_ok hc hpc, List.length_map]
  exact h
theorem check_ins (a : List Tup) (n p c : Int) (A : Option Addr) (ca : Nat) (W : World) (hr : Rd W A 4 ((insV a n p c).1.map Tup.enc)) (hc : checkV a n = 0) (hpc : 0 ≤ p ∧ p ≤ n ∧ 0 ≤ c ∧ c ≤ 128 - n) (hl : a.length ≤ 1000000) :
    Calls Try.prog 13 #[.slice A (insV a n p c).1.length ca, .int .i64 (n + c)] W (Just W (.int .i64 0)) := by
  have h := check_just (insV a n p c).1 A ca (n + c) W hr (by rw [insV_ok hc hpc, List.length_map]; omega)
  rw [insV_ok hc hpc, ins_check hc hpc.1 hpc.2.2.1 hpc.2.2.2] at h
  rw [insV_ok hc hpc]
  exact h

theorem law9_at (l : List Tup) (A : Option Addr) (ca : Nat) (n p c : Int) (W : World) (hr0 : Rd W A 4 (l.map Tup.enc)) (hca : l.length ≤ ca) (a : List Tup) (ha : a = l.take 20) : Calls Try.prog 9 #[.slice A l.length ca, .int .i64 n, .agg #[.int .i64 p, .int .i64 c]] W (Hr.Just W (.bool true)) := by
  have hra := rd_take (enc := Tup.enc) hr0 ha
  have hla : a.length = min l.length 20 := by rw [ha]; simp [Nat.min_comm]
  refine Just.of_ret ?_
  refine enterA (X := nX) (vs := [.slice A l.length ca, .int .i64 n, .agg #[.int .i64 p, .int .i64 c]]) Try.func9 Try.ntmps9 rfl rfl Mem.nil ?_
  refine run_seq ?_
  refine run_region ?_
  refine run_h (.none rfl) (h_box rfl rfl rfl rfl rfl) ?_
  rintro b5 -
  refine run_q (.none rfl) rfl rfl (q_assign rfl rfl) ?_
  refine run_nil ?_
  refine run_seq ?_
  refine run_region ?_
  refine run_q (.none rfl) rfl rfl (q_move rfl rfl) ?_
  refine run_q (.none rfl) rfl rfl (q_move rfl rfl) ?_
  refine run_q (.none rfl) rfl rfl (q_len rfl Try.underlying22 rfl) ?_
  refine run_q (.none rfl) rfl rfl (q_min2 rfl rfl rfl) ?_
  refine run_q (.none rfl) rfl rfl (q_sliceH rfl Try.underlying22 sz46 rfl rfl (by omega)) ?_
  refine run_q (.none rfl) rfl rfl (q_assign rfl rfl) ?_
  refine run_nil ?_
  refine run_sub (subMk (.cons (s := 0) rfl (.cons (s := 1) rfl (.cons (s := 5) rfl (.cons (s := 6) rfl .nil)))) .refl) ?_
  refine run_seq ?_
  refine run_sub (subMk (.cons' (s := 0) (v' := .slice A a.length ca) rfl (by rw [hla]; congr 1; omega) (.cons (s := 1) rfl (.cons (s := 5) rfl (.cons (s := 6) rfl .nil)))) .refl) ?_
  refine run_region ?_
  refine run_q (.none rfl) rfl rfl (q_move rfl rfl) ?_
  refine run_h (.none rfl) (h_call rfl rfl rfl call15 (.cons rfl Evs.nil) (fun w hk hm => to_ret a A ca w (hra.kept0 hk) (by omega))) ?_
  rintro ⟨v, m⟩ ⟨O19, co19, rfl, rfl⟩
  show Run _ _ _ _ _ _ _ ⟨(19, .slice O19 a.length co19) :: _, _ :: _⟩
  refine run_q (.none rfl) rfl rfl (q_assign rfl rfl) ?_
  refine run_nil ?_
  refine run_seq ?_
  refine run_draw [(0, 0), (1, 0), (2, 0), (3, 0), (4, 0), (5, 0)] mixed (by kernel_rfl) .refl ?_
  refine d_q rfl rfl (.none rfl) rfl rfl (q_indexB (q := 0) (d := 0) rfl Try.underlying53 sz3 rfl rfl rfl (by decide) rfl) ?_
  refine d_q rfl rfl (.none rfl) rfl rfl (q_loadB rfl one3 rfl (.there Sel.here) rfl) ?_
  refine d_q rfl rfl (.none rfl) rfl rfl (q_indexB (q := 1) (d := 1) rfl Try.underlying53 sz3 rfl rfl rfl (by decide) rfl) ?_
  refine d_q rfl rfl (.none rfl) rfl rfl (q_loadB rfl one3 rfl (.there Sel.here) rfl) ?_
  refine d_q rfl rfl (.none rfl) rfl rfl (q_assign rfl rfl) ?_
  refine d_q rfl rfl (.none rfl) rfl rfl (q_assign rfl rfl) ?_
  refine d_nil ?_
  refine run_sub (subMk (.cons (s := 0) rfl (.cons (s := 1) rfl (.cons (s := 6) rfl (.cons (s := 7) rfl (.cons (s := 8) rfl (.cons (s := 9) rfl .nil)))))) .refl) ?_
  refine run_seq ?_
  refine run_region ?_
  refine run_q (.none rfl) rfl rfl (q_move rfl rfl) ?_
  refine run_q (.none rfl) rfl rfl (q_move rfl rfl) ?_
  refine run_q (.none rfl) rfl rfl (q_move rfl rfl) ?_
  refine run_q (.none rfl) rfl rfl (q_move rfl rfl) ?_
  refine run_h (.none rfl) (h_call rfl rfl rfl call27 (.cons rfl (.cons rfl (.cons rfl (.cons rfl Evs.nil)))) (fun w hk hm => insert_ret a A ca n p c w (hra.kept0 hk) (by omega))) ?_
  rintro ⟨v, m⟩ ⟨O29, co29, rfl, rfl⟩
  show Run _ _ _ _ _ _ _ ⟨(29, .tuple #[.slice O29 (insV a n p c).1.length co29, .int .i64 (insV a n p c).2]) :: _, _ :: _⟩
  refine run_q (.none rfl) rfl rfl (q_move rfl rfl) ?_
  refine run_q (.none rfl) rfl rfl (q_extract rfl rfl rfl) ?_
  refine run_q (.none rfl) rfl rfl (q_extract rfl rfl rfl) ?_
  refine run_q (.none rfl) rfl rfl (q_assign rfl rfl) ?_
  refine run_q (.none rfl) rfl rfl (q_assign rfl rfl) ?_
  refine run_nil ?_
  refine run_sub (subMk (.cons (s := 1) rfl (.cons (s := 6) rfl (.cons (s := 7) rfl (.cons (s := 8) rfl (.cons (s := 9) rfl (.cons (s := 10) rfl (.cons (s := 11) rfl .nil))))))) .refl) ?_
  refine run_seq ?_
  refine run_seq ?_
  refine run_region ?_
  refine run_q (.none rfl) rfl rfl (q_call rfl call12 Evs.nil (fun w hk hm => known_just w)) ?_
  refine run_q (.none rfl) rfl rfl (q_not rfl rfl) ?_
  refine run_nil ?_
  refine run_condF rfl rfl ?_
  refine run_skip ?_
  refine run_seq ?_
  refine run_seq ?_
  refine run_region ?_
  refine run_q (.none rfl) rfl rfl (q_move rfl rfl) ?_
  refine run_q (.none rfl) rfl rfl (q_move rfl rfl) ?_
  refine run_q (.none rfl) rfl rfl (q_call rfl call14 (.cons rfl (.cons rfl Evs.nil)) (fun w hk hm => refcheck_just a O19 co19 n w (own_rd ((Sel.there Sel.here).holds hm)) (by omega))) ?_
  refine run_q (.none rfl) rfl rfl (q_assign rfl rfl) ?_
  refine run_nil ?_
  refine run_sub (subMk (.cons (s := 1) rfl (.cons (s := 6) rfl (.cons (s := 7) rfl (.cons (s := 8) rfl (.cons (s := 9) rfl (.cons (s := 10) rfl (.cons (s := 11) rfl (.cons (s := 12) rfl .nil)))))))) .refl) ?_
  refine run_seq ?_
  refine run_region ?_
  refine run_q (.none rfl) rfl rfl (q_move rfl rfl) ?_
  refine run_q (.none rfl) rfl rfl (q_neq rfl rfl rfl) ?_
  refine run_nil ?_
  refine run_cond rfl (fun g38 => ?_) (fun g38 => ?_)
  · have g38' := g38
    try simp only [decide_eq_true_eq, decide_eq_false_iff_not, beq_iff_eq, beq_eq_false_iff_ne, bne_iff_ne, bne_eq_false_iff_eq, Bool.not_eq_true', Bool.not_eq_false', ne_eq, Int.not_lt, Int.not_le, Decidable.not_not] at g38'
    have hce : checkV a n ≠ 0 := by simpa using g38
    refine run_seq ?_
    refine run_region ?_
    refine run_q (.none rfl) rfl rfl (q_move rfl rfl) ?_
    refine run_q (.none rfl) rfl rfl (q_move rfl rfl) ?_
    refine run_q (.none rfl) rfl rfl (q_eql rfl rfl rfl) ?_
    refine run_q (.none rfl) rfl rfl (q_move rfl rfl) ?_
    refine run_q (.on rfl rfl rfl (by rw [insV_err hce]; simp)) rfl rfl (q_move rfl rfl) ?_
    refine run_q (.on rfl rfl rfl (by rw [insV_err hce]; simp)) rfl rfl (q_len rfl Try.underlying22 rfl) ?_
    refine run_q (.on rfl rfl rfl (by rw [insV_err hce]; simp)) rfl rfl (q_eql rfl rfl rfl) ?_
    refine run_q (.none rfl) rfl rfl (q_pickT rfl rfl (by rw [insV_err hce]; simp) rfl) ?_
    refine run_q (.none rfl) rfl rfl (q_assign rfl rfl) ?_
    refine run_nil ?_
    refine run_sub (subMk (.cons (s := 1) rfl (.cons (s := 6) rfl (.cons (s := 7) rfl (.cons (s := 8) rfl (.cons (s := 9) rfl (.cons (s := 10) rfl (.cons (s := 11) rfl .nil))))))) .refl) ?_
    refine run_ret ?_
    exact end1 rfl rfl (by rw [insV_err hce]; rfl)
  · have g38' := g38
    try simp only [decide_eq_true_eq, decide_eq_false_iff_not, beq_iff_eq, beq_eq_false_iff_ne, bne_iff_ne, bne_eq_false_iff_eq, Bool.not_eq_true', Bool.not_eq_false', ne_eq, Int.not_lt, Int.not_le, Decidable.not_not] at g38'
    have hc : checkV a n = 0 := by simpa using g38
    have hv := Val.of hc
    obtain ⟨c1, c2, c3, c4⟩ := checkV_good hc
    refine run_skip ?_
    refine run_seq ?_
    refine run_seq ?_
    refine run_region ?_
    refine run_q (.none rfl) rfl rfl (q_move rfl rfl) ?_
    refine run_q (.none rfl) rfl rfl (q_lss rfl rfl rfl) ?_
    refine run_q (.none rfl) rfl rfl (q_move rfl rfl) ?_
    refine run_split 49 rfl (fun g49 => ?_) (fun g49 => ?_)
    · have g49' := g49
      try simp only [decide_eq_true_eq, decide_eq_false_iff_not, beq_iff_eq, beq_eq_false_iff_ne, bne_iff_ne, bne_eq_false_iff_eq, Bool.not_eq_true', Bool.not_eq_false', ne_eq, Int.not_lt, Int.not_le, Decidable.not_not] at g49'
      refine run_off (.no rfl rfl rfl g49) rfl rfl ?_
      refine run_off (.no rfl rfl rfl g49) rfl rfl ?_
      refine run_off (.no rfl rfl rfl g49) rfl rfl ?_
      refine run_q (.none rfl) rfl rfl (q_pickT rfl rfl g49 rfl) ?_
      refine run_q (.none rfl) rfl rfl (q_move rfl rfl) ?_
      refine run_off (.no rfl rfl rfl rfl) rfl rfl ?_
      refine run_off (.no rfl rfl rfl rfl) rfl rfl ?_
      refine run_q (.none rfl) rfl rfl (q_pickT rfl rfl rfl rfl) ?_
      refine run_q (.none rfl) rfl rfl (q_move rfl rfl) ?_
      refine run_off (.no rfl rfl rfl rfl) rfl rfl ?_
      refine run_off (.no rfl rfl rfl rfl) rfl rfl ?_
      refine run_off (.no rfl rfl rfl rfl) rfl rfl ?_
      refine run_off (.no rfl rfl rfl rfl) rfl rfl ?_
      refine run_q (.none rfl) rfl rfl (q_pickT rfl rfl rfl rfl) ?_
      refine run_nil ?_
      refine run_sub (subMk (.cons (s := 1) rfl (.cons (s := 6) rfl (.cons (s := 7) rfl (.cons (s := 8) rfl (.cons (s := 9) rfl (.cons (s := 10) rfl (.cons (s := 11) rfl (.cons (s := 63) rfl .nil)))))))) .refl) ?_
      refine run_condT rfl rfl ?_
      refine run_seq ?_
      have hir := insV_rng (p := p) (c := c) hc (by omega)
      refine run_region ?_
      refine run_q (.none rfl) rfl rfl (q_move rfl rfl) ?_
      refine run_q (.none rfl) rfl rfl (q_eql rfl rfl rfl) ?_
      refine run_q (.none rfl) rfl rfl (q_move rfl rfl) ?_
      refine run_q (.on rfl rfl rfl (by rw [hir]; rfl)) rfl rfl (q_move rfl rfl) ?_
      refine run_q (.on rfl rfl rfl (by rw [hir]; rfl)) rfl rfl (q_len rfl Try.underlying22 rfl) ?_
      refine run_q (.on rfl rfl rfl (by rw [hir]; rfl)) rfl rfl (q_eql rfl rfl rfl) ?_
      refine run_q (.none rfl) rfl rfl (q_pickT rfl rfl (by rw [hir]; rfl) rfl) ?_
      refine run_q (.none rfl) rfl rfl (q_assign rfl rfl) ?_
      refine run_nil ?_
      refine run_sub (subMk (.cons (s := 1) rfl (.cons (s := 6) rfl (.cons (s := 7) rfl (.cons (s := 8) rfl (.cons (s := 9) rfl (.cons (s := 10) rfl (.cons (s := 11) rfl .nil))))))) .refl) ?_
      refine run_ret ?_
      exact end1 rfl rfl (by rw [hir]; rfl)
    · have g49' := g49
      try simp only [decide_eq_true_eq, decide_eq_false_iff_not, beq_iff_eq, beq_eq_false_iff_ne, bne_iff_ne, bne_eq_false_iff_eq, Bool.not_eq_true', Bool.not_eq_false', ne_eq, Int.not_lt, Int.not_le, Decidable.not_not] at g49'
      refine run_q (.on rfl rfl rfl g49) rfl rfl (q_move rfl rfl) ?_
      refine run_q (.on rfl rfl rfl g49) rfl rfl (q_move rfl rfl) ?_
      refine run_q (.on rfl rfl rfl g49) rfl rfl (q_gtr rfl rfl rfl) ?_
      refine run_q (.none rfl) rfl rfl (q_pickF rfl rfl g49 rfl) ?_
      refine run_q (.none rfl) rfl rfl (q_move rfl rfl) ?_
      refine run_split 54 rfl (fun g54 => ?_) (fun g54 => ?_)
      · have g54' := g54
        try simp only [decide_eq_true_eq, decide_eq_false_iff_not, beq_iff_eq, beq_eq_false_iff_ne, bne_iff_ne, bne_eq_false_iff_eq, Bool.not_eq_true', Bool.not_eq_false', ne_eq, Int.not_lt, Int.not_le, Decidable.not_not] at g54'
        refine run_off (.no rfl rfl rfl g54) rfl rfl ?_
        refine run_off (.no rfl rfl rfl g54) rfl rfl ?_
        refine run_q (.none rfl) rfl rfl (q_pickT rfl rfl g54 rfl) ?_
        refine run_q (.none rfl) rfl rfl (q_move rfl rfl) ?_
        refine run_off (.no rfl rfl rfl rfl) rfl rfl ?_
        refine run_off (.no rfl rfl rfl rfl) rfl rfl ?_
        refine run_off (.no rfl rfl rfl rfl) rfl rfl ?_
        refine run_off (.no rfl rfl rfl rfl) rfl rfl ?_
        refine run_q (.none rfl) rfl rfl (q_pickT rfl rfl rfl rfl) ?_
        refine run_nil ?_
        refine run_sub (subMk (.cons (s := 1) rfl (.cons (s := 6) rfl (.cons (s := 7) rfl (.cons (s := 8) rfl (.cons (s := 9) rfl (.cons (s := 10) rfl (.cons (s := 11) rfl (.cons (s := 63) rfl .nil)))))))) .refl) ?_
        refine run_condT rfl rfl ?_
        refine run_seq ?_
        have hir := insV_rng (p := p) (c := c) hc (by omega)
        refine run_region ?_
        refine run_q (.none rfl) rfl rfl (q_move rfl rfl) ?_
        refine run_q (.none rfl) rfl rfl (q_eql rfl rfl rfl) ?_
        refine run_q (.none rfl) rfl rfl (q_move rfl rfl) ?_
        refine run_q (.on rfl rfl rfl (by rw [hir]; rfl)) rfl rfl (q_move rfl rfl) ?_
        refine run_q (.on rfl rfl rfl (by rw [hir]; rfl)) rfl rfl (q_len rfl Try.underlying22 rfl) ?_
        refine run_q (.on rfl rfl rfl (by rw [hir]; rfl)) rfl rfl (q_eql rfl rfl rfl) ?_
        refine run_q (.none rfl) rfl rfl (q_pickT rfl rfl (by rw [hir]; rfl) rfl) ?_
        refine run_q (.none rfl) rfl rfl (q_assign rfl rfl) ?_
        refine run_nil ?_
        refine run_sub (subMk (.cons (s := 1) rfl (.cons (s := 6) rfl (.cons (s := 7) rfl (.cons (s := 8) rfl (.cons (s := 9) rfl (.cons (s := 10) rfl (.cons (s := 11) rfl .nil))))))) .refl) ?_
        refine run_ret ?_
        exact end1 rfl rfl (by rw [hir]; rfl)
      · have g54' := g54
        try simp only [decide_eq_true_eq, decide_eq_false_iff_not, beq_iff_eq, beq_eq_false_iff_ne, bne_iff_ne, bne_eq_false_iff_eq, Bool.not_eq_true', Bool.not_eq_false', ne_eq, Int.not_lt, Int.not_le, Decidable.not_not] at g54'
        refine run_q (.on rfl rfl rfl g54) rfl rfl (q_move rfl rfl) ?_
        refine run_q (.on rfl rfl rfl g54) rfl rfl (q_lss rfl rfl rfl) ?_
        refine run_q (.none rfl) rfl rfl (q_pickF rfl rfl g54 rfl) ?_
        refine run_q (.none rfl) rfl rfl (q_move rfl rfl) ?_
        refine run_split 58 rfl (fun g58 => ?_) (fun g58 => ?_)
        · have g58' := g58
          try simp only [decide_eq_true_eq, decide_eq_false_iff_not, beq_iff_eq, beq_eq_false_iff_ne, bne_iff_ne, bne_eq_false_iff_eq, Bool.not_eq_true', Bool.not_eq_false', ne_eq, Int.not_lt, Int.not_le, Decidable.not_not] at g58'
          refine run_off (.no rfl rfl rfl g58) rfl rfl ?_
          refine run_off (.no rfl rfl rfl g58) rfl rfl ?_
          refine run_off (.no rfl rfl rfl g58) rfl rfl ?_
          refine run_off (.no rfl rfl rfl g58) rfl rfl ?_
          refine run_q (.none rfl) rfl rfl (q_pickT rfl rfl g58 rfl) ?_
          refine run_nil ?_
          refine run_sub (subMk (.cons (s := 1) rfl (.cons (s := 6) rfl (.cons (s := 7) rfl (.cons (s := 8) rfl (.cons (s := 9) rfl (.cons (s := 10) rfl (.cons (s := 11) rfl (.cons (s := 63) rfl .nil)))))))) .refl) ?_
          refine run_condT rfl rfl ?_
          refine run_seq ?_
          have hir := insV_rng (p := p) (c := c) hc (by omega)
          refine run_region ?_
          refine run_q (.none rfl) rfl rfl (q_move rfl rfl) ?_
          refine run_q (.none rfl) rfl rfl (q_eql rfl rfl rfl) ?_
          refine run_q (.none rfl) rfl rfl (q_move rfl rfl) ?_
          refine run_q (.on rfl rfl rfl (by rw [hir]; rfl)) rfl rfl (q_move rfl rfl) ?_
          refine run_q (.on rfl rfl rfl (by rw [hir]; rfl)) rfl rfl (q_len rfl Try.underlying22 rfl) ?_
          refine run_q (.on rfl rfl rfl (by rw [hir]; rfl)) rfl rfl (q_eql rfl rfl rfl) ?_
          refine run_q (.none rfl) rfl rfl (q_pickT rfl rfl (by rw [hir]; rfl) rfl) ?_
          refine run_q (.none rfl) rfl rfl (q_assign rfl rfl) ?_
          refine run_nil ?_
          refine run_sub (subMk (.cons (s := 1) rfl (.cons (s := 6) rfl (.cons (s := 7) rfl (.cons (s := 8) rfl (.cons (s := 9) rfl (.cons (s := 10) rfl (.cons (s := 11) rfl .nil))))))) .refl) ?_
          refine run_ret ?_
          exact end1 rfl rfl (by rw [hir]; rfl)
        · have g58' := g58
          try simp only [decide_eq_true_eq, decide_eq_false_iff_not, beq_iff_eq, beq_eq_false_iff_ne, bne_iff_ne, bne_eq_false_iff_eq, Bool.not_eq_true', Bool.not_eq_false', ne_eq, Int.not_lt, Int.not_le, Decidable.not_not] at g58'
          refine run_q (.on rfl rfl rfl g58) rfl rfl (q_move rfl rfl) ?_
          refine run_q (.on rfl rfl rfl g58) rfl rfl (q_move rfl rfl) ?_
          refine run_q (.on rfl rfl rfl g58) rfl rfl (q_sub rfl rfl rfl (by omega)) ?_
          refine run_q (.on rfl rfl rfl g58) rfl rfl (q_gtr rfl rfl rfl) ?_
          refine run_q (.none rfl) rfl rfl (q_pickF rfl rfl g58 rfl) ?_
          refine run_nil ?_
          refine run_sub (subMk (.cons (s := 1) rfl (.cons (s := 6) rfl (.cons (s := 7) rfl (.cons (s := 8) rfl (.cons (s := 9) rfl (.cons (s := 10) rfl (.cons (s := 11) rfl (.cons (s := 63) rfl .nil)))))))) .refl) ?_
          refine run_cond rfl (fun g63 => ?_) (fun g63 => ?_)
          · have g63' := g63
            try simp only [decide_eq_true_eq, decide_eq_false_iff_not, beq_iff_eq, beq_eq_false_iff_ne, bne_iff_ne, bne_eq_false_iff_eq, Bool.not_eq_true', Bool.not_eq_false', ne_eq, Int.not_lt, Int.not_le, Decidable.not_not] at g63'
            refine run_seq ?_
            have hir := insV_rng (p := p) (c := c) hc (by omega)
            refine run_region ?_
            refine run_q (.none rfl) rfl rfl (q_move rfl rfl) ?_
            refine run_q (.none rfl) rfl rfl (q_eql rfl rfl rfl) ?_
            refine run_q (.none rfl) rfl rfl (q_move rfl rfl) ?_
            refine run_q (.on rfl rfl rfl (by rw [hir]; rfl)) rfl rfl (q_move rfl rfl) ?_
            refine run_q (.on rfl rfl rfl (by rw [hir]; rfl)) rfl rfl (q_len rfl Try.underlying22 rfl) ?_
            refine run_q (.on rfl rfl rfl (by rw [hir]; rfl)) rfl rfl (q_eql rfl rfl rfl) ?_
            refine run_q (.none rfl) rfl rfl (q_pickT rfl rfl (by rw [hir]; rfl) rfl) ?_
            refine run_q (.none rfl) rfl rfl (q_assign rfl rfl) ?_
            refine run_nil ?_
            refine run_sub (subMk (.cons (s := 1) rfl (.cons (s := 6) rfl (.cons (s := 7) rfl (.cons (s := 8) rfl (.cons (s := 9) rfl (.cons (s := 10) rfl (.cons (s := 11) rfl .nil))))))) .refl) ?_
            refine run_ret ?_
            exact end1 rfl rfl (by rw [hir]; rfl)
          · have g63' := g63
            try simp only [decide_eq_true_eq, decide_eq_false_iff_not, beq_iff_eq, beq_eq_false_iff_ne, bne_iff_ne, bne_eq_false_iff_eq, Bool.not_eq_true', Bool.not_eq_false', ne_eq, Int.not_lt, Int.not_le, Decidable.not_not] at g63'
            refine run_skip ?_
            refine run_seq ?_
            have hpc : 0 ≤ p ∧ p ≤ n ∧ 0 ≤ c ∧ c ≤ 128 - n := by omega
            refine run_region ?_
            refine run_q (.none rfl) rfl rfl (q_move rfl rfl) ?_
            refine run_q (.none rfl) rfl rfl (q_eql rfl rfl rfl) ?_
            refine run_q (.none rfl) rfl rfl (q_move rfl rfl) ?_
            refine run_q (.on rfl rfl rfl (by rw [insV_ok hc hpc]; rfl)) rfl rfl (q_move rfl rfl) ?_
            refine run_q (.on rfl rfl rfl (by rw [insV_ok hc hpc]; rfl)) rfl rfl (q_move rfl rfl) ?_
            refine run_q (.on rfl rfl rfl (by rw [insV_ok hc hpc]; rfl)) rfl rfl (q_move rfl rfl) ?_
            refine run_q (.on rfl rfl rfl (by rw [insV_ok hc hpc]; rfl)) rfl rfl (q_move rfl rfl) ?_
            refine run_h (.on rfl rfl rfl (by rw [insV_ok hc hpc]; rfl)) (h_call rfl rfl rfl call29 (.cons rfl (.cons rfl (.cons rfl Evs.nil))) (fun w hk hm => refinsert_ret a O19 co19 n p c w (own_rd ((Sel.there Sel.here).holds hm)) (by omega) hv (by omega))) ?_
            rintro ⟨v, m⟩ ⟨O78, co78, rfl, rfl⟩
            show Run _ _ _ _ _ _ _ ⟨(78, .slice O78 a.length co78) :: _, _ :: _⟩
            refine run_q (.on rfl rfl rfl (by rw [insV_ok hc hpc]; rfl)) rfl rfl (q_call rfl call28 (.cons rfl (.cons rfl Evs.nil)) (fun w hk hm => same_ins a n p c O29 O78 co29 co78 w (own_rd ((Sel.there Sel.here).holds hm)) (own_rd (Sel.here.holds hm)) hc hpc (by omega))) ?_
            refine run_q (.none rfl) rfl rfl (q_pickT rfl rfl (by rw [insV_ok hc hpc]; rfl) rfl) ?_
            refine run_q (.none rfl) rfl rfl (q_move rfl rfl) ?_
            refine run_q (.on rfl rfl rfl rfl) rfl rfl (q_move rfl rfl) ?_
            refine run_q (.on rfl rfl rfl rfl) rfl rfl (q_move rfl rfl) ?_
            refine run_q (.on rfl rfl rfl rfl) rfl rfl (q_move rfl rfl) ?_
            refine run_q (.on rfl rfl rfl rfl) rfl rfl (q_add rfl rfl rfl (by omega)) ?_
            refine run_q (.on rfl rfl rfl rfl) rfl rfl (q_call rfl call13 (.cons rfl (.cons rfl Evs.nil)) (fun w hk hm => check_ins a n p c O29 co29 w (own_rd ((Sel.there Sel.here).holds hm)) hc hpc (by omega))) ?_
            refine run_q (.on rfl rfl rfl rfl) rfl rfl (q_eql rfl rfl rfl) ?_
            refine run_q (.none rfl) rfl rfl (q_pickT rfl rfl rfl rfl) ?_
            refine run_q (.none rfl) rfl rfl (q_assign rfl rfl) ?_
            refine run_nil ?_
            refine run_sub (subMk (.cons (s := 6) rfl .nil) .refl) ?_
            refine run_ret ?_
            exact end1 rfl rfl rfl

theorem law9_just (l : List Tup) (A : Option Addr) (ca : Nat) (n p c : Int) (W : World) (hr0 : Rd W A 4 (l.map Tup.enc)) (hca : l.length ≤ ca) : Calls Try.prog 9 #[.slice A l.length ca, .int .i64 n, .agg #[.int .i64 p, .int .i64 c]] W (Just W (.bool true)) := law9_at l A ca n p c W hr0 hca _ rfl

end Go.Proofs.Yticofkkkafhpiaa
