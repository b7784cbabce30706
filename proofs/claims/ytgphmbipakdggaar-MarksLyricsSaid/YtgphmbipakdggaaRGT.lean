/- How wide a text is. -/
import Derived.Test.YtgphmbipakdggaaRB
import Derived.Test.YtgphmbipakdggaaRText
import Derived.Test.YtgphmbipakdggaaRConv
set_option linter.unusedSimpArgs false
set_option linter.unusedVariables false
namespace Go.Proofs.YtgphmbipakdggaaR
open Go Go.RowKit Hr

theorem sz5 : Hr.Sz Try.prog 5 1 := Hr.Sz.of (by kernel_rfl)
theorem one5 : Hr.One Try.prog 5 := ⟨fun w => by simp [isAgg, run_underlying Try.underlying5], Hr.Sz.of (by kernel_rfl)⟩
theorem call69 : Hr.Callable Try.prog 69 := fun args w => by kernel_rfl
theorem info5 : Hr.Info Try.prog 5 [.int .u8 0] 1 1 := Hr.Info.of (by kernel_rfl)
theorem call47 : Hr.Callable Try.prog 47 := fun args w => by kernel_rfl

set_option maxRecDepth 100000 in
theorem indexB_just (bs : List Int) (B : Option Addr) (cb : Nat) (b : Int) (W : World) (hrb : Rd W B 1 (bs.map encB)) (hbl : bs.length ≤ 1000000) : Calls Try.prog 69 #[.slice B bs.length cb, .int .u8 b] W (Hr.Just W (.int .i64 (ixF b bs 0))) := by
  refine Just.of_ret ?_
  refine enterA (X := nX) (vs := [.slice B bs.length cb, .int .u8 b]) Try.func69 Try.ntmps69 rfl rfl Mem.nil ?_
  refine run_seq ?_
  refine run_region ?_
  refine run_q (.none rfl) rfl rfl (q_assign rfl rfl) ?_
  refine run_nil ?_
  refine run_seq ?_
  refine run_seq ?_
  refine run_region ?_
  refine run_q (.none rfl) rfl rfl (q_move rfl rfl) ?_
  refine run_q (.none rfl) rfl rfl (q_len rfl Try.underlying102 rfl) ?_
  refine run_q (.none rfl) rfl rfl (q_move rfl rfl) ?_
  refine run_nil ?_
  refine run_block ?_
  refine run_sub (subMk (.cons (s := 8) rfl (.cons (s := 0) rfl (.cons (s := 1) rfl (.cons (s := 4) rfl (.cons (s := 7) rfl .nil))))) .nil) ?_
  refine run_loopC1M0 (ι := Nat) (fun k => k ≤ bs.length ∧ ixF b bs 0 = ixF b (bs.drop k) k) (fun k => .int .i64 (k : Int))  (fun k => bs.length - k) 0 (by (try dsimp only); exact ⟨by omega, rfl⟩) rfl  ?_
  rintro k hq
  (try dsimp only at hq)
  obtain ⟨hk, hE⟩ := hq
  show Run _ _ _ _ _ _ _ ⟨(8, .int .i64 (k : Int)) :: _, _⟩
  refine run_seq ?_
  refine run_region ?_
  refine run_q (.none rfl) rfl rfl (q_lss rfl rfl rfl) ?_
  refine run_nil ?_
  refine run_seq ?_
  refine run_cond rfl (fun g9 => ?_) (fun g9 => ?_)
  · have g9' := g9
    try simp only [decide_eq_true_eq, decide_eq_false_iff_not, beq_iff_eq, beq_eq_false_iff_ne, bne_iff_ne, bne_eq_false_iff_eq, Bool.not_eq_true', Bool.not_eq_false', ne_eq, Int.not_lt, Int.not_le, Decidable.not_not] at g9'
    have hst := ixF_step (b := b) (l := bs) (k := k) (by omega)
    refine run_skip ?_
    refine run_seq ?_
    refine run_block ?_
    refine run_seq ?_
    refine run_region ?_
    refine run_q (.none rfl) rfl rfl (q_move rfl rfl) ?_
    refine run_q (.none rfl) rfl rfl (q_assign rfl rfl) ?_
    refine run_nil ?_
    refine run_seq ?_
    refine run_region ?_
    refine run_q (.none rfl) rfl rfl (q_move rfl rfl) ?_
    refine run_q (.none rfl) rfl rfl (q_move rfl rfl) ?_
    refine run_q (.none rfl) rfl rfl (q_move rfl rfl) ?_
    refine run_q (.none rfl) rfl rfl (q_indexS (q := k) rfl Try.underlying102 sz5 rfl rfl (.inp hrb .no) (by simp <;> omega) rfl (by omega)) ?_
    refine run_q (.none rfl) rfl rfl (q_loadC rfl one5 rfl (.inp hrb .no) (getmap (by omega))) ?_
    refine run_q (.none rfl) rfl rfl (q_eql rfl rfl rfl) ?_
    refine run_nil ?_
    refine run_sub (subMk (.cons (s := 0) rfl (.cons (s := 1) rfl (.cons (s := 4) rfl (.cons (s := 5) rfl (.cons (s := 7) rfl (.cons (s := 8) rfl (.cons (s := 16) rfl .nil))))))) .refl) ?_
    refine run_cond rfl (fun g16 => ?_) (fun g16 => ?_)
    · have g16' := g16
      try simp only [decide_eq_true_eq, decide_eq_false_iff_not, beq_iff_eq, beq_eq_false_iff_ne, bne_iff_ne, bne_eq_false_iff_eq, Bool.not_eq_true', Bool.not_eq_false', ne_eq, Int.not_lt, Int.not_le, Decidable.not_not] at g16'
      refine run_seq ?_
      refine run_region ?_
      refine run_q (.none rfl) rfl rfl (q_move rfl rfl) ?_
      refine run_q (.none rfl) rfl rfl (q_assign rfl rfl) ?_
      refine run_nil ?_
      refine run_sub (subMk (.cons (s := 0) rfl (.cons (s := 1) rfl (.cons (s := 4) rfl (.cons (s := 7) rfl (.cons (s := 8) rfl .nil))))) .refl) ?_
      refine run_ret ?_
      exact end1 rfl rfl (by rw [hE, hst, if_pos g16'])
    · have g16' := g16
      try simp only [decide_eq_true_eq, decide_eq_false_iff_not, beq_iff_eq, beq_eq_false_iff_ne, bne_iff_ne, bne_eq_false_iff_eq, Bool.not_eq_true', Bool.not_eq_false', ne_eq, Int.not_lt, Int.not_le, Decidable.not_not] at g16'
      refine run_skip ?_
      refine run_blk ?_
      refine run_region ?_
      refine run_q (.none rfl) rfl rfl (q_add rfl rfl rfl (by omega)) ?_
      refine run_q (.none rfl) rfl rfl (q_move rfl rfl) ?_
      refine run_nil ?_
      refine run_sub (subMk (.cons (s := 0) rfl (.cons (s := 1) rfl (.cons (s := 4) rfl (.cons (s := 7) rfl (.cons (s := 8) rfl .nil))))) .refl) ?_
      exact run_again (k + 1) (by (try dsimp only); exact ⟨by omega, by rw [hE, hst, if_neg g16']⟩) (by (try dsimp only); omega) (subMk (.cons' (s := 8) rfl (vint (by omega)) (.cons (s := 0) rfl (.cons (s := 1) rfl (.cons (s := 4) rfl (.cons (s := 7) rfl .nil))))) .nil)
  · have g9' := g9
    try simp only [decide_eq_true_eq, decide_eq_false_iff_not, beq_iff_eq, beq_eq_false_iff_ne, bne_iff_ne, bne_eq_false_iff_eq, Bool.not_eq_true', Bool.not_eq_false', ne_eq, Int.not_lt, Int.not_le, Decidable.not_not] at g9'
    refine run_exit rfl ?_
    refine run_sub (subMk (.cons (s := 4) rfl .nil) .refl) ?_
    refine run_seq ?_
    refine run_region ?_
    refine run_q (.none rfl) rfl rfl (q_assign rfl rfl) ?_
    refine run_nil ?_
    refine run_ret ?_
    exact end1 rfl rfl (by rw [hE, List.drop_eq_nil_of_le (by omega)]; rfl)

set_option maxRecDepth 100000 in
theorem containsB_just (bs : List Int) (B : Option Addr) (cb : Nat) (b : Int) (W : World) (hrb : Rd W B 1 (bs.map encB)) (hbl : bs.length ≤ 1000000) : Calls Try.prog 47 #[.slice B bs.length cb, .int .u8 b] W (Hr.Just W (.bool (decide (0 ≤ ixF b bs 0)))) := by
  refine Just.of_ret ?_
  refine enterA (X := nX) (vs := [.slice B bs.length cb, .int .u8 b]) Try.func47 Try.ntmps47 rfl rfl Mem.nil ?_
  refine run_seq ?_
  refine run_region ?_
  refine run_q (.none rfl) rfl rfl (q_assign rfl rfl) ?_
  refine run_nil ?_
  refine run_seq ?_
  refine run_region ?_
  refine run_q (.none rfl) rfl rfl (q_move rfl rfl) ?_
  refine run_q (.none rfl) rfl rfl (q_move rfl rfl) ?_
  refine run_q (.none rfl) rfl rfl (q_call rfl call69 (.cons rfl (.cons rfl Evs.nil)) (fun w hk hm => indexB_just bs B cb b w (hrb.kept0 hk) hbl)) ?_
  refine run_q (.none rfl) rfl rfl (q_geq rfl rfl rfl) ?_
  refine run_q (.none rfl) rfl rfl (q_assign rfl rfl) ?_
  refine run_nil ?_
  refine run_sub (subMk (.cons (s := 4) rfl .nil) .refl) ?_
  refine run_ret ?_
  exact end1 rfl rfl rfl

set_option maxHeartbeats 2000000 in
set_option maxRecDepth 100000 in
theorem glyText_just (s : ByteArray) (W : World) (hs : s.size ≤ 300) : Calls Try.prog 25 #[.string s] W (Hr.Just W (.int .i64 (glyT s s.size))) := by
  refine Just.of_ret ?_
  refine enterA (X := nX) (vs := [.string s]) Try.func25 Try.ntmps25 rfl rfl Mem.nil ?_
  refine run_seq ?_
  refine run_region ?_
  refine run_q (.none rfl) rfl rfl (q_assign rfl rfl) ?_
  refine run_nil ?_
  refine run_seq ?_
  refine run_region ?_
  refine run_q (.none rfl) rfl rfl (q_assign rfl rfl) ?_
  refine run_nil ?_
  refine run_seq ?_
  refine run_seq ?_
  refine run_region ?_
  refine run_q (.none rfl) rfl rfl (q_move rfl rfl) ?_
  refine run_q (.none rfl) rfl rfl (q_lens rfl Try.underlying9 rfl) ?_
  refine run_q (.none rfl) rfl rfl (q_move rfl rfl) ?_
  refine run_nil ?_
  refine run_block ?_
  refine run_sub (subMk (.cons (s := 8) rfl (.cons (s := 3) rfl (.cons (s := 0) rfl (.cons (s := 2) rfl (.cons (s := 7) rfl .nil))))) .nil) ?_
  refine run_loopC2M0 (ι := Nat) (fun k => k ≤ s.size) (fun k => .int .i64 (k : Int)) (fun k => .int .i64 (glyT s k))  (fun k => s.size - k) 0 (by (try dsimp only); exact (by omega)) rfl rfl  ?_
  rintro k hk
  (try dsimp only at hk)
  show Run _ _ _ _ _ _ _ ⟨(8, .int .i64 (k : Int)) :: (3, .int .i64 (glyT s k)) :: _, _⟩
  refine run_seq ?_
  refine run_region ?_
  refine run_q (.none rfl) rfl rfl (q_lss rfl rfl rfl) ?_
  refine run_nil ?_
  refine run_seq ?_
  refine run_cond rfl (fun g9 => ?_) (fun g9 => ?_)
  · have g9' := g9
    try simp only [decide_eq_true_eq, decide_eq_false_iff_not, beq_iff_eq, beq_eq_false_iff_ne, bne_iff_ne, bne_eq_false_iff_eq, Bool.not_eq_true', Bool.not_eq_false', ne_eq, Int.not_lt, Int.not_le, Decidable.not_not] at g9'
    have hgb := glyT_bd s k
    refine run_skip ?_
    refine run_seq ?_
    refine run_block ?_
    refine run_seq ?_
    refine run_region ?_
    refine run_q (.none rfl) rfl rfl (q_move rfl rfl) ?_
    refine run_q (.none rfl) rfl rfl (q_assign rfl rfl) ?_
    refine run_nil ?_
    refine run_seq ?_
    refine run_region ?_
    refine run_q (.none rfl) rfl rfl (q_move rfl rfl) ?_
    refine run_q (.none rfl) rfl rfl (q_move rfl rfl) ?_
    refine run_q (.none rfl) rfl rfl (q_indexStr (q := k) rfl Try.underlying9 rfl rfl rfl (bAt_get (by omega))) ?_
    refine run_q (.none rfl) rfl rfl (q_assign rfl rfl) ?_
    refine run_nil ?_
    refine run_sub (subMk (.cons (s := 0) rfl (.cons (s := 2) rfl (.cons (s := 3) rfl (.cons (s := 5) rfl (.cons (s := 7) rfl (.cons (s := 8) rfl .nil)))))) .refl) ?_
    refine run_block ?_
    refine run_seq ?_
    refine run_sub (subMk (.cons (s := 0) rfl (.cons (s := 2) rfl (.cons (s := 3) rfl (.cons' (s := 5) (v' := .int .u8 (bAt s k)) rfl rfl (.cons (s := 7) rfl (.cons (s := 8) rfl .nil)))))) .refl) ?_
    refine run_region ?_
    refine run_h (.none rfl) (h_buildSlice rfl rfl rfl Try.underlying102 info5 (.cons rfl rfl rfl rfl (.cons rfl rfl rfl rfl (.cons rfl rfl rfl rfl (.cons rfl rfl rfl rfl (.cons rfl rfl rfl rfl (.cons rfl rfl rfl rfl (.cons rfl rfl rfl rfl (.cons rfl rfl rfl rfl (.cons rfl rfl rfl rfl (.cons rfl rfl rfl rfl (.cons rfl rfl rfl rfl (.cons rfl rfl rfl rfl (.cons rfl rfl rfl rfl (.cons rfl rfl rfl rfl Parts.nil)))))))))))))) rfl (by omega)) ?_
    rintro b15 -
    refine run_h (.none rfl) (h_convB rfl rfl rfl Try.underlying102 Try.underlying5 rfl Sel.here (by omega)) ?_
    rintro - -
    refine run_q (.none rfl) rfl rfl (q_move rfl rfl) ?_
    refine run_q (.none rfl) rfl rfl (q_call rfl call47 (.cons rfl (.cons rfl Evs.nil)) (fun w hk hm => containsB_just W14 (some ⟨b15, 0, none⟩) 14 (bAt s k) w (rdRes_rd (Sel.here.holds hm)) (by decide))) ?_
    refine run_q (.none rfl) rfl rfl (q_assign rfl rfl) ?_
    refine run_nil ?_
    refine run_sub (subMk (.cons (s := 0) rfl (.cons (s := 2) rfl (.cons (s := 3) rfl (.cons (s := 5) rfl (.cons (s := 7) rfl (.cons (s := 8) rfl (.cons (s := 14) rfl .nil))))))) .refl) ?_
    refine run_cond rfl (fun g14 => ?_) (fun g14 => ?_)
    · have g14' := g14
      try simp only [decide_eq_true_eq, decide_eq_false_iff_not, beq_iff_eq, beq_eq_false_iff_ne, bne_iff_ne, bne_eq_false_iff_eq, Bool.not_eq_true', Bool.not_eq_false', ne_eq, Int.not_lt, Int.not_le, Decidable.not_not] at g14'
      refine run_region ?_
      refine run_q (.none rfl) rfl rfl (q_move rfl rfl) ?_
      refine run_q (.none rfl) rfl rfl (q_add rfl rfl rfl (by omega)) ?_
      refine run_q (.none rfl) rfl rfl (q_assign rfl rfl) ?_
      refine run_nil ?_
      refine run_sub (subMk (.cons (s := 0) rfl (.cons (s := 2) rfl (.cons (s := 3) rfl (.cons (s := 7) rfl (.cons (s := 8) rfl .nil))))) .refl) ?_
      refine run_blk ?_
      refine run_blk ?_
      refine run_region ?_
      refine run_q (.none rfl) rfl rfl (q_add rfl rfl rfl (by omega)) ?_
      refine run_q (.none rfl) rfl rfl (q_move rfl rfl) ?_
      refine run_nil ?_
      exact run_again (k + 1) (by (try dsimp only); exact (by omega)) (by (try dsimp only); omega) (subMk (.cons' (s := 8) rfl (vint (by omega)) (.cons' (s := 3) rfl (vint (glyT_20 g14')) (.cons (s := 0) rfl (.cons (s := 2) rfl (.cons (s := 7) rfl .nil))))) .nil)
    · have g14' := g14
      try simp only [decide_eq_true_eq, decide_eq_false_iff_not, beq_iff_eq, beq_eq_false_iff_ne, bne_iff_ne, bne_eq_false_iff_eq, Bool.not_eq_true', Bool.not_eq_false', ne_eq, Int.not_lt, Int.not_le, Decidable.not_not] at g14'
      refine run_seq ?_
      refine run_region ?_
      refine run_q (.none rfl) rfl rfl (q_move rfl rfl) ?_
      refine run_q (.none rfl) rfl rfl (q_eql rfl rfl rfl) ?_
      refine run_q (.none rfl) rfl rfl (q_move rfl rfl) ?_
      refine run_split 24 rfl (fun g24 => ?_) (fun g24 => ?_)
      · have g24' := g24
        try simp only [decide_eq_true_eq, decide_eq_false_iff_not, beq_iff_eq, beq_eq_false_iff_ne, bne_iff_ne, bne_eq_false_iff_eq, Bool.not_eq_true', Bool.not_eq_false', ne_eq, Int.not_lt, Int.not_le, Decidable.not_not] at g24'
        refine run_off (.no rfl rfl rfl g24) rfl rfl ?_
        refine run_off (.no rfl rfl rfl g24) rfl rfl ?_
        refine run_q (.none rfl) rfl rfl (q_pickT rfl rfl g24 rfl) ?_
        refine run_q (.none rfl) rfl rfl (q_move rfl rfl) ?_
        refine run_off (.no rfl rfl rfl rfl) rfl rfl ?_
        refine run_off (.no rfl rfl rfl rfl) rfl rfl ?_
        refine run_q (.none rfl) rfl rfl (q_pickT rfl rfl rfl rfl) ?_
        refine run_q (.none rfl) rfl rfl (q_move rfl rfl) ?_
        refine run_off (.no rfl rfl rfl rfl) rfl rfl ?_
        refine run_off (.no rfl rfl rfl rfl) rfl rfl ?_
        refine run_q (.none rfl) rfl rfl (q_pickT rfl rfl rfl rfl) ?_
        refine run_q (.none rfl) rfl rfl (q_assign rfl rfl) ?_
        refine run_nil ?_
        refine run_sub (subMk (.cons (s := 0) rfl (.cons (s := 2) rfl (.cons (s := 3) rfl (.cons (s := 5) rfl (.cons (s := 7) rfl (.cons (s := 8) rfl (.cons (s := 21) rfl .nil))))))) .refl) ?_
        refine run_condT rfl rfl ?_
        refine run_region ?_
        refine run_q (.none rfl) rfl rfl (q_move rfl rfl) ?_
        refine run_q (.none rfl) rfl rfl (q_add rfl rfl rfl (by omega)) ?_
        refine run_q (.none rfl) rfl rfl (q_assign rfl rfl) ?_
        refine run_nil ?_
        refine run_sub (subMk (.cons (s := 0) rfl (.cons (s := 2) rfl (.cons (s := 3) rfl (.cons (s := 7) rfl (.cons (s := 8) rfl .nil))))) .refl) ?_
        refine run_blk ?_
        refine run_blk ?_
        refine run_region ?_
        refine run_q (.none rfl) rfl rfl (q_add rfl rfl rfl (by omega)) ?_
        refine run_q (.none rfl) rfl rfl (q_move rfl rfl) ?_
        refine run_nil ?_
        exact run_again (k + 1) (by (try dsimp only); exact (by omega)) (by (try dsimp only); omega) (subMk (.cons' (s := 8) rfl (vint (by omega)) (.cons' (s := 3) rfl (vint (glyT_60 (by omega) (by omega))) (.cons (s := 0) rfl (.cons (s := 2) rfl (.cons (s := 7) rfl .nil))))) .nil)
      · have g24' := g24
        try simp only [decide_eq_true_eq, decide_eq_false_iff_not, beq_iff_eq, beq_eq_false_iff_ne, bne_iff_ne, bne_eq_false_iff_eq, Bool.not_eq_true', Bool.not_eq_false', ne_eq, Int.not_lt, Int.not_le, Decidable.not_not] at g24'
        refine run_q (.on rfl rfl rfl g24) rfl rfl (q_move rfl rfl) ?_
        refine run_q (.on rfl rfl rfl g24) rfl rfl (q_eql rfl rfl rfl) ?_
        refine run_q (.none rfl) rfl rfl (q_pickF rfl rfl g24 rfl) ?_
        refine run_q (.none rfl) rfl rfl (q_move rfl rfl) ?_
        refine run_split 28 rfl (fun g28 => ?_) (fun g28 => ?_)
        · have g28' := g28
          try simp only [decide_eq_true_eq, decide_eq_false_iff_not, beq_iff_eq, beq_eq_false_iff_ne, bne_iff_ne, bne_eq_false_iff_eq, Bool.not_eq_true', Bool.not_eq_false', ne_eq, Int.not_lt, Int.not_le, Decidable.not_not] at g28'
          refine run_off (.no rfl rfl rfl g28) rfl rfl ?_
          refine run_off (.no rfl rfl rfl g28) rfl rfl ?_
          refine run_q (.none rfl) rfl rfl (q_pickT rfl rfl g28 rfl) ?_
          refine run_q (.none rfl) rfl rfl (q_move rfl rfl) ?_
          refine run_off (.no rfl rfl rfl rfl) rfl rfl ?_
          refine run_off (.no rfl rfl rfl rfl) rfl rfl ?_
          refine run_q (.none rfl) rfl rfl (q_pickT rfl rfl rfl rfl) ?_
          refine run_q (.none rfl) rfl rfl (q_assign rfl rfl) ?_
          refine run_nil ?_
          refine run_sub (subMk (.cons (s := 0) rfl (.cons (s := 2) rfl (.cons (s := 3) rfl (.cons (s := 5) rfl (.cons (s := 7) rfl (.cons (s := 8) rfl (.cons (s := 21) rfl .nil))))))) .refl) ?_
          refine run_condT rfl rfl ?_
          refine run_region ?_
          refine run_q (.none rfl) rfl rfl (q_move rfl rfl) ?_
          refine run_q (.none rfl) rfl rfl (q_add rfl rfl rfl (by omega)) ?_
          refine run_q (.none rfl) rfl rfl (q_assign rfl rfl) ?_
          refine run_nil ?_
          refine run_sub (subMk (.cons (s := 0) rfl (.cons (s := 2) rfl (.cons (s := 3) rfl (.cons (s := 7) rfl (.cons (s := 8) rfl .nil))))) .refl) ?_
          refine run_blk ?_
          refine run_blk ?_
          refine run_region ?_
          refine run_q (.none rfl) rfl rfl (q_add rfl rfl rfl (by omega)) ?_
          refine run_q (.none rfl) rfl rfl (q_move rfl rfl) ?_
          refine run_nil ?_
          exact run_again (k + 1) (by (try dsimp only); exact (by omega)) (by (try dsimp only); omega) (subMk (.cons' (s := 8) rfl (vint (by omega)) (.cons' (s := 3) rfl (vint (glyT_60 (by omega) (by omega))) (.cons (s := 0) rfl (.cons (s := 2) rfl (.cons (s := 7) rfl .nil))))) .nil)
        · have g28' := g28
          try simp only [decide_eq_true_eq, decide_eq_false_iff_not, beq_iff_eq, beq_eq_false_iff_ne, bne_iff_ne, bne_eq_false_iff_eq, Bool.not_eq_true', Bool.not_eq_false', ne_eq, Int.not_lt, Int.not_le, Decidable.not_not] at g28'
          refine run_q (.on rfl rfl rfl g28) rfl rfl (q_move rfl rfl) ?_
          refine run_q (.on rfl rfl rfl g28) rfl rfl (q_eql rfl rfl rfl) ?_
          refine run_q (.none rfl) rfl rfl (q_pickF rfl rfl g28 rfl) ?_
          refine run_q (.none rfl) rfl rfl (q_move rfl rfl) ?_
          refine run_split 32 rfl (fun g32 => ?_) (fun g32 => ?_)
          · have g32' := g32
            try simp only [decide_eq_true_eq, decide_eq_false_iff_not, beq_iff_eq, beq_eq_false_iff_ne, bne_iff_ne, bne_eq_false_iff_eq, Bool.not_eq_true', Bool.not_eq_false', ne_eq, Int.not_lt, Int.not_le, Decidable.not_not] at g32'
            refine run_off (.no rfl rfl rfl g32) rfl rfl ?_
            refine run_off (.no rfl rfl rfl g32) rfl rfl ?_
            refine run_q (.none rfl) rfl rfl (q_pickT rfl rfl g32 rfl) ?_
            refine run_q (.none rfl) rfl rfl (q_assign rfl rfl) ?_
            refine run_nil ?_
            refine run_sub (subMk (.cons (s := 0) rfl (.cons (s := 2) rfl (.cons (s := 3) rfl (.cons (s := 5) rfl (.cons (s := 7) rfl (.cons (s := 8) rfl (.cons (s := 21) rfl .nil))))))) .refl) ?_
            refine run_condT rfl rfl ?_
            refine run_region ?_
            refine run_q (.none rfl) rfl rfl (q_move rfl rfl) ?_
            refine run_q (.none rfl) rfl rfl (q_add rfl rfl rfl (by omega)) ?_
            refine run_q (.none rfl) rfl rfl (q_assign rfl rfl) ?_
            refine run_nil ?_
            refine run_sub (subMk (.cons (s := 0) rfl (.cons (s := 2) rfl (.cons (s := 3) rfl (.cons (s := 7) rfl (.cons (s := 8) rfl .nil))))) .refl) ?_
            refine run_blk ?_
            refine run_blk ?_
            refine run_region ?_
            refine run_q (.none rfl) rfl rfl (q_add rfl rfl rfl (by omega)) ?_
            refine run_q (.none rfl) rfl rfl (q_move rfl rfl) ?_
            refine run_nil ?_
            exact run_again (k + 1) (by (try dsimp only); exact (by omega)) (by (try dsimp only); omega) (subMk (.cons' (s := 8) rfl (vint (by omega)) (.cons' (s := 3) rfl (vint (glyT_60 (by omega) (by omega))) (.cons (s := 0) rfl (.cons (s := 2) rfl (.cons (s := 7) rfl .nil))))) .nil)
          · have g32' := g32
            try simp only [decide_eq_true_eq, decide_eq_false_iff_not, beq_iff_eq, beq_eq_false_iff_ne, bne_iff_ne, bne_eq_false_iff_eq, Bool.not_eq_true', Bool.not_eq_false', ne_eq, Int.not_lt, Int.not_le, Decidable.not_not] at g32'
            refine run_q (.on rfl rfl rfl g32) rfl rfl (q_move rfl rfl) ?_
            refine run_q (.on rfl rfl rfl g32) rfl rfl (q_eql rfl rfl rfl) ?_
            refine run_q (.none rfl) rfl rfl (q_pickF rfl rfl g32 rfl) ?_
            refine run_q (.none rfl) rfl rfl (q_assign rfl rfl) ?_
            refine run_nil ?_
            refine run_sub (subMk (.cons (s := 0) rfl (.cons (s := 2) rfl (.cons (s := 3) rfl (.cons (s := 5) rfl (.cons (s := 7) rfl (.cons (s := 8) rfl (.cons (s := 21) rfl .nil))))))) .refl) ?_
            refine run_cond rfl (fun g21 => ?_) (fun g21 => ?_)
            · have g21' := g21
              try simp only [decide_eq_true_eq, decide_eq_false_iff_not, beq_iff_eq, beq_eq_false_iff_ne, bne_iff_ne, bne_eq_false_iff_eq, Bool.not_eq_true', Bool.not_eq_false', ne_eq, Int.not_lt, Int.not_le, Decidable.not_not] at g21'
              refine run_region ?_
              refine run_q (.none rfl) rfl rfl (q_move rfl rfl) ?_
              refine run_q (.none rfl) rfl rfl (q_add rfl rfl rfl (by omega)) ?_
              refine run_q (.none rfl) rfl rfl (q_assign rfl rfl) ?_
              refine run_nil ?_
              refine run_sub (subMk (.cons (s := 0) rfl (.cons (s := 2) rfl (.cons (s := 3) rfl (.cons (s := 7) rfl (.cons (s := 8) rfl .nil))))) .refl) ?_
              refine run_blk ?_
              refine run_blk ?_
              refine run_region ?_
              refine run_q (.none rfl) rfl rfl (q_add rfl rfl rfl (by omega)) ?_
              refine run_q (.none rfl) rfl rfl (q_move rfl rfl) ?_
              refine run_nil ?_
              exact run_again (k + 1) (by (try dsimp only); exact (by omega)) (by (try dsimp only); omega) (subMk (.cons' (s := 8) rfl (vint (by omega)) (.cons' (s := 3) rfl (vint (glyT_60 (by omega) (by omega))) (.cons (s := 0) rfl (.cons (s := 2) rfl (.cons (s := 7) rfl .nil))))) .nil)
            · have g21' := g21
              try simp only [decide_eq_true_eq, decide_eq_false_iff_not, beq_iff_eq, beq_eq_false_iff_ne, bne_iff_ne, bne_eq_false_iff_eq, Bool.not_eq_true', Bool.not_eq_false', ne_eq, Int.not_lt, Int.not_le, Decidable.not_not] at g21'
              refine run_seq ?_
              refine run_region ?_
              refine run_q (.none rfl) rfl rfl (q_move rfl rfl) ?_
              refine run_q (.none rfl) rfl rfl (q_lss rfl rfl rfl) ?_
              refine run_q (.none rfl) rfl rfl (q_move rfl rfl) ?_
              refine run_split 41 rfl (fun g41 => ?_) (fun g41 => ?_)
              · have g41' := g41
                try simp only [decide_eq_true_eq, decide_eq_false_iff_not, beq_iff_eq, beq_eq_false_iff_ne, bne_iff_ne, bne_eq_false_iff_eq, Bool.not_eq_true', Bool.not_eq_false', ne_eq, Int.not_lt, Int.not_le, Decidable.not_not] at g41'
                refine run_off (.no rfl rfl rfl g41) rfl rfl ?_
                refine run_off (.no rfl rfl rfl g41) rfl rfl ?_
                refine run_q (.none rfl) rfl rfl (q_pickT rfl rfl g41 rfl) ?_
                refine run_q (.none rfl) rfl rfl (q_assign rfl rfl) ?_
                refine run_nil ?_
                refine run_sub (subMk (.cons (s := 0) rfl (.cons (s := 2) rfl (.cons (s := 3) rfl (.cons (s := 7) rfl (.cons (s := 8) rfl (.cons (s := 38) rfl .nil)))))) .refl) ?_
                refine run_condT rfl rfl ?_
                refine run_region ?_
                refine run_q (.none rfl) rfl rfl (q_move rfl rfl) ?_
                refine run_q (.none rfl) rfl rfl (q_add rfl rfl rfl (by omega)) ?_
                refine run_q (.none rfl) rfl rfl (q_assign rfl rfl) ?_
                refine run_nil ?_
                refine run_sub (subMk (.cons (s := 0) rfl (.cons (s := 2) rfl (.cons (s := 3) rfl (.cons (s := 7) rfl (.cons (s := 8) rfl .nil))))) .refl) ?_
                refine run_blk ?_
                refine run_blk ?_
                refine run_region ?_
                refine run_q (.none rfl) rfl rfl (q_add rfl rfl rfl (by omega)) ?_
                refine run_q (.none rfl) rfl rfl (q_move rfl rfl) ?_
                refine run_nil ?_
                exact run_again (k + 1) (by (try dsimp only); exact (by omega)) (by (try dsimp only); omega) (subMk (.cons' (s := 8) rfl (vint (by omega)) (.cons' (s := 3) rfl (vint (glyT_40 (by omega) (by omega) (by omega))) (.cons (s := 0) rfl (.cons (s := 2) rfl (.cons (s := 7) rfl .nil))))) .nil)
              · have g41' := g41
                try simp only [decide_eq_true_eq, decide_eq_false_iff_not, beq_iff_eq, beq_eq_false_iff_ne, bne_iff_ne, bne_eq_false_iff_eq, Bool.not_eq_true', Bool.not_eq_false', ne_eq, Int.not_lt, Int.not_le, Decidable.not_not] at g41'
                refine run_q (.on rfl rfl rfl g41) rfl rfl (q_move rfl rfl) ?_
                refine run_q (.on rfl rfl rfl g41) rfl rfl (q_gtr rfl rfl rfl) ?_
                refine run_q (.none rfl) rfl rfl (q_pickF rfl rfl g41 rfl) ?_
                refine run_q (.none rfl) rfl rfl (q_assign rfl rfl) ?_
                refine run_nil ?_
                refine run_sub (subMk (.cons (s := 0) rfl (.cons (s := 2) rfl (.cons (s := 3) rfl (.cons (s := 7) rfl (.cons (s := 8) rfl (.cons (s := 38) rfl .nil)))))) .refl) ?_
                refine run_cond rfl (fun g38 => ?_) (fun g38 => ?_)
                · have g38' := g38
                  try simp only [decide_eq_true_eq, decide_eq_false_iff_not, beq_iff_eq, beq_eq_false_iff_ne, bne_iff_ne, bne_eq_false_iff_eq, Bool.not_eq_true', Bool.not_eq_false', ne_eq, Int.not_lt, Int.not_le, Decidable.not_not] at g38'
                  refine run_region ?_
                  refine run_q (.none rfl) rfl rfl (q_move rfl rfl) ?_
                  refine run_q (.none rfl) rfl rfl (q_add rfl rfl rfl (by omega)) ?_
                  refine run_q (.none rfl) rfl rfl (q_assign rfl rfl) ?_
                  refine run_nil ?_
                  refine run_sub (subMk (.cons (s := 0) rfl (.cons (s := 2) rfl (.cons (s := 3) rfl (.cons (s := 7) rfl (.cons (s := 8) rfl .nil))))) .refl) ?_
                  refine run_blk ?_
                  refine run_blk ?_
                  refine run_region ?_
                  refine run_q (.none rfl) rfl rfl (q_add rfl rfl rfl (by omega)) ?_
                  refine run_q (.none rfl) rfl rfl (q_move rfl rfl) ?_
                  refine run_nil ?_
                  exact run_again (k + 1) (by (try dsimp only); exact (by omega)) (by (try dsimp only); omega) (subMk (.cons' (s := 8) rfl (vint (by omega)) (.cons' (s := 3) rfl (vint (glyT_40 (by omega) (by omega) (by omega))) (.cons (s := 0) rfl (.cons (s := 2) rfl (.cons (s := 7) rfl .nil))))) .nil)
                · have g38' := g38
                  try simp only [decide_eq_true_eq, decide_eq_false_iff_not, beq_iff_eq, beq_eq_false_iff_ne, bne_iff_ne, bne_eq_false_iff_eq, Bool.not_eq_true', Bool.not_eq_false', ne_eq, Int.not_lt, Int.not_le, Decidable.not_not] at g38'
                  refine run_skip ?_
                  refine run_blk ?_
                  refine run_blk ?_
                  refine run_region ?_
                  refine run_q (.none rfl) rfl rfl (q_add rfl rfl rfl (by omega)) ?_
                  refine run_q (.none rfl) rfl rfl (q_move rfl rfl) ?_
                  refine run_nil ?_
                  exact run_again (k + 1) (by (try dsimp only); exact (by omega)) (by (try dsimp only); omega) (subMk (.cons' (s := 8) rfl (vint (by omega)) (.cons' (s := 3) rfl (vint (glyT_0 (by omega) (by omega) (by omega))) (.cons (s := 0) rfl (.cons (s := 2) rfl (.cons (s := 7) rfl .nil))))) .nil)
  · have g9' := g9
    try simp only [decide_eq_true_eq, decide_eq_false_iff_not, beq_iff_eq, beq_eq_false_iff_ne, bne_iff_ne, bne_eq_false_iff_eq, Bool.not_eq_true', Bool.not_eq_false', ne_eq, Int.not_lt, Int.not_le, Decidable.not_not] at g9'
    refine run_exit rfl ?_
    refine run_sub (subMk (.cons (s := 2) rfl (.cons (s := 3) rfl .nil)) .refl) ?_
    refine run_seq ?_
    refine run_region ?_
    refine run_q (.none rfl) rfl rfl (q_move rfl rfl) ?_
    refine run_q (.none rfl) rfl rfl (q_assign rfl rfl) ?_
    refine run_nil ?_
    refine run_ret ?_
    exact end1 rfl rfl (by rw [show s.size = k from by omega])

end Go.Proofs.YtgphmbipakdggaaR
