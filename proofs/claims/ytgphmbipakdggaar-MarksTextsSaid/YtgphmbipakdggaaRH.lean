/- The law on texts, in the program. -/
import Derived.Test.YtgphmbipakdggaaRG
import Derived.Test.YtgphmbipakdggaaRText
import Derived.Test.YtgphmbipakdggaaRConv
set_option linter.unusedSimpArgs false
set_option linter.unusedVariables false
namespace Go.Proofs.YtgphmbipakdggaaR
open Go Go.RowKit Hr

theorem sz5 : Hr.Sz Try.prog 5 1 := Hr.Sz.of (by kernel_rfl)
theorem one5 : Hr.One Try.prog 5 := ⟨fun w => by simp [isAgg, run_underlying Try.underlying5], Hr.Sz.of (by kernel_rfl)⟩
theorem call69 : Hr.Callable Try.prog 69 := fun args w => by kernel_rfl
theorem info5 : Hr.Info Try.prog 5 [.int .u8 0] 1 1 := Hr.Info.of (by kernel_rfl)
theorem call47 : Hr.Callable Try.prog 47 := fun args w => by kernel_rfl
theorem call25 : Hr.Callable Try.prog 25 := fun args w => by kernel_rfl
theorem built25p0p1p2p3p4p8p11p10 (x0y : Int) (x1y : Int) (x2y : Int) (x3y : Int) (x4y : Int) (x8y0 : Int) (x8y1 : Int) (x11y : Int) (x10y : Int) : Try.prog.built 25 [(0, .int .i64 x0y), (1, .int .i64 x1y), (2, .int .i64 x2y), (3, .int .i64 x3y), (4, .int .i64 x4y), (8, .agg #[.int .i64 x8y0, .int .i64 x8y1]), (11, .int .i64 x11y), (10, .int .i64 x10y)] = some #[.int .i64 x0y, .int .i64 x1y, .int .i64 x2y, .int .i64 x3y, .int .i64 x4y, .int .i64 0, .int .i64 0, .int .i64 0, .int .i64 x8y0, .int .i64 x8y1, .int .i64 0, .int .i64 x10y, .int .i64 x11y] := by kernel_rfl
theorem info23 : Hr.Info Try.prog 23 [.int .i64 0, .int .i64 0] 2 16 := Hr.Info.of (by kernel_rfl)
theorem call24 : Hr.Callable Try.prog 24 := fun args w => by kernel_rfl
theorem built25p0p1p2p3p4p5p6p8p10p11 (x0y : Int) (x1y : Int) (x2y : Int) (x3y : Int) (x4y : Int) (x5y : Int) (x6y : Int) (x8y0 : Int) (x8y1 : Int) (x10y : Int) (x11y : Int) : Try.prog.built 25 [(0, .int .i64 x0y), (1, .int .i64 x1y), (2, .int .i64 x2y), (3, .int .i64 x3y), (4, .int .i64 x4y), (5, .int .i64 x5y), (6, .int .i64 x6y), (8, .agg #[.int .i64 x8y0, .int .i64 x8y1]), (10, .int .i64 x10y), (11, .int .i64 x11y)] = some #[.int .i64 x0y, .int .i64 x1y, .int .i64 x2y, .int .i64 x3y, .int .i64 x4y, .int .i64 x5y, .int .i64 x6y, .int .i64 0, .int .i64 x8y0, .int .i64 x8y1, .int .i64 0, .int .i64 x10y, .int .i64 x11y] := by kernel_rfl

set_option maxRecDepth 100000 in
theorem indexB_just (bs : List Int) (B : Option Addr) (cb : Nat) (b : Int) (W : World) (hrb : Rd W B 1 (bs.map encB)) (hbl : bs.length ≤ 1000000) : Calls Try.prog 69 #[.slice B bs.length cb, .int .u8 b] W (Hr.Just W (.int .i64 (ixF b bs 0))) := by
  refine Just.of_ret ?_
  refine enterA (X := nX) (vs := [.slice B bs.length cb, .int .u8 b]) Try.func69 Try.ntmps69 rfl rfl Mem.nil ?_
  refine run_seq ?_
  refine run_region ?_
  refine run_q (.none rfl) rfl rfl (q_assign rfl rfl) ?_
  refine run_nil ?_
  refine run_seq ?_
  refine run_seq ?_
  refine run_region ?_
  refine run_q (.none rfl) rfl rfl (q_move rfl rfl) ?_
  refine run_q (.none rfl) rfl rfl (q_len rfl Try.underlying102 rfl) ?_
  refine run_q (.none rfl) rfl rfl (q_move rfl rfl) ?_
  refine run_nil ?_
  refine run_block ?_
  refine run_sub (subMk (.cons (s := 8) rfl (.cons (s := 0) rfl (.cons (s := 1) rfl (.cons (s := 4) rfl (.cons (s := 7) rfl .nil))))) .nil) ?_
  refine run_loopC1M0 (ι := Nat) (fun k => k ≤ bs.length ∧ ixF b bs 0 = ixF b (bs.drop k) k) (fun k => .int .i64 (k : Int))  (fun k => bs.length - k) 0 (by (try dsimp only); exact ⟨by omega, rfl⟩) rfl  ?_
  rintro k hq
  (try dsimp only at hq)
  obtain ⟨hk, hE⟩ := hq
  show Run _ _ _ _ _ _ _ ⟨(8, .int .i64 (k : Int)) :: _, _⟩
  refine run_seq ?_
  refine run_region ?_
  refine run_q (.none rfl) rfl rfl (q_lss rfl rfl rfl) ?_
  refine run_nil ?_
  refine run_seq ?_
  refine run_cond rfl (fun g9 => ?_) (fun g9 => ?_)
  · have g9' := g9
    try simp only [decide_eq_true_eq, decide_eq_false_iff_not, beq_iff_eq, beq_eq_false_iff_ne, bne_iff_ne, bne_eq_false_iff_eq, Bool.not_eq_true', Bool.not_eq_false', ne_eq, Int.not_lt, Int.not_le, Decidable.not_not] at g9'
    have hst := ixF_step (b := b) (l := bs) (k := k) (by omega)
    refine run_skip ?_
    refine run_seq ?_
    refine run_block ?_
    refine run_seq ?_
    refine run_region ?_
    refine run_q (.none rfl) rfl rfl (q_move rfl rfl) ?_
    refine run_q (.none rfl) rfl rfl (q_assign rfl rfl) ?_
    refine run_nil ?_
    refine run_seq ?_
    refine run_region ?_
    refine run_q (.none rfl) rfl rfl (q_move rfl rfl) ?_
    refine run_q (.none rfl) rfl rfl (q_move rfl rfl) ?_
    refine run_q (.none rfl) rfl rfl (q_move rfl rfl) ?_
    refine run_q (.none rfl) rfl rfl (q_indexS (q := k) rfl Try.underlying102 sz5 rfl rfl (.inp hrb .no) (by simp <;> omega) rfl (by omega)) ?_
    refine run_q (.none rfl) rfl rfl (q_loadC rfl one5 rfl (.inp hrb .no) (getmap (by omega))) ?_
    refine run_q (.none rfl) rfl rfl (q_eql rfl rfl rfl) ?_
    refine run_nil ?_
    refine run_sub (subMk (.cons (s := 0) rfl (.cons (s := 1) rfl (.cons (s := 4) rfl (.cons (s := 5) rfl (.cons (s := 7) rfl (.cons (s := 8) rfl (.cons (s := 16) rfl .nil))))))) .refl) ?_
    refine run_cond rfl (fun g16 => ?_) (fun g16 => ?_)
    · have g16' := g16
      try simp only [decide_eq_true_eq, decide_eq_false_iff_not, beq_iff_eq, beq_eq_false_iff_ne, bne_iff_ne, bne_eq_false_iff_eq, Bool.not_eq_true', Bool.not_eq_false', ne_eq, Int.not_lt, Int.not_le, Decidable.not_not] at g16'
      refine run_seq ?_
      refine run_region ?_
      refine run_q (.none rfl) rfl rfl (q_move rfl rfl) ?_
      refine run_q (.none rfl) rfl rfl (q_assign rfl rfl) ?_
      refine run_nil ?_
      refine run_sub (subMk (.cons (s := 0) rfl (.cons (s := 1) rfl (.cons (s := 4) rfl (.cons (s := 7) rfl (.cons (s := 8) rfl .nil))))) .refl) ?_
      refine run_ret ?_
      exact end1 rfl rfl (by rw [hE, hst, if_pos g16'])
    · have g16' := g16
      try simp only [decide_eq_true_eq, decide_eq_false_iff_not, beq_iff_eq, beq_eq_false_iff_ne, bne_iff_ne, bne_eq_false_iff_eq, Bool.not_eq_true', Bool.not_eq_false', ne_eq, Int.not_lt, Int.not_le, Decidable.not_not] at g16'
      refine run_skip ?_
      refine run_blk ?_
      refine run_region ?_
      refine run_q (.none rfl) rfl rfl (q_add rfl rfl rfl (by omega)) ?_
      refine run_q (.none rfl) rfl rfl (q_move rfl rfl) ?_
      refine run_nil ?_
      refine run_sub (subMk (.cons (s := 0) rfl (.cons (s := 1) rfl (.cons (s := 4) rfl (.cons (s := 7) rfl (.cons (s := 8) rfl .nil))))) .refl) ?_
      exact run_again (k + 1) (by (try dsimp only); exact ⟨by omega, by rw [hE, hst, if_neg g16']⟩) (by (try dsimp only); omega) (subMk (.cons' (s := 8) rfl (vint (by omega)) (.cons (s := 0) rfl (.cons (s := 1) rfl (.cons (s := 4) rfl (.cons (s := 7) rfl .nil))))) .nil)
  · have g9' := g9
    try simp only [decide_eq_true_eq, decide_eq_false_iff_not, beq_iff_eq, beq_eq_false_iff_ne, bne_iff_ne, bne_eq_false_iff_eq, Bool.not_eq_true', Bool.not_eq_false', ne_eq, Int.not_lt, Int.not_le, Decidable.not_not] at g9'
    refine run_exit rfl ?_
    refine run_sub (subMk (.cons (s := 4) rfl .nil) .refl) ?_
    refine run_seq ?_
    refine run_region ?_
    refine run_q (.none rfl) rfl rfl (q_assign rfl rfl) ?_
    refine run_nil ?_
    refine run_ret ?_
    exact end1 rfl rfl (by rw [hE, List.drop_eq_nil_of_le (by omega)]; rfl)

set_option maxRecDepth 100000 in
theorem containsB_just (bs : List Int) (B : Option Addr) (cb : Nat) (b : Int) (W : World) (hrb : Rd W B 1 (bs.map encB)) (hbl : bs.length ≤ 1000000) : Calls Try.prog 47 #[.slice B bs.length cb, .int .u8 b] W (Hr.Just W (.bool (decide (0 ≤ ixF b bs 0)))) := by
  refine Just.of_ret ?_
  refine enterA (X := nX) (vs := [.slice B bs.length cb, .int .u8 b]) Try.func47 Try.ntmps47 rfl rfl Mem.nil ?_
  refine run_seq ?_
  refine run_region ?_
  refine run_q (.none rfl) rfl rfl (q_assign rfl rfl) ?_
  refine run_nil ?_
  refine run_seq ?_
  refine run_region ?_
  refine run_q (.none rfl) rfl rfl (q_move rfl rfl) ?_
  refine run_q (.none rfl) rfl rfl (q_move rfl rfl) ?_
  refine run_q (.none rfl) rfl rfl (q_call rfl call69 (.cons rfl (.cons rfl Evs.nil)) (fun w hk hm => indexB_just bs B cb b w (hrb.kept0 hk) hbl)) ?_
  refine run_q (.none rfl) rfl rfl (q_geq rfl rfl rfl) ?_
  refine run_q (.none rfl) rfl rfl (q_assign rfl rfl) ?_
  refine run_nil ?_
  refine run_sub (subMk (.cons (s := 4) rfl .nil) .refl) ?_
  refine run_ret ?_
  exact end1 rfl rfl rfl

set_option maxHeartbeats 2000000 in
set_option maxRecDepth 100000 in
theorem glyText_just (s : ByteArray) (W : World) (hs : s.size ≤ 300) : Calls Try.prog 25 #[.string s] W (Hr.Just W (.int .i64 (glyT s s.size))) := by
  refine Just.of_ret ?_
  refine enterA (X := nX) (vs := [.string s]) Try.func25 Try.ntmps25 rfl rfl Mem.nil ?_
  refine run_seq ?_
  refine run_region ?_
  refine run_q (.none rfl) rfl rfl (q_assign rfl rfl) ?_
  refine run_nil ?_
  refine run_seq ?_
  refine run_region ?_
  refine run_q (.none rfl) rfl rfl (q_assign rfl rfl) ?_
  refine run_nil ?_
  refine run_seq ?_
  refine run_seq ?_
  refine run_region ?_
  refine run_q (.none rfl) rfl rfl (q_move rfl rfl) ?_
  refine run_q (.none rfl) rfl rfl (q_lens rfl Try.underlying9 rfl) ?_
  refine run_q (.none rfl) rfl rfl (q_move rfl rfl) ?_
  refine run_nil ?_
  refine run_block ?_
  refine run_sub (subMk (.cons (s := 8) rfl (.cons (s := 3) rfl (.cons (s := 0) rfl (.cons (s := 2) rfl (.cons (s := 7) rfl .nil))))) .nil) ?_
  refine run_loopC2M0 (ι := Nat) (fun k => k ≤ s.size) (fun k => .int .i64 (k : Int)) (fun k => .int .i64 (glyT s k))  (fun k => s.size - k) 0 (by (try dsimp only); exact (by omega)) rfl rfl  ?_
  rintro k hk
  (try dsimp only at hk)
  show Run _ _ _ _ _ _ _ ⟨(8, .int .i64 (k : Int)) :: (3, .int .i64 (glyT s k)) :: _, _⟩
  refine run_seq ?_
  refine run_region ?_
  refine run_q (.none rfl) rfl rfl (q_lss rfl rfl rfl) ?_
  refine run_nil ?_
  refine run_seq ?_
  refine run_cond rfl (fun g9 => ?_) (fun g9 => ?_)
  · have g9' := g9
    try simp only [decide_eq_true_eq, decide_eq_false_iff_not, beq_iff_eq, beq_eq_false_iff_ne, bne_iff_ne, bne_eq_false_iff_eq, Bool.not_eq_true', Bool.not_eq_false', ne_eq, Int.not_lt, Int.not_le, Decidable.not_not] at g9'
    have hgb := glyT_bd s k
    refine run_skip ?_
    refine run_seq ?_
    refine run_block ?_
    refine run_seq ?_
    refine run_region ?_
    refine run_q (.none rfl) rfl rfl (q_move rfl rfl) ?_
    refine run_q (.none rfl) rfl rfl (q_assign rfl rfl) ?_
    refine run_nil ?_
    refine run_seq ?_
    refine run_region ?_
    refine run_q (.none rfl) rfl rfl (q_move rfl rfl) ?_
    refine run_q (.none rfl) rfl rfl (q_move rfl rfl) ?_
    refine run_q (.none rfl) rfl rfl (q_indexStr (q := k) rfl Try.underlying9 rfl rfl rfl (bAt_get (by omega))) ?_
    refine run_q (.none rfl) rfl rfl (q_assign rfl rfl) ?_
    refine run_nil ?_
    refine run_sub (subMk (.cons (s := 0) rfl (.cons (s := 2) rfl (.cons (s := 3) rfl (.cons (s := 5) rfl (.cons (s := 7) rfl (.cons (s := 8) rfl .nil)))))) .refl) ?_
    refine run_block ?_
    refine run_seq ?_
    refine run_sub (subMk (.cons (s := 0) rfl (.cons (s := 2) rfl (.cons (s := 3) rfl (.cons' (s := 5) (v' := .int .u8 (bAt s k)) rfl rfl (.cons (s := 7) rfl (.cons (s := 8) rfl .nil)))))) .refl) ?_
    refine run_region ?_
    refine run_h (.none rfl) (h_buildSlice rfl rfl rfl Try.underlying102 info5 (.cons rfl rfl rfl rfl (.cons rfl rfl rfl rfl (.cons rfl rfl rfl rfl (.cons rfl rfl rfl rfl (.cons rfl rfl rfl rfl (.cons rfl rfl rfl rfl (.cons rfl rfl rfl rfl (.cons rfl rfl rfl rfl (.cons rfl rfl rfl rfl (.cons rfl rfl rfl rfl (.cons rfl rfl rfl rfl (.cons rfl rfl rfl rfl (.cons rfl rfl rfl rfl (.cons rfl rfl rfl rfl Parts.nil)))))))))))))) rfl (by omega)) ?_
    rintro b15 -
    refine run_h (.none rfl) (h_convB rfl rfl rfl Try.underlying102 Try.underlying5 rfl Sel.here (by omega)) ?_
    rintro - -
    refine run_q (.none rfl) rfl rfl (q_move rfl rfl) ?_
    refine run_q (.none rfl) rfl rfl (q_call rfl call47 (.cons rfl (.cons rfl Evs.nil)) (fun w hk hm => containsB_just W14 (some ⟨b15, 0, none⟩) 14 (bAt s k) w (rdRes_rd (Sel.here.holds hm)) (by decide))) ?_
    refine run_q (.none rfl) rfl rfl (q_assign rfl rfl) ?_
    refine run_nil ?_
    refine run_sub (subMk (.cons (s := 0) rfl (.cons (s := 2) rfl (.cons (s := 3) rfl (.cons (s := 5) rfl (.cons (s := 7) rfl (.cons (s := 8) rfl (.cons (s := 14) rfl .nil))))))) .refl) ?_
    refine run_cond rfl (fun g14 => ?_) (fun g14 => ?_)
    · have g14' := g14
      try simp only [decide_eq_true_eq, decide_eq_false_iff_not, beq_iff_eq, beq_eq_false_iff_ne, bne_iff_ne, bne_eq_false_iff_eq, Bool.not_eq_true', Bool.not_eq_false', ne_eq, Int.not_lt, Int.not_le, Decidable.not_not] at g14'
      refine run_region ?_
      refine run_q (.none rfl) rfl rfl (q_move rfl rfl) ?_
      refine run_q (.none rfl) rfl rfl (q_add rfl rfl rfl (by omega)) ?_
      refine run_q (.none rfl) rfl rfl (q_assign rfl rfl) ?_
      refine run_nil ?_
      refine run_sub (subMk (.cons (s := 0) rfl (.cons (s := 2) rfl (.cons (s := 3) rfl (.cons (s := 7) rfl (.cons (s := 8) rfl .nil))))) .refl) ?_
      refine run_blk ?_
      refine run_blk ?_
      refine run_region ?_
      refine run_q (.none rfl) rfl rfl (q_add rfl rfl rfl (by omega)) ?_
      refine run_q (.none rfl) rfl rfl (q_move rfl rfl) ?_
      refine run_nil ?_
      exact run_again (k + 1) (by (try dsimp only); exact (by omega)) (by (try dsimp only); omega) (subMk (.cons' (s := 8) rfl (vint (by omega)) (.cons' (s := 3) rfl (vint (glyT_20 g14')) (.cons (s := 0) rfl (.cons (s := 2) rfl (.cons (s := 7) rfl .nil))))) .nil)
    · have g14' := g14
      try simp only [decide_eq_true_eq, decide_eq_false_iff_not, beq_iff_eq, beq_eq_false_iff_ne, bne_iff_ne, bne_eq_false_iff_eq, Bool.not_eq_true', Bool.not_eq_false', ne_eq, Int.not_lt, Int.not_le, Decidable.not_not] at g14'
      refine run_seq ?_
      refine run_region ?_
      refine run_q (.none rfl) rfl rfl (q_move rfl rfl) ?_
      refine run_q (.none rfl) rfl rfl (q_eql rfl rfl rfl) ?_
      refine run_q (.none rfl) rfl rfl (q_move rfl rfl) ?_
      refine run_split 24 rfl (fun g24 => ?_) (fun g24 => ?_)
      · have g24' := g24
        try simp only [decide_eq_true_eq, decide_eq_false_iff_not, beq_iff_eq, beq_eq_false_iff_ne, bne_iff_ne, bne_eq_false_iff_eq, Bool.not_eq_true', Bool.not_eq_false', ne_eq, Int.not_lt, Int.not_le, Decidable.not_not] at g24'
        refine run_off (.no rfl rfl rfl g24) rfl rfl ?_
        refine run_off (.no rfl rfl rfl g24) rfl rfl ?_
        refine run_q (.none rfl) rfl rfl (q_pickT rfl rfl g24 rfl) ?_
        refine run_q (.none rfl) rfl rfl (q_move rfl rfl) ?_
        refine run_off (.no rfl rfl rfl rfl) rfl rfl ?_
        refine run_off (.no rfl rfl rfl rfl) rfl rfl ?_
        refine run_q (.none rfl) rfl rfl (q_pickT rfl rfl rfl rfl) ?_
        refine run_q (.none rfl) rfl rfl (q_move rfl rfl) ?_
        refine run_off (.no rfl rfl rfl rfl) rfl rfl ?_
        refine run_off (.no rfl rfl rfl rfl) rfl rfl ?_
        refine run_q (.none rfl) rfl rfl (q_pickT rfl rfl rfl rfl) ?_
        refine run_q (.none rfl) rfl rfl (q_assign rfl rfl) ?_
        refine run_nil ?_
        refine run_sub (subMk (.cons (s := 0) rfl (.cons (s := 2) rfl (.cons (s := 3) rfl (.cons (s := 5) rfl (.cons (s := 7) rfl (.cons (s := 8) rfl (.cons (s := 21) rfl .nil))))))) .refl) ?_
        refine run_condT rfl rfl ?_
        refine run_region ?_
        refine run_q (.none rfl) rfl rfl (q_move rfl rfl) ?_
        refine run_q (.none rfl) rfl rfl (q_add rfl rfl rfl (by omega)) ?_
        refine run_q (.none rfl) rfl rfl (q_assign rfl rfl) ?_
        refine run_nil ?_
        refine run_sub (subMk (.cons (s := 0) rfl (.cons (s := 2) rfl (.cons (s := 3) rfl (.cons (s := 7) rfl (.cons (s := 8) rfl .nil))))) .refl) ?_
        refine run_blk ?_
        refine run_blk ?_
        refine run_region ?_
        refine run_q (.none rfl) rfl rfl (q_add rfl rfl rfl (by omega)) ?_
        refine run_q (.none rfl) rfl rfl (q_move rfl rfl) ?_
        refine run_nil ?_
        exact run_again (k + 1) (by (try dsimp only); exact (by omega)) (by (try dsimp only); omega) (subMk (.cons' (s := 8) rfl (vint (by omega)) (.cons' (s := 3) rfl (vint (glyT_60 (by omega) (by omega))) (.cons (s := 0) rfl (.cons (s := 2) rfl (.cons (s := 7) rfl .nil))))) .nil)
      · have g24' := g24
        try simp only [decide_eq_true_eq, decide_eq_false_iff_not, beq_iff_eq, beq_eq_false_iff_ne, bne_iff_ne, bne_eq_false_iff_eq, Bool.not_eq_true', Bool.not_eq_false', ne_eq, Int.not_lt, Int.not_le, Decidable.not_not] at g24'
        refine run_q (.on rfl rfl rfl g24) rfl rfl (q_move rfl rfl) ?_
        refine run_q (.on rfl rfl rfl g24) rfl rfl (q_eql rfl rfl rfl) ?_
        refine run_q (.none rfl) rfl rfl (q_pickF rfl rfl g24 rfl) ?_
        refine run_q (.none rfl) rfl rfl (q_move rfl rfl) ?_
        refine run_split 28 rfl (fun g28 => ?_) (fun g28 => ?_)
        · have g28' := g28
          try simp only [decide_eq_true_eq, decide_eq_false_iff_not, beq_iff_eq, beq_eq_false_iff_ne, bne_iff_ne, bne_eq_false_iff_eq, Bool.not_eq_true', Bool.not_eq_false', ne_eq, Int.not_lt, Int.not_le, Decidable.not_not] at g28'
          refine run_off (.no rfl rfl rfl g28) rfl rfl ?_
          refine run_off (.no rfl rfl rfl g28) rfl rfl ?_
          refine run_q (.none rfl) rfl rfl (q_pickT rfl rfl g28 rfl) ?_
          refine run_q (.none rfl) rfl rfl (q_move rfl rfl) ?_
          refine run_off (.no rfl rfl rfl rfl) rfl rfl ?_
          refine run_off (.no rfl rfl rfl rfl) rfl rfl ?_
          refine run_q (.none rfl) rfl rfl (q_pickT rfl rfl rfl rfl) ?_
          refine run_q (.none rfl) rfl rfl (q_assign rfl rfl) ?_
          refine run_nil ?_
          refine run_sub (subMk (.cons (s := 0) rfl (.cons (s := 2) rfl (.cons (s := 3) rfl (.cons (s := 5) rfl (.cons (s := 7) rfl (.cons (s := 8) rfl (.cons (s := 21) rfl .nil))))))) .refl) ?_
          refine run_condT rfl rfl ?_
          refine run_region ?_
          refine run_q (.none rfl) rfl rfl (q_move rfl rfl) ?_
          refine run_q (.none rfl) rfl rfl (q_add rfl rfl rfl (by omega)) ?_
          refine run_q (.none rfl) rfl rfl (q_assign rfl rfl) ?_
          refine run_nil ?_
          refine run_sub (subMk (.cons (s := 0) rfl (.cons (s := 2) rfl (.cons (s := 3) rfl (.cons (s := 7) rfl (.cons (s := 8) rfl .nil))))) .refl) ?_
          refine run_blk ?_
          refine run_blk ?_
          refine run_region ?_
          refine run_q (.none rfl) rfl rfl (q_add rfl rfl rfl (by omega)) ?_
          refine run_q (.none rfl) rfl rfl (q_move rfl rfl) ?_
          refine run_nil ?_
          exact run_again (k + 1) (by (try dsimp only); exact (by omega)) (by (try dsimp only); omega) (subMk (.cons' (s := 8) rfl (vint (by omega)) (.cons' (s := 3) rfl (vint (glyT_60 (by omega) (by omega))) (.cons (s := 0) rfl (.cons (s := 2) rfl (.cons (s := 7) rfl .nil))))) .nil)
        · have g28' := g28
          try simp only [decide_eq_true_eq, decide_eq_false_iff_not, beq_iff_eq, beq_eq_false_iff_ne, bne_iff_ne, bne_eq_false_iff_eq, Bool.not_eq_true', Bool.not_eq_false', ne_eq, Int.not_lt, Int.not_le, Decidable.not_not] at g28'
          refine run_q (.on rfl rfl rfl g28) rfl rfl (q_move rfl rfl) ?_
          refine run_q (.on rfl rfl rfl g28) rfl rfl (q_eql rfl rfl rfl) ?_
          refine run_q (.none rfl) rfl rfl (q_pickF rfl rfl g28 rfl) ?_
          refine run_q (.none rfl) rfl rfl (q_move rfl rfl) ?_
          refine run_split 32 rfl (fun g32 => ?_) (fun g32 => ?_)
          · have g32' := g32
            try simp only [decide_eq_true_eq, decide_eq_false_iff_not, beq_iff_eq, beq_eq_false_iff_ne, bne_iff_ne, bne_eq_false_iff_eq, Bool.not_eq_true', Bool.not_eq_false', ne_eq, Int.not_lt, Int.not_le, Decidable.not_not] at g32'
            refine run_off (.no rfl rfl rfl g32) rfl rfl ?_
            refine run_off (.no rfl rfl rfl g32) rfl rfl ?_
            refine run_q (.none rfl) rfl rfl (q_pickT rfl rfl g32 rfl) ?_
            refine run_q (.none rfl) rfl rfl (q_assign rfl rfl) ?_
            refine run_nil ?_
            refine run_sub (subMk (.cons (s := 0) rfl (.cons (s := 2) rfl (.cons (s := 3) rfl (.cons (s := 5) rfl (.cons (s := 7) rfl (.cons (s := 8) rfl (.cons (s := 21) rfl .nil))))))) .refl) ?_
            refine run_condT rfl rfl ?_
            refine run_region ?_
            refine run_q (.none rfl) rfl rfl (q_move rfl rfl) ?_
            refine run_q (.none rfl) rfl rfl (q_add rfl rfl rfl (by omega)) ?_
            refine run_q (.none rfl) rfl rfl (q_assign rfl rfl) ?_
            refine run_nil ?_
            refine run_sub (subMk (.cons (s := 0) rfl (.cons (s := 2) rfl (.cons (s := 3) rfl (.cons (s := 7) rfl (.cons (s := 8) rfl .nil))))) .refl) ?_
            refine run_blk ?_
            refine run_blk ?_
            refine run_region ?_
            refine run_q (.none rfl) rfl rfl (q_add rfl rfl rfl (by omega)) ?_
            refine run_q (.none rfl) rfl rfl (q_move rfl rfl) ?_
            refine run_nil ?_
            exact run_again (k + 1) (by (try dsimp only); exact (by omega)) (by (try dsimp only); omega) (subMk (.cons' (s := 8) rfl (vint (by omega)) (.cons' (s := 3) rfl (vint (glyT_60 (by omega) (by omega))) (.cons (s := 0) rfl (.cons (s := 2) rfl (.cons (s := 7) rfl .nil))))) .nil)
          · have g32' := g32
            try simp only [decide_eq_true_eq, decide_eq_false_iff_not, beq_iff_eq, beq_eq_false_iff_ne, bne_iff_ne, bne_eq_false_iff_eq, Bool.not_eq_true', Bool.not_eq_false', ne_eq, Int.not_lt, Int.not_le, Decidable.not_not] at g32'
            refine run_q (.on rfl rfl rfl g32) rfl rfl (q_move rfl rfl) ?_
            refine run_q (.on rfl rfl rfl g32) rfl rfl (q_eql rfl rfl rfl) ?_
            refine run_q (.none rfl) rfl rfl (q_pickF rfl rfl g32 rfl) ?_
            refine run_q (.none rfl) rfl rfl (q_assign rfl rfl) ?_
            refine run_nil ?_
            refine run_sub (subMk (.cons (s := 0) rfl (.cons (s := 2) rfl (.cons (s := 3) rfl (.cons (s := 5) rfl (.cons (s := 7) rfl (.cons (s := 8) rfl (.cons (s := 21) rfl .nil))))))) .refl) ?_
            refine run_cond rfl (fun g21 => ?_) (fun g21 => ?_)
            · have g21' := g21
              try simp only [decide_eq_true_eq, decide_eq_false_iff_not, beq_iff_eq, beq_eq_false_iff_ne, bne_iff_ne, bne_eq_false_iff_eq, Bool.not_eq_true', Bool.not_eq_false', ne_eq, Int.not_lt, Int.not_le, Decidable.not_not] at g21'
              refine run_region ?_
              refine run_q (.none rfl) rfl rfl (q_move rfl rfl) ?_
              refine run_q (.none rfl) rfl rfl (q_add rfl rfl rfl (by omega)) ?_
              refine run_q (.none rfl) rfl rfl (q_assign rfl rfl) ?_
              refine run_nil ?_
              refine run_sub (subMk (.cons (s := 0) rfl (.cons (s := 2) rfl (.cons (s := 3) rfl (.cons (s := 7) rfl (.cons (s := 8) rfl .nil))))) .refl) ?_
              refine run_blk ?_
              refine run_blk ?_
              refine run_region ?_
              refine run_q (.none rfl) rfl rfl (q_add rfl rfl rfl (by omega)) ?_
              refine run_q (.none rfl) rfl rfl (q_move rfl rfl) ?_
              refine run_nil ?_
              exact run_again (k + 1) (by (try dsimp only); exact (by omega)) (by (try dsimp only); omega) (subMk (.cons' (s := 8) rfl (vint (by omega)) (.cons' (s := 3) rfl (vint (glyT_60 (by omega) (by omega))) (.cons (s := 0) rfl (.cons (s := 2) rfl (.cons (s := 7) rfl .nil))))) .nil)
            · have g21' := g21
              try simp only [decide_eq_true_eq, decide_eq_false_iff_not, beq_iff_eq, beq_eq_false_iff_ne, bne_iff_ne, bne_eq_false_iff_eq, Bool.not_eq_true', Bool.not_eq_false', ne_eq, Int.not_lt, Int.not_le, Decidable.not_not] at g21'
              refine run_seq ?_
              refine run_region ?_
              refine run_q (.none rfl) rfl rfl (q_move rfl rfl) ?_
              refine run_q (.none rfl) rfl rfl (q_lss rfl rfl rfl) ?_
              refine run_q (.none rfl) rfl rfl (q_move rfl rfl) ?_
              refine run_split 41 rfl (fun g41 => ?_) (fun g41 => ?_)
              · have g41' := g41
                try simp only [decide_eq_true_eq, decide_eq_false_iff_not, beq_iff_eq, beq_eq_false_iff_ne, bne_iff_ne, bne_eq_false_iff_eq, Bool.not_eq_true', Bool.not_eq_false', ne_eq, Int.not_lt, Int.not_le, Decidable.not_not] at g41'
                refine run_off (.no rfl rfl rfl g41) rfl rfl ?_
                refine run_off (.no rfl rfl rfl g41) rfl rfl ?_
                refine run_q (.none rfl) rfl rfl (q_pickT rfl rfl g41 rfl) ?_
                refine run_q (.none rfl) rfl rfl (q_assign rfl rfl) ?_
                refine run_nil ?_
                refine run_sub (subMk (.cons (s := 0) rfl (.cons (s := 2) rfl (.cons (s := 3) rfl (.cons (s := 7) rfl (.cons (s := 8) rfl (.cons (s := 38) rfl .nil)))))) .refl) ?_
                refine run_condT rfl rfl ?_
                refine run_region ?_
                refine run_q (.none rfl) rfl rfl (q_move rfl rfl) ?_
                refine run_q (.none rfl) rfl rfl (q_add rfl rfl rfl (by omega)) ?_
                refine run_q (.none rfl) rfl rfl (q_assign rfl rfl) ?_
                refine run_nil ?_
                refine run_sub (subMk (.cons (s := 0) rfl (.cons (s := 2) rfl (.cons (s := 3) rfl (.cons (s := 7) rfl (.cons (s := 8) rfl .nil))))) .refl) ?_
                refine run_blk ?_
                refine run_blk ?_
                refine run_region ?_
                refine run_q (.none rfl) rfl rfl (q_add rfl rfl rfl (by omega)) ?_
                refine run_q (.none rfl) rfl rfl (q_move rfl rfl) ?_
                refine run_nil ?_
                exact run_again (k + 1) (by (try dsimp only); exact (by omega)) (by (try dsimp only); omega) (subMk (.cons' (s := 8) rfl (vint (by omega)) (.cons' (s := 3) rfl (vint (glyT_40 (by omega) (by omega) (by omega))) (.cons (s := 0) rfl (.cons (s := 2) rfl (.cons (s := 7) rfl .nil))))) .nil)
              · have g41' := g41
                try simp only [decide_eq_true_eq, decide_eq_false_iff_not, beq_iff_eq, beq_eq_false_iff_ne, bne_iff_ne, bne_eq_false_iff_eq, Bool.not_eq_true', Bool.not_eq_false', ne_eq, Int.not_lt, Int.not_le, Decidable.not_not] at g41'
                refine run_q (.on rfl rfl rfl g41) rfl rfl (q_move rfl rfl) ?_
                refine run_q (.on rfl rfl rfl g41) rfl rfl (q_gtr rfl rfl rfl) ?_
                refine run_q (.none rfl) rfl rfl (q_pickF rfl rfl g41 rfl) ?_
                refine run_q (.none rfl) rfl rfl (q_assign rfl rfl) ?_
                refine run_nil ?_
                refine run_sub (subMk (.cons (s := 0) rfl (.cons (s := 2) rfl (.cons (s := 3) rfl (.cons (s := 7) rfl (.cons (s := 8) rfl (.cons (s := 38) rfl .nil)))))) .refl) ?_
                refine run_cond rfl (fun g38 => ?_) (fun g38 => ?_)
                · have g38' := g38
                  try simp only [decide_eq_true_eq, decide_eq_false_iff_not, beq_iff_eq, beq_eq_false_iff_ne, bne_iff_ne, bne_eq_false_iff_eq, Bool.not_eq_true', Bool.not_eq_false', ne_eq, Int.not_lt, Int.not_le, Decidable.not_not] at g38'
                  refine run_region ?_
                  refine run_q (.none rfl) rfl rfl (q_move rfl rfl) ?_
                  refine run_q (.none rfl) rfl rfl (q_add rfl rfl rfl (by omega)) ?_
                  refine run_q (.none rfl) rfl rfl (q_assign rfl rfl) ?_
                  refine run_nil ?_
                  refine run_sub (subMk (.cons (s := 0) rfl (.cons (s := 2) rfl (.cons (s := 3) rfl (.cons (s := 7) rfl (.cons (s := 8) rfl .nil))))) .refl) ?_
                  refine run_blk ?_
                  refine run_blk ?_
                  refine run_region ?_
                  refine run_q (.none rfl) rfl rfl (q_add rfl rfl rfl (by omega)) ?_
                  refine run_q (.none rfl) rfl rfl (q_move rfl rfl) ?_
                  refine run_nil ?_
                  exact run_again (k + 1) (by (try dsimp only); exact (by omega)) (by (try dsimp only); omega) (subMk (.cons' (s := 8) rfl (vint (by omega)) (.cons' (s := 3) rfl (vint (glyT_40 (by omega) (by omega) (by omega))) (.cons (s := 0) rfl (.cons (s := 2) rfl (.cons (s := 7) rfl .nil))))) .nil)
                · have g38' := g38
                  try simp only [decide_eq_true_eq, decide_eq_false_iff_not, beq_iff_eq, beq_eq_false_iff_ne, bne_iff_ne, bne_eq_false_iff_eq, Bool.not_eq_true', Bool.not_eq_false', ne_eq, Int.not_lt, Int.not_le, Decidable.not_not] at g38'
                  refine run_skip ?_
                  refine run_blk ?_
                  refine run_blk ?_
                  refine run_region ?_
                  refine run_q (.none rfl) rfl rfl (q_add rfl rfl rfl (by omega)) ?_
                  refine run_q (.none rfl) rfl rfl (q_move rfl rfl) ?_
                  refine run_nil ?_
                  exact run_again (k + 1) (by (try dsimp only); exact (by omega)) (by (try dsimp only); omega) (subMk (.cons' (s := 8) rfl (vint (by omega)) (.cons' (s := 3) rfl (vint (glyT_0 (by omega) (by omega) (by omega))) (.cons (s := 0) rfl (.cons (s := 2) rfl (.cons (s := 7) rfl .nil))))) .nil)
  · have g9' := g9
    try simp only [decide_eq_true_eq, decide_eq_false_iff_not, beq_iff_eq, beq_eq_false_iff_ne, bne_iff_ne, bne_eq_false_iff_eq, Bool.not_eq_true', Bool.not_eq_false', ne_eq, Int.not_lt, Int.not_le, Decidable.not_not] at g9'
    refine run_exit rfl ?_
    refine run_sub (subMk (.cons (s := 2) rfl (.cons (s := 3) rfl .nil)) .refl) ?_
    refine run_seq ?_
    refine run_region ?_
    refine run_q (.none rfl) rfl rfl (q_move rfl rfl) ?_
    refine run_q (.none rfl) rfl rfl (q_assign rfl rfl) ?_
    refine run_nil ?_
    refine run_ret ?_
    exact end1 rfl rfl (by rw [show s.size = k from by omega])

set_option maxHeartbeats 2000000 in
set_option maxRecDepth 100000 in
theorem text_just (k site num i t f : Int) (s : ByteArray) (W : World) (hs : s.size ≤ 1000) : Calls Try.prog 24 #[.int .i64 k, .agg #[.int .i64 site, .int .i64 num], .int .i64 i, .int .i64 t, .int .i64 f, .string s] W (Hr.Just W (.tuple #[(textV k site num i t f s).1.val, .int .i64 (textV k site num i t f s).2])) := by
  refine Just.of_ret ?_
  refine enterA (X := nX) (vs := [.int .i64 k, .agg #[.int .i64 site, .int .i64 num], .int .i64 i, .int .i64 t, .int .i64 f, .string s]) Try.func24 Try.ntmps24 rfl rfl Mem.nil ?_
  refine run_seq ?_
  refine run_region ?_
  refine run_h (.none rfl) (h_box rfl rfl rfl rfl rfl) ?_
  rintro b7 -
  refine run_h (.none rfl) (h_alloc rfl rfl rfl info25) ?_
  rintro b12 -
  refine run_q (.none rfl) rfl rfl (q_assign rfl rfl) ?_
  refine run_nil ?_
  refine run_seq ?_
  refine run_block ?_
  refine run_seq ?_
  refine run_region ?_
  refine run_q (.none rfl) rfl rfl (q_move rfl rfl) ?_
  refine run_q (.none rfl) rfl rfl (q_neq rfl rfl rfl) ?_
  refine run_q (.none rfl) rfl rfl (q_move rfl rfl) ?_
  refine run_split 18 rfl (fun g18 => ?_) (fun g18 => ?_)
  · have g18' := g18
    try simp only [decide_eq_true_eq, decide_eq_false_iff_not, beq_iff_eq, beq_eq_false_iff_ne, bne_iff_ne, bne_eq_false_iff_eq, Bool.not_eq_true', Bool.not_eq_false', ne_eq, Int.not_lt, Int.not_le, Decidable.not_not] at g18'
    refine run_q (.on rfl rfl rfl g18) rfl rfl (q_move rfl rfl) ?_
    refine run_q (.on rfl rfl rfl g18) rfl rfl (q_neq rfl rfl rfl) ?_
    refine run_q (.none rfl) rfl rfl (q_pickT rfl rfl g18 rfl) ?_
    refine run_q (.none rfl) rfl rfl (q_assign rfl rfl) ?_
    refine run_nil ?_
    refine run_sub (subMk (.cons (s := 0) rfl (.cons (s := 2) rfl (.cons (s := 3) rfl (.cons (s := 4) rfl (.cons (s := 5) rfl (.cons (s := 7) rfl (.cons (s := 12) rfl (.cons (s := 13) rfl (.cons (s := 15) rfl .nil))))))))) .refl) ?_
    refine run_cond rfl (fun g15 => ?_) (fun g15 => ?_)
    · have g15' := g15
      try simp only [decide_eq_true_eq, decide_eq_false_iff_not, beq_iff_eq, beq_eq_false_iff_ne, bne_iff_ne, bne_eq_false_iff_eq, Bool.not_eq_true', Bool.not_eq_false', ne_eq, Int.not_lt, Int.not_le, Decidable.not_not] at g15'
      refine run_seq ?_
      have hL : textV k site num i t f s = (default, 11) := by rw [textV, if_pos (by omega)]
      refine run_region ?_
      refine run_q (.none rfl) rfl rfl (q_build rfl PV.nil (built25)) ?_
      refine run_h (.none rfl) (h_storeB rfl rfl sz25 rfl rfl rfl rfl rfl Sel.here rfl) ?_
      rintro - -
      refine run_q (.none rfl) rfl rfl (q_assign rfl rfl) ?_
      refine run_nil ?_
      refine run_ret ?_
      exact endG rfl (.cellN rfl agg25 Sel.here (.cons rfl (.cons rfl (.cons rfl (.cons rfl (.cons rfl (.cons rfl (.cons rfl (.cons rfl (.cons rfl (.cons rfl (.cons rfl (.cons rfl (.cons rfl CellsAt.nil))))))))))))) rfl (.tmp rfl Outs.nil)) _ .nil (by rw [hL]; rfl)
    · have g15' := g15
      try simp only [decide_eq_true_eq, decide_eq_false_iff_not, beq_iff_eq, beq_eq_false_iff_ne, bne_iff_ne, bne_eq_false_iff_eq, Bool.not_eq_true', Bool.not_eq_false', ne_eq, Int.not_lt, Int.not_le, Decidable.not_not] at g15'
      refine run_seq ?_
      refine run_region ?_
      refine run_q (.none rfl) rfl rfl (q_move rfl rfl) ?_
      refine run_q (.none rfl) rfl rfl (q_lss rfl rfl rfl) ?_
      refine run_q (.none rfl) rfl rfl (q_move rfl rfl) ?_
      refine run_split 26 rfl (fun g26 => ?_) (fun g26 => ?_)
      · have g26' := g26
        try simp only [decide_eq_true_eq, decide_eq_false_iff_not, beq_iff_eq, beq_eq_false_iff_ne, bne_iff_ne, bne_eq_false_iff_eq, Bool.not_eq_true', Bool.not_eq_false', ne_eq, Int.not_lt, Int.not_le, Decidable.not_not] at g26'
        refine run_off (.no rfl rfl rfl g26) rfl rfl ?_
        refine run_off (.no rfl rfl rfl g26) rfl rfl ?_
        refine run_q (.none rfl) rfl rfl (q_pickT rfl rfl g26 rfl) ?_
        refine run_q (.none rfl) rfl rfl (q_move rfl rfl) ?_
        refine run_off (.no rfl rfl rfl rfl) rfl rfl ?_
        refine run_off (.no rfl rfl rfl rfl) rfl rfl ?_
        refine run_q (.none rfl) rfl rfl (q_pickT rfl rfl rfl rfl) ?_
        refine run_q (.none rfl) rfl rfl (q_assign rfl rfl) ?_
        refine run_nil ?_
        refine run_sub (subMk (.cons (s := 0) rfl (.cons (s := 2) rfl (.cons (s := 3) rfl (.cons (s := 4) rfl (.cons (s := 5) rfl (.cons (s := 7) rfl (.cons (s := 12) rfl (.cons (s := 13) rfl (.cons (s := 23) rfl .nil))))))))) .refl) ?_
        refine run_condT rfl rfl ?_
        refine run_seq ?_
        have hL : textV k site num i t f s = (default, 2) := by rw [textV, if_neg (by omega), if_pos (by omega)]
        refine run_region ?_
        refine run_q (.none rfl) rfl rfl (q_build rfl PV.nil (built25)) ?_
        refine run_h (.none rfl) (h_storeB rfl rfl sz25 rfl rfl rfl rfl rfl Sel.here rfl) ?_
        rintro - -
        refine run_q (.none rfl) rfl rfl (q_assign rfl rfl) ?_
        refine run_nil ?_
        refine run_ret ?_
        exact endG rfl (.cellN rfl agg25 Sel.here (.cons rfl (.cons rfl (.cons rfl (.cons rfl (.cons rfl (.cons rfl (.cons rfl (.cons rfl (.cons rfl (.cons rfl (.cons rfl (.cons rfl (.cons rfl CellsAt.nil))))))))))))) rfl (.tmp rfl Outs.nil)) _ .nil (by rw [hL]; rfl)
      · have g26' := g26
        try simp only [decide_eq_true_eq, decide_eq_false_iff_not, beq_iff_eq, beq_eq_false_iff_ne, bne_iff_ne, bne_eq_false_iff_eq, Bool.not_eq_true', Bool.not_eq_false', ne_eq, Int.not_lt, Int.not_le, Decidable.not_not] at g26'
        refine run_q (.on rfl rfl rfl g26) rfl rfl (q_move rfl rfl) ?_
        refine run_q (.on rfl rfl rfl g26) rfl rfl (q_lss rfl rfl rfl) ?_
        refine run_q (.none rfl) rfl rfl (q_pickF rfl rfl g26 rfl) ?_
        refine run_q (.none rfl) rfl rfl (q_move rfl rfl) ?_
        refine run_split 30 rfl (fun g30 => ?_) (fun g30 => ?_)
        · have g30' := g30
          try simp only [decide_eq_true_eq, decide_eq_false_iff_not, beq_iff_eq, beq_eq_false_iff_ne, bne_iff_ne, bne_eq_false_iff_eq, Bool.not_eq_true', Bool.not_eq_false', ne_eq, Int.not_lt, Int.not_le, Decidable.not_not] at g30'
          refine run_off (.no rfl rfl rfl g30) rfl rfl ?_
          refine run_off (.no rfl rfl rfl g30) rfl rfl ?_
          refine run_q (.none rfl) rfl rfl (q_pickT rfl rfl g30 rfl) ?_
          refine run_q (.none rfl) rfl rfl (q_assign rfl rfl) ?_
          refine run_nil ?_
          refine run_sub (subMk (.cons (s := 0) rfl (.cons (s := 2) rfl (.cons (s := 3) rfl (.cons (s := 4) rfl (.cons (s := 5) rfl (.cons (s := 7) rfl (.cons (s := 12) rfl (.cons (s := 13) rfl (.cons (s := 23) rfl .nil))))))))) .refl) ?_
          refine run_condT rfl rfl ?_
          refine run_seq ?_
          have hL : textV k site num i t f s = (default, 2) := by rw [textV, if_neg (by omega), if_pos (by omega)]
          refine run_region ?_
          refine run_q (.none rfl) rfl rfl (q_build rfl PV.nil (built25)) ?_
          refine run_h (.none rfl) (h_storeB rfl rfl sz25 rfl rfl rfl rfl rfl Sel.here rfl) ?_
          rintro - -
          refine run_q (.none rfl) rfl rfl (q_assign rfl rfl) ?_
          refine run_nil ?_
          refine run_ret ?_
          exact endG rfl (.cellN rfl agg25 Sel.here (.cons rfl (.cons rfl (.cons rfl (.cons rfl (.cons rfl (.cons rfl (.cons rfl (.cons rfl (.cons rfl (.cons rfl (.cons rfl (.cons rfl (.cons rfl CellsAt.nil))))))))))))) rfl (.tmp rfl Outs.nil)) _ .nil (by rw [hL]; rfl)
        · have g30' := g30
          try simp only [decide_eq_true_eq, decide_eq_false_iff_not, beq_iff_eq, beq_eq_false_iff_ne, bne_iff_ne, bne_eq_false_iff_eq, Bool.not_eq_true', Bool.not_eq_false', ne_eq, Int.not_lt, Int.not_le, Decidable.not_not] at g30'
          refine run_q (.on rfl rfl rfl g30) rfl rfl (q_move rfl rfl) ?_
          refine run_q (.on rfl rfl rfl g30) rfl rfl (q_lss rfl rfl rfl) ?_
          refine run_q (.none rfl) rfl rfl (q_pickF rfl rfl g30 rfl) ?_
          refine run_q (.none rfl) rfl rfl (q_assign rfl rfl) ?_
          refine run_nil ?_
          refine run_sub (subMk (.cons (s := 0) rfl (.cons (s := 2) rfl (.cons (s := 3) rfl (.cons (s := 4) rfl (.cons (s := 5) rfl (.cons (s := 7) rfl (.cons (s := 12) rfl (.cons (s := 13) rfl (.cons (s := 23) rfl .nil))))))))) .refl) ?_
          refine run_cond rfl (fun g23 => ?_) (fun g23 => ?_)
          · have g23' := g23
            try simp only [decide_eq_true_eq, decide_eq_false_iff_not, beq_iff_eq, beq_eq_false_iff_ne, bne_iff_ne, bne_eq_false_iff_eq, Bool.not_eq_true', Bool.not_eq_false', ne_eq, Int.not_lt, Int.not_le, Decidable.not_not] at g23'
            refine run_seq ?_
            have hL : textV k site num i t f s = (default, 2) := by rw [textV, if_neg (by omega), if_pos (by omega)]
            refine run_region ?_
            refine run_q (.none rfl) rfl rfl (q_build rfl PV.nil (built25)) ?_
            refine run_h (.none rfl) (h_storeB rfl rfl sz25 rfl rfl rfl rfl rfl Sel.here rfl) ?_
            rintro - -
            refine run_q (.none rfl) rfl rfl (q_assign rfl rfl) ?_
            refine run_nil ?_
            refine run_ret ?_
            exact endG rfl (.cellN rfl agg25 Sel.here (.cons rfl (.cons rfl (.cons rfl (.cons rfl (.cons rfl (.cons rfl (.cons rfl (.cons rfl (.cons rfl (.cons rfl (.cons rfl (.cons rfl (.cons rfl CellsAt.nil))))))))))))) rfl (.tmp rfl Outs.nil)) _ .nil (by rw [hL]; rfl)
          · have g23' := g23
            try simp only [decide_eq_true_eq, decide_eq_false_iff_not, beq_iff_eq, beq_eq_false_iff_ne, bne_iff_ne, bne_eq_false_iff_eq, Bool.not_eq_true', Bool.not_eq_false', ne_eq, Int.not_lt, Int.not_le, Decidable.not_not] at g23'
            refine run_seq ?_
            refine run_region ?_
            refine run_q (.none rfl) rfl rfl (q_move rfl rfl) ?_
            refine run_q (.none rfl) rfl rfl (q_eqlStr rfl rfl rfl) ?_
            refine run_q (.none rfl) rfl rfl (q_assign rfl rfl) ?_
            refine run_nil ?_
            refine run_sub (subMk (.cons (s := 0) rfl (.cons (s := 2) rfl (.cons (s := 3) rfl (.cons (s := 4) rfl (.cons (s := 5) rfl (.cons (s := 7) rfl (.cons (s := 12) rfl (.cons (s := 13) rfl (.cons (s := 35) rfl .nil))))))))) .refl) ?_
            refine run_cond rfl (fun g35 => ?_) (fun g35 => ?_)
            · have g35' := g35
              try simp only [decide_eq_true_eq, decide_eq_false_iff_not, beq_iff_eq, beq_eq_false_iff_ne, bne_iff_ne, bne_eq_false_iff_eq, Bool.not_eq_true', Bool.not_eq_false', ne_eq, Int.not_lt, Int.not_le, Decidable.not_not] at g35'
              refine run_seq ?_
              have hL : textV k site num i t f s = (default, 4) := by rw [textV, if_neg (by omega), if_neg (by omega), if_pos (by simpa using g35)]
              refine run_region ?_
              refine run_q (.none rfl) rfl rfl (q_build rfl PV.nil (built25)) ?_
              refine run_h (.none rfl) (h_storeB rfl rfl sz25 rfl rfl rfl rfl rfl Sel.here rfl) ?_
              rintro - -
              refine run_q (.none rfl) rfl rfl (q_assign rfl rfl) ?_
              refine run_nil ?_
              refine run_ret ?_
              exact endG rfl (.cellN rfl agg25 Sel.here (.cons rfl (.cons rfl (.cons rfl (.cons rfl (.cons rfl (.cons rfl (.cons rfl (.cons rfl (.cons rfl (.cons rfl (.cons rfl (.cons rfl (.cons rfl CellsAt.nil))))))))))))) rfl (.tmp rfl Outs.nil)) _ .nil (by rw [hL]; rfl)
            · have g35' := g35
              try simp only [decide_eq_true_eq, decide_eq_false_iff_not, beq_iff_eq, beq_eq_false_iff_ne, bne_iff_ne, bne_eq_false_iff_eq, Bool.not_eq_true', Bool.not_eq_false', ne_eq, Int.not_lt, Int.not_le, Decidable.not_not] at g35'
              refine run_seq ?_
              refine run_region ?_
              refine run_q (.none rfl) rfl rfl (q_move rfl rfl) ?_
              refine run_q (.none rfl) rfl rfl (q_lens rfl Try.underlying9 rfl) ?_
              refine run_q (.none rfl) rfl rfl (q_gtr rfl rfl rfl) ?_
              refine run_q (.none rfl) rfl rfl (q_assign rfl rfl) ?_
              refine run_nil ?_
              refine run_sub (subMk (.cons (s := 0) rfl (.cons (s := 2) rfl (.cons (s := 3) rfl (.cons (s := 4) rfl (.cons (s := 5) rfl (.cons (s := 7) rfl (.cons (s := 12) rfl (.cons (s := 13) rfl (.cons (s := 39) rfl .nil))))))))) .refl) ?_
              refine run_cond rfl (fun g39 => ?_) (fun g39 => ?_)
              · have g39' := g39
                try simp only [decide_eq_true_eq, decide_eq_false_iff_not, beq_iff_eq, beq_eq_false_iff_ne, bne_iff_ne, bne_eq_false_iff_eq, Bool.not_eq_true', Bool.not_eq_false', ne_eq, Int.not_lt, Int.not_le, Decidable.not_not] at g39'
                refine run_seq ?_
                have hL : textV k site num i t f s = (default, 5) := by rw [textV, if_neg (by omega), if_neg (by omega), if_neg (by simpa using g35), if_pos (by omega)]
                refine run_region ?_
                refine run_q (.none rfl) rfl rfl (q_build rfl PV.nil (built25)) ?_
                refine run_h (.none rfl) (h_storeB rfl rfl sz25 rfl rfl rfl rfl rfl Sel.here rfl) ?_
                rintro - -
                refine run_q (.none rfl) rfl rfl (q_assign rfl rfl) ?_
                refine run_nil ?_
                refine run_ret ?_
                exact endG rfl (.cellN rfl agg25 Sel.here (.cons rfl (.cons rfl (.cons rfl (.cons rfl (.cons rfl (.cons rfl (.cons rfl (.cons rfl (.cons rfl (.cons rfl (.cons rfl (.cons rfl (.cons rfl CellsAt.nil))))))))))))) rfl (.tmp rfl Outs.nil)) _ .nil (by rw [hL]; rfl)
              · have g39' := g39
                try simp only [decide_eq_true_eq, decide_eq_false_iff_not, beq_iff_eq, beq_eq_false_iff_ne, bne_iff_ne, bne_eq_false_iff_eq, Bool.not_eq_true', Bool.not_eq_false', ne_eq, Int.not_lt, Int.not_le, Decidable.not_not] at g39'
                refine run_skip ?_
                refine run_blk ?_
                refine run_seq ?_
                have hL : textV k site num i t f s = (⟨k, i, t, f, f, 1, 136, 0, site, num, 0, glyT s s.size, 80⟩, 0) := by rw [textV, if_neg (by omega), if_neg (by omega), if_neg (by simpa using g35), if_neg (by omega)]
                refine run_draw [(0, 0), (1, 0), (2, 0), (3, 0), (4, 0), (5, 0), (6, 0), (7, 0), (8, 0), (9, 1), (10, 2)] mixed (by kernel_rfl) .refl ?_
                refine d_q rfl rfl (.none rfl) rfl rfl (q_move rfl rfl) ?_
                refine d_q rfl rfl (.none rfl) rfl rfl (q_move rfl rfl) ?_
                refine d_q rfl rfl (.none rfl) rfl rfl (q_move rfl rfl) ?_
                refine d_q rfl rfl (.none rfl) rfl rfl (q_move rfl rfl) ?_
                refine d_q rfl rfl (.none rfl) rfl rfl (q_move rfl rfl) ?_
                refine d_q rfl rfl (.none rfl) rfl rfl (q_loadBN rfl agg23 rfl (.there Sel.here) (.cons rfl (.cons rfl CellsAt.nil)) rfl) ?_
                refine d_q rfl rfl (.none rfl) rfl rfl (q_move rfl rfl) ?_
                refine d_q rfl rfl (.none rfl) rfl rfl (q_call rfl call25 (.cons rfl Evs.nil) (fun w hk hm => glyText_just s w (by omega))) ?_
                refine d_q rfl rfl (.none rfl) rfl rfl (q_build rfl (.cons rfl (.cons rfl (.cons rfl (.cons rfl (.cons rfl (.cons rfl (.cons rfl (.cons rfl PV.nil)))))))) (built25p0p1p2p3p4p8p11p10 _ _ _ _ _ _ _ _ _)) ?_
                refine d_h rfl rfl (.none rfl) (h_alloc rfl rfl rfl info25) (fun _ _ => (.sub (by repeat (first | exact List.Sublist.refl _ | apply List.Sublist.cons)))) ?_
                rintro b14 -
                refine d_t rfl rfl (.none rfl) (h_storeB rfl rfl sz25 rfl rfl rfl rfl rfl Sel.here rfl) ?_
                rintro - -
                refine d_nil ?_
                refine run_sub (subMk (.cons (s := 12) rfl (.cons (s := 13) rfl (.cons (s := 14) rfl .nil))) .refl) ?_
                refine run_seq ?_
                refine run_region ?_
                refine run_q (.none rfl) rfl rfl (q_loadBN rfl agg25 rfl Sel.here (.cons rfl (.cons rfl (.cons rfl (.cons rfl (.cons rfl (.cons rfl (.cons rfl (.cons rfl (.cons rfl (.cons rfl (.cons rfl (.cons rfl (.cons rfl CellsAt.nil))))))))))))) rfl) ?_
                refine run_q (.none rfl) rfl rfl (q_call rfl call36 (.cons rfl (.cons rfl Evs.nil)) (fun w hk hm => on_just ⟨k, i, t, f, f, 0, 0, 0, site, num, 0, glyT s s.size, 80⟩ 1 w (by decide))) ?_
                refine run_h (.none rfl) (h_storeB rfl rfl sz25 rfl rfl rfl rfl rfl (.there Sel.here) rfl) ?_
                rintro - -
                refine run_q (.none rfl) rfl rfl (q_assign rfl rfl) ?_
                refine run_nil ?_
                refine run_sub (subMk (.cons (s := 12) rfl (.cons (s := 13) rfl .nil)) .refl) ?_
                refine run_ret ?_
                exact endG rfl (.cellN rfl agg25 Sel.here (.cons rfl (.cons rfl (.cons rfl (.cons rfl (.cons rfl (.cons rfl (.cons rfl (.cons rfl (.cons rfl (.cons rfl (.cons rfl (.cons rfl (.cons rfl CellsAt.nil))))))))))))) rfl (.tmp rfl Outs.nil)) _ .nil (by rw [hL]; rfl)
  · have g18' := g18
    try simp only [decide_eq_true_eq, decide_eq_false_iff_not, beq_iff_eq, beq_eq_false_iff_ne, bne_iff_ne, bne_eq_false_iff_eq, Bool.not_eq_true', Bool.not_eq_false', ne_eq, Int.not_lt, Int.not_le, Decidable.not_not] at g18'
    refine run_off (.no rfl rfl rfl g18) rfl rfl ?_
    refine run_off (.no rfl rfl rfl g18) rfl rfl ?_
    refine run_q (.none rfl) rfl rfl (q_pickF rfl rfl g18 rfl) ?_
    refine run_q (.none rfl) rfl rfl (q_assign rfl rfl) ?_
    refine run_nil ?_
    refine run_sub (subMk (.cons (s := 0) rfl (.cons (s := 2) rfl (.cons (s := 3) rfl (.cons (s := 4) rfl (.cons (s := 5) rfl (.cons (s := 7) rfl (.cons (s := 12) rfl (.cons (s := 13) rfl (.cons (s := 15) rfl .nil))))))))) .refl) ?_
    refine run_condF rfl rfl ?_
    refine run_seq ?_
    refine run_region ?_
    refine run_q (.none rfl) rfl rfl (q_move rfl rfl) ?_
    refine run_q (.none rfl) rfl rfl (q_lss rfl rfl rfl) ?_
    refine run_q (.none rfl) rfl rfl (q_move rfl rfl) ?_
    refine run_split 26 rfl (fun g26 => ?_) (fun g26 => ?_)
    · have g26' := g26
      try simp only [decide_eq_true_eq, decide_eq_false_iff_not, beq_iff_eq, beq_eq_false_iff_ne, bne_iff_ne, bne_eq_false_iff_eq, Bool.not_eq_true', Bool.not_eq_false', ne_eq, Int.not_lt, Int.not_le, Decidable.not_not] at g26'
      refine run_off (.no rfl rfl rfl g26) rfl rfl ?_
      refine run_off (.no rfl rfl rfl g26) rfl rfl ?_
      refine run_q (.none rfl) rfl rfl (q_pickT rfl rfl g26 rfl) ?_
      refine run_q (.none rfl) rfl rfl (q_move rfl rfl) ?_
      refine run_off (.no rfl rfl rfl rfl) rfl rfl ?_
      refine run_off (.no rfl rfl rfl rfl) rfl rfl ?_
      refine run_q (.none rfl) rfl rfl (q_pickT rfl rfl rfl rfl) ?_
      refine run_q (.none rfl) rfl rfl (q_assign rfl rfl) ?_
      refine run_nil ?_
      refine run_sub (subMk (.cons (s := 0) rfl (.cons (s := 2) rfl (.cons (s := 3) rfl (.cons (s := 4) rfl (.cons (s := 5) rfl (.cons (s := 7) rfl (.cons (s := 12) rfl (.cons (s := 13) rfl (.cons (s := 23) rfl .nil))))))))) .refl) ?_
      refine run_condT rfl rfl ?_
      refine run_seq ?_
      have hL : textV k site num i t f s = (default, 2) := by rw [textV, if_neg (by omega), if_pos (by omega)]
      refine run_region ?_
      refine run_q (.none rfl) rfl rfl (q_build rfl PV.nil (built25)) ?_
      refine run_h (.none rfl) (h_storeB rfl rfl sz25 rfl rfl rfl rfl rfl Sel.here rfl) ?_
      rintro - -
      refine run_q (.none rfl) rfl rfl (q_assign rfl rfl) ?_
      refine run_nil ?_
      refine run_ret ?_
      exact endG rfl (.cellN rfl agg25 Sel.here (.cons rfl (.cons rfl (.cons rfl (.cons rfl (.cons rfl (.cons rfl (.cons rfl (.cons rfl (.cons rfl (.cons rfl (.cons rfl (.cons rfl (.cons rfl CellsAt.nil))))))))))))) rfl (.tmp rfl Outs.nil)) _ .nil (by rw [hL]; rfl)
    · have g26' := g26
      try simp only [decide_eq_true_eq, decide_eq_false_iff_not, beq_iff_eq, beq_eq_false_iff_ne, bne_iff_ne, bne_eq_false_iff_eq, Bool.not_eq_true', Bool.not_eq_false', ne_eq, Int.not_lt, Int.not_le, Decidable.not_not] at g26'
      refine run_q (.on rfl rfl rfl g26) rfl rfl (q_move rfl rfl) ?_
      refine run_q (.on rfl rfl rfl g26) rfl rfl (q_lss rfl rfl rfl) ?_
      refine run_q (.none rfl) rfl rfl (q_pickF rfl rfl g26 rfl) ?_
      refine run_q (.none rfl) rfl rfl (q_move rfl rfl) ?_
      refine run_split 30 rfl (fun g30 => ?_) (fun g30 => ?_)
      · have g30' := g30
        try simp only [decide_eq_true_eq, decide_eq_false_iff_not, beq_iff_eq, beq_eq_false_iff_ne, bne_iff_ne, bne_eq_false_iff_eq, Bool.not_eq_true', Bool.not_eq_false', ne_eq, Int.not_lt, Int.not_le, Decidable.not_not] at g30'
        refine run_off (.no rfl rfl rfl g30) rfl rfl ?_
        refine run_off (.no rfl rfl rfl g30) rfl rfl ?_
        refine run_q (.none rfl) rfl rfl (q_pickT rfl rfl g30 rfl) ?_
        refine run_q (.none rfl) rfl rfl (q_assign rfl rfl) ?_
        refine run_nil ?_
        refine run_sub (subMk (.cons (s := 0) rfl (.cons (s := 2) rfl (.cons (s := 3) rfl (.cons (s := 4) rfl (.cons (s := 5) rfl (.cons (s := 7) rfl (.cons (s := 12) rfl (.cons (s := 13) rfl (.cons (s := 23) rfl .nil))))))))) .refl) ?_
        refine run_condT rfl rfl ?_
        refine run_seq ?_
        have hL : textV k site num i t f s = (default, 2) := by rw [textV, if_neg (by omega), if_pos (by omega)]
        refine run_region ?_
        refine run_q (.none rfl) rfl rfl (q_build rfl PV.nil (built25)) ?_
        refine run_h (.none rfl) (h_storeB rfl rfl sz25 rfl rfl rfl rfl rfl Sel.here rfl) ?_
        rintro - -
        refine run_q (.none rfl) rfl rfl (q_assign rfl rfl) ?_
        refine run_nil ?_
        refine run_ret ?_
        exact endG rfl (.cellN rfl agg25 Sel.here (.cons rfl (.cons rfl (.cons rfl (.cons rfl (.cons rfl (.cons rfl (.cons rfl (.cons rfl (.cons rfl (.cons rfl (.cons rfl (.cons rfl (.cons rfl CellsAt.nil))))))))))))) rfl (.tmp rfl Outs.nil)) _ .nil (by rw [hL]; rfl)
      · have g30' := g30
        try simp only [decide_eq_true_eq, decide_eq_false_iff_not, beq_iff_eq, beq_eq_false_iff_ne, bne_iff_ne, bne_eq_false_iff_eq, Bool.not_eq_true', Bool.not_eq_false', ne_eq, Int.not_lt, Int.not_le, Decidable.not_not] at g30'
        refine run_q (.on rfl rfl rfl g30) rfl rfl (q_move rfl rfl) ?_
        refine run_q (.on rfl rfl rfl g30) rfl rfl (q_lss rfl rfl rfl) ?_
        refine run_q (.none rfl) rfl rfl (q_pickF rfl rfl g30 rfl) ?_
        refine run_q (.none rfl) rfl rfl (q_assign rfl rfl) ?_
        refine run_nil ?_
        refine run_sub (subMk (.cons (s := 0) rfl (.cons (s := 2) rfl (.cons (s := 3) rfl (.cons (s := 4) rfl (.cons (s := 5) rfl (.cons (s := 7) rfl (.cons (s := 12) rfl (.cons (s := 13) rfl (.cons (s := 23) rfl .nil))))))))) .refl) ?_
        refine run_cond rfl (fun g23 => ?_) (fun g23 => ?_)
        · have g23' := g23
          try simp only [decide_eq_true_eq, decide_eq_false_iff_not, beq_iff_eq, beq_eq_false_iff_ne, bne_iff_ne, bne_eq_false_iff_eq, Bool.not_eq_true', Bool.not_eq_false', ne_eq, Int.not_lt, Int.not_le, Decidable.not_not] at g23'
          refine run_seq ?_
          have hL : textV k site num i t f s = (default, 2) := by rw [textV, if_neg (by omega), if_pos (by omega)]
          refine run_region ?_
          refine run_q (.none rfl) rfl rfl (q_build rfl PV.nil (built25)) ?_
          refine run_h (.none rfl) (h_storeB rfl rfl sz25 rfl rfl rfl rfl rfl Sel.here rfl) ?_
          rintro - -
          refine run_q (.none rfl) rfl rfl (q_assign rfl rfl) ?_
          refine run_nil ?_
          refine run_ret ?_
          exact endG rfl (.cellN rfl agg25 Sel.here (.cons rfl (.cons rfl (.cons rfl (.cons rfl (.cons rfl (.cons rfl (.cons rfl (.cons rfl (.cons rfl (.cons rfl (.cons rfl (.cons rfl (.cons rfl CellsAt.nil))))))))))))) rfl (.tmp rfl Outs.nil)) _ .nil (by rw [hL]; rfl)
        · have g23' := g23
          try simp only [decide_eq_true_eq, decide_eq_false_iff_not, beq_iff_eq, beq_eq_false_iff_ne, bne_iff_ne, bne_eq_false_iff_eq, Bool.not_eq_true', Bool.not_eq_false', ne_eq, Int.not_lt, Int.not_le, Decidable.not_not] at g23'
          refine run_seq ?_
          refine run_region ?_
          refine run_q (.none rfl) rfl rfl (q_move rfl rfl) ?_
          refine run_q (.none rfl) rfl rfl (q_eqlStr rfl rfl rfl) ?_
          refine run_q (.none rfl) rfl rfl (q_assign rfl rfl) ?_
          refine run_nil ?_
          refine run_sub (subMk (.cons (s := 0) rfl (.cons (s := 2) rfl (.cons (s := 3) rfl (.cons (s := 4) rfl (.cons (s := 5) rfl (.cons (s := 7) rfl (.cons (s := 12) rfl (.cons (s := 13) rfl (.cons (s := 35) rfl .nil))))))))) .refl) ?_
          refine run_cond rfl (fun g35 => ?_) (fun g35 => ?_)
          · have g35' := g35
            try simp only [decide_eq_true_eq, decide_eq_false_iff_not, beq_iff_eq, beq_eq_false_iff_ne, bne_iff_ne, bne_eq_false_iff_eq, Bool.not_eq_true', Bool.not_eq_false', ne_eq, Int.not_lt, Int.not_le, Decidable.not_not] at g35'
            refine run_seq ?_
            have hL : textV k site num i t f s = (default, 4) := by rw [textV, if_neg (by omega), if_neg (by omega), if_pos (by simpa using g35)]
            refine run_region ?_
            refine run_q (.none rfl) rfl rfl (q_build rfl PV.nil (built25)) ?_
            refine run_h (.none rfl) (h_storeB rfl rfl sz25 rfl rfl rfl rfl rfl Sel.here rfl) ?_
            rintro - -
            refine run_q (.none rfl) rfl rfl (q_assign rfl rfl) ?_
            refine run_nil ?_
            refine run_ret ?_
            exact endG rfl (.cellN rfl agg25 Sel.here (.cons rfl (.cons rfl (.cons rfl (.cons rfl (.cons rfl (.cons rfl (.cons rfl (.cons rfl (.cons rfl (.cons rfl (.cons rfl (.cons rfl (.cons rfl CellsAt.nil))))))))))))) rfl (.tmp rfl Outs.nil)) _ .nil (by rw [hL]; rfl)
          · have g35' := g35
            try simp only [decide_eq_true_eq, decide_eq_false_iff_not, beq_iff_eq, beq_eq_false_iff_ne, bne_iff_ne, bne_eq_false_iff_eq, Bool.not_eq_true', Bool.not_eq_false', ne_eq, Int.not_lt, Int.not_le, Decidable.not_not] at g35'
            refine run_seq ?_
            refine run_region ?_
            refine run_q (.none rfl) rfl rfl (q_move rfl rfl) ?_
            refine run_q (.none rfl) rfl rfl (q_lens rfl Try.underlying9 rfl) ?_
            refine run_q (.none rfl) rfl rfl (q_gtr rfl rfl rfl) ?_
            refine run_q (.none rfl) rfl rfl (q_assign rfl rfl) ?_
            refine run_nil ?_
            refine run_sub (subMk (.cons (s := 0) rfl (.cons (s := 2) rfl (.cons (s := 3) rfl (.cons (s := 4) rfl (.cons (s := 5) rfl (.cons (s := 7) rfl (.cons (s := 12) rfl (.cons (s := 13) rfl (.cons (s := 39) rfl .nil))))))))) .refl) ?_
            refine run_cond rfl (fun g39 => ?_) (fun g39 => ?_)
            · have g39' := g39
              try simp only [decide_eq_true_eq, decide_eq_false_iff_not, beq_iff_eq, beq_eq_false_iff_ne, bne_iff_ne, bne_eq_false_iff_eq, Bool.not_eq_true', Bool.not_eq_false', ne_eq, Int.not_lt, Int.not_le, Decidable.not_not] at g39'
              refine run_seq ?_
              have hL : textV k site num i t f s = (default, 5) := by rw [textV, if_neg (by omega), if_neg (by omega), if_neg (by simpa using g35), if_pos (by omega)]
              refine run_region ?_
              refine run_q (.none rfl) rfl rfl (q_build rfl PV.nil (built25)) ?_
              refine run_h (.none rfl) (h_storeB rfl rfl sz25 rfl rfl rfl rfl rfl Sel.here rfl) ?_
              rintro - -
              refine run_q (.none rfl) rfl rfl (q_assign rfl rfl) ?_
              refine run_nil ?_
              refine run_ret ?_
              exact endG rfl (.cellN rfl agg25 Sel.here (.cons rfl (.cons rfl (.cons rfl (.cons rfl (.cons rfl (.cons rfl (.cons rfl (.cons rfl (.cons rfl (.cons rfl (.cons rfl (.cons rfl (.cons rfl CellsAt.nil))))))))))))) rfl (.tmp rfl Outs.nil)) _ .nil (by rw [hL]; rfl)
            · have g39' := g39
              try simp only [decide_eq_true_eq, decide_eq_false_iff_not, beq_iff_eq, beq_eq_false_iff_ne, bne_iff_ne, bne_eq_false_iff_eq, Bool.not_eq_true', Bool.not_eq_false', ne_eq, Int.not_lt, Int.not_le, Decidable.not_not] at g39'
              refine run_skip ?_
              refine run_blk ?_
              refine run_seq ?_
              have hL : textV k site num i t f s = (⟨k, i, t, f, f, 1, 136, 0, site, num, 0, glyT s s.size, 80⟩, 0) := by rw [textV, if_neg (by omega), if_neg (by omega), if_neg (by simpa using g35), if_neg (by omega)]
              refine run_draw [(0, 0), (1, 0), (2, 0), (3, 0), (4, 0), (5, 0), (6, 0), (7, 0), (8, 0), (9, 1), (10, 2)] mixed (by kernel_rfl) .refl ?_
              refine d_q rfl rfl (.none rfl) rfl rfl (q_move rfl rfl) ?_
              refine d_q rfl rfl (.none rfl) rfl rfl (q_move rfl rfl) ?_
              refine d_q rfl rfl (.none rfl) rfl rfl (q_move rfl rfl) ?_
              refine d_q rfl rfl (.none rfl) rfl rfl (q_move rfl rfl) ?_
              refine d_q rfl rfl (.none rfl) rfl rfl (q_move rfl rfl) ?_
              refine d_q rfl rfl (.none rfl) rfl rfl (q_loadBN rfl agg23 rfl (.there Sel.here) (.cons rfl (.cons rfl CellsAt.nil)) rfl) ?_
              refine d_q rfl rfl (.none rfl) rfl rfl (q_move rfl rfl) ?_
              refine d_q rfl rfl (.none rfl) rfl rfl (q_call rfl call25 (.cons rfl Evs.nil) (fun w hk hm => glyText_just s w (by omega))) ?_
              refine d_q rfl rfl (.none rfl) rfl rfl (q_build rfl (.cons rfl (.cons rfl (.cons rfl (.cons rfl (.cons rfl (.cons rfl (.cons rfl (.cons rfl PV.nil)))))))) (built25p0p1p2p3p4p8p11p10 _ _ _ _ _ _ _ _ _)) ?_
              refine d_h rfl rfl (.none rfl) (h_alloc rfl rfl rfl info25) (fun _ _ => (.sub (by repeat (first | exact List.Sublist.refl _ | apply List.Sublist.cons)))) ?_
              rintro b14 -
              refine d_t rfl rfl (.none rfl) (h_storeB rfl rfl sz25 rfl rfl rfl rfl rfl Sel.here rfl) ?_
              rintro - -
              refine d_nil ?_
              refine run_sub (subMk (.cons (s := 12) rfl (.cons (s := 13) rfl (.cons (s := 14) rfl .nil))) .refl) ?_
              refine run_seq ?_
              refine run_region ?_
              refine run_q (.none rfl) rfl rfl (q_loadBN rfl agg25 rfl Sel.here (.cons rfl (.cons rfl (.cons rfl (.cons rfl (.cons rfl (.cons rfl (.cons rfl (.cons rfl (.cons rfl (.cons rfl (.cons rfl (.cons rfl (.cons rfl CellsAt.nil))))))))))))) rfl) ?_
              refine run_q (.none rfl) rfl rfl (q_call rfl call36 (.cons rfl (.cons rfl Evs.nil)) (fun w hk hm => on_just ⟨k, i, t, f, f, 0, 0, 0, site, num, 0, glyT s s.size, 80⟩ 1 w (by decide))) ?_
              refine run_h (.none rfl) (h_storeB rfl rfl sz25 rfl rfl rfl rfl rfl (.there Sel.here) rfl) ?_
              rintro - -
              refine run_q (.none rfl) rfl rfl (q_assign rfl rfl) ?_
              refine run_nil ?_
              refine run_sub (subMk (.cons (s := 12) rfl (.cons (s := 13) rfl .nil)) .refl) ?_
              refine run_ret ?_
              exact endG rfl (.cellN rfl agg25 Sel.here (.cons rfl (.cons rfl (.cons rfl (.cons rfl (.cons rfl (.cons rfl (.cons rfl (.cons rfl (.cons rfl (.cons rfl (.cons rfl (.cons rfl (.cons rfl CellsAt.nil))))))))))))) rfl (.tmp rfl Outs.nil)) _ .nil (by rw [hL]; rfl)

set_option maxHeartbeats 2000000 in
set_option maxRecDepth 100000 in
theorem law8_just (k i t f : Int) (s : ByteArray) (W : World) (hs : s.size ≤ 9223372036854775807) (S : ByteArray) (hS : S = s.extract 0 (min s.size 300)) : Calls Try.prog 8 #[.int .i64 k, .agg #[.int .i64 i, .int .i64 t, .int .i64 f], .string s] W (Hr.Just W (.bool true)) := by
  have hSs : S.size ≤ 300 := by rw [hS, ByteArray.size_extract]; omega
  refine Just.of_ret ?_
  refine enterA (X := nX) (vs := [.int .i64 k, .agg #[.int .i64 i, .int .i64 t, .int .i64 f], .string s]) Try.func8 Try.ntmps8 rfl rfl Mem.nil ?_
  refine run_seq ?_
  refine run_region ?_
  refine run_h (.none rfl) (h_box rfl rfl rfl rfl rfl) ?_
  rintro b4 -
  refine run_q (.none rfl) rfl rfl (q_assign rfl rfl) ?_
  refine run_nil ?_
  refine run_seq ?_
  refine run_region ?_
  refine run_q (.none rfl) rfl rfl (q_move rfl rfl) ?_
  refine run_q (.none rfl) rfl rfl (q_move rfl rfl) ?_
  refine run_q (.none rfl) rfl rfl (q_lens rfl Try.underlying9 rfl) ?_
  refine run_q (.none rfl) rfl rfl (q_min2 rfl rfl rfl) ?_
  refine run_q (.none rfl) rfl rfl (q_sliceStrH rfl Try.underlying9 rfl rfl (by omega)) ?_
  refine run_q (.none rfl) rfl rfl (q_assign rfl rfl) ?_
  refine run_nil ?_
  refine run_sub (subMk (.cons (s := 0) rfl (.cons (s := 2) rfl (.cons (s := 4) rfl (.cons (s := 6) rfl .nil)))) .refl) ?_
  refine run_seq ?_
  refine run_sub (subMk (.cons (s := 0) rfl (.cons' (s := 2) (v' := .string S) rfl (by rw [hS]; congr 2 <;> omega) (.cons (s := 4) rfl (.cons (s := 6) rfl .nil)))) .refl) ?_
  refine run_region ?_
  refine run_q (.none rfl) rfl rfl (q_build rfl (.cons rfl (.cons rfl PV.nil)) (built23p0p1 _ _)) ?_
  refine run_h (.none rfl) (h_alloc rfl rfl rfl info23) ?_
  rintro b7 -
  refine run_h (.none rfl) (h_storeB rfl rfl sz23 rfl rfl rfl rfl rfl Sel.here rfl) ?_
  rintro - -
  refine run_nil ?_
  refine run_seq ?_
  refine run_region ?_
  refine run_q (.none rfl) rfl rfl (q_move rfl rfl) ?_
  refine run_q (.none rfl) rfl rfl (q_loadBN rfl agg23 rfl Sel.here (.cons rfl (.cons rfl CellsAt.nil)) rfl) ?_
  refine run_q (.none rfl) rfl rfl (q_indexB (q := 0) (d := 0) rfl Try.underlying59 sz3 rfl rfl rfl (by decide) rfl) ?_
  refine run_q (.none rfl) rfl rfl (q_loadB rfl one3 rfl (.there Sel.here) rfl) ?_
  refine run_q (.none rfl) rfl rfl (q_indexB (q := 1) (d := 1) rfl Try.underlying59 sz3 rfl rfl rfl (by decide) rfl) ?_
  refine run_q (.none rfl) rfl rfl (q_loadB rfl one3 rfl (.there Sel.here) rfl) ?_
  refine run_q (.none rfl) rfl rfl (q_indexB (q := 2) (d := 2) rfl Try.underlying59 sz3 rfl rfl rfl (by decide) rfl) ?_
  refine run_q (.none rfl) rfl rfl (q_loadB rfl one3 rfl (.there Sel.here) rfl) ?_
  refine run_q (.none rfl) rfl rfl (q_move rfl rfl) ?_
  refine run_q (.none rfl) rfl rfl (q_call rfl call24 (.cons rfl (.cons rfl (.cons rfl (.cons rfl (.cons rfl (.cons rfl Evs.nil)))))) (fun w hk hm => text_just k 1 2 i t f S w (by omega))) ?_
  refine run_q (.none rfl) rfl rfl (q_move rfl rfl) ?_
  refine run_q (.none rfl) rfl rfl (q_extract rfl rfl rfl) ?_
  refine run_q (.none rfl) rfl rfl (q_extract rfl rfl rfl) ?_
  refine run_h (.none rfl) (h_alloc rfl rfl rfl info25) ?_
  rintro b8 -
  refine run_h (.none rfl) (h_storeB rfl rfl sz25 rfl rfl rfl rfl rfl Sel.here rfl) ?_
  rintro - -
  refine run_q (.none rfl) rfl rfl (q_assign rfl rfl) ?_
  refine run_nil ?_
  refine run_sub (subMk (.cons (s := 0) rfl (.cons (s := 2) rfl (.cons (s := 4) rfl (.cons (s := 6) rfl (.cons (s := 7) rfl (.cons (s := 8) rfl (.cons (s := 9) rfl .nil))))))) .refl) ?_
  refine run_seq ?_
  refine run_seq ?_
  refine run_region ?_
  refine run_q (.none rfl) rfl rfl (q_call rfl call13 Evs.nil (fun w hk hm => known_just w)) ?_
  refine run_q (.none rfl) rfl rfl (q_not rfl rfl) ?_
  refine run_nil ?_
  refine run_condF rfl rfl ?_
  refine run_skip ?_
  refine run_seq ?_
  refine run_block ?_
  refine run_seq ?_
  refine run_region ?_
  refine run_q (.none rfl) rfl rfl (q_move rfl rfl) ?_
  refine run_q (.none rfl) rfl rfl (q_neq rfl rfl rfl) ?_
  refine run_q (.none rfl) rfl rfl (q_move rfl rfl) ?_
  refine run_split 34 rfl (fun g34 => ?_) (fun g34 => ?_)
  · have g34' := g34
    try simp only [decide_eq_true_eq, decide_eq_false_iff_not, beq_iff_eq, beq_eq_false_iff_ne, bne_iff_ne, bne_eq_false_iff_eq, Bool.not_eq_true', Bool.not_eq_false', ne_eq, Int.not_lt, Int.not_le, Decidable.not_not] at g34'
    refine run_q (.on rfl rfl rfl g34) rfl rfl (q_move rfl rfl) ?_
    refine run_q (.on rfl rfl rfl g34) rfl rfl (q_neq rfl rfl rfl) ?_
    refine run_q (.none rfl) rfl rfl (q_pickT rfl rfl g34 rfl) ?_
    refine run_q (.none rfl) rfl rfl (q_assign rfl rfl) ?_
    refine run_nil ?_
    refine run_sub (subMk (.cons (s := 0) rfl (.cons (s := 2) rfl (.cons (s := 4) rfl (.cons (s := 6) rfl (.cons (s := 7) rfl (.cons (s := 8) rfl (.cons (s := 9) rfl (.cons (s := 31) rfl .nil)))))))) .refl) ?_
    refine run_cond rfl (fun g31 => ?_) (fun g31 => ?_)
    · have g31' := g31
      try simp only [decide_eq_true_eq, decide_eq_false_iff_not, beq_iff_eq, beq_eq_false_iff_ne, bne_iff_ne, bne_eq_false_iff_eq, Bool.not_eq_true', Bool.not_eq_false', ne_eq, Int.not_lt, Int.not_le, Decidable.not_not] at g31'
      refine run_seq ?_
      have hL : textV k 1 2 i t f S = (default, 11) := by rw [textV, if_pos (by omega)]
      refine run_region ?_
      refine run_q (.none rfl) rfl rfl (q_loadBN rfl agg25 rfl Sel.here (.cons rfl (.cons rfl (.cons rfl (.cons rfl (.cons rfl (.cons rfl (.cons rfl (.cons rfl (.cons rfl (.cons rfl (.cons rfl (.cons rfl (.cons rfl CellsAt.nil))))))))))))) rfl) ?_
      refine run_q (.none rfl) rfl rfl (q_build rfl PV.nil (built25)) ?_
      refine run_q (.none rfl) rfl rfl (q_eqlS rfl rfl rfl eqg25 (fun w => eqs25 _ _ _ _ _ _ _ _ _ _ _ _ _ _ _ _ _ _ _ _ _ _ _ _ _ _ w)) ?_
      refine run_q (.none rfl) rfl rfl (q_move rfl rfl) ?_
      refine run_q (.on rfl rfl rfl (by rw [hL]; rfl)) rfl rfl (q_move rfl rfl) ?_
      refine run_q (.on rfl rfl rfl (by rw [hL]; rfl)) rfl rfl (q_eql rfl rfl rfl) ?_
      refine run_q (.none rfl) rfl rfl (q_pickT rfl rfl (by rw [hL]; rfl) rfl) ?_
      refine run_q (.none rfl) rfl rfl (q_assign rfl rfl) ?_
      refine run_nil ?_
      refine run_sub (subMk (.cons (s := 0) rfl (.cons (s := 2) rfl (.cons (s := 4) rfl (.cons (s := 6) rfl (.cons (s := 7) rfl (.cons (s := 8) rfl (.cons (s := 9) rfl .nil))))))) .refl) ?_
      refine run_ret ?_
      exact end1 rfl rfl (by rw [hL]; simp)
    · have g31' := g31
      try simp only [decide_eq_true_eq, decide_eq_false_iff_not, beq_iff_eq, beq_eq_false_iff_ne, bne_iff_ne, bne_eq_false_iff_eq, Bool.not_eq_true', Bool.not_eq_false', ne_eq, Int.not_lt, Int.not_le, Decidable.not_not] at g31'
      refine run_seq ?_
      refine run_region ?_
      refine run_q (.none rfl) rfl rfl (q_indexB (q := 0) (d := 0) rfl Try.underlying59 sz3 rfl rfl rfl (by decide) rfl) ?_
      refine run_q (.none rfl) rfl rfl (q_loadB rfl one3 rfl (.there (.there Sel.here)) rfl) ?_
      refine run_q (.none rfl) rfl rfl (q_lss rfl rfl rfl) ?_
      refine run_q (.none rfl) rfl rfl (q_move rfl rfl) ?_
      refine run_split 49 rfl (fun g49 => ?_) (fun g49 => ?_)
      · have g49' := g49
        try simp only [decide_eq_true_eq, decide_eq_false_iff_not, beq_iff_eq, beq_eq_false_iff_ne, bne_iff_ne, bne_eq_false_iff_eq, Bool.not_eq_true', Bool.not_eq_false', ne_eq, Int.not_lt, Int.not_le, Decidable.not_not] at g49'
        refine run_off (.no rfl rfl rfl g49) rfl rfl ?_
        refine run_off (.no rfl rfl rfl g49) rfl rfl ?_
        refine run_off (.no rfl rfl rfl g49) rfl rfl ?_
        refine run_q (.none rfl) rfl rfl (q_pickT rfl rfl g49 rfl) ?_
        refine run_q (.none rfl) rfl rfl (q_move rfl rfl) ?_
        refine run_off (.no rfl rfl rfl rfl) rfl rfl ?_
        refine run_off (.no rfl rfl rfl rfl) rfl rfl ?_
        refine run_off (.no rfl rfl rfl rfl) rfl rfl ?_
        refine run_q (.none rfl) rfl rfl (q_pickT rfl rfl rfl rfl) ?_
        refine run_q (.none rfl) rfl rfl (q_assign rfl rfl) ?_
        refine run_nil ?_
        refine run_sub (subMk (.cons (s := 0) rfl (.cons (s := 2) rfl (.cons (s := 4) rfl (.cons (s := 6) rfl (.cons (s := 7) rfl (.cons (s := 8) rfl (.cons (s := 9) rfl (.cons (s := 45) rfl .nil)))))))) .refl) ?_
        refine run_condT rfl rfl ?_
        refine run_seq ?_
        have hL : textV k 1 2 i t f S = (default, 2) := by rw [textV, if_neg (by omega), if_pos (by omega)]
        refine run_region ?_
        refine run_q (.none rfl) rfl rfl (q_loadBN rfl agg25 rfl Sel.here (.cons rfl (.cons rfl (.cons rfl (.cons rfl (.cons rfl (.cons rfl (.cons rfl (.cons rfl (.cons rfl (.cons rfl (.cons rfl (.cons rfl (.cons rfl CellsAt.nil))))))))))))) rfl) ?_
        refine run_q (.none rfl) rfl rfl (q_build rfl PV.nil (built25)) ?_
        refine run_q (.none rfl) rfl rfl (q_eqlS rfl rfl rfl eqg25 (fun w => eqs25 _ _ _ _ _ _ _ _ _ _ _ _ _ _ _ _ _ _ _ _ _ _ _ _ _ _ w)) ?_
        refine run_q (.none rfl) rfl rfl (q_move rfl rfl) ?_
        refine run_q (.on rfl rfl rfl (by rw [hL]; rfl)) rfl rfl (q_move rfl rfl) ?_
        refine run_q (.on rfl rfl rfl (by rw [hL]; rfl)) rfl rfl (q_eql rfl rfl rfl) ?_
        refine run_q (.none rfl) rfl rfl (q_pickT rfl rfl (by rw [hL]; rfl) rfl) ?_
        refine run_q (.none rfl) rfl rfl (q_assign rfl rfl) ?_
        refine run_nil ?_
        refine run_sub (subMk (.cons (s := 0) rfl (.cons (s := 2) rfl (.cons (s := 4) rfl (.cons (s := 6) rfl (.cons (s := 7) rfl (.cons (s := 8) rfl (.cons (s := 9) rfl .nil))))))) .refl) ?_
        refine run_ret ?_
        exact end1 rfl rfl (by rw [hL]; simp)
      · have g49' := g49
        try simp only [decide_eq_true_eq, decide_eq_false_iff_not, beq_iff_eq, beq_eq_false_iff_ne, bne_iff_ne, bne_eq_false_iff_eq, Bool.not_eq_true', Bool.not_eq_false', ne_eq, Int.not_lt, Int.not_le, Decidable.not_not] at g49'
        refine run_q (.on rfl rfl rfl g49) rfl rfl (q_indexB (q := 1) (d := 1) rfl Try.underlying59 sz3 rfl rfl rfl (by decide) rfl) ?_
        refine run_q (.on rfl rfl rfl g49) rfl rfl (q_loadB rfl one3 rfl (.there (.there Sel.here)) rfl) ?_
        refine run_q (.on rfl rfl rfl g49) rfl rfl (q_lss rfl rfl rfl) ?_
        refine run_q (.none rfl) rfl rfl (q_pickF rfl rfl g49 rfl) ?_
        refine run_q (.none rfl) rfl rfl (q_move rfl rfl) ?_
        refine run_split 54 rfl (fun g54 => ?_) (fun g54 => ?_)
        · have g54' := g54
          try simp only [decide_eq_true_eq, decide_eq_false_iff_not, beq_iff_eq, beq_eq_false_iff_ne, bne_iff_ne, bne_eq_false_iff_eq, Bool.not_eq_true', Bool.not_eq_false', ne_eq, Int.not_lt, Int.not_le, Decidable.not_not] at g54'
          refine run_off (.no rfl rfl rfl g54) rfl rfl ?_
          refine run_off (.no rfl rfl rfl g54) rfl rfl ?_
          refine run_off (.no rfl rfl rfl g54) rfl rfl ?_
          refine run_q (.none rfl) rfl rfl (q_pickT rfl rfl g54 rfl) ?_
          refine run_q (.none rfl) rfl rfl (q_assign rfl rfl) ?_
          refine run_nil ?_
          refine run_sub (subMk (.cons (s := 0) rfl (.cons (s := 2) rfl (.cons (s := 4) rfl (.cons (s := 6) rfl (.cons (s := 7) rfl (.cons (s := 8) rfl (.cons (s := 9) rfl (.cons (s := 45) rfl .nil)))))))) .refl) ?_
          refine run_condT rfl rfl ?_
          refine run_seq ?_
          have hL : textV k 1 2 i t f S = (default, 2) := by rw [textV, if_neg (by omega), if_pos (by omega)]
          refine run_region ?_
          refine run_q (.none rfl) rfl rfl (q_loadBN rfl agg25 rfl Sel.here (.cons rfl (.cons rfl (.cons rfl (.cons rfl (.cons rfl (.cons rfl (.cons rfl (.cons rfl (.cons rfl (.cons rfl (.cons rfl (.cons rfl (.cons rfl CellsAt.nil))))))))))))) rfl) ?_
          refine run_q (.none rfl) rfl rfl (q_build rfl PV.nil (built25)) ?_
          refine run_q (.none rfl) rfl rfl (q_eqlS rfl rfl rfl eqg25 (fun w => eqs25 _ _ _ _ _ _ _ _ _ _ _ _ _ _ _ _ _ _ _ _ _ _ _ _ _ _ w)) ?_
          refine run_q (.none rfl) rfl rfl (q_move rfl rfl) ?_
          refine run_q (.on rfl rfl rfl (by rw [hL]; rfl)) rfl rfl (q_move rfl rfl) ?_
          refine run_q (.on rfl rfl rfl (by rw [hL]; rfl)) rfl rfl (q_eql rfl rfl rfl) ?_
          refine run_q (.none rfl) rfl rfl (q_pickT rfl rfl (by rw [hL]; rfl) rfl) ?_
          refine run_q (.none rfl) rfl rfl (q_assign rfl rfl) ?_
          refine run_nil ?_
          refine run_sub (subMk (.cons (s := 0) rfl (.cons (s := 2) rfl (.cons (s := 4) rfl (.cons (s := 6) rfl (.cons (s := 7) rfl (.cons (s := 8) rfl (.cons (s := 9) rfl .nil))))))) .refl) ?_
          refine run_ret ?_
          exact end1 rfl rfl (by rw [hL]; simp)
        · have g54' := g54
          try simp only [decide_eq_true_eq, decide_eq_false_iff_not, beq_iff_eq, beq_eq_false_iff_ne, bne_iff_ne, bne_eq_false_iff_eq, Bool.not_eq_true', Bool.not_eq_false', ne_eq, Int.not_lt, Int.not_le, Decidable.not_not] at g54'
          refine run_q (.on rfl rfl rfl g54) rfl rfl (q_indexB (q := 2) (d := 2) rfl Try.underlying59 sz3 rfl rfl rfl (by decide) rfl) ?_
          refine run_q (.on rfl rfl rfl g54) rfl rfl (q_loadB rfl one3 rfl (.there (.there Sel.here)) rfl) ?_
          refine run_q (.on rfl rfl rfl g54) rfl rfl (q_lss rfl rfl rfl) ?_
          refine run_q (.none rfl) rfl rfl (q_pickF rfl rfl g54 rfl) ?_
          refine run_q (.none rfl) rfl rfl (q_assign rfl rfl) ?_
          refine run_nil ?_
          refine run_sub (subMk (.cons (s := 0) rfl (.cons (s := 2) rfl (.cons (s := 4) rfl (.cons (s := 6) rfl (.cons (s := 7) rfl (.cons (s := 8) rfl (.cons (s := 9) rfl (.cons (s := 45) rfl .nil)))))))) .refl) ?_
          refine run_cond rfl (fun g45 => ?_) (fun g45 => ?_)
          · have g45' := g45
            try simp only [decide_eq_true_eq, decide_eq_false_iff_not, beq_iff_eq, beq_eq_false_iff_ne, bne_iff_ne, bne_eq_false_iff_eq, Bool.not_eq_true', Bool.not_eq_false', ne_eq, Int.not_lt, Int.not_le, Decidable.not_not] at g45'
            refine run_seq ?_
            have hL : textV k 1 2 i t f S = (default, 2) := by rw [textV, if_neg (by omega), if_pos (by omega)]
            refine run_region ?_
            refine run_q (.none rfl) rfl rfl (q_loadBN rfl agg25 rfl Sel.here (.cons rfl (.cons rfl (.cons rfl (.cons rfl (.cons rfl (.cons rfl (.cons rfl (.cons rfl (.cons rfl (.cons rfl (.cons rfl (.cons rfl (.cons rfl CellsAt.nil))))))))))))) rfl) ?_
            refine run_q (.none rfl) rfl rfl (q_build rfl PV.nil (built25)) ?_
            refine run_q (.none rfl) rfl rfl (q_eqlS rfl rfl rfl eqg25 (fun w => eqs25 _ _ _ _ _ _ _ _ _ _ _ _ _ _ _ _ _ _ _ _ _ _ _ _ _ _ w)) ?_
            refine run_q (.none rfl) rfl rfl (q_move rfl rfl) ?_
            refine run_q (.on rfl rfl rfl (by rw [hL]; rfl)) rfl rfl (q_move rfl rfl) ?_
            refine run_q (.on rfl rfl rfl (by rw [hL]; rfl)) rfl rfl (q_eql rfl rfl rfl) ?_
            refine run_q (.none rfl) rfl rfl (q_pickT rfl rfl (by rw [hL]; rfl) rfl) ?_
            refine run_q (.none rfl) rfl rfl (q_assign rfl rfl) ?_
            refine run_nil ?_
            refine run_sub (subMk (.cons (s := 0) rfl (.cons (s := 2) rfl (.cons (s := 4) rfl (.cons (s := 6) rfl (.cons (s := 7) rfl (.cons (s := 8) rfl (.cons (s := 9) rfl .nil))))))) .refl) ?_
            refine run_ret ?_
            exact end1 rfl rfl (by rw [hL]; simp)
          · have g45' := g45
            try simp only [decide_eq_true_eq, decide_eq_false_iff_not, beq_iff_eq, beq_eq_false_iff_ne, bne_iff_ne, bne_eq_false_iff_eq, Bool.not_eq_true', Bool.not_eq_false', ne_eq, Int.not_lt, Int.not_le, Decidable.not_not] at g45'
            refine run_seq ?_
            refine run_region ?_
            refine run_q (.none rfl) rfl rfl (q_move rfl rfl) ?_
            refine run_q (.none rfl) rfl rfl (q_eqlStr rfl rfl rfl) ?_
            refine run_q (.none rfl) rfl rfl (q_assign rfl rfl) ?_
            refine run_nil ?_
            refine run_sub (subMk (.cons (s := 0) rfl (.cons (s := 2) rfl (.cons (s := 4) rfl (.cons (s := 6) rfl (.cons (s := 7) rfl (.cons (s := 8) rfl (.cons (s := 9) rfl (.cons (s := 66) rfl .nil)))))))) .refl) ?_
            refine run_cond rfl (fun g66 => ?_) (fun g66 => ?_)
            · have g66' := g66
              try simp only [decide_eq_true_eq, decide_eq_false_iff_not, beq_iff_eq, beq_eq_false_iff_ne, bne_iff_ne, bne_eq_false_iff_eq, Bool.not_eq_true', Bool.not_eq_false', ne_eq, Int.not_lt, Int.not_le, Decidable.not_not] at g66'
              refine run_seq ?_
              have hL : textV k 1 2 i t f S = (default, 4) := by rw [textV, if_neg (by omega), if_neg (by omega), if_pos (by simpa using g66)]
              refine run_region ?_
              refine run_q (.none rfl) rfl rfl (q_loadBN rfl agg25 rfl Sel.here (.cons rfl (.cons rfl (.cons rfl (.cons rfl (.cons rfl (.cons rfl (.cons rfl (.cons rfl (.cons rfl (.cons rfl (.cons rfl (.cons rfl (.cons rfl CellsAt.nil))))))))))))) rfl) ?_
              refine run_q (.none rfl) rfl rfl (q_build rfl PV.nil (built25)) ?_
              refine run_q (.none rfl) rfl rfl (q_eqlS rfl rfl rfl eqg25 (fun w => eqs25 _ _ _ _ _ _ _ _ _ _ _ _ _ _ _ _ _ _ _ _ _ _ _ _ _ _ w)) ?_
              refine run_q (.none rfl) rfl rfl (q_move rfl rfl) ?_
              refine run_q (.on rfl rfl rfl (by rw [hL]; rfl)) rfl rfl (q_move rfl rfl) ?_
              refine run_q (.on rfl rfl rfl (by rw [hL]; rfl)) rfl rfl (q_eql rfl rfl rfl) ?_
              refine run_q (.none rfl) rfl rfl (q_pickT rfl rfl (by rw [hL]; rfl) rfl) ?_
              refine run_q (.none rfl) rfl rfl (q_assign rfl rfl) ?_
              refine run_nil ?_
              refine run_sub (subMk (.cons (s := 0) rfl (.cons (s := 2) rfl (.cons (s := 4) rfl (.cons (s := 6) rfl (.cons (s := 7) rfl (.cons (s := 8) rfl (.cons (s := 9) rfl .nil))))))) .refl) ?_
              refine run_ret ?_
              exact end1 rfl rfl (by rw [hL]; simp)
            · have g66' := g66
              try simp only [decide_eq_true_eq, decide_eq_false_iff_not, beq_iff_eq, beq_eq_false_iff_ne, bne_iff_ne, bne_eq_false_iff_eq, Bool.not_eq_true', Bool.not_eq_false', ne_eq, Int.not_lt, Int.not_le, Decidable.not_not] at g66'
              refine run_seq ?_
              refine run_region ?_
              refine run_q (.none rfl) rfl rfl (q_move rfl rfl) ?_
              refine run_q (.none rfl) rfl rfl (q_lens rfl Try.underlying9 rfl) ?_
              refine run_q (.none rfl) rfl rfl (q_gtr rfl rfl rfl) ?_
              refine run_q (.none rfl) rfl rfl (q_assign rfl rfl) ?_
              refine run_nil ?_
              refine run_sub (subMk (.cons (s := 0) rfl (.cons (s := 2) rfl (.cons (s := 4) rfl (.cons (s := 6) rfl (.cons (s := 7) rfl (.cons (s := 8) rfl (.cons (s := 9) rfl (.cons (s := 76) rfl .nil)))))))) .refl) ?_
              refine run_cond rfl (fun g76 => ?_) (fun g76 => ?_)
              · have g76' := g76
                try simp only [decide_eq_true_eq, decide_eq_false_iff_not, beq_iff_eq, beq_eq_false_iff_ne, bne_iff_ne, bne_eq_false_iff_eq, Bool.not_eq_true', Bool.not_eq_false', ne_eq, Int.not_lt, Int.not_le, Decidable.not_not] at g76'
                refine run_seq ?_
                have hL : textV k 1 2 i t f S = (default, 5) := by rw [textV, if_neg (by omega), if_neg (by omega), if_neg (by simpa using g66), if_pos (by omega)]
                refine run_region ?_
                refine run_q (.none rfl) rfl rfl (q_loadBN rfl agg25 rfl Sel.here (.cons rfl (.cons rfl (.cons rfl (.cons rfl (.cons rfl (.cons rfl (.cons rfl (.cons rfl (.cons rfl (.cons rfl (.cons rfl (.cons rfl (.cons rfl CellsAt.nil))))))))))))) rfl) ?_
                refine run_q (.none rfl) rfl rfl (q_build rfl PV.nil (built25)) ?_
                refine run_q (.none rfl) rfl rfl (q_eqlS rfl rfl rfl eqg25 (fun w => eqs25 _ _ _ _ _ _ _ _ _ _ _ _ _ _ _ _ _ _ _ _ _ _ _ _ _ _ w)) ?_
                refine run_q (.none rfl) rfl rfl (q_move rfl rfl) ?_
                refine run_q (.on rfl rfl rfl (by rw [hL]; rfl)) rfl rfl (q_move rfl rfl) ?_
                refine run_q (.on rfl rfl rfl (by rw [hL]; rfl)) rfl rfl (q_eql rfl rfl rfl) ?_
                refine run_q (.none rfl) rfl rfl (q_pickT rfl rfl (by rw [hL]; rfl) rfl) ?_
                refine run_q (.none rfl) rfl rfl (q_assign rfl rfl) ?_
                refine run_nil ?_
                refine run_sub (subMk (.cons (s := 0) rfl (.cons (s := 2) rfl (.cons (s := 4) rfl (.cons (s := 6) rfl (.cons (s := 7) rfl (.cons (s := 8) rfl (.cons (s := 9) rfl .nil))))))) .refl) ?_
                refine run_ret ?_
                exact end1 rfl rfl (by rw [hL]; simp)
              · have g76' := g76
                try simp only [decide_eq_true_eq, decide_eq_false_iff_not, beq_iff_eq, beq_eq_false_iff_ne, bne_iff_ne, bne_eq_false_iff_eq, Bool.not_eq_true', Bool.not_eq_false', ne_eq, Int.not_lt, Int.not_le, Decidable.not_not] at g76'
                refine run_skip ?_
                refine run_blk ?_
                refine run_seq ?_
                have hL : textV k 1 2 i t f S = (⟨k, i, t, f, f, 1, 136, 0, 1, 2, 0, glyT S S.size, 80⟩, 0) := by rw [textV, if_neg (by omega), if_neg (by omega), if_neg (by simpa using g66), if_neg (by omega)]
                refine run_draw [(0, 0), (1, 0), (2, 0), (3, 0), (4, 0), (5, 0), (6, 0), (7, 0), (8, 0), (9, 0), (10, 0), (11, 0), (12, 0), (13, 0), (14, 0), (15, 0), (16, 0), (17, 0), (18, 0), (19, 0)] mixed (by kernel_rfl) .refl ?_
                refine d_q rfl rfl (.none rfl) rfl rfl (q_move rfl rfl) ?_
                refine d_q rfl rfl (.none rfl) rfl rfl (q_eql rfl rfl rfl) ?_
                refine d_q rfl rfl (.none rfl) rfl rfl (q_move rfl rfl) ?_
                refine d_q rfl rfl (.on rfl rfl rfl (by rw [hL]; rfl)) rfl rfl (q_loadBN rfl agg25 rfl Sel.here (.cons rfl (.cons rfl (.cons rfl (.cons rfl (.cons rfl (.cons rfl (.cons rfl (.cons rfl (.cons rfl (.cons rfl (.cons rfl (.cons rfl (.cons rfl CellsAt.nil))))))))))))) rfl) ?_
                refine d_q rfl rfl (.on rfl rfl rfl (by rw [hL]; rfl)) rfl rfl (q_move rfl rfl) ?_
                refine d_q rfl rfl (.on rfl rfl rfl (by rw [hL]; rfl)) rfl rfl (q_indexB (q := 0) (d := 0) rfl Try.underlying59 sz3 rfl rfl rfl (by decide) rfl) ?_
                refine d_q rfl rfl (.on rfl rfl rfl (by rw [hL]; rfl)) rfl rfl (q_loadB rfl one3 rfl (.there (.there Sel.here)) rfl) ?_
                refine d_q rfl rfl (.on rfl rfl rfl (by rw [hL]; rfl)) rfl rfl (q_indexB (q := 1) (d := 1) rfl Try.underlying59 sz3 rfl rfl rfl (by decide) rfl) ?_
                refine d_q rfl rfl (.on rfl rfl rfl (by rw [hL]; rfl)) rfl rfl (q_loadB rfl one3 rfl (.there (.there Sel.here)) rfl) ?_
                refine d_q rfl rfl (.on rfl rfl rfl (by rw [hL]; rfl)) rfl rfl (q_indexB (q := 2) (d := 2) rfl Try.underlying59 sz3 rfl rfl rfl (by decide) rfl) ?_
                refine d_q rfl rfl (.on rfl rfl rfl (by rw [hL]; rfl)) rfl rfl (q_loadB rfl one3 rfl (.there (.there Sel.here)) rfl) ?_
                refine d_q rfl rfl (.on rfl rfl rfl (by rw [hL]; rfl)) rfl rfl (q_indexB (q := 2) (d := 2) rfl Try.underlying59 sz3 rfl rfl rfl (by decide) rfl) ?_
                refine d_q rfl rfl (.on rfl rfl rfl (by rw [hL]; rfl)) rfl rfl (q_loadB rfl one3 rfl (.there (.there Sel.here)) rfl) ?_
                refine d_q rfl rfl (.on rfl rfl rfl (by rw [hL]; rfl)) rfl rfl (q_loadBN rfl agg23 rfl (.there Sel.here) (.cons rfl (.cons rfl CellsAt.nil)) rfl) ?_
                refine d_q rfl rfl (.on rfl rfl rfl (by rw [hL]; rfl)) rfl rfl (q_move rfl rfl) ?_
                refine d_q rfl rfl (.on rfl rfl rfl (by rw [hL]; rfl)) rfl rfl (q_call rfl call25 (.cons rfl Evs.nil) (fun w hk hm => glyText_just S w hSs)) ?_
                refine d_q rfl rfl (.on rfl rfl rfl (by rw [hL]; rfl)) rfl rfl (q_build rfl (.cons rfl (.cons rfl (.cons rfl (.cons rfl (.cons rfl (.cons rfl (.cons rfl (.cons rfl (.cons rfl (.cons rfl PV.nil)))))))))) (built25p0p1p2p3p4p5p6p8p10p11 _ _ _ _ _ _ _ _ _ _ _)) ?_
                refine d_q rfl rfl (.on rfl rfl rfl (by rw [hL]; rfl)) rfl rfl (q_eqlS rfl rfl rfl eqg25 (fun w => eqs25 _ _ _ _ _ _ _ _ _ _ _ _ _ _ _ _ _ _ _ _ _ _ _ _ _ _ w)) ?_
                refine d_q rfl rfl (.none rfl) rfl rfl (q_pickT rfl rfl (by rw [hL]; rfl) rfl) ?_
                refine d_q rfl rfl (.none rfl) rfl rfl (q_assign rfl rfl) ?_
                refine d_nil ?_
                refine run_sub (subMk (.cons (s := 6) rfl .nil) .refl) ?_
                refine run_ret ?_
                exact end1 rfl rfl (by rw [hL]; simp)
  · have g34' := g34
    try simp only [decide_eq_true_eq, decide_eq_false_iff_not, beq_iff_eq, beq_eq_false_iff_ne, bne_iff_ne, bne_eq_false_iff_eq, Bool.not_eq_true', Bool.not_eq_false', ne_eq, Int.not_lt, Int.not_le, Decidable.not_not] at g34'
    refine run_off (.no rfl rfl rfl g34) rfl rfl ?_
    refine run_off (.no rfl rfl rfl g34) rfl rfl ?_
    refine run_q (.none rfl) rfl rfl (q_pickF rfl rfl g34 rfl) ?_
    refine run_q (.none rfl) rfl rfl (q_assign rfl rfl) ?_
    refine run_nil ?_
    refine run_sub (subMk (.cons (s := 0) rfl (.cons (s := 2) rfl (.cons (s := 4) rfl (.cons (s := 6) rfl (.cons (s := 7) rfl (.cons (s := 8) rfl (.cons (s := 9) rfl (.cons (s := 31) rfl .nil)))))))) .refl) ?_
    refine run_condF rfl rfl ?_
    refine run_seq ?_
    refine run_region ?_
    refine run_q (.none rfl) rfl rfl (q_indexB (q := 0) (d := 0) rfl Try.underlying59 sz3 rfl rfl rfl (by decide) rfl) ?_
    refine run_q (.none rfl) rfl rfl (q_loadB rfl one3 rfl (.there (.there Sel.here)) rfl) ?_
    refine run_q (.none rfl) rfl rfl (q_lss rfl rfl rfl) ?_
    refine run_q (.none rfl) rfl rfl (q_move rfl rfl) ?_
    refine run_split 49 rfl (fun g49 => ?_) (fun g49 => ?_)
    · have g49' := g49
      try simp only [decide_eq_true_eq, decide_eq_false_iff_not, beq_iff_eq, beq_eq_false_iff_ne, bne_iff_ne, bne_eq_false_iff_eq, Bool.not_eq_true', Bool.not_eq_false', ne_eq, Int.not_lt, Int.not_le, Decidable.not_not] at g49'
      refine run_off (.no rfl rfl rfl g49) rfl rfl ?_
      refine run_off (.no rfl rfl rfl g49) rfl rfl ?_
      refine run_off (.no rfl rfl rfl g49) rfl rfl ?_
      refine run_q (.none rfl) rfl rfl (q_pickT rfl rfl g49 rfl) ?_
      refine run_q (.none rfl) rfl rfl (q_move rfl rfl) ?_
      refine run_off (.no rfl rfl rfl rfl) rfl rfl ?_
      refine run_off (.no rfl rfl rfl rfl) rfl rfl ?_
      refine run_off (.no rfl rfl rfl rfl) rfl rfl ?_
      refine run_q (.none rfl) rfl rfl (q_pickT rfl rfl rfl rfl) ?_
      refine run_q (.none rfl) rfl rfl (q_assign rfl rfl) ?_
      refine run_nil ?_
      refine run_sub (subMk (.cons (s := 0) rfl (.cons (s := 2) rfl (.cons (s := 4) rfl (.cons (s := 6) rfl (.cons (s := 7) rfl (.cons (s := 8) rfl (.cons (s := 9) rfl (.cons (s := 45) rfl .nil)))))))) .refl) ?_
      refine run_condT rfl rfl ?_
      refine run_seq ?_
      have hL : textV k 1 2 i t f S = (default, 2) := by rw [textV, if_neg (by omega), if_pos (by omega)]
      refine run_region ?_
      refine run_q (.none rfl) rfl rfl (q_loadBN rfl agg25 rfl Sel.here (.cons rfl (.cons rfl (.cons rfl (.cons rfl (.cons rfl (.cons rfl (.cons rfl (.cons rfl (.cons rfl (.cons rfl (.cons rfl (.cons rfl (.cons rfl CellsAt.nil))))))))))))) rfl) ?_
      refine run_q (.none rfl) rfl rfl (q_build rfl PV.nil (built25)) ?_
      refine run_q (.none rfl) rfl rfl (q_eqlS rfl rfl rfl eqg25 (fun w => eqs25 _ _ _ _ _ _ _ _ _ _ _ _ _ _ _ _ _ _ _ _ _ _ _ _ _ _ w)) ?_
      refine run_q (.none rfl) rfl rfl (q_move rfl rfl) ?_
      refine run_q (.on rfl rfl rfl (by rw [hL]; rfl)) rfl rfl (q_move rfl rfl) ?_
      refine run_q (.on rfl rfl rfl (by rw [hL]; rfl)) rfl rfl (q_eql rfl rfl rfl) ?_
      refine run_q (.none rfl) rfl rfl (q_pickT rfl rfl (by rw [hL]; rfl) rfl) ?_
      refine run_q (.none rfl) rfl rfl (q_assign rfl rfl) ?_
      refine run_nil ?_
      refine run_sub (subMk (.cons (s := 0) rfl (.cons (s := 2) rfl (.cons (s := 4) rfl (.cons (s := 6) rfl (.cons (s := 7) rfl (.cons (s := 8) rfl (.cons (s := 9) rfl .nil))))))) .refl) ?_
      refine run_ret ?_
      exact end1 rfl rfl (by rw [hL]; simp)
    · have g49' := g49
      try simp only [decide_eq_true_eq, decide_eq_false_iff_not, beq_iff_eq, beq_eq_false_iff_ne, bne_iff_ne, bne_eq_false_iff_eq, Bool.not_eq_true', Bool.not_eq_false', ne_eq, Int.not_lt, Int.not_le, Decidable.not_not] at g49'
      refine run_q (.on rfl rfl rfl g49) rfl rfl (q_indexB (q := 1) (d := 1) rfl Try.underlying59 sz3 rfl rfl rfl (by decide) rfl) ?_
      refine run_q (.on rfl rfl rfl g49) rfl rfl (q_loadB rfl one3 rfl (.there (.there Sel.here)) rfl) ?_
      refine run_q (.on rfl rfl rfl g49) rfl rfl (q_lss rfl rfl rfl) ?_
      refine run_q (.none rfl) rfl rfl (q_pickF rfl rfl g49 rfl) ?_
      refine run_q (.none rfl) rfl rfl (q_move rfl rfl) ?_
      refine run_split 54 rfl (fun g54 => ?_) (fun g54 => ?_)
      · have g54' := g54
        try simp only [decide_eq_true_eq, decide_eq_false_iff_not, beq_iff_eq, beq_eq_false_iff_ne, bne_iff_ne, bne_eq_false_iff_eq, Bool.not_eq_true', Bool.not_eq_false', ne_eq, Int.not_lt, Int.not_le, Decidable.not_not] at g54'
        refine run_off (.no rfl rfl rfl g54) rfl rfl ?_
        refine run_off (.no rfl rfl rfl g54) rfl rfl ?_
        refine run_off (.no rfl rfl rfl g54) rfl rfl ?_
        refine run_q (.none rfl) rfl rfl (q_pickT rfl rfl g54 rfl) ?_
        refine run_q (.none rfl) rfl rfl (q_assign rfl rfl) ?_
        refine run_nil ?_
        refine run_sub (subMk (.cons (s := 0) rfl (.cons (s := 2) rfl (.cons (s := 4) rfl (.cons (s := 6) rfl (.cons (s := 7) rfl (.cons (s := 8) rfl (.cons (s := 9) rfl (.cons (s := 45) rfl .nil)))))))) .refl) ?_
        refine run_condT rfl rfl ?_
        refine run_seq ?_
        have hL : textV k 1 2 i t f S = (default, 2) := by rw [textV, if_neg (by omega), if_pos (by omega)]
        refine run_region ?_
        refine run_q (.none rfl) rfl rfl (q_loadBN rfl agg25 rfl Sel.here (.cons rfl (.cons rfl (.cons rfl (.cons rfl (.cons rfl (.cons rfl (.cons rfl (.cons rfl (.cons rfl (.cons rfl (.cons rfl (.cons rfl (.cons rfl CellsAt.nil))))))))))))) rfl) ?_
        refine run_q (.none rfl) rfl rfl (q_build rfl PV.nil (built25)) ?_
        refine run_q (.none rfl) rfl rfl (q_eqlS rfl rfl rfl eqg25 (fun w => eqs25 _ _ _ _ _ _ _ _ _ _ _ _ _ _ _ _ _ _ _ _ _ _ _ _ _ _ w)) ?_
        refine run_q (.none rfl) rfl rfl (q_move rfl rfl) ?_
        refine run_q (.on rfl rfl rfl (by rw [hL]; rfl)) rfl rfl (q_move rfl rfl) ?_
        refine run_q (.on rfl rfl rfl (by rw [hL]; rfl)) rfl rfl (q_eql rfl rfl rfl) ?_
        refine run_q (.none rfl) rfl rfl (q_pickT rfl rfl (by rw [hL]; rfl) rfl) ?_
        refine run_q (.none rfl) rfl rfl (q_assign rfl rfl) ?_
        refine run_nil ?_
        refine run_sub (subMk (.cons (s := 0) rfl (.cons (s := 2) rfl (.cons (s := 4) rfl (.cons (s := 6) rfl (.cons (s := 7) rfl (.cons (s := 8) rfl (.cons (s := 9) rfl .nil))))))) .refl) ?_
        refine run_ret ?_
        exact end1 rfl rfl (by rw [hL]; simp)
      · have g54' := g54
        try simp only [decide_eq_true_eq, decide_eq_false_iff_not, beq_iff_eq, beq_eq_false_iff_ne, bne_iff_ne, bne_eq_false_iff_eq, Bool.not_eq_true', Bool.not_eq_false', ne_eq, Int.not_lt, Int.not_le, Decidable.not_not] at g54'
        refine run_q (.on rfl rfl rfl g54) rfl rfl (q_indexB (q := 2) (d := 2) rfl Try.underlying59 sz3 rfl rfl rfl (by decide) rfl) ?_
        refine run_q (.on rfl rfl rfl g54) rfl rfl (q_loadB rfl one3 rfl (.there (.there Sel.here)) rfl) ?_
        refine run_q (.on rfl rfl rfl g54) rfl rfl (q_lss rfl rfl rfl) ?_
        refine run_q (.none rfl) rfl rfl (q_pickF rfl rfl g54 rfl) ?_
        refine run_q (.none rfl) rfl rfl (q_assign rfl rfl) ?_
        refine run_nil ?_
        refine run_sub (subMk (.cons (s := 0) rfl (.cons (s := 2) rfl (.cons (s := 4) rfl (.cons (s := 6) rfl (.cons (s := 7) rfl (.cons (s := 8) rfl (.cons (s := 9) rfl (.cons (s := 45) rfl .nil)))))))) .refl) ?_
        refine run_cond rfl (fun g45 => ?_) (fun g45 => ?_)
        · have g45' := g45
          try simp only [decide_eq_true_eq, decide_eq_false_iff_not, beq_iff_eq, beq_eq_false_iff_ne, bne_iff_ne, bne_eq_false_iff_eq, Bool.not_eq_true', Bool.not_eq_false', ne_eq, Int.not_lt, Int.not_le, Decidable.not_not] at g45'
          refine run_seq ?_
          have hL : textV k 1 2 i t f S = (default, 2) := by rw [textV, if_neg (by omega), if_pos (by omega)]
          refine run_region ?_
          refine run_q (.none rfl) rfl rfl (q_loadBN rfl agg25 rfl Sel.here (.cons rfl (.cons rfl (.cons rfl (.cons rfl (.cons rfl (.cons rfl (.cons rfl (.cons rfl (.cons rfl (.cons rfl (.cons rfl (.cons rfl (.cons rfl CellsAt.nil))))))))))))) rfl) ?_
          refine run_q (.none rfl) rfl rfl (q_build rfl PV.nil (built25)) ?_
          refine run_q (.none rfl) rfl rfl (q_eqlS rfl rfl rfl eqg25 (fun w => eqs25 _ _ _ _ _ _ _ _ _ _ _ _ _ _ _ _ _ _ _ _ _ _ _ _ _ _ w)) ?_
          refine run_q (.none rfl) rfl rfl (q_move rfl rfl) ?_
          refine run_q (.on rfl rfl rfl (by rw [hL]; rfl)) rfl rfl (q_move rfl rfl) ?_
          refine run_q (.on rfl rfl rfl (by rw [hL]; rfl)) rfl rfl (q_eql rfl rfl rfl) ?_
          refine run_q (.none rfl) rfl rfl (q_pickT rfl rfl (by rw [hL]; rfl) rfl) ?_
          refine run_q (.none rfl) rfl rfl (q_assign rfl rfl) ?_
          refine run_nil ?_
          refine run_sub (subMk (.cons (s := 0) rfl (.cons (s := 2) rfl (.cons (s := 4) rfl (.cons (s := 6) rfl (.cons (s := 7) rfl (.cons (s := 8) rfl (.cons (s := 9) rfl .nil))))))) .refl) ?_
          refine run_ret ?_
          exact end1 rfl rfl (by rw [hL]; simp)
        · have g45' := g45
          try simp only [decide_eq_true_eq, decide_eq_false_iff_not, beq_iff_eq, beq_eq_false_iff_ne, bne_iff_ne, bne_eq_false_iff_eq, Bool.not_eq_true', Bool.not_eq_false', ne_eq, Int.not_lt, Int.not_le, Decidable.not_not] at g45'
          refine run_seq ?_
          refine run_region ?_
          refine run_q (.none rfl) rfl rfl (q_move rfl rfl) ?_
          refine run_q (.none rfl) rfl rfl (q_eqlStr rfl rfl rfl) ?_
          refine run_q (.none rfl) rfl rfl (q_assign rfl rfl) ?_
          refine run_nil ?_
          refine run_sub (subMk (.cons (s := 0) rfl (.cons (s := 2) rfl (.cons (s := 4) rfl (.cons (s := 6) rfl (.cons (s := 7) rfl (.cons (s := 8) rfl (.cons (s := 9) rfl (.cons (s := 66) rfl .nil)))))))) .refl) ?_
          refine run_cond rfl (fun g66 => ?_) (fun g66 => ?_)
          · have g66' := g66
            try simp only [decide_eq_true_eq, decide_eq_false_iff_not, beq_iff_eq, beq_eq_false_iff_ne, bne_iff_ne, bne_eq_false_iff_eq, Bool.not_eq_true', Bool.not_eq_false', ne_eq, Int.not_lt, Int.not_le, Decidable.not_not] at g66'
            refine run_seq ?_
            have hL : textV k 1 2 i t f S = (default, 4) := by rw [textV, if_neg (by omega), if_neg (by omega), if_pos (by simpa using g66)]
            refine run_region ?_
            refine run_q (.none rfl) rfl rfl (q_loadBN rfl agg25 rfl Sel.here (.cons rfl (.cons rfl (.cons rfl (.cons rfl (.cons rfl (.cons rfl (.cons rfl (.cons rfl (.cons rfl (.cons rfl (.cons rfl (.cons rfl (.cons rfl CellsAt.nil))))))))))))) rfl) ?_
            refine run_q (.none rfl) rfl rfl (q_build rfl PV.nil (built25)) ?_
            refine run_q (.none rfl) rfl rfl (q_eqlS rfl rfl rfl eqg25 (fun w => eqs25 _ _ _ _ _ _ _ _ _ _ _ _ _ _ _ _ _ _ _ _ _ _ _ _ _ _ w)) ?_
            refine run_q (.none rfl) rfl rfl (q_move rfl rfl) ?_
            refine run_q (.on rfl rfl rfl (by rw [hL]; rfl)) rfl rfl (q_move rfl rfl) ?_
            refine run_q (.on rfl rfl rfl (by rw [hL]; rfl)) rfl rfl (q_eql rfl rfl rfl) ?_
            refine run_q (.none rfl) rfl rfl (q_pickT rfl rfl (by rw [hL]; rfl) rfl) ?_
            refine run_q (.none rfl) rfl rfl (q_assign rfl rfl) ?_
            refine run_nil ?_
            refine run_sub (subMk (.cons (s := 0) rfl (.cons (s := 2) rfl (.cons (s := 4) rfl (.cons (s := 6) rfl (.cons (s := 7) rfl (.cons (s := 8) rfl (.cons (s := 9) rfl .nil))))))) .refl) ?_
            refine run_ret ?_
            exact end1 rfl rfl (by rw [hL]; simp)
          · have g66' := g66
            try simp only [decide_eq_true_eq, decide_eq_false_iff_not, beq_iff_eq, beq_eq_false_iff_ne, bne_iff_ne, bne_eq_false_iff_eq, Bool.not_eq_true', Bool.not_eq_false', ne_eq, Int.not_lt, Int.not_le, Decidable.not_not] at g66'
            refine run_seq ?_
            refine run_region ?_
            refine run_q (.none rfl) rfl rfl (q_move rfl rfl) ?_
            refine run_q (.none rfl) rfl rfl (q_lens rfl Try.underlying9 rfl) ?_
            refine run_q (.none rfl) rfl rfl (q_gtr rfl rfl rfl) ?_
            refine run_q (.none rfl) rfl rfl (q_assign rfl rfl) ?_
            refine run_nil ?_
            refine run_sub (subMk (.cons (s := 0) rfl (.cons (s := 2) rfl (.cons (s := 4) rfl (.cons (s := 6) rfl (.cons (s := 7) rfl (.cons (s := 8) rfl (.cons (s := 9) rfl (.cons (s := 76) rfl .nil)))))))) .refl) ?_
            refine run_cond rfl (fun g76 => ?_) (fun g76 => ?_)
            · have g76' := g76
              try simp only [decide_eq_true_eq, decide_eq_false_iff_not, beq_iff_eq, beq_eq_false_iff_ne, bne_iff_ne, bne_eq_false_iff_eq, Bool.not_eq_true', Bool.not_eq_false', ne_eq, Int.not_lt, Int.not_le, Decidable.not_not] at g76'
              refine run_seq ?_
              have hL : textV k 1 2 i t f S = (default, 5) := by rw [textV, if_neg (by omega), if_neg (by omega), if_neg (by simpa using g66), if_pos (by omega)]
              refine run_region ?_
              refine run_q (.none rfl) rfl rfl (q_loadBN rfl agg25 rfl Sel.here (.cons rfl (.cons rfl (.cons rfl (.cons rfl (.cons rfl (.cons rfl (.cons rfl (.cons rfl (.cons rfl (.cons rfl (.cons rfl (.cons rfl (.cons rfl CellsAt.nil))))))))))))) rfl) ?_
              refine run_q (.none rfl) rfl rfl (q_build rfl PV.nil (built25)) ?_
              refine run_q (.none rfl) rfl rfl (q_eqlS rfl rfl rfl eqg25 (fun w => eqs25 _ _ _ _ _ _ _ _ _ _ _ _ _ _ _ _ _ _ _ _ _ _ _ _ _ _ w)) ?_
              refine run_q (.none rfl) rfl rfl (q_move rfl rfl) ?_
              refine run_q (.on rfl rfl rfl (by rw [hL]; rfl)) rfl rfl (q_move rfl rfl) ?_
              refine run_q (.on rfl rfl rfl (by rw [hL]; rfl)) rfl rfl (q_eql rfl rfl rfl) ?_
              refine run_q (.none rfl) rfl rfl (q_pickT rfl rfl (by rw [hL]; rfl) rfl) ?_
              refine run_q (.none rfl) rfl rfl (q_assign rfl rfl) ?_
              refine run_nil ?_
              refine run_sub (subMk (.cons (s := 0) rfl (.cons (s := 2) rfl (.cons (s := 4) rfl (.cons (s := 6) rfl (.cons (s := 7) rfl (.cons (s := 8) rfl (.cons (s := 9) rfl .nil))))))) .refl) ?_
              refine run_ret ?_
              exact end1 rfl rfl (by rw [hL]; simp)
            · have g76' := g76
              try simp only [decide_eq_true_eq, decide_eq_false_iff_not, beq_iff_eq, beq_eq_false_iff_ne, bne_iff_ne, bne_eq_false_iff_eq, Bool.not_eq_true', Bool.not_eq_false', ne_eq, Int.not_lt, Int.not_le, Decidable.not_not] at g76'
              refine run_skip ?_
              refine run_blk ?_
              refine run_seq ?_
              have hL : textV k 1 2 i t f S = (⟨k, i, t, f, f, 1, 136, 0, 1, 2, 0, glyT S S.size, 80⟩, 0) := by rw [textV, if_neg (by omega), if_neg (by omega), if_neg (by simpa using g66), if_neg (by omega)]
              refine run_draw [(0, 0), (1, 0), (2, 0), (3, 0), (4, 0), (5, 0), (6, 0), (7, 0), (8, 0), (9, 0), (10, 0), (11, 0), (12, 0), (13, 0), (14, 0), (15, 0), (16, 0), (17, 0), (18, 0), (19, 0)] mixed (by kernel_rfl) .refl ?_
              refine d_q rfl rfl (.none rfl) rfl rfl (q_move rfl rfl) ?_
              refine d_q rfl rfl (.none rfl) rfl rfl (q_eql rfl rfl rfl) ?_
              refine d_q rfl rfl (.none rfl) rfl rfl (q_move rfl rfl) ?_
              refine d_q rfl rfl (.on rfl rfl rfl (by rw [hL]; rfl)) rfl rfl (q_loadBN rfl agg25 rfl Sel.here (.cons rfl (.cons rfl (.cons rfl (.cons rfl (.cons rfl (.cons rfl (.cons rfl (.cons rfl (.cons rfl (.cons rfl (.cons rfl (.cons rfl (.cons rfl CellsAt.nil))))))))))))) rfl) ?_
              refine d_q rfl rfl (.on rfl rfl rfl (by rw [hL]; rfl)) rfl rfl (q_move rfl rfl) ?_
              refine d_q rfl rfl (.on rfl rfl rfl (by rw [hL]; rfl)) rfl rfl (q_indexB (q := 0) (d := 0) rfl Try.underlying59 sz3 rfl rfl rfl (by decide) rfl) ?_
              refine d_q rfl rfl (.on rfl rfl rfl (by rw [hL]; rfl)) rfl rfl (q_loadB rfl one3 rfl (.there (.there Sel.here)) rfl) ?_
              refine d_q rfl rfl (.on rfl rfl rfl (by rw [hL]; rfl)) rfl rfl (q_indexB (q := 1) (d := 1) rfl Try.underlying59 sz3 rfl rfl rfl (by decide) rfl) ?_
              refine d_q rfl rfl (.on rfl rfl rfl (by rw [hL]; rfl)) rfl rfl (q_loadB rfl one3 rfl (.there (.there Sel.here)) rfl) ?_
              refine d_q rfl rfl (.on rfl rfl rfl (by rw [hL]; rfl)) rfl rfl (q_indexB (q := 2) (d := 2) rfl Try.underlying59 sz3 rfl rfl rfl (by decide) rfl) ?_
              refine d_q rfl rfl (.on rfl rfl rfl (by rw [hL]; rfl)) rfl rfl (q_loadB rfl one3 rfl (.there (.there Sel.here)) rfl) ?_
              refine d_q rfl rfl (.on rfl rfl rfl (by rw [hL]; rfl)) rfl rfl (q_indexB (q := 2) (d := 2) rfl Try.underlying59 sz3 rfl rfl rfl (by decide) rfl) ?_
              refine d_q rfl rfl (.on rfl rfl rfl (by rw [hL]; rfl)) rfl rfl (q_loadB rfl one3 rfl (.there (.there Sel.here)) rfl) ?_
              refine d_q rfl rfl (.on rfl rfl rfl (by rw [hL]; rfl)) rfl rfl (q_loadBN rfl agg23 rfl (.there Sel.here) (.cons rfl (.cons rfl CellsAt.nil)) rfl) ?_
              refine d_q rfl rfl (.on rfl rfl rfl (by rw [hL]; rfl)) rfl rfl (q_move rfl rfl) ?_
              refine d_q rfl rfl (.on rfl rfl rfl (by rw [hL]; rfl)) rfl rfl (q_call rfl call25 (.cons rfl Evs.nil) (fun w hk hm => glyText_just S w hSs)) ?_
              refine d_q rfl rfl (.on rfl rfl rfl (by rw [hL]; rfl)) rfl rfl (q_build rfl (.cons rfl (.cons rfl (.cons rfl (.cons rfl (.cons rfl (.cons rfl (.cons rfl (.cons rfl (.cons rfl (.cons rfl PV.nil)))))))))) (built25p0p1p2p3p4p5p6p8p10p11 _ _ _ _ _ _ _ _ _ _ _)) ?_
              refine d_q rfl rfl (.on rfl rfl rfl (by rw [hL]; rfl)) rfl rfl (q_eqlS rfl rfl rfl eqg25 (fun w => eqs25 _ _ _ _ _ _ _ _ _ _ _ _ _ _ _ _ _ _ _ _ _ _ _ _ _ _ w)) ?_
              refine d_q rfl rfl (.none rfl) rfl rfl (q_pickT rfl rfl (by rw [hL]; rfl) rfl) ?_
              refine d_q rfl rfl (.none rfl) rfl rfl (q_assign rfl rfl) ?_
              refine d_nil ?_
              refine run_sub (subMk (.cons (s := 6) rfl .nil) .refl) ?_
              refine run_ret ?_
              exact end1 rfl rfl (by rw [hL]; simp)

end Go.Proofs.YtgphmbipakdggaaR
