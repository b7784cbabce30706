/- The law on tempo, in the program. -/
import Derived.Test.YtbkmmjpklkallaaV
set_option linter.unusedSimpArgs false
set_option linter.unusedVariables false
namespace Go.Proofs.Ytbkmmjpklkallaa
open Go Go.RowKit Hr



set_option maxHeartbeats 4000000 in
set_option maxRecDepth 100000 in
theorem law10_best (l l2 : List Note) (A B : Option Addr) (ca cb : Nat) (lq : List Pair) (Q : Option Addr) (cq : Nat) (t : Bool) (W : World) (hr : Rd W A 7 (l.map Note.enc)) (hr2 : Rd W B 7 (l2.map Note.enc)) (hca : l.length ≤ ca) (hcb : l2.length ≤ cb) (hrq : Rd W Q 3 (lq.map Pair.enc)) (hcq : lq.length ≤ cq) (a b : List Note) (ha : a = l.take 24) (hb : b = l2.take 24) (ps : List Pair) (hps : ps = path kC a b 0 0) (hb0 : t = true) (hb1 : wrongL a = 0) (hb2 : wrongL b = 0) : Calls Try.prog 10 #[.agg #[.slice A l.length ca, .slice B l2.length cb], .slice Q lq.length cq, .bool t] W (Hr.Just W (.bool true)) := by
  have hra := rd_take hr ha
  have hrb := rd_take hr2 hb
  have hla : a.length ≤ 24 := by rw [ha]; simp; omega
  have hlb : b.length ≤ 24 := by rw [hb]; simp; omega
  have hac : a.length ≤ ca := by rw [ha]; simp; omega
  have hbc : b.length ≤ cb := by rw [hb]; simp; omega
  have hlp : ps.length ≤ 48 := by rw [hps]; have := path_len_le (c := kC) a b 0 0; omega
  refine Just.of_ret ?_
  refine enterA (X := nX) (vs := [.agg #[.slice A l.length ca, .slice B l2.length cb], .slice Q lq.length cq, .bool t]) Try.func10 Try.ntmps10 rfl rfl Mem.nil ?_
  refine run_seq ?_
  refine run_region ?_
  refine run_h (.none rfl) (h_box rfl rfl rfl rfl rfl) ?_
  rintro b3 -
  refine run_q (.none rfl) rfl rfl (q_assign rfl rfl) ?_
  refine run_nil ?_
  refine run_seq ?_
  refine run_draw [(0, 0), (1, 0), (2, 0), (3, 0), (4, 0), (5, 0), (6, 0), (7, 0)] mixed (by kernel_rfl) .refl ?_
  refine d_q rfl rfl (.none rfl) rfl rfl (q_fieldB (d := 0) rfl Try.underlying24 rfl rfl sz22 rfl) ?_
  refine d_q rfl rfl (.none rfl) rfl rfl (q_loadB rfl one22 rfl Sel.here rfl) ?_
  refine d_q rfl rfl (.none rfl) rfl rfl (q_call rfl call12 (.cons rfl Evs.nil) (fun w hk hm => cut_take ha A ca hca w)) ?_
  refine d_q rfl rfl (.none rfl) rfl rfl (q_fieldB (d := 1) rfl Try.underlying24 rfl rfl sz22 rfl) ?_
  refine d_q rfl rfl (.none rfl) rfl rfl (q_loadB rfl one22 rfl Sel.here rfl) ?_
  refine d_q rfl rfl (.none rfl) rfl rfl (q_call rfl call12 (.cons rfl Evs.nil) (fun w hk hm => cut_take hb B cb hcb w)) ?_
  refine d_q rfl rfl (.none rfl) rfl rfl (q_assign rfl rfl) ?_
  refine d_q rfl rfl (.none rfl) rfl rfl (q_assign rfl rfl) ?_
  refine d_nil ?_
  refine run_sub (subMk (.cons (s := 1) rfl (.cons (s := 2) rfl (.cons (s := 6) rfl (.cons (s := 7) rfl (.cons (s := 8) rfl .nil))))) .refl) ?_
  refine run_seq ?_
  refine run_region ?_
  refine run_q (.none rfl) rfl rfl (q_move rfl rfl) ?_
  refine run_q (.none rfl) rfl rfl (q_move rfl rfl) ?_
  refine run_q (.none rfl) rfl rfl (q_len rfl Try.underlying28 rfl) ?_
  refine run_q (.none rfl) rfl rfl (q_min2 rfl rfl rfl) ?_
  refine run_q (.none rfl) rfl rfl (q_sliceH rfl Try.underlying28 sz40 rfl rfl (by omega)) ?_
  refine run_q (.none rfl) rfl rfl (q_assign rfl rfl) ?_
  refine run_nil ?_
  refine run_sub (subMk (.cons (s := 1) rfl (.cons (s := 2) rfl (.cons (s := 6) rfl (.cons (s := 7) rfl (.cons (s := 8) rfl .nil))))) .refl) ?_
  refine run_seq ?_
  refine run_seq ?_
  refine run_region ?_
  refine run_q (.none rfl) rfl rfl (q_move rfl rfl) ?_
  refine run_q (.none rfl) rfl rfl (q_move rfl rfl) ?_
  refine run_q (.on rfl rfl rfl hb0) rfl rfl (q_move rfl rfl) ?_
  refine run_q (.on rfl rfl rfl hb0) rfl rfl (q_call rfl call15 (.cons rfl Evs.nil) (fun w hk hm => bad_just a A a.length ca w (hra.kept0 hk) rfl (by omega))) ?_
  refine run_q (.on rfl rfl rfl hb0) rfl rfl (q_eql rfl rfl rfl) ?_
  refine run_q (.none rfl) rfl rfl (q_pickT rfl rfl hb0 rfl) ?_
  refine run_q (.none rfl) rfl rfl (q_move rfl rfl) ?_
  refine run_q (.on rfl rfl rfl (by simp [hb1])) rfl rfl (q_move rfl rfl) ?_
  refine run_q (.on rfl rfl rfl (by simp [hb1])) rfl rfl (q_call rfl call15 (.cons rfl Evs.nil) (fun w hk hm => bad_just b B b.length cb w (hrb.kept0 hk) rfl (by omega))) ?_
  refine run_q (.on rfl rfl rfl (by simp [hb1])) rfl rfl (q_eql rfl rfl rfl) ?_
  refine run_q (.none rfl) rfl rfl (q_pickT rfl rfl (by simp [hb1]) rfl) ?_
  refine run_nil ?_
  refine run_sub (subMk (.cons (s := 1) rfl (.cons (s := 6) rfl (.cons (s := 7) rfl (.cons (s := 8) rfl (.cons (s := 41) rfl .nil))))) .refl) ?_
  refine run_condT rfl (by simp [hb2]) ?_
  refine run_region ?_
  refine run_q (.none rfl) rfl rfl (q_move rfl rfl) ?_
  refine run_q (.none rfl) rfl rfl (q_move rfl rfl) ?_
  refine run_q (.none rfl) rfl rfl (q_call rfl call31 Evs.nil (fun w hk hm => standard_just w)) ?_
  refine run_h (.none rfl) (h_call rfl rfl rfl call17 (.cons rfl (.cons rfl (.cons rfl Evs.nil))) (fun w hk hm => alignM_ret kC a b A B ca cb w (hra.kept0 hk) (hrb.kept0 hk) (costB_ok (by decide)) (wrongL_ok hb1).1 (wrongL_ok hb2).1 (by omega) (by omega))) ?_
  rw [← hps]
  rintro ⟨v, m⟩ ⟨A', c', rfl, rfl⟩
  show Run _ _ _ _ _ _ _ ⟨(46, .tuple #[.slice A' ps.length c', .int .i64 (best kC a b)]) :: _, _ :: _⟩
  refine run_q (.none rfl) rfl rfl (q_move rfl rfl) ?_
  refine run_q (.none rfl) rfl rfl (q_extract rfl rfl rfl) ?_
  refine run_q (.none rfl) rfl rfl (q_extract rfl rfl rfl) ?_
  refine run_q (.none rfl) rfl rfl (q_assign rfl rfl) ?_
  refine run_nil ?_
  refine run_sub (subMk (.cons (s := 1) rfl (.cons (s := 6) rfl (.cons (s := 7) rfl (.cons (s := 8) rfl .nil)))) .refl) ?_
  refine run_seq ?_
  refine run_region ?_
  refine run_q (.none rfl) rfl rfl (q_move rfl rfl) ?_
  refine run_q (.none rfl) rfl rfl (q_move rfl rfl) ?_
  refine run_q (.none rfl) rfl rfl (q_move rfl rfl) ?_
  refine run_q (.none rfl) rfl rfl (q_call rfl call32 (.cons rfl (.cons rfl (.cons rfl Evs.nil))) (fun w hk hm => tempo_just a b A B ca cb ps A' c' w (hra.kept0 hk) (hrb.kept0 hk) (own_rd (Sel.here.holds hm)) (by omega) (by omega) (by omega) (by omega))) ?_
  refine run_q (.none rfl) rfl rfl (q_move rfl rfl) ?_
  refine run_q (.none rfl) rfl rfl (q_extract rfl rfl rfl) ?_
  refine run_q (.none rfl) rfl rfl (q_extract rfl rfl rfl) ?_
  refine run_q (.none rfl) rfl rfl (q_extract rfl rfl rfl) ?_
  refine run_q (.none rfl) rfl rfl (q_assign rfl rfl) ?_
  refine run_q (.none rfl) rfl rfl (q_assign rfl rfl) ?_
  refine run_q (.none rfl) rfl rfl (q_assign rfl rfl) ?_
  refine run_nil ?_
  refine run_sub (subMk (.cons (s := 1) rfl (.cons (s := 6) rfl (.cons (s := 7) rfl (.cons (s := 8) rfl (.cons (s := 9) rfl (.cons (s := 10) rfl (.cons (s := 11) rfl .nil))))))) .refl) ?_
  refine run_seq ?_
  refine run_seq ?_
  refine run_region ?_
  refine run_q (.none rfl) rfl rfl (q_call rfl call14 Evs.nil (fun w hk hm => known_just w)) ?_
  refine run_q (.none rfl) rfl rfl (q_not rfl rfl) ?_
  refine run_nil ?_
  refine run_condF rfl rfl ?_
  refine run_skip ?_
  refine run_seq ?_
  refine run_seq ?_
  refine run_region ?_
  refine run_q (.none rfl) rfl rfl (q_move rfl rfl) ?_
  refine run_q (.none rfl) rfl rfl (q_move rfl rfl) ?_
  refine run_q (.none rfl) rfl rfl (q_move rfl rfl) ?_
  refine run_q (.none rfl) rfl rfl (q_call rfl call21 (.cons rfl (.cons rfl (.cons rfl Evs.nil))) (fun w hk hm => checked_just a b A B ca cb ps A' c' w (hra.kept0 hk) (hrb.kept0 hk) (own_rd (Sel.here.holds hm)) (by omega) (by omega) (by omega))) ?_
  refine run_q (.none rfl) rfl rfl (q_assign rfl rfl) ?_
  refine run_nil ?_
  refine run_sub (subMk (.cons (s := 1) rfl (.cons (s := 6) rfl (.cons (s := 7) rfl (.cons (s := 8) rfl (.cons (s := 9) rfl (.cons (s := 10) rfl (.cons (s := 11) rfl (.cons (s := 12) rfl .nil)))))))) .refl) ?_
  refine run_seq ?_
  refine run_region ?_
  refine run_q (.none rfl) rfl rfl (q_move rfl rfl) ?_
  refine run_q (.none rfl) rfl rfl (q_neq rfl rfl rfl) ?_
  refine run_nil ?_
  refine run_cond rfl (fun g64 => ?_) (fun g64 => ?_)
  · have g64' := g64
    try simp only [decide_eq_true_eq, decide_eq_false_iff_not, beq_iff_eq, beq_eq_false_iff_ne, bne_iff_ne, bne_eq_false_iff_eq, Bool.not_eq_true', Bool.not_eq_false', ne_eq, Int.not_lt, Int.not_le, Decidable.not_not] at g64'
    have hce : checkV a b ps ≠ 0 := by simpa using g64
    refine run_seq ?_
    refine run_region ?_
    refine run_q (.none rfl) rfl rfl (q_move rfl rfl) ?_
    refine run_q (.none rfl) rfl rfl (q_move rfl rfl) ?_
    refine run_q (.none rfl) rfl rfl (q_eql rfl rfl rfl) ?_
    refine run_q (.none rfl) rfl rfl (q_move rfl rfl) ?_
    refine run_q (.on rfl rfl rfl (by rw [tempo_err hce]; simp)) rfl rfl (q_move rfl rfl) ?_
    refine run_q (.on rfl rfl rfl (by rw [tempo_err hce]; simp)) rfl rfl (q_eql rfl rfl rfl) ?_
    refine run_q (.none rfl) rfl rfl (q_pickT rfl rfl (by rw [tempo_err hce]; simp) rfl) ?_
    refine run_q (.none rfl) rfl rfl (q_move rfl rfl) ?_
    refine run_q (.on rfl rfl rfl (by rw [tempo_err hce]; rfl)) rfl rfl (q_move rfl rfl) ?_
    refine run_q (.on rfl rfl rfl (by rw [tempo_err hce]; rfl)) rfl rfl (q_eql rfl rfl rfl) ?_
    refine run_q (.none rfl) rfl rfl (q_pickT rfl rfl (by rw [tempo_err hce]; rfl) rfl) ?_
    refine run_q (.none rfl) rfl rfl (q_assign rfl rfl) ?_
    refine run_nil ?_
    refine run_sub (subMk (.cons (s := 1) rfl (.cons (s := 6) rfl (.cons (s := 7) rfl (.cons (s := 8) rfl (.cons (s := 9) rfl (.cons (s := 10) rfl (.cons (s := 11) rfl .nil))))))) .refl) ?_
    refine run_ret ?_
    exact end1 rfl rfl (by rw [tempo_err hce]; rfl)
  · have g64' := g64
    try simp only [decide_eq_true_eq, decide_eq_false_iff_not, beq_iff_eq, beq_eq_false_iff_ne, bne_iff_ne, bne_eq_false_iff_eq, Bool.not_eq_true', Bool.not_eq_false', ne_eq, Int.not_lt, Int.not_le, Decidable.not_not] at g64'
    have hck : checkV a b ps = 0 := by simpa using g64
    refine run_skip ?_
    refine run_seq ?_
    refine run_region ?_
    refine run_q (.none rfl) rfl rfl (q_assign rfl rfl) ?_
    refine run_q (.none rfl) rfl rfl (q_assign rfl rfl) ?_
    refine run_nil ?_
    refine run_sub (subMk (.cons (s := 1) rfl (.cons (s := 6) rfl (.cons (s := 7) rfl (.cons (s := 8) rfl (.cons (s := 9) rfl (.cons (s := 10) rfl (.cons (s := 11) rfl (.cons (s := 13) rfl (.cons (s := 14) rfl .nil))))))))) .refl) ?_
    refine run_seq ?_
    refine run_seq ?_
    refine run_region ?_
    refine run_q (.none rfl) rfl rfl (q_assign rfl rfl) ?_
    refine run_nil ?_
    refine run_block ?_
    refine run_sub (subMk (.cons (s := 15) rfl (.cons (s := 13) rfl (.cons (s := 14) rfl (.cons (s := 1) rfl (.cons (s := 6) rfl (.cons (s := 7) rfl (.cons (s := 8) rfl (.cons (s := 9) rfl (.cons (s := 10) rfl (.cons (s := 11) rfl .nil)))))))))) (.cons Sel.here .refl (.cons Sel.here .refl .nil))) ?_
    refine run_loopC3M0 (ι := Nat) (fun j => j ≤ ps.length) (fun j => .int .i64 (j : Int)) (fun j => .int .i64 (fstM ps j)) (fun j => .int .i64 (lstM ps j))  (fun j => ps.length - j) 0 (by (try dsimp only); exact (by omega)) rfl rfl rfl  ?_
    rintro j hj
    (try dsimp only at hj)
    show Run _ _ _ _ _ _ _ ⟨(15, .int .i64 (j : Int)) :: (13, .int .i64 (fstM ps j)) :: (14, .int .i64 (lstM ps j)) :: _, _⟩
    refine run_seq ?_
    refine run_seq ?_
    refine run_region ?_
    refine run_q (.none rfl) rfl rfl (q_move rfl rfl) ?_
    refine run_q (.none rfl) rfl rfl (q_move rfl rfl) ?_
    refine run_q (.none rfl) rfl rfl (q_len rfl Try.underlying28 rfl) ?_
    refine run_q (.none rfl) rfl rfl (q_lss rfl rfl rfl) ?_
    refine run_nil ?_
    refine run_sub (subMk (.cons (s := 1) rfl (.cons (s := 6) rfl (.cons (s := 7) rfl (.cons (s := 8) rfl (.cons (s := 9) rfl (.cons (s := 10) rfl (.cons (s := 11) rfl (.cons (s := 13) rfl (.cons (s := 14) rfl (.cons (s := 15) rfl (.cons (s := 79) rfl .nil))))))))))) .refl) ?_
    refine run_cond rfl (fun g79 => ?_) (fun g79 => ?_)
    · have g79' := g79
      try simp only [decide_eq_true_eq, decide_eq_false_iff_not, beq_iff_eq, beq_eq_false_iff_ne, bne_iff_ne, bne_eq_false_iff_eq, Bool.not_eq_true', Bool.not_eq_false', ne_eq, Int.not_lt, Int.not_le, Decidable.not_not] at g79'
      refine run_skip ?_
      refine run_seq ?_
      refine run_block ?_
      refine run_seq ?_
      refine run_region ?_
      refine run_q (.none rfl) rfl rfl (q_move rfl rfl) ?_
      refine run_q (.none rfl) rfl rfl (q_move rfl rfl) ?_
      refine run_q (.none rfl) rfl rfl (q_indexS (q := j) rfl Try.underlying28 sz40 rfl rfl (.own Sel.here) (by simp <;> omega) rfl (by omega)) ?_
      refine run_q (.none rfl) rfl rfl (q_fieldAddr (d := 0) rfl Try.underlying40 rfl rfl sz3 rfl) ?_
      refine run_q (.none rfl) rfl rfl (q_loadF rfl one3 rfl (.own Sel.here) (getmap (by omega)) rfl) ?_
      refine run_q (.none rfl) rfl rfl (q_eql rfl rfl rfl) ?_
      refine run_nil ?_
      refine run_sub (subMk (.cons (s := 1) rfl (.cons (s := 6) rfl (.cons (s := 7) rfl (.cons (s := 8) rfl (.cons (s := 9) rfl (.cons (s := 10) rfl (.cons (s := 11) rfl (.cons (s := 13) rfl (.cons (s := 14) rfl (.cons (s := 15) rfl (.cons (s := 87) rfl .nil))))))))))) .refl) ?_
      refine run_cond rfl (fun g87 => ?_) (fun g87 => ?_)
      · have g87' := g87
        try simp only [decide_eq_true_eq, decide_eq_false_iff_not, beq_iff_eq, beq_eq_false_iff_ne, bne_iff_ne, bne_eq_false_iff_eq, Bool.not_eq_true', Bool.not_eq_false', ne_eq, Int.not_lt, Int.not_le, Decidable.not_not] at g87'
        refine run_seq ?_
        refine run_seq ?_
        refine run_region ?_
        refine run_q (.none rfl) rfl rfl (q_move rfl rfl) ?_
        refine run_q (.none rfl) rfl rfl (q_lss rfl rfl rfl) ?_
        refine run_nil ?_
        refine run_cond rfl (fun g89 => ?_) (fun g89 => ?_)
        · have g89' := g89
          try simp only [decide_eq_true_eq, decide_eq_false_iff_not, beq_iff_eq, beq_eq_false_iff_ne, bne_iff_ne, bne_eq_false_iff_eq, Bool.not_eq_true', Bool.not_eq_false', ne_eq, Int.not_lt, Int.not_le, Decidable.not_not] at g89'
          refine run_region ?_
          refine run_q (.none rfl) rfl rfl (q_move rfl rfl) ?_
          refine run_q (.none rfl) rfl rfl (q_assign rfl rfl) ?_
          refine run_nil ?_
          refine run_sub (subMk (.cons (s := 1) rfl (.cons (s := 6) rfl (.cons (s := 7) rfl (.cons (s := 8) rfl (.cons (s := 9) rfl (.cons (s := 10) rfl (.cons (s := 11) rfl (.cons (s := 13) rfl (.cons (s := 14) rfl (.cons (s := 15) rfl .nil)))))))))) .refl) ?_
          refine run_region ?_
          refine run_q (.none rfl) rfl rfl (q_move rfl rfl) ?_
          refine run_q (.none rfl) rfl rfl (q_assign rfl rfl) ?_
          refine run_nil ?_
          refine run_blk ?_
          refine run_region ?_
          refine run_q (.none rfl) rfl rfl (q_move rfl rfl) ?_
          refine run_q (.none rfl) rfl rfl (q_add rfl rfl rfl (by omega)) ?_
          refine run_q (.none rfl) rfl rfl (q_assign rfl rfl) ?_
          refine run_nil ?_
          refine run_sub (subMk (.cons (s := 1) rfl (.cons (s := 6) rfl (.cons (s := 7) rfl (.cons (s := 8) rfl (.cons (s := 9) rfl (.cons (s := 10) rfl (.cons (s := 11) rfl (.cons (s := 13) rfl (.cons (s := 14) rfl (.cons (s := 15) rfl .nil)))))))))) .refl) ?_
          exact run_again (j + 1) (by (try dsimp only); exact (by omega)) (by (try dsimp only); omega) (subMk (.cons' (s := 15) rfl rfl (.cons' (s := 13) rfl (vint (by rw [fstM, if_pos ⟨by omega, by simpa using g87⟩])) (.cons' (s := 14) rfl (vint (by rw [lstM, if_pos (by simpa using g87)])) (.cons (s := 1) rfl (.cons (s := 6) rfl (.cons (s := 7) rfl (.cons (s := 8) rfl (.cons (s := 9) rfl (.cons (s := 10) rfl (.cons (s := 11) rfl .nil)))))))))) (.cons Sel.here .refl (.cons Sel.here .refl .nil)))
        · have g89' := g89
          try simp only [decide_eq_true_eq, decide_eq_false_iff_not, beq_iff_eq, beq_eq_false_iff_ne, bne_iff_ne, bne_eq_false_iff_eq, Bool.not_eq_true', Bool.not_eq_false', ne_eq, Int.not_lt, Int.not_le, Decidable.not_not] at g89'
          refine run_skip ?_
          refine run_region ?_
          refine run_q (.none rfl) rfl rfl (q_move rfl rfl) ?_
          refine run_q (.none rfl) rfl rfl (q_assign rfl rfl) ?_
          refine run_nil ?_
          refine run_sub (subMk (.cons (s := 1) rfl (.cons (s := 6) rfl (.cons (s := 7) rfl (.cons (s := 8) rfl (.cons (s := 9) rfl (.cons (s := 10) rfl (.cons (s := 11) rfl (.cons (s := 13) rfl (.cons (s := 14) rfl (.cons (s := 15) rfl .nil)))))))))) .refl) ?_
          refine run_blk ?_
          refine run_region ?_
          refine run_q (.none rfl) rfl rfl (q_move rfl rfl) ?_
          refine run_q (.none rfl) rfl rfl (q_add rfl rfl rfl (by omega)) ?_
          refine run_q (.none rfl) rfl rfl (q_assign rfl rfl) ?_
          refine run_nil ?_
          exact run_again (j + 1) (by (try dsimp only); exact (by omega)) (by (try dsimp only); omega) (subMk (.cons' (s := 15) rfl rfl (.cons' (s := 13) rfl (vint (by rw [fstM, if_neg (fun h => absurd h.1 (by omega))])) (.cons' (s := 14) rfl (vint (by rw [lstM, if_pos (by simpa using g87)])) (.cons (s := 1) rfl (.cons (s := 6) rfl (.cons (s := 7) rfl (.cons (s := 8) rfl (.cons (s := 9) rfl (.cons (s := 10) rfl (.cons (s := 11) rfl .nil)))))))))) (.cons Sel.here .refl (.cons Sel.here .refl .nil)))
      · have g87' := g87
        try simp only [decide_eq_true_eq, decide_eq_false_iff_not, beq_iff_eq, beq_eq_false_iff_ne, bne_iff_ne, bne_eq_false_iff_eq, Bool.not_eq_true', Bool.not_eq_false', ne_eq, Int.not_lt, Int.not_le, Decidable.not_not] at g87'
        refine run_skip ?_
        refine run_blk ?_
        refine run_region ?_
        refine run_q (.none rfl) rfl rfl (q_move rfl rfl) ?_
        refine run_q (.none rfl) rfl rfl (q_add rfl rfl rfl (by omega)) ?_
        refine run_q (.none rfl) rfl rfl (q_assign rfl rfl) ?_
        refine run_nil ?_
        refine run_sub (subMk (.cons (s := 1) rfl (.cons (s := 6) rfl (.cons (s := 7) rfl (.cons (s := 8) rfl (.cons (s := 9) rfl (.cons (s := 10) rfl (.cons (s := 11) rfl (.cons (s := 13) rfl (.cons (s := 14) rfl (.cons (s := 15) rfl .nil)))))))))) .refl) ?_
        exact run_again (j + 1) (by (try dsimp only); exact (by omega)) (by (try dsimp only); omega) (subMk (.cons' (s := 15) rfl rfl (.cons' (s := 13) rfl (vint (by rw [fstM, if_neg (fun h => absurd h.2 (by simpa using g87))])) (.cons' (s := 14) rfl (vint (by rw [lstM, if_neg (by simpa using g87)])) (.cons (s := 1) rfl (.cons (s := 6) rfl (.cons (s := 7) rfl (.cons (s := 8) rfl (.cons (s := 9) rfl (.cons (s := 10) rfl (.cons (s := 11) rfl .nil)))))))))) (.cons Sel.here .refl (.cons Sel.here .refl .nil)))
    · have g79' := g79
      try simp only [decide_eq_true_eq, decide_eq_false_iff_not, beq_iff_eq, beq_eq_false_iff_ne, bne_iff_ne, bne_eq_false_iff_eq, Bool.not_eq_true', Bool.not_eq_false', ne_eq, Int.not_lt, Int.not_le, Decidable.not_not] at g79'
      refine run_exit rfl ?_
      refine run_seq ?_
      refine run_seq ?_
      obtain rfl : j = ps.length := by omega
      have hkn := known_short (knownM (ps := ps) ps.length (Nat.le_refl _))
      refine run_region ?_
      refine run_q (.none rfl) rfl rfl (q_move rfl rfl) ?_
      refine run_q (.none rfl) rfl rfl (q_move rfl rfl) ?_
      refine run_q (.none rfl) rfl rfl (q_eql rfl rfl rfl) ?_
      refine run_nil ?_
      refine run_sub (subMk (.cons (s := 1) rfl (.cons (s := 6) rfl (.cons (s := 7) rfl (.cons (s := 8) rfl (.cons (s := 9) rfl (.cons (s := 10) rfl (.cons (s := 11) rfl (.cons (s := 13) rfl (.cons (s := 14) rfl (.cons (s := 94) rfl .nil)))))))))) .refl) ?_
      refine run_cond rfl (fun g94 => ?_) (fun g94 => ?_)
      · have g94' := g94
        try simp only [decide_eq_true_eq, decide_eq_false_iff_not, beq_iff_eq, beq_eq_false_iff_ne, bne_iff_ne, bne_eq_false_iff_eq, Bool.not_eq_true', Bool.not_eq_false', ne_eq, Int.not_lt, Int.not_le, Decidable.not_not] at g94'
        have h2m : (Flt.rest notM ps).length < 2 := hkn.1 (by simpa using g94)
        have hts := tempo_short hck h2m
        refine run_seq ?_
        refine run_region ?_
        refine run_q (.none rfl) rfl rfl (q_move rfl rfl) ?_
        refine run_q (.none rfl) rfl rfl (q_eql rfl rfl rfl) ?_
        refine run_q (.none rfl) rfl rfl (q_move rfl rfl) ?_
        refine run_q (.on rfl rfl rfl (by rw [hts]; rfl)) rfl rfl (q_move rfl rfl) ?_
        refine run_q (.on rfl rfl rfl (by rw [hts]; rfl)) rfl rfl (q_eql rfl rfl rfl) ?_
        refine run_q (.none rfl) rfl rfl (q_pickT rfl rfl (by rw [hts]; rfl) rfl) ?_
        refine run_q (.none rfl) rfl rfl (q_move rfl rfl) ?_
        refine run_q (.on rfl rfl rfl (by rw [hts]; rfl)) rfl rfl (q_move rfl rfl) ?_
        refine run_q (.on rfl rfl rfl (by rw [hts]; rfl)) rfl rfl (q_eql rfl rfl rfl) ?_
        refine run_q (.none rfl) rfl rfl (q_pickT rfl rfl (by rw [hts]; rfl) rfl) ?_
        refine run_q (.none rfl) rfl rfl (q_assign rfl rfl) ?_
        refine run_nil ?_
        refine run_sub (subMk (.cons (s := 1) rfl (.cons (s := 6) rfl (.cons (s := 7) rfl (.cons (s := 8) rfl (.cons (s := 9) rfl (.cons (s := 10) rfl (.cons (s := 11) rfl (.cons (s := 13) rfl (.cons (s := 14) rfl .nil))))))))) .refl) ?_
        refine run_ret ?_
        exact end1 rfl rfl (by rw [hts]; rfl)
      · have g94' := g94
        try simp only [decide_eq_true_eq, decide_eq_false_iff_not, beq_iff_eq, beq_eq_false_iff_ne, bne_iff_ne, bne_eq_false_iff_eq, Bool.not_eq_true', Bool.not_eq_false', ne_eq, Int.not_lt, Int.not_le, Decidable.not_not] at g94'
        have hne : ¬ (fstM ps ps.length = lstM ps ps.length) := by simpa using g94
        have h2m : 2 ≤ (Flt.rest notM ps).length := by have := mt hkn.2 hne; omega
        obtain ⟨u, v, su, qu, sv, qv, hu, hv, hfst, hlst, hms0, hms1, e1, e2, e3, e4, lt1, lt2, lt3, lt4, hpp, hss, hpb, hsb⟩ := tempo_facts hck h2m
        refine run_skip ?_
        refine run_seq ?_
        refine run_draw [(0, 0), (1, 0), (2, 0), (3, 0), (4, 0), (5, 0), (6, 0), (7, 0), (8, 0), (9, 0), (10, 0), (11, 0), (12, 0), (13, 0), (14, 0), (15, 0), (16, 0), (17, 0), (18, 0), (19, 0), (20, 0), (21, 0), (22, 0), (23, 0), (24, 0), (25, 0), (26, 0), (27, 0), (28, 0), (29, 0), (30, 0), (31, 0), (32, 0), (33, 0), (34, 0), (35, 0), (36, 0), (37, 0), (38, 0), (39, 0)] mixed (by kernel_rfl) .refl ?_
        refine d_q rfl rfl (.none rfl) rfl rfl (q_move rfl rfl) ?_
        refine d_q rfl rfl (.none rfl) rfl rfl (q_move rfl rfl) ?_
        refine d_q rfl rfl (.none rfl) rfl rfl (q_move rfl rfl) ?_
        refine d_q rfl rfl (.none rfl) rfl rfl (q_indexS (q := v) rfl Try.underlying28 sz40 rfl rfl (.own Sel.here) (by simp <;> omega) hlst (by omega)) ?_
        refine d_q rfl rfl (.none rfl) rfl rfl (q_fieldAddr (d := 2) rfl Try.underlying40 rfl rfl sz3 rfl) ?_
        refine d_q rfl rfl (.none rfl) rfl rfl (q_loadF rfl one3 rfl (.own Sel.here) (getmap (by omega)) rfl) ?_
        refine d_q rfl rfl (.none rfl) rfl rfl (q_indexS (q := qv) rfl Try.underlying22 sz47 rfl rfl (.inp hrb .no) (by simp <;> omega) e4 (by omega)) ?_
        refine d_q rfl rfl (.none rfl) rfl rfl (q_fieldAddr (d := 0) rfl Try.underlying47 rfl rfl sz3 rfl) ?_
        refine d_q rfl rfl (.none rfl) rfl rfl (q_loadF rfl one3 rfl (.inp hrb .no) (getmap (by omega)) rfl) ?_
        refine d_q rfl rfl (.none rfl) rfl rfl (q_move rfl rfl) ?_
        refine d_q rfl rfl (.none rfl) rfl rfl (q_move rfl rfl) ?_
        refine d_q rfl rfl (.none rfl) rfl rfl (q_move rfl rfl) ?_
        refine d_q rfl rfl (.none rfl) rfl rfl (q_indexS (q := u) rfl Try.underlying28 sz40 rfl rfl (.own Sel.here) (by simp <;> omega) hfst (by omega)) ?_
        refine d_q rfl rfl (.none rfl) rfl rfl (q_fieldAddr (d := 2) rfl Try.underlying40 rfl rfl sz3 rfl) ?_
        refine d_q rfl rfl (.none rfl) rfl rfl (q_loadF rfl one3 rfl (.own Sel.here) (getmap (by omega)) rfl) ?_
        refine d_q rfl rfl (.none rfl) rfl rfl (q_indexS (q := qu) rfl Try.underlying22 sz47 rfl rfl (.inp hrb .no) (by simp <;> omega) e2 (by omega)) ?_
        refine d_q rfl rfl (.none rfl) rfl rfl (q_fieldAddr (d := 0) rfl Try.underlying47 rfl rfl sz3 rfl) ?_
        refine d_q rfl rfl (.none rfl) rfl rfl (q_loadF rfl one3 rfl (.inp hrb .no) (getmap (by omega)) rfl) ?_
        refine d_q rfl rfl (.none rfl) rfl rfl (q_sub rfl rfl rfl (by omega)) ?_
        refine d_q rfl rfl (.none rfl) rfl rfl (q_move rfl rfl) ?_
        refine d_q rfl rfl (.none rfl) rfl rfl (q_move rfl rfl) ?_
        refine d_q rfl rfl (.none rfl) rfl rfl (q_move rfl rfl) ?_
        refine d_q rfl rfl (.none rfl) rfl rfl (q_indexS (q := v) rfl Try.underlying28 sz40 rfl rfl (.own Sel.here) (by simp <;> omega) hlst (by omega)) ?_
        refine d_q rfl rfl (.none rfl) rfl rfl (q_fieldAddr (d := 1) rfl Try.underlying40 rfl rfl sz3 rfl) ?_
        refine d_q rfl rfl (.none rfl) rfl rfl (q_loadF rfl one3 rfl (.own Sel.here) (getmap (by omega)) rfl) ?_
        refine d_q rfl rfl (.none rfl) rfl rfl (q_indexS (q := sv) rfl Try.underlying22 sz47 rfl rfl (.inp hra .no) (by simp <;> omega) e3 (by omega)) ?_
        refine d_q rfl rfl (.none rfl) rfl rfl (q_fieldAddr (d := 0) rfl Try.underlying47 rfl rfl sz3 rfl) ?_
        refine d_q rfl rfl (.none rfl) rfl rfl (q_loadF rfl one3 rfl (.inp hra .no) (getmap (by omega)) rfl) ?_
        refine d_q rfl rfl (.none rfl) rfl rfl (q_move rfl rfl) ?_
        refine d_q rfl rfl (.none rfl) rfl rfl (q_move rfl rfl) ?_
        refine d_q rfl rfl (.none rfl) rfl rfl (q_move rfl rfl) ?_
        refine d_q rfl rfl (.none rfl) rfl rfl (q_indexS (q := u) rfl Try.underlying28 sz40 rfl rfl (.own Sel.here) (by simp <;> omega) hfst (by omega)) ?_
        refine d_q rfl rfl (.none rfl) rfl rfl (q_fieldAddr (d := 1) rfl Try.underlying40 rfl rfl sz3 rfl) ?_
        refine d_q rfl rfl (.none rfl) rfl rfl (q_loadF rfl one3 rfl (.own Sel.here) (getmap (by omega)) rfl) ?_
        refine d_q rfl rfl (.none rfl) rfl rfl (q_indexS (q := su) rfl Try.underlying22 sz47 rfl rfl (.inp hra .no) (by simp <;> omega) e1 (by omega)) ?_
        refine d_q rfl rfl (.none rfl) rfl rfl (q_fieldAddr (d := 0) rfl Try.underlying47 rfl rfl sz3 rfl) ?_
        refine d_q rfl rfl (.none rfl) rfl rfl (q_loadF rfl one3 rfl (.inp hra .no) (getmap (by omega)) rfl) ?_
        refine d_q rfl rfl (.none rfl) rfl rfl (q_sub rfl rfl rfl (by omega)) ?_
        refine d_q rfl rfl (.none rfl) rfl rfl (q_assign rfl rfl) ?_
        refine d_q rfl rfl (.none rfl) rfl rfl (q_assign rfl rfl) ?_
        refine d_nil ?_
        refine run_sub (subMk (.cons (s := 6) rfl (.cons (s := 9) rfl (.cons (s := 10) rfl (.cons (s := 11) rfl (.cons (s := 16) rfl (.cons (s := 17) rfl .nil)))))) .refl) ?_
        refine run_seq ?_
        refine run_seq ?_
        refine run_sub (subMk (.cons (s := 6) rfl (.cons (s := 9) rfl (.cons (s := 10) rfl (.cons (s := 11) rfl (.cons' (s := 16) (v' := .int .i64 (pN a b ps : Int)) rfl (vint hpp) (.cons' (s := 17) (v' := .int .i64 (sN a b ps : Int)) rfl (vint hss) .nil)))))) .refl) ?_
        refine run_region ?_
        refine run_q (.none rfl) rfl rfl (q_move rfl rfl) ?_
        refine run_q (.none rfl) rfl rfl (q_eql rfl rfl rfl) ?_
        refine run_nil ?_
        refine run_cond rfl (fun g144 => ?_) (fun g144 => ?_)
        · have g144' := g144
          try simp only [decide_eq_true_eq, decide_eq_false_iff_not, beq_iff_eq, beq_eq_false_iff_ne, bne_iff_ne, bne_eq_false_iff_eq, Bool.not_eq_true', Bool.not_eq_false', ne_eq, Int.not_lt, Int.not_le, Decidable.not_not] at g144'
          have htz := tempo_zero hck h2m (by simpa using g144)
          refine run_seq ?_
          refine run_region ?_
          refine run_q (.none rfl) rfl rfl (q_move rfl rfl) ?_
          refine run_q (.none rfl) rfl rfl (q_eql rfl rfl rfl) ?_
          refine run_q (.none rfl) rfl rfl (q_move rfl rfl) ?_
          refine run_q (.on rfl rfl rfl (by rw [htz]; rfl)) rfl rfl (q_move rfl rfl) ?_
          refine run_q (.on rfl rfl rfl (by rw [htz]; rfl)) rfl rfl (q_eql rfl rfl rfl) ?_
          refine run_q (.none rfl) rfl rfl (q_pickT rfl rfl (by rw [htz]; rfl) rfl) ?_
          refine run_q (.none rfl) rfl rfl (q_move rfl rfl) ?_
          refine run_q (.on rfl rfl rfl (by rw [htz]; rfl)) rfl rfl (q_move rfl rfl) ?_
          refine run_q (.on rfl rfl rfl (by rw [htz]; rfl)) rfl rfl (q_eql rfl rfl rfl) ?_
          refine run_q (.none rfl) rfl rfl (q_pickT rfl rfl (by rw [htz]; rfl) rfl) ?_
          refine run_q (.none rfl) rfl rfl (q_assign rfl rfl) ?_
          refine run_nil ?_
          refine run_sub (subMk (.cons (s := 6) rfl (.cons (s := 9) rfl (.cons (s := 10) rfl (.cons (s := 11) rfl (.cons (s := 16) rfl (.cons (s := 17) rfl .nil)))))) .refl) ?_
          refine run_ret ?_
          exact end1 rfl rfl (by rw [htz]; rfl)
        · have g144' := g144
          try simp only [decide_eq_true_eq, decide_eq_false_iff_not, beq_iff_eq, beq_eq_false_iff_ne, bne_iff_ne, bne_eq_false_iff_eq, Bool.not_eq_true', Bool.not_eq_false', ne_eq, Int.not_lt, Int.not_le, Decidable.not_not] at g144'
          have hs0 : sN a b ps ≠ 0 := by simpa using g144
          obtain ⟨hg1, hg2, hg3, hg4, hg5⟩ := gcd_facts (p := pN a b ps) hs0
          have htv := tempo_ok hck h2m hs0
          change 0 < (gN a b ps) at hg1
          change pN a b ps = (gN a b ps) * (pN a b ps / gN a b ps) at hg2
          change sN a b ps = (gN a b ps) * (sN a b ps / gN a b ps) at hg3
          change 1 ≤ (sN a b ps / gN a b ps) at hg4
          change Nat.gcd (pN a b ps / gN a b ps) (sN a b ps / gN a b ps) = 1 at hg5
          obtain ⟨P, hP⟩ : ∃ P, P = (pN a b ps / gN a b ps) := ⟨_, rfl⟩
          obtain ⟨S, hS⟩ : ∃ S, S = (sN a b ps / gN a b ps) := ⟨_, rfl⟩
          rw [← hP] at hg2 hg5 htv
          rw [← hS] at hg3 hg4 hg5 htv
          refine run_skip ?_
          refine run_seq ?_
          refine run_seq ?_
          refine run_sub (subMk (.cons (s := 6) rfl (.cons' (s := 9) (v' := .int .i64 ((P : Nat) : Int)) rfl (vint (by rw [htv])) (.cons' (s := 10) (v' := .int .i64 ((S : Nat) : Int)) rfl (vint (by rw [htv])) (.cons' (s := 11) (v' := .int .i64 0) rfl (vint (by rw [htv])) (.cons (s := 16) rfl (.cons (s := 17) rfl (.cons (s := 143) rfl (.cons (s := 144) rfl .nil)))))))) .refl) ?_
          refine run_region ?_
          refine run_q (.none rfl) rfl rfl (q_move rfl rfl) ?_
          refine run_q (.none rfl) rfl rfl (q_neq rfl rfl rfl) ?_
          refine run_q (.none rfl) rfl rfl (q_move rfl rfl) ?_
          refine run_q (.on rfl rfl rfl rfl) rfl rfl (q_move rfl rfl) ?_
          refine run_q (.on rfl rfl rfl rfl) rfl rfl (q_lss rfl rfl rfl) ?_
          refine run_q (.none rfl) rfl rfl (q_pickF rfl rfl rfl rfl) ?_
          refine run_q (.none rfl) rfl rfl (q_move rfl rfl) ?_
          refine run_q (.on rfl rfl rfl (decide_eq_false (by omega))) rfl rfl (q_move rfl rfl) ?_
          refine run_q (.on rfl rfl rfl (decide_eq_false (by omega))) rfl rfl (q_lss rfl rfl rfl) ?_
          refine run_q (.none rfl) rfl rfl (q_pickF rfl rfl (decide_eq_false (by omega)) rfl) ?_
          refine run_q (.none rfl) rfl rfl (q_move rfl rfl) ?_
          refine run_q (.on rfl rfl rfl (decide_eq_false (by omega))) rfl rfl (q_move rfl rfl) ?_
          refine run_q (.on rfl rfl rfl (decide_eq_false (by omega))) rfl rfl (q_move rfl rfl) ?_
          refine run_q (.on rfl rfl rfl (decide_eq_false (by omega))) rfl rfl (q_max2 rfl rfl rfl) ?_
          refine run_q (.on rfl rfl rfl (decide_eq_false (by omega))) rfl rfl (q_rem rfl rfl rfl (by omega)) ?_
          refine run_q (.on rfl rfl rfl (decide_eq_false (by omega))) rfl rfl (q_neq rfl rfl rfl) ?_
          refine run_q (.none rfl) rfl rfl (q_pickF rfl rfl (decide_eq_false (by omega)) rfl) ?_
          refine run_q (.none rfl) rfl rfl (q_move rfl rfl) ?_
          refine run_q (.on rfl rfl rfl (by rw [rem_max hg2]; rfl)) rfl rfl (q_move rfl rfl) ?_
          refine run_q (.on rfl rfl rfl (by rw [rem_max hg2]; rfl)) rfl rfl (q_move rfl rfl) ?_
          refine run_q (.on rfl rfl rfl (by rw [rem_max hg2]; rfl)) rfl rfl (q_rem rfl rfl rfl (by omega)) ?_
          refine run_q (.on rfl rfl rfl (by rw [rem_max hg2]; rfl)) rfl rfl (q_neq rfl rfl rfl) ?_
          refine run_q (.none rfl) rfl rfl (q_pickF rfl rfl (by rw [rem_max hg2]; rfl) rfl) ?_
          refine run_nil ?_
          refine run_sub (subMk (.cons (s := 6) rfl (.cons (s := 9) rfl (.cons (s := 10) rfl (.cons (s := 16) rfl (.cons (s := 17) rfl (.cons (s := 177) rfl .nil)))))) .refl) ?_
          refine run_condF rfl (by rw [rem_den hg3]; rfl) ?_
          refine run_skip ?_
          refine run_seq ?_
          refine run_seq ?_
          refine run_region ?_
          refine run_q (.none rfl) rfl rfl (q_move rfl rfl) ?_
          refine run_q (.none rfl) rfl rfl (q_eql rfl rfl rfl) ?_
          refine run_nil ?_
          refine run_cond rfl (fun g179 => ?_) (fun g179 => ?_)
          · have g179' := g179
            try simp only [decide_eq_true_eq, decide_eq_false_iff_not, beq_iff_eq, beq_eq_false_iff_ne, bne_iff_ne, bne_eq_false_iff_eq, Bool.not_eq_true', Bool.not_eq_false', ne_eq, Int.not_lt, Int.not_le, Decidable.not_not] at g179'
            have hp0 : pN a b ps = 0 := by simpa using g179
            have hq0 : P = 0 := by rw [hP, hp0]; simp
            have hs1 : S = 1 := by have hx : gN a b ps = sN a b ps := (by rw [gN, hp0, Nat.gcd_zero_left]); rw [hS, hx]; exact Nat.div_self (by omega)
            refine run_seq ?_
            refine run_region ?_
            refine run_q (.none rfl) rfl rfl (q_move rfl rfl) ?_
            refine run_q (.none rfl) rfl rfl (q_eql rfl rfl rfl) ?_
            refine run_q (.none rfl) rfl rfl (q_move rfl rfl) ?_
            refine run_q (.on rfl rfl rfl (by rw [hq0]; rfl)) rfl rfl (q_move rfl rfl) ?_
            refine run_q (.on rfl rfl rfl (by rw [hq0]; rfl)) rfl rfl (q_eql rfl rfl rfl) ?_
            refine run_q (.none rfl) rfl rfl (q_pickT rfl rfl (by rw [hq0]; rfl) rfl) ?_
            refine run_q (.none rfl) rfl rfl (q_assign rfl rfl) ?_
            refine run_nil ?_
            refine run_sub (subMk (.cons (s := 6) rfl (.cons (s := 9) rfl (.cons (s := 10) rfl (.cons (s := 16) rfl (.cons (s := 17) rfl .nil))))) .refl) ?_
            refine run_ret ?_
            exact end1 rfl rfl (by rw [hs1]; rfl)
          · have g179' := g179
            try simp only [decide_eq_true_eq, decide_eq_false_iff_not, beq_iff_eq, beq_eq_false_iff_ne, bne_iff_ne, bne_eq_false_iff_eq, Bool.not_eq_true', Bool.not_eq_false', ne_eq, Int.not_lt, Int.not_le, Decidable.not_not] at g179'
            have hp0 : pN a b ps ≠ 0 := by simpa using g179
            have hq0 : P ≠ 0 := fun h => by rw [h, Nat.mul_zero] at hg2; exact hp0 hg2
            refine run_skip ?_
            refine run_seq ?_
            refine run_seq ?_
            refine run_draw [(0, 0), (1, 0), (2, 0), (3, 0), (4, 0), (5, 0), (6, 0), (7, 0), (8, 0), (9, 0), (10, 0)] mixed (by kernel_rfl) .refl ?_
            refine d_q rfl rfl (.none rfl) rfl rfl (q_move rfl rfl) ?_
            refine d_q rfl rfl (.none rfl) rfl rfl (q_eql rfl rfl rfl) ?_
            refine d_q rfl rfl (.none rfl) rfl rfl (q_move rfl rfl) ?_
            refine d_q rfl rfl (.on rfl rfl rfl (beq_eq_false_iff_ne.2 (by omega))) rfl rfl (q_move rfl rfl) ?_
            refine d_q rfl rfl (.on rfl rfl rfl (beq_eq_false_iff_ne.2 (by omega))) rfl rfl (q_move rfl rfl) ?_
            refine d_q rfl rfl (.on rfl rfl rfl (beq_eq_false_iff_ne.2 (by omega))) rfl rfl (q_quo rfl rfl rfl (by omega)) ?_
            refine d_q rfl rfl (.on rfl rfl rfl (beq_eq_false_iff_ne.2 (by omega))) rfl rfl (q_move rfl rfl) ?_
            refine d_q rfl rfl (.on rfl rfl rfl (beq_eq_false_iff_ne.2 (by omega))) rfl rfl (q_move rfl rfl) ?_
            refine d_q rfl rfl (.on rfl rfl rfl (beq_eq_false_iff_ne.2 (by omega))) rfl rfl (q_quo rfl rfl rfl (by omega)) ?_
            refine d_q rfl rfl (.on rfl rfl rfl (beq_eq_false_iff_ne.2 (by omega))) rfl rfl (q_neq rfl rfl rfl) ?_
            refine d_q rfl rfl (.none rfl) rfl rfl (q_pickF rfl rfl (beq_eq_false_iff_ne.2 (by omega)) rfl) ?_
            refine d_nil ?_
            refine run_sub (subMk (.cons (s := 6) rfl (.cons (s := 9) rfl (.cons (s := 10) rfl (.cons (s := 196) rfl .nil)))) .refl) ?_
            refine run_condF rfl (by rw [quo_eq hg2 (by omega), quo_eq hg3 (by omega)]; simp) ?_
            refine run_skip ?_
            refine run_seq ?_
            refine run_region ?_
            refine run_q (.none rfl) rfl rfl (q_move rfl rfl) ?_
            refine run_q (.none rfl) rfl rfl (q_move rfl rfl) ?_
            refine run_q (.none rfl) rfl rfl (q_assign rfl rfl) ?_
            refine run_q (.none rfl) rfl rfl (q_assign rfl rfl) ?_
            refine run_nil ?_
            refine run_sub (subMk (.cons (s := 6) rfl (.cons (s := 18) rfl (.cons (s := 19) rfl .nil))) .refl) ?_
            refine run_block ?_
            refine run_sub (subMk (.cons (s := 18) rfl (.cons (s := 19) rfl (.cons (s := 6) rfl .nil))) (.cons Sel.here .refl (.cons Sel.here .refl .nil))) ?_
            refine run_loopC2M0 (ι := Nat × Nat) (fun gg => Nat.gcd gg.1 gg.2 = 1 ∧ True) (fun gg => .int .i64 (gg.1 : Int)) (fun gg => .int .i64 (gg.2 : Int))  (fun gg => gg.2) (P, S) (by (try dsimp only); exact ⟨hg5, trivial⟩) rfl rfl  ?_
            rintro ⟨x, y⟩ hq
            (try dsimp only at hq)
            obtain ⟨hinv, -⟩ := hq
            show Run _ _ _ _ _ _ _ ⟨(18, .int .i64 (x : Int)) :: (19, .int .i64 (y : Int)) :: _, _⟩
            refine run_seq ?_
            refine run_block ?_
            refine run_seq ?_
            refine run_region ?_
            refine run_q (.none rfl) rfl rfl (q_move rfl rfl) ?_
            refine run_q (.none rfl) rfl rfl (q_eql rfl rfl rfl) ?_
            refine run_nil ?_
            refine run_cond rfl (fun g204 => ?_) (fun g204 => ?_)
            · have g204' := g204
              try simp only [decide_eq_true_eq, decide_eq_false_iff_not, beq_iff_eq, beq_eq_false_iff_ne, bne_iff_ne, bne_eq_false_iff_eq, Bool.not_eq_true', Bool.not_eq_false', ne_eq, Int.not_lt, Int.not_le, Decidable.not_not] at g204'
              refine run_seq ?_
              refine run_region ?_
              refine run_q (.none rfl) rfl rfl (q_move rfl rfl) ?_
              refine run_q (.none rfl) rfl rfl (q_eql rfl rfl rfl) ?_
              refine run_q (.none rfl) rfl rfl (q_assign rfl rfl) ?_
              refine run_nil ?_
              refine run_sub (subMk (.cons (s := 6) rfl (.cons (s := 18) rfl (.cons (s := 19) rfl .nil))) .refl) ?_
              refine run_ret ?_
              exact end1 rfl rfl (by have hy : y = 0 := (by omega); rw [hy, Nat.gcd_zero_right] at hinv; rw [hinv]; rfl)
            · have g204' := g204
              try simp only [decide_eq_true_eq, decide_eq_false_iff_not, beq_iff_eq, beq_eq_false_iff_ne, bne_iff_ne, bne_eq_false_iff_eq, Bool.not_eq_true', Bool.not_eq_false', ne_eq, Int.not_lt, Int.not_le, Decidable.not_not] at g204'
              refine run_skip ?_
              refine run_blk ?_
              refine run_draw [(0, 0), (1, 0), (2, 0), (3, 0), (4, 0), (5, 0)] mixed (by kernel_rfl) .refl ?_
              refine d_q rfl rfl (.none rfl) rfl rfl (q_move rfl rfl) ?_
              refine d_q rfl rfl (.none rfl) rfl rfl (q_move rfl rfl) ?_
              refine d_q rfl rfl (.none rfl) rfl rfl (q_move rfl rfl) ?_
              refine d_q rfl rfl (.none rfl) rfl rfl (q_rem rfl rfl rfl (by omega)) ?_
              refine d_q rfl rfl (.none rfl) rfl rfl (q_assign rfl rfl) ?_
              refine d_q rfl rfl (.none rfl) rfl rfl (q_assign rfl rfl) ?_
              refine d_nil ?_
              refine run_sub (subMk (.cons (s := 6) rfl (.cons (s := 18) rfl (.cons (s := 19) rfl .nil))) .refl) ?_
              exact run_again (y, x % y) (by (try dsimp only); exact ⟨by rw [← hinv, Nat.gcd_comm y, ← Nat.gcd_rec, Nat.gcd_comm], trivial⟩) (by (try dsimp only); exact Nat.mod_lt _ (by omega)) (subMk (.cons' (s := 18) rfl rfl (.cons' (s := 19) rfl (vint (by simp)) (.cons (s := 6) rfl .nil))) (.cons Sel.here .refl (.cons Sel.here .refl .nil)))

theorem law10_just (l l2 : List Note) (A B : Option Addr) (ca cb : Nat) (lq : List Pair) (Q : Option Addr) (cq : Nat) (t : Bool) (W : World) (hr : Rd W A 7 (l.map Note.enc)) (hr2 : Rd W B 7 (l2.map Note.enc)) (hca : l.length ≤ ca) (hcb : l2.length ≤ cb) (hrq : Rd W Q 3 (lq.map Pair.enc)) (hcq : lq.length ≤ cq) : Calls Try.prog 10 #[.agg #[.slice A l.length ca, .slice B l2.length cb], .slice Q lq.length cq, .bool t] W (Just W (.bool true)) := by
  by_cases hb : (t && (wrongL (l.take 24) == 0) && (wrongL (l2.take 24) == 0)) = true
  · simp only [Bool.and_eq_true, beq_iff_eq] at hb
    exact law10_best l l2 A B ca cb lq Q cq t W hr hr2 hca hcb hrq hcq _ _ rfl rfl _ rfl hb.1.1 hb.1.2 hb.2
  · exact law10_plain l l2 A B ca cb lq Q cq t W hr hr2 hca hcb hrq hcq _ _ rfl rfl _ rfl (by simpa using hb)

end Go.Proofs.Ytbkmmjpklkallaa
