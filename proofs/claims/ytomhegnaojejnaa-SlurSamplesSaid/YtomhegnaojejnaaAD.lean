/- The law on samples. -/
import Derived.Test.YtomhegnaojejnaaAC
set_option linter.unusedSimpArgs false
set_option linter.unusedVariables false
namespace Go.Proofs.Ytomhegnaojejnaa
open Go Go.RowKit Hr

theorem call30 : Hr.Callable Try.prog 30 := fun args w => by kernel_rfl
theorem call32 : Hr.Callable Try.prog 32 := fun args w => by kernel_rfl
theorem eqg69 : Try.prog.eqGuardType Try.prog.depth 69 = false := by kernel_rfl
theorem stood69 : Try.prog.stoodInHeld 69 = false := by kernel_rfl
theorem eqs69 (a0 a1 b0 b1 : Int) (w : World) : (Op.equalIn 10000 69 (.agg #[.int .i64 a0, .int .i64 a1]) (.agg #[.int .i64 b0, .int .i64 b1])).run Try.prog w = .ok (a0 == b0 && (a1 == b1)) w := by
  rw [run_equalIn_struct w 9999 69 _ _ (by simp only [Program.fieldsOf, Try.underlying69]) stood69]
  have hz : ∀ (x y : Int) (w : World), (Op.equalIn 9999 3 (.int .i64 x) (.int .i64 y)).run Try.prog w = .ok (x == y) w := fun x y w => run_equalIn_int w 9998 3 .i64 .i64 x y Try.underlying3
  cases h0 : (a0 == b0) <;> cases h1 : (a1 == b1) <;> simp [Program.fieldsOf, Try.underlying69, Op.eqFields, part, one3.1, hz, h0, h1]

set_option maxHeartbeats 2000000 in
set_option maxRecDepth 100000 in
theorem law10_bad (c0 c1 c2 c3 : Pt) (n : Int) (W : World) (hbad : ¬ (1 ≤ n ∧ n ≤ 256) ∨ ∃ j, j < 4 ∧ ¬ okP (nth [c0, c1, c2, c3] j)) : Calls Try.prog 10 #[.agg #[.int .i64 c0.x, .int .i64 c0.y, .int .i64 c1.x, .int .i64 c1.y, .int .i64 c2.x, .int .i64 c2.y, .int .i64 c3.x, .int .i64 c3.y], .int .i64 n] W (Hr.Just W (.bool true)) := by
  refine Just.of_ret ?_
  refine enterA (X := nX) (vs := [.agg #[.int .i64 c0.x, .int .i64 c0.y, .int .i64 c1.x, .int .i64 c1.y, .int .i64 c2.x, .int .i64 c2.y, .int .i64 c3.x, .int .i64 c3.y], .int .i64 n]) Try.func10 Try.ntmps10 rfl rfl Mem.nil ?_
  refine run_seq ?_
  refine run_region ?_
  refine run_h (.none rfl) (h_box rfl rfl rfl rfl rfl) ?_
  rintro b2 -
  refine run_q (.none rfl) rfl rfl (q_assign rfl rfl) ?_
  refine run_nil ?_
  refine run_seq ?_
  refine run_seq ?_
  refine run_region ?_
  refine run_q (.none rfl) rfl rfl (q_call rfl call12 Evs.nil (fun w hk hm => known_just w)) ?_
  refine run_q (.none rfl) rfl rfl (q_not rfl rfl) ?_
  refine run_q (.none rfl) rfl rfl (q_move rfl rfl) ?_
  refine run_q (.on rfl rfl rfl rfl) rfl rfl (q_move rfl rfl) ?_
  refine run_q (.on rfl rfl rfl rfl) rfl rfl (q_gtr rfl rfl rfl) ?_
  refine run_q (.on rfl rfl rfl rfl) rfl rfl (q_move rfl rfl) ?_
  refine run_split 18 rfl (fun g18 => ?_) (fun g18 => ?_)
  · have g18' := g18
    try simp only [decide_eq_true_eq, decide_eq_false_iff_not, beq_iff_eq, beq_eq_false_iff_ne, bne_iff_ne, bne_eq_false_iff_eq, Bool.not_eq_true', Bool.not_eq_false', ne_eq, Int.not_lt, Int.not_le, Decidable.not_not] at g18'
    refine run_q (.on rfl rfl rfl g18) rfl rfl (q_move rfl rfl) ?_
    refine run_q (.on rfl rfl rfl g18) rfl rfl (q_lss rfl rfl rfl) ?_
    refine run_q (.on rfl rfl rfl rfl) rfl rfl (q_pickT rfl rfl g18 rfl) ?_
    refine run_q (.none rfl) rfl rfl (q_pickF rfl rfl rfl rfl) ?_
    refine run_nil ?_
    refine run_sub (subMk (.cons (s := 1) rfl (.cons (s := 2) rfl (.cons (s := 4) rfl (.cons (s := 22) rfl .nil)))) .refl) ?_
    refine run_cond rfl (fun g22 => ?_) (fun g22 => ?_)
    · have g22' := g22
      try simp only [decide_eq_true_eq, decide_eq_false_iff_not, beq_iff_eq, beq_eq_false_iff_ne, bne_iff_ne, bne_eq_false_iff_eq, Bool.not_eq_true', Bool.not_eq_false', ne_eq, Int.not_lt, Int.not_le, Decidable.not_not] at g22'
      refine run_seq ?_
      refine run_region ?_
      refine run_q (.none rfl) rfl rfl (q_call rfl call12 Evs.nil (fun w hk hm => known_just w)) ?_
      refine run_q (.none rfl) rfl rfl (q_assign rfl rfl) ?_
      refine run_nil ?_
      refine run_ret ?_
      exact end1 rfl rfl rfl
    · have g22' := g22
      try simp only [decide_eq_true_eq, decide_eq_false_iff_not, beq_iff_eq, beq_eq_false_iff_ne, bne_iff_ne, bne_eq_false_iff_eq, Bool.not_eq_true', Bool.not_eq_false', ne_eq, Int.not_lt, Int.not_le, Decidable.not_not] at g22'
      refine run_skip ?_
      refine run_seq ?_
      refine run_region ?_
      refine run_q (.none rfl) rfl rfl (q_loadBN rfl agg70 rfl Sel.here (.cons rfl (.cons rfl (.cons rfl (.cons rfl (.cons rfl (.cons rfl (.cons rfl (.cons rfl CellsAt.nil)))))))) rfl) ?_
      refine run_q (.none rfl) rfl rfl (q_move rfl rfl) ?_
      refine run_q (.none rfl) rfl rfl (q_call rfl call30 (.cons rfl (.cons rfl Evs.nil)) (fun w hk hm => Sample_bad c0 c1 c2 c3 n w hbad)) ?_
      refine run_q (.none rfl) rfl rfl (q_move rfl rfl) ?_
      refine run_q (.none rfl) rfl rfl (q_extract rfl rfl rfl) ?_
      refine run_q (.none rfl) rfl rfl (q_extract rfl rfl rfl) ?_
      refine run_q (.none rfl) rfl rfl (q_assign rfl rfl) ?_
      refine run_q (.none rfl) rfl rfl (q_assign rfl rfl) ?_
      refine run_nil ?_
      refine run_sub (subMk (.cons (s := 1) rfl (.cons (s := 2) rfl (.cons (s := 4) rfl (.cons (s := 5) rfl (.cons (s := 6) rfl .nil))))) .refl) ?_
      refine run_seq ?_
      refine run_region ?_
      refine run_q (.none rfl) rfl rfl (q_move rfl rfl) ?_
      refine run_q (.none rfl) rfl rfl (q_lss rfl rfl rfl) ?_
      refine run_q (.none rfl) rfl rfl (q_move rfl rfl) ?_
      refine run_split 32 rfl (fun g32 => ?_) (fun g32 => ?_)
      · have g32' := g32
        try simp only [decide_eq_true_eq, decide_eq_false_iff_not, beq_iff_eq, beq_eq_false_iff_ne, bne_iff_ne, bne_eq_false_iff_eq, Bool.not_eq_true', Bool.not_eq_false', ne_eq, Int.not_lt, Int.not_le, Decidable.not_not] at g32'
        refine run_off (.no rfl rfl rfl g32) rfl rfl ?_
        refine run_off (.no rfl rfl rfl g32) rfl rfl ?_
        refine run_q (.none rfl) rfl rfl (q_pickT rfl rfl g32 rfl) ?_
        refine run_q (.none rfl) rfl rfl (q_assign rfl rfl) ?_
        refine run_nil ?_
        refine run_sub (subMk (.cons (s := 1) rfl (.cons (s := 2) rfl (.cons (s := 4) rfl (.cons (s := 5) rfl (.cons (s := 6) rfl (.cons (s := 7) rfl .nil)))))) .refl) ?_
        refine run_seq ?_
        refine run_seq ?_
        refine run_region ?_
        refine run_q (.none rfl) rfl rfl (q_assign rfl rfl) ?_
        refine run_nil ?_
        refine run_block ?_
        refine run_sub (subMk (.cons (s := 8) rfl (.cons (s := 7) rfl (.cons (s := 1) rfl (.cons (s := 2) rfl (.cons (s := 4) rfl (.cons (s := 5) rfl (.cons (s := 6) rfl .nil))))))) (.cons Sel.here .refl .nil)) ?_
        refine run_loopC2M0 (ι := Nat) (fun i => i ≤ 4) (fun i => .int .i64 (i : Int)) (fun i => .bool (wB n [c0, c1, c2, c3] i))  (fun i => 4 - i) 0 (by (try dsimp only); exact (by omega)) rfl (congrArg Value.bool (decide_eq_true (.inl g32')).symm)  ?_
        rintro i hi
        (try dsimp only at hi)
        show Run _ _ _ _ _ _ _ ⟨(8, .int .i64 (i : Int)) :: (7, .bool (wB n [c0, c1, c2, c3] i)) :: _, _⟩
        refine run_seq ?_
        refine run_seq ?_
        refine run_region ?_
        refine run_q (.none rfl) rfl rfl (q_move rfl rfl) ?_
        refine run_q (.none rfl) rfl rfl (q_lss rfl rfl rfl) ?_
        refine run_nil ?_
        refine run_cond rfl (fun g37 => ?_) (fun g37 => ?_)
        · have g37' := g37
          try simp only [decide_eq_true_eq, decide_eq_false_iff_not, beq_iff_eq, beq_eq_false_iff_ne, bne_iff_ne, bne_eq_false_iff_eq, Bool.not_eq_true', Bool.not_eq_false', ne_eq, Int.not_lt, Int.not_le, Decidable.not_not] at g37'
          refine run_skip ?_
          refine run_seq ?_
          refine run_block ?_
          refine run_region ?_
          refine run_q (.none rfl) rfl rfl (q_move rfl rfl) ?_
          refine run_q (.none rfl) rfl rfl (q_move rfl rfl) ?_
          refine run_split 41 rfl (fun g41 => ?_) (fun g41 => ?_)
          · have g41' := g41
            try simp only [decide_eq_true_eq, decide_eq_false_iff_not, beq_iff_eq, beq_eq_false_iff_ne, bne_iff_ne, bne_eq_false_iff_eq, Bool.not_eq_true', Bool.not_eq_false', ne_eq, Int.not_lt, Int.not_le, Decidable.not_not] at g41'
            refine run_off (.no rfl rfl rfl g41) rfl rfl ?_
            refine run_off (.no rfl rfl rfl g41) rfl rfl ?_
            refine run_off (.no rfl rfl rfl g41) rfl rfl ?_
            refine run_off (.no rfl rfl rfl g41) rfl rfl ?_
            refine run_off (.no rfl rfl rfl g41) rfl rfl ?_
            refine run_off (.no rfl rfl rfl g41) rfl rfl ?_
            refine run_q (.none rfl) rfl rfl (q_pickT rfl rfl g41 rfl) ?_
            refine run_q (.none rfl) rfl rfl (q_move rfl rfl) ?_
            refine run_off (.no rfl rfl rfl rfl) rfl rfl ?_
            refine run_off (.no rfl rfl rfl rfl) rfl rfl ?_
            refine run_off (.no rfl rfl rfl rfl) rfl rfl ?_
            refine run_off (.no rfl rfl rfl rfl) rfl rfl ?_
            refine run_off (.no rfl rfl rfl rfl) rfl rfl ?_
            refine run_off (.no rfl rfl rfl rfl) rfl rfl ?_
            refine run_q (.none rfl) rfl rfl (q_pickT rfl rfl rfl rfl) ?_
            refine run_q (.none rfl) rfl rfl (q_assign rfl rfl) ?_
            refine run_nil ?_
            refine run_sub (subMk (.cons (s := 1) rfl (.cons (s := 2) rfl (.cons (s := 4) rfl (.cons (s := 5) rfl (.cons (s := 6) rfl (.cons (s := 7) rfl (.cons (s := 8) rfl .nil))))))) .refl) ?_
            refine run_blk ?_
            refine run_region ?_
            refine run_q (.none rfl) rfl rfl (q_move rfl rfl) ?_
            refine run_q (.none rfl) rfl rfl (q_add rfl rfl rfl (by omega)) ?_
            refine run_q (.none rfl) rfl rfl (q_assign rfl rfl) ?_
            refine run_nil ?_
            exact run_again (i + 1) (by (try dsimp only); exact (by omega)) (by (try dsimp only); omega) (subMk (.cons' (s := 8) rfl (vint (by omega)) (.cons' (s := 7) rfl (congrArg Value.bool (wB_1 g41).symm) (.cons (s := 1) rfl (.cons (s := 2) rfl (.cons (s := 4) rfl (.cons (s := 5) rfl (.cons (s := 6) rfl .nil))))))) (.cons Sel.here .refl .nil))
          · have g41' := g41
            try simp only [decide_eq_true_eq, decide_eq_false_iff_not, beq_iff_eq, beq_eq_false_iff_ne, bne_iff_ne, bne_eq_false_iff_eq, Bool.not_eq_true', Bool.not_eq_false', ne_eq, Int.not_lt, Int.not_le, Decidable.not_not] at g41'
            refine run_q (.on rfl rfl rfl g41) rfl rfl (q_move rfl rfl) ?_
            refine run_q (.on rfl rfl rfl g41) rfl rfl (q_indexBDN (q := i) rfl Try.underlying70 sz69 rfl rfl rfl (by omega)) ?_
            refine run_q (.on rfl rfl rfl g41) rfl rfl (q_fieldAddr (d := 0) rfl Try.underlying69 rfl rfl sz3 rfl) ?_
            refine run_q (.on rfl rfl rfl g41) rfl rfl (q_loadF rfl one3 rfl (RdS.blkRows (rows := ([c0, c1, c2, c3].map Pt.enc)) Sel.here (.cons rfl (.cons rfl (.cons rfl (.cons rfl (.cons rfl (.cons rfl (.cons rfl (.cons rfl CellsAt.nil)))))))) (fun r hr => by obtain ⟨p, _, rfl⟩ := List.mem_map.1 hr; rfl)) (getmap (by show i < 4; omega)) rfl) ?_
            refine run_q (.on rfl rfl rfl g41) rfl rfl (q_call rfl call31 (.cons rfl (.cons rfl (.cons rfl Evs.nil))) (fun w hk hm => in_just _ _ _ w)) ?_
            refine run_q (.on rfl rfl rfl g41) rfl rfl (q_not rfl rfl) ?_
            refine run_q (.none rfl) rfl rfl (q_pickF rfl rfl g41 rfl) ?_
            refine run_q (.none rfl) rfl rfl (q_move rfl rfl) ?_
            refine run_split 49 rfl (fun g49 => ?_) (fun g49 => ?_)
            · have g49' := g49
              try simp only [decide_eq_true_eq, decide_eq_false_iff_not, beq_iff_eq, beq_eq_false_iff_ne, bne_iff_ne, bne_eq_false_iff_eq, Bool.not_eq_true', Bool.not_eq_false', ne_eq, Int.not_lt, Int.not_le, Decidable.not_not] at g49'
              refine run_off (.no rfl rfl rfl g49) rfl rfl ?_
              refine run_off (.no rfl rfl rfl g49) rfl rfl ?_
              refine run_off (.no rfl rfl rfl g49) rfl rfl ?_
              refine run_off (.no rfl rfl rfl g49) rfl rfl ?_
              refine run_off (.no rfl rfl rfl g49) rfl rfl ?_
              refine run_off (.no rfl rfl rfl g49) rfl rfl ?_
              refine run_q (.none rfl) rfl rfl (q_pickT rfl rfl g49 rfl) ?_
              refine run_q (.none rfl) rfl rfl (q_assign rfl rfl) ?_
              refine run_nil ?_
              refine run_sub (subMk (.cons (s := 1) rfl (.cons (s := 2) rfl (.cons (s := 4) rfl (.cons (s := 5) rfl (.cons (s := 6) rfl (.cons (s := 7) rfl (.cons (s := 8) rfl .nil))))))) .refl) ?_
              refine run_blk ?_
              refine run_region ?_
              refine run_q (.none rfl) rfl rfl (q_move rfl rfl) ?_
              refine run_q (.none rfl) rfl rfl (q_add rfl rfl rfl (by omega)) ?_
              refine run_q (.none rfl) rfl rfl (q_assign rfl rfl) ?_
              refine run_nil ?_
              exact run_again (i + 1) (by (try dsimp only); exact (by omega)) (by (try dsimp only); omega) (subMk (.cons' (s := 8) rfl (vint (by omega)) (.cons' (s := 7) rfl (congrArg Value.bool (wB_2 g41 g49).symm) (.cons (s := 1) rfl (.cons (s := 2) rfl (.cons (s := 4) rfl (.cons (s := 5) rfl (.cons (s := 6) rfl .nil))))))) (.cons Sel.here .refl .nil))
            · have g49' := g49
              try simp only [decide_eq_true_eq, decide_eq_false_iff_not, beq_iff_eq, beq_eq_false_iff_ne, bne_iff_ne, bne_eq_false_iff_eq, Bool.not_eq_true', Bool.not_eq_false', ne_eq, Int.not_lt, Int.not_le, Decidable.not_not] at g49'
              refine run_q (.on rfl rfl rfl g49) rfl rfl (q_move rfl rfl) ?_
              refine run_q (.on rfl rfl rfl g49) rfl rfl (q_indexBDN (q := i) rfl Try.underlying70 sz69 rfl rfl rfl (by omega)) ?_
              refine run_q (.on rfl rfl rfl g49) rfl rfl (q_fieldAddr (d := 1) rfl Try.underlying69 rfl rfl sz3 rfl) ?_
              refine run_q (.on rfl rfl rfl g49) rfl rfl (q_loadF rfl one3 rfl (RdS.blkRows (rows := ([c0, c1, c2, c3].map Pt.enc)) Sel.here (.cons rfl (.cons rfl (.cons rfl (.cons rfl (.cons rfl (.cons rfl (.cons rfl (.cons rfl CellsAt.nil)))))))) (fun r hr => by obtain ⟨p, _, rfl⟩ := List.mem_map.1 hr; rfl)) (getmap (by show i < 4; omega)) rfl) ?_
              refine run_q (.on rfl rfl rfl g49) rfl rfl (q_call rfl call31 (.cons rfl (.cons rfl (.cons rfl Evs.nil))) (fun w hk hm => in_just _ _ _ w)) ?_
              refine run_q (.on rfl rfl rfl g49) rfl rfl (q_not rfl rfl) ?_
              refine run_q (.none rfl) rfl rfl (q_pickF rfl rfl g49 rfl) ?_
              refine run_q (.none rfl) rfl rfl (q_assign rfl rfl) ?_
              refine run_nil ?_
              refine run_sub (subMk (.cons (s := 1) rfl (.cons (s := 2) rfl (.cons (s := 4) rfl (.cons (s := 5) rfl (.cons (s := 6) rfl (.cons (s := 7) rfl (.cons (s := 8) rfl .nil))))))) .refl) ?_
              refine run_blk ?_
              refine run_region ?_
              refine run_q (.none rfl) rfl rfl (q_move rfl rfl) ?_
              refine run_q (.none rfl) rfl rfl (q_add rfl rfl rfl (by omega)) ?_
              refine run_q (.none rfl) rfl rfl (q_assign rfl rfl) ?_
              refine run_nil ?_
              exact run_again (i + 1) (by (try dsimp only); exact (by omega)) (by (try dsimp only); omega) (subMk (.cons' (s := 8) rfl (vint (by omega)) (.cons' (s := 7) rfl (congrArg Value.bool (wB_3 g41 g49).symm) (.cons (s := 1) rfl (.cons (s := 2) rfl (.cons (s := 4) rfl (.cons (s := 5) rfl (.cons (s := 6) rfl .nil))))))) (.cons Sel.here .refl .nil))
        · have g37' := g37
          try simp only [decide_eq_true_eq, decide_eq_false_iff_not, beq_iff_eq, beq_eq_false_iff_ne, bne_iff_ne, bne_eq_false_iff_eq, Bool.not_eq_true', Bool.not_eq_false', ne_eq, Int.not_lt, Int.not_le, Decidable.not_not] at g37'
          refine run_exit rfl ?_
          refine run_sub (subMk (.cons (s := 1) rfl (.cons (s := 2) rfl (.cons (s := 4) rfl (.cons (s := 5) rfl (.cons (s := 6) rfl (.cons (s := 7) rfl .nil)))))) .refl) ?_
          refine run_seq ?_
          refine run_seq ?_
          refine run_region ?_
          refine run_q (.none rfl) rfl rfl (q_move rfl rfl) ?_
          refine run_nil ?_
          refine run_condT rfl (by cases h : wB n [c0, c1, c2, c3] i with | true => rfl | false => exact absurd hbad (fun hb => hb.elim (fun h1 => h1 (wB_not h).1) fun ⟨j, hj, h2⟩ => h2 ((wB_not h).2 j (by omega)))) ?_
          refine run_seq ?_
          refine run_region ?_
          refine run_q (.none rfl) rfl rfl (q_move rfl rfl) ?_
          refine run_q (.none rfl) rfl rfl (q_len rfl Try.underlying71 rfl) ?_
          refine run_q (.none rfl) rfl rfl (q_eql rfl rfl rfl) ?_
          refine run_q (.none rfl) rfl rfl (q_move rfl rfl) ?_
          refine run_q (.on rfl rfl rfl rfl) rfl rfl (q_move rfl rfl) ?_
          refine run_q (.on rfl rfl rfl rfl) rfl rfl (q_eql rfl rfl rfl) ?_
          refine run_q (.none rfl) rfl rfl (q_pickT rfl rfl rfl rfl) ?_
          refine run_q (.none rfl) rfl rfl (q_assign rfl rfl) ?_
          refine run_nil ?_
          refine run_sub (subMk (.cons (s := 1) rfl (.cons (s := 2) rfl (.cons (s := 4) rfl (.cons (s := 5) rfl (.cons (s := 6) rfl .nil))))) .refl) ?_
          refine run_ret ?_
          exact end1 rfl rfl rfl
      · have g32' := g32
        try simp only [decide_eq_true_eq, decide_eq_false_iff_not, beq_iff_eq, beq_eq_false_iff_ne, bne_iff_ne, bne_eq_false_iff_eq, Bool.not_eq_true', Bool.not_eq_false', ne_eq, Int.not_lt, Int.not_le, Decidable.not_not] at g32'
        refine run_q (.on rfl rfl rfl g32) rfl rfl (q_move rfl rfl) ?_
        refine run_q (.on rfl rfl rfl g32) rfl rfl (q_gtr rfl rfl rfl) ?_
        refine run_q (.none rfl) rfl rfl (q_pickF rfl rfl g32 rfl) ?_
        refine run_q (.none rfl) rfl rfl (q_assign rfl rfl) ?_
        refine run_nil ?_
        refine run_sub (subMk (.cons (s := 1) rfl (.cons (s := 2) rfl (.cons (s := 4) rfl (.cons (s := 5) rfl (.cons (s := 6) rfl (.cons (s := 7) rfl .nil)))))) .refl) ?_
        refine run_seq ?_
        refine run_seq ?_
        refine run_region ?_
        refine run_q (.none rfl) rfl rfl (q_assign rfl rfl) ?_
        refine run_nil ?_
        refine run_block ?_
        refine run_sub (subMk (.cons (s := 8) rfl (.cons (s := 7) rfl (.cons (s := 1) rfl (.cons (s := 2) rfl (.cons (s := 4) rfl (.cons (s := 5) rfl (.cons (s := 6) rfl .nil))))))) (.cons Sel.here .refl .nil)) ?_
        refine run_loopC2M0 (ι := Nat) (fun i => i ≤ 4) (fun i => .int .i64 (i : Int)) (fun i => .bool (wB n [c0, c1, c2, c3] i))  (fun i => 4 - i) 0 (by (try dsimp only); exact (by omega)) rfl (congrArg Value.bool (by rw [wB, Bool.eq_iff_iff]; simp only [decide_eq_true_eq]; omega))  ?_
        rintro i hi
        (try dsimp only at hi)
        show Run _ _ _ _ _ _ _ ⟨(8, .int .i64 (i : Int)) :: (7, .bool (wB n [c0, c1, c2, c3] i)) :: _, _⟩
        refine run_seq ?_
        refine run_seq ?_
        refine run_region ?_
        refine run_q (.none rfl) rfl rfl (q_move rfl rfl) ?_
        refine run_q (.none rfl) rfl rfl (q_lss rfl rfl rfl) ?_
        refine run_nil ?_
        refine run_cond rfl (fun g37 => ?_) (fun g37 => ?_)
        · have g37' := g37
          try simp only [decide_eq_true_eq, decide_eq_false_iff_not, beq_iff_eq, beq_eq_false_iff_ne, bne_iff_ne, bne_eq_false_iff_eq, Bool.not_eq_true', Bool.not_eq_false', ne_eq, Int.not_lt, Int.not_le, Decidable.not_not] at g37'
          refine run_skip ?_
          refine run_seq ?_
          refine run_block ?_
          refine run_region ?_
          refine run_q (.none rfl) rfl rfl (q_move rfl rfl) ?_
          refine run_q (.none rfl) rfl rfl (q_move rfl rfl) ?_
          refine run_split 41 rfl (fun g41 => ?_) (fun g41 => ?_)
          · have g41' := g41
            try simp only [decide_eq_true_eq, decide_eq_false_iff_not, beq_iff_eq, beq_eq_false_iff_ne, bne_iff_ne, bne_eq_false_iff_eq, Bool.not_eq_true', Bool.not_eq_false', ne_eq, Int.not_lt, Int.not_le, Decidable.not_not] at g41'
            refine run_off (.no rfl rfl rfl g41) rfl rfl ?_
            refine run_off (.no rfl rfl rfl g41) rfl rfl ?_
            refine run_off (.no rfl rfl rfl g41) rfl rfl ?_
            refine run_off (.no rfl rfl rfl g41) rfl rfl ?_
            refine run_off (.no rfl rfl rfl g41) rfl rfl ?_
            refine run_off (.no rfl rfl rfl g41) rfl rfl ?_
            refine run_q (.none rfl) rfl rfl (q_pickT rfl rfl g41 rfl) ?_
            refine run_q (.none rfl) rfl rfl (q_move rfl rfl) ?_
            refine run_off (.no rfl rfl rfl rfl) rfl rfl ?_
            refine run_off (.no rfl rfl rfl rfl) rfl rfl ?_
            refine run_off (.no rfl rfl rfl rfl) rfl rfl ?_
            refine run_off (.no rfl rfl rfl rfl) rfl rfl ?_
            refine run_off (.no rfl rfl rfl rfl) rfl rfl ?_
            refine run_off (.no rfl rfl rfl rfl) rfl rfl ?_
            refine run_q (.none rfl) rfl rfl (q_pickT rfl rfl rfl rfl) ?_
            refine run_q (.none rfl) rfl rfl (q_assign rfl rfl) ?_
            refine run_nil ?_
            refine run_sub (subMk (.cons (s := 1) rfl (.cons (s := 2) rfl (.cons (s := 4) rfl (.cons (s := 5) rfl (.cons (s := 6) rfl (.cons (s := 7) rfl (.cons (s := 8) rfl .nil))))))) .refl) ?_
            refine run_blk ?_
            refine run_region ?_
            refine run_q (.none rfl) rfl rfl (q_move rfl rfl) ?_
            refine run_q (.none rfl) rfl rfl (q_add rfl rfl rfl (by omega)) ?_
            refine run_q (.none rfl) rfl rfl (q_assign rfl rfl) ?_
            refine run_nil ?_
            exact run_again (i + 1) (by (try dsimp only); exact (by omega)) (by (try dsimp only); omega) (subMk (.cons' (s := 8) rfl (vint (by omega)) (.cons' (s := 7) rfl (congrArg Value.bool (wB_1 g41).symm) (.cons (s := 1) rfl (.cons (s := 2) rfl (.cons (s := 4) rfl (.cons (s := 5) rfl (.cons (s := 6) rfl .nil))))))) (.cons Sel.here .refl .nil))
          · have g41' := g41
            try simp only [decide_eq_true_eq, decide_eq_false_iff_not, beq_iff_eq, beq_eq_false_iff_ne, bne_iff_ne, bne_eq_false_iff_eq, Bool.not_eq_true', Bool.not_eq_false', ne_eq, Int.not_lt, Int.not_le, Decidable.not_not] at g41'
            refine run_q (.on rfl rfl rfl g41) rfl rfl (q_move rfl rfl) ?_
            refine run_q (.on rfl rfl rfl g41) rfl rfl (q_indexBDN (q := i) rfl Try.underlying70 sz69 rfl rfl rfl (by omega)) ?_
            refine run_q (.on rfl rfl rfl g41) rfl rfl (q_fieldAddr (d := 0) rfl Try.underlying69 rfl rfl sz3 rfl) ?_
            refine run_q (.on rfl rfl rfl g41) rfl rfl (q_loadF rfl one3 rfl (RdS.blkRows (rows := ([c0, c1, c2, c3].map Pt.enc)) Sel.here (.cons rfl (.cons rfl (.cons rfl (.cons rfl (.cons rfl (.cons rfl (.cons rfl (.cons rfl CellsAt.nil)))))))) (fun r hr => by obtain ⟨p, _, rfl⟩ := List.mem_map.1 hr; rfl)) (getmap (by show i < 4; omega)) rfl) ?_
            refine run_q (.on rfl rfl rfl g41) rfl rfl (q_call rfl call31 (.cons rfl (.cons rfl (.cons rfl Evs.nil))) (fun w hk hm => in_just _ _ _ w)) ?_
            refine run_q (.on rfl rfl rfl g41) rfl rfl (q_not rfl rfl) ?_
            refine run_q (.none rfl) rfl rfl (q_pickF rfl rfl g41 rfl) ?_
            refine run_q (.none rfl) rfl rfl (q_move rfl rfl) ?_
            refine run_split 49 rfl (fun g49 => ?_) (fun g49 => ?_)
            · have g49' := g49
              try simp only [decide_eq_true_eq, decide_eq_false_iff_not, beq_iff_eq, beq_eq_false_iff_ne, bne_iff_ne, bne_eq_false_iff_eq, Bool.not_eq_true', Bool.not_eq_false', ne_eq, Int.not_lt, Int.not_le, Decidable.not_not] at g49'
              refine run_off (.no rfl rfl rfl g49) rfl rfl ?_
              refine run_off (.no rfl rfl rfl g49) rfl rfl ?_
              refine run_off (.no rfl rfl rfl g49) rfl rfl ?_
              refine run_off (.no rfl rfl rfl g49) rfl rfl ?_
              refine run_off (.no rfl rfl rfl g49) rfl rfl ?_
              refine run_off (.no rfl rfl rfl g49) rfl rfl ?_
              refine run_q (.none rfl) rfl rfl (q_pickT rfl rfl g49 rfl) ?_
              refine run_q (.none rfl) rfl rfl (q_assign rfl rfl) ?_
              refine run_nil ?_
              refine run_sub (subMk (.cons (s := 1) rfl (.cons (s := 2) rfl (.cons (s := 4) rfl (.cons (s := 5) rfl (.cons (s := 6) rfl (.cons (s := 7) rfl (.cons (s := 8) rfl .nil))))))) .refl) ?_
              refine run_blk ?_
              refine run_region ?_
              refine run_q (.none rfl) rfl rfl (q_move rfl rfl) ?_
              refine run_q (.none rfl) rfl rfl (q_add rfl rfl rfl (by omega)) ?_
              refine run_q (.none rfl) rfl rfl (q_assign rfl rfl) ?_
              refine run_nil ?_
              exact run_again (i + 1) (by (try dsimp only); exact (by omega)) (by (try dsimp only); omega) (subMk (.cons' (s := 8) rfl (vint (by omega)) (.cons' (s := 7) rfl (congrArg Value.bool (wB_2 g41 g49).symm) (.cons (s := 1) rfl (.cons (s := 2) rfl (.cons (s := 4) rfl (.cons (s := 5) rfl (.cons (s := 6) rfl .nil))))))) (.cons Sel.here .refl .nil))
            · have g49' := g49
              try simp only [decide_eq_true_eq, decide_eq_false_iff_not, beq_iff_eq, beq_eq_false_iff_ne, bne_iff_ne, bne_eq_false_iff_eq, Bool.not_eq_true', Bool.not_eq_false', ne_eq, Int.not_lt, Int.not_le, Decidable.not_not] at g49'
              refine run_q (.on rfl rfl rfl g49) rfl rfl (q_move rfl rfl) ?_
              refine run_q (.on rfl rfl rfl g49) rfl rfl (q_indexBDN (q := i) rfl Try.underlying70 sz69 rfl rfl rfl (by omega)) ?_
              refine run_q (.on rfl rfl rfl g49) rfl rfl (q_fieldAddr (d := 1) rfl Try.underlying69 rfl rfl sz3 rfl) ?_
              refine run_q (.on rfl rfl rfl g49) rfl rfl (q_loadF rfl one3 rfl (RdS.blkRows (rows := ([c0, c1, c2, c3].map Pt.enc)) Sel.here (.cons rfl (.cons rfl (.cons rfl (.cons rfl (.cons rfl (.cons rfl (.cons rfl (.cons rfl CellsAt.nil)))))))) (fun r hr => by obtain ⟨p, _, rfl⟩ := List.mem_map.1 hr; rfl)) (getmap (by show i < 4; omega)) rfl) ?_
              refine run_q (.on rfl rfl rfl g49) rfl rfl (q_call rfl call31 (.cons rfl (.cons rfl (.cons rfl Evs.nil))) (fun w hk hm => in_just _ _ _ w)) ?_
              refine run_q (.on rfl rfl rfl g49) rfl rfl (q_not rfl rfl) ?_
              refine run_q (.none rfl) rfl rfl (q_pickF rfl rfl g49 rfl) ?_
              refine run_q (.none rfl) rfl rfl (q_assign rfl rfl) ?_
              refine run_nil ?_
              refine run_sub (subMk (.cons (s := 1) rfl (.cons (s := 2) rfl (.cons (s := 4) rfl (.cons (s := 5) rfl (.cons (s := 6) rfl (.cons (s := 7) rfl (.cons (s := 8) rfl .nil))))))) .refl) ?_
              refine run_blk ?_
              refine run_region ?_
              refine run_q (.none rfl) rfl rfl (q_move rfl rfl) ?_
              refine run_q (.none rfl) rfl rfl (q_add rfl rfl rfl (by omega)) ?_
              refine run_q (.none rfl) rfl rfl (q_assign rfl rfl) ?_
              refine run_nil ?_
              exact run_again (i + 1) (by (try dsimp only); exact (by omega)) (by (try dsimp only); omega) (subMk (.cons' (s := 8) rfl (vint (by omega)) (.cons' (s := 7) rfl (congrArg Value.bool (wB_3 g41 g49).symm) (.cons (s := 1) rfl (.cons (s := 2) rfl (.cons (s := 4) rfl (.cons (s := 5) rfl (.cons (s := 6) rfl .nil))))))) (.cons Sel.here .refl .nil))
        · have g37' := g37
          try simp only [decide_eq_true_eq, decide_eq_false_iff_not, beq_iff_eq, beq_eq_false_iff_ne, bne_iff_ne, bne_eq_false_iff_eq, Bool.not_eq_true', Bool.not_eq_false', ne_eq, Int.not_lt, Int.not_le, Decidable.not_not] at g37'
          refine run_exit rfl ?_
          refine run_sub (subMk (.cons (s := 1) rfl (.cons (s := 2) rfl (.cons (s := 4) rfl (.cons (s := 5) rfl (.cons (s := 6) rfl (.cons (s := 7) rfl .nil)))))) .refl) ?_
          refine run_seq ?_
          refine run_seq ?_
          refine run_region ?_
          refine run_q (.none rfl) rfl rfl (q_move rfl rfl) ?_
          refine run_nil ?_
          refine run_condT rfl (by cases h : wB n [c0, c1, c2, c3] i with | true => rfl | false => exact absurd hbad (fun hb => hb.elim (fun h1 => h1 (wB_not h).1) fun ⟨j, hj, h2⟩ => h2 ((wB_not h).2 j (by omega)))) ?_
          refine run_seq ?_
          refine run_region ?_
          refine run_q (.none rfl) rfl rfl (q_move rfl rfl) ?_
          refine run_q (.none rfl) rfl rfl (q_len rfl Try.underlying71 rfl) ?_
          refine run_q (.none rfl) rfl rfl (q_eql rfl rfl rfl) ?_
          refine run_q (.none rfl) rfl rfl (q_move rfl rfl) ?_
          refine run_q (.on rfl rfl rfl rfl) rfl rfl (q_move rfl rfl) ?_
          refine run_q (.on rfl rfl rfl rfl) rfl rfl (q_eql rfl rfl rfl) ?_
          refine run_q (.none rfl) rfl rfl (q_pickT rfl rfl rfl rfl) ?_
          refine run_q (.none rfl) rfl rfl (q_assign rfl rfl) ?_
          refine run_nil ?_
          refine run_sub (subMk (.cons (s := 1) rfl (.cons (s := 2) rfl (.cons (s := 4) rfl (.cons (s := 5) rfl (.cons (s := 6) rfl .nil))))) .refl) ?_
          refine run_ret ?_
          exact end1 rfl rfl rfl
  · have g18' := g18
    try simp only [decide_eq_true_eq, decide_eq_false_iff_not, beq_iff_eq, beq_eq_false_iff_ne, bne_iff_ne, bne_eq_false_iff_eq, Bool.not_eq_true', Bool.not_eq_false', ne_eq, Int.not_lt, Int.not_le, Decidable.not_not] at g18'
    refine run_off (.no rfl rfl rfl g18) rfl rfl ?_
    refine run_off (.no rfl rfl rfl g18) rfl rfl ?_
    refine run_q (.on rfl rfl rfl rfl) rfl rfl (q_pickF rfl rfl g18 rfl) ?_
    refine run_q (.none rfl) rfl rfl (q_pickF rfl rfl rfl rfl) ?_
    refine run_nil ?_
    refine run_sub (subMk (.cons (s := 1) rfl (.cons (s := 2) rfl (.cons (s := 4) rfl (.cons (s := 22) rfl .nil)))) .refl) ?_
    refine run_condF rfl rfl ?_
    refine run_skip ?_
    refine run_seq ?_
    refine run_region ?_
    refine run_q (.none rfl) rfl rfl (q_loadBN rfl agg70 rfl Sel.here (.cons rfl (.cons rfl (.cons rfl (.cons rfl (.cons rfl (.cons rfl (.cons rfl (.cons rfl CellsAt.nil)))))))) rfl) ?_
    refine run_q (.none rfl) rfl rfl (q_move rfl rfl) ?_
    refine run_q (.none rfl) rfl rfl (q_call rfl call30 (.cons rfl (.cons rfl Evs.nil)) (fun w hk hm => Sample_bad c0 c1 c2 c3 n w hbad)) ?_
    refine run_q (.none rfl) rfl rfl (q_move rfl rfl) ?_
    refine run_q (.none rfl) rfl rfl (q_extract rfl rfl rfl) ?_
    refine run_q (.none rfl) rfl rfl (q_extract rfl rfl rfl) ?_
    refine run_q (.none rfl) rfl rfl (q_assign rfl rfl) ?_
    refine run_q (.none rfl) rfl rfl (q_assign rfl rfl) ?_
    refine run_nil ?_
    refine run_sub (subMk (.cons (s := 1) rfl (.cons (s := 2) rfl (.cons (s := 4) rfl (.cons (s := 5) rfl (.cons (s := 6) rfl .nil))))) .refl) ?_
    refine run_seq ?_
    refine run_region ?_
    refine run_q (.none rfl) rfl rfl (q_move rfl rfl) ?_
    refine run_q (.none rfl) rfl rfl (q_lss rfl rfl rfl) ?_
    refine run_q (.none rfl) rfl rfl (q_move rfl rfl) ?_
    refine run_split 32 rfl (fun g32 => ?_) (fun g32 => ?_)
    · have g32' := g32
      try simp only [decide_eq_true_eq, decide_eq_false_iff_not, beq_iff_eq, beq_eq_false_iff_ne, bne_iff_ne, bne_eq_false_iff_eq, Bool.not_eq_true', Bool.not_eq_false', ne_eq, Int.not_lt, Int.not_le, Decidable.not_not] at g32'
      refine run_off (.no rfl rfl rfl g32) rfl rfl ?_
      refine run_off (.no rfl rfl rfl g32) rfl rfl ?_
      refine run_q (.none rfl) rfl rfl (q_pickT rfl rfl g32 rfl) ?_
      refine run_q (.none rfl) rfl rfl (q_assign rfl rfl) ?_
      refine run_nil ?_
      refine run_sub (subMk (.cons (s := 1) rfl (.cons (s := 2) rfl (.cons (s := 4) rfl (.cons (s := 5) rfl (.cons (s := 6) rfl (.cons (s := 7) rfl .nil)))))) .refl) ?_
      refine run_seq ?_
      refine run_seq ?_
      refine run_region ?_
      refine run_q (.none rfl) rfl rfl (q_assign rfl rfl) ?_
      refine run_nil ?_
      refine run_block ?_
      refine run_sub (subMk (.cons (s := 8) rfl (.cons (s := 7) rfl (.cons (s := 1) rfl (.cons (s := 2) rfl (.cons (s := 4) rfl (.cons (s := 5) rfl (.cons (s := 6) rfl .nil))))))) (.cons Sel.here .refl .nil)) ?_
      refine run_loopC2M0 (ι := Nat) (fun i => i ≤ 4) (fun i => .int .i64 (i : Int)) (fun i => .bool (wB n [c0, c1, c2, c3] i))  (fun i => 4 - i) 0 (by (try dsimp only); exact (by omega)) rfl (congrArg Value.bool (decide_eq_true (.inl g32')).symm)  ?_
      rintro i hi
      (try dsimp only at hi)
      show Run _ _ _ _ _ _ _ ⟨(8, .int .i64 (i : Int)) :: (7, .bool (wB n [c0, c1, c2, c3] i)) :: _, _⟩
      refine run_seq ?_
      refine run_seq ?_
      refine run_region ?_
      refine run_q (.none rfl) rfl rfl (q_move rfl rfl) ?_
      refine run_q (.none rfl) rfl rfl (q_lss rfl rfl rfl) ?_
      refine run_nil ?_
      refine run_cond rfl (fun g37 => ?_) (fun g37 => ?_)
      · have g37' := g37
        try simp only [decide_eq_true_eq, decide_eq_false_iff_not, beq_iff_eq, beq_eq_false_iff_ne, bne_iff_ne, bne_eq_false_iff_eq, Bool.not_eq_true', Bool.not_eq_false', ne_eq, Int.not_lt, Int.not_le, Decidable.not_not] at g37'
        refine run_skip ?_
        refine run_seq ?_
        refine run_block ?_
        refine run_region ?_
        refine run_q (.none rfl) rfl rfl (q_move rfl rfl) ?_
        refine run_q (.none rfl) rfl rfl (q_move rfl rfl) ?_
        refine run_split 41 rfl (fun g41 => ?_) (fun g41 => ?_)
        · have g41' := g41
          try simp only [decide_eq_true_eq, decide_eq_false_iff_not, beq_iff_eq, beq_eq_false_iff_ne, bne_iff_ne, bne_eq_false_iff_eq, Bool.not_eq_true', Bool.not_eq_false', ne_eq, Int.not_lt, Int.not_le, Decidable.not_not] at g41'
          refine run_off (.no rfl rfl rfl g41) rfl rfl ?_
          refine run_off (.no rfl rfl rfl g41) rfl rfl ?_
          refine run_off (.no rfl rfl rfl g41) rfl rfl ?_
          refine run_off (.no rfl rfl rfl g41) rfl rfl ?_
          refine run_off (.no rfl rfl rfl g41) rfl rfl ?_
          refine run_off (.no rfl rfl rfl g41) rfl rfl ?_
          refine run_q (.none rfl) rfl rfl (q_pickT rfl rfl g41 rfl) ?_
          refine run_q (.none rfl) rfl rfl (q_move rfl rfl) ?_
          refine run_off (.no rfl rfl rfl rfl) rfl rfl ?_
          refine run_off (.no rfl rfl rfl rfl) rfl rfl ?_
          refine run_off (.no rfl rfl rfl rfl) rfl rfl ?_
          refine run_off (.no rfl rfl rfl rfl) rfl rfl ?_
          refine run_off (.no rfl rfl rfl rfl) rfl rfl ?_
          refine run_off (.no rfl rfl rfl rfl) rfl rfl ?_
          refine run_q (.none rfl) rfl rfl (q_pickT rfl rfl rfl rfl) ?_
          refine run_q (.none rfl) rfl rfl (q_assign rfl rfl) ?_
          refine run_nil ?_
          refine run_sub (subMk (.cons (s := 1) rfl (.cons (s := 2) rfl (.cons (s := 4) rfl (.cons (s := 5) rfl (.cons (s := 6) rfl (.cons (s := 7) rfl (.cons (s := 8) rfl .nil))))))) .refl) ?_
          refine run_blk ?_
          refine run_region ?_
          refine run_q (.none rfl) rfl rfl (q_move rfl rfl) ?_
          refine run_q (.none rfl) rfl rfl (q_add rfl rfl rfl (by omega)) ?_
          refine run_q (.none rfl) rfl rfl (q_assign rfl rfl) ?_
          refine run_nil ?_
          exact run_again (i + 1) (by (try dsimp only); exact (by omega)) (by (try dsimp only); omega) (subMk (.cons' (s := 8) rfl (vint (by omega)) (.cons' (s := 7) rfl (congrArg Value.bool (wB_1 g41).symm) (.cons (s := 1) rfl (.cons (s := 2) rfl (.cons (s := 4) rfl (.cons (s := 5) rfl (.cons (s := 6) rfl .nil))))))) (.cons Sel.here .refl .nil))
        · have g41' := g41
          try simp only [decide_eq_true_eq, decide_eq_false_iff_not, beq_iff_eq, beq_eq_false_iff_ne, bne_iff_ne, bne_eq_false_iff_eq, Bool.not_eq_true', Bool.not_eq_false', ne_eq, Int.not_lt, Int.not_le, Decidable.not_not] at g41'
          refine run_q (.on rfl rfl rfl g41) rfl rfl (q_move rfl rfl) ?_
          refine run_q (.on rfl rfl rfl g41) rfl rfl (q_indexBDN (q := i) rfl Try.underlying70 sz69 rfl rfl rfl (by omega)) ?_
          refine run_q (.on rfl rfl rfl g41) rfl rfl (q_fieldAddr (d := 0) rfl Try.underlying69 rfl rfl sz3 rfl) ?_
          refine run_q (.on rfl rfl rfl g41) rfl rfl (q_loadF rfl one3 rfl (RdS.blkRows (rows := ([c0, c1, c2, c3].map Pt.enc)) Sel.here (.cons rfl (.cons rfl (.cons rfl (.cons rfl (.cons rfl (.cons rfl (.cons rfl (.cons rfl CellsAt.nil)))))))) (fun r hr => by obtain ⟨p, _, rfl⟩ := List.mem_map.1 hr; rfl)) (getmap (by show i < 4; omega)) rfl) ?_
          refine run_q (.on rfl rfl rfl g41) rfl rfl (q_call rfl call31 (.cons rfl (.cons rfl (.cons rfl Evs.nil))) (fun w hk hm => in_just _ _ _ w)) ?_
          refine run_q (.on rfl rfl rfl g41) rfl rfl (q_not rfl rfl) ?_
          refine run_q (.none rfl) rfl rfl (q_pickF rfl rfl g41 rfl) ?_
          refine run_q (.none rfl) rfl rfl (q_move rfl rfl) ?_
          refine run_split 49 rfl (fun g49 => ?_) (fun g49 => ?_)
          · have g49' := g49
            try simp only [decide_eq_true_eq, decide_eq_false_iff_not, beq_iff_eq, beq_eq_false_iff_ne, bne_iff_ne, bne_eq_false_iff_eq, Bool.not_eq_true', Bool.not_eq_false', ne_eq, Int.not_lt, Int.not_le, Decidable.not_not] at g49'
            refine run_off (.no rfl rfl rfl g49) rfl rfl ?_
            refine run_off (.no rfl rfl rfl g49) rfl rfl ?_
            refine run_off (.no rfl rfl rfl g49) rfl rfl ?_
            refine run_off (.no rfl rfl rfl g49) rfl rfl ?_
            refine run_off (.no rfl rfl rfl g49) rfl rfl ?_
            refine run_off (.no rfl rfl rfl g49) rfl rfl ?_
            refine run_q (.none rfl) rfl rfl (q_pickT rfl rfl g49 rfl) ?_
            refine run_q (.none rfl) rfl rfl (q_assign rfl rfl) ?_
            refine run_nil ?_
            refine run_sub (subMk (.cons (s := 1) rfl (.cons (s := 2) rfl (.cons (s := 4) rfl (.cons (s := 5) rfl (.cons (s := 6) rfl (.cons (s := 7) rfl (.cons (s := 8) rfl .nil))))))) .refl) ?_
            refine run_blk ?_
            refine run_region ?_
            refine run_q (.none rfl) rfl rfl (q_move rfl rfl) ?_
            refine run_q (.none rfl) rfl rfl (q_add rfl rfl rfl (by omega)) ?_
            refine run_q (.none rfl) rfl rfl (q_assign rfl rfl) ?_
            refine run_nil ?_
            exact run_again (i + 1) (by (try dsimp only); exact (by omega)) (by (try dsimp only); omega) (subMk (.cons' (s := 8) rfl (vint (by omega)) (.cons' (s := 7) rfl (congrArg Value.bool (wB_2 g41 g49).symm) (.cons (s := 1) rfl (.cons (s := 2) rfl (.cons (s := 4) rfl (.cons (s := 5) rfl (.cons (s := 6) rfl .nil))))))) (.cons Sel.here .refl .nil))
          · have g49' := g49
            try simp only [decide_eq_true_eq, decide_eq_false_iff_not, beq_iff_eq, beq_eq_false_iff_ne, bne_iff_ne, bne_eq_false_iff_eq, Bool.not_eq_true', Bool.not_eq_false', ne_eq, Int.not_lt, Int.not_le, Decidable.not_not] at g49'
            refine run_q (.on rfl rfl rfl g49) rfl rfl (q_move rfl rfl) ?_
            refine run_q (.on rfl rfl rfl g49) rfl rfl (q_indexBDN (q := i) rfl Try.underlying70 sz69 rfl rfl rfl (by omega)) ?_
            refine run_q (.on rfl rfl rfl g49) rfl rfl (q_fieldAddr (d := 1) rfl Try.underlying69 rfl rfl sz3 rfl) ?_
            refine run_q (.on rfl rfl rfl g49) rfl rfl (q_loadF rfl one3 rfl (RdS.blkRows (rows := ([c0, c1, c2, c3].map Pt.enc)) Sel.here (.cons rfl (.cons rfl (.cons rfl (.cons rfl (.cons rfl (.cons rfl (.cons rfl (.cons rfl CellsAt.nil)))))))) (fun r hr => by obtain ⟨p, _, rfl⟩ := List.mem_map.1 hr; rfl)) (getmap (by show i < 4; omega)) rfl) ?_
            refine run_q (.on rfl rfl rfl g49) rfl rfl (q_call rfl call31 (.cons rfl (.cons rfl (.cons rfl Evs.nil))) (fun w hk hm => in_just _ _ _ w)) ?_
            refine run_q (.on rfl rfl rfl g49) rfl rfl (q_not rfl rfl) ?_
            refine run_q (.none rfl) rfl rfl (q_pickF rfl rfl g49 rfl) ?_
            refine run_q (.none rfl) rfl rfl (q_assign rfl rfl) ?_
            refine run_nil ?_
            refine run_sub (subMk (.cons (s := 1) rfl (.cons (s := 2) rfl (.cons (s := 4) rfl (.cons (s := 5) rfl (.cons (s := 6) rfl (.cons (s := 7) rfl (.cons (s := 8) rfl .nil))))))) .refl) ?_
            refine run_blk ?_
            refine run_region ?_
            refine run_q (.none rfl) rfl rfl (q_move rfl rfl) ?_
            refine run_q (.none rfl) rfl rfl (q_add rfl rfl rfl (by omega)) ?_
            refine run_q (.none rfl) rfl rfl (q_assign rfl rfl) ?_
            refine run_nil ?_
            exact run_again (i + 1) (by (try dsimp only); exact (by omega)) (by (try dsimp only); omega) (subMk (.cons' (s := 8) rfl (vint (by omega)) (.cons' (s := 7) rfl (congrArg Value.bool (wB_3 g41 g49).symm) (.cons (s := 1) rfl (.cons (s := 2) rfl (.cons (s := 4) rfl (.cons (s := 5) rfl (.cons (s := 6) rfl .nil))))))) (.cons Sel.here .refl .nil))
      · have g37' := g37
        try simp only [decide_eq_true_eq, decide_eq_false_iff_not, beq_iff_eq, beq_eq_false_iff_ne, bne_iff_ne, bne_eq_false_iff_eq, Bool.not_eq_true', Bool.not_eq_false', ne_eq, Int.not_lt, Int.not_le, Decidable.not_not] at g37'
        refine run_exit rfl ?_
        refine run_sub (subMk (.cons (s := 1) rfl (.cons (s := 2) rfl (.cons (s := 4) rfl (.cons (s := 5) rfl (.cons (s := 6) rfl (.cons (s := 7) rfl .nil)))))) .refl) ?_
        refine run_seq ?_
        refine run_seq ?_
        refine run_region ?_
        refine run_q (.none rfl) rfl rfl (q_move rfl rfl) ?_
        refine run_nil ?_
        refine run_condT rfl (by cases h : wB n [c0, c1, c2, c3] i with | true => rfl | false => exact absurd hbad (fun hb => hb.elim (fun h1 => h1 (wB_not h).1) fun ⟨j, hj, h2⟩ => h2 ((wB_not h).2 j (by omega)))) ?_
        refine run_seq ?_
        refine run_region ?_
        refine run_q (.none rfl) rfl rfl (q_move rfl rfl) ?_
        refine run_q (.none rfl) rfl rfl (q_len rfl Try.underlying71 rfl) ?_
        refine run_q (.none rfl) rfl rfl (q_eql rfl rfl rfl) ?_
        refine run_q (.none rfl) rfl rfl (q_move rfl rfl) ?_
        refine run_q (.on rfl rfl rfl rfl) rfl rfl (q_move rfl rfl) ?_
        refine run_q (.on rfl rfl rfl rfl) rfl rfl (q_eql rfl rfl rfl) ?_
        refine run_q (.none rfl) rfl rfl (q_pickT rfl rfl rfl rfl) ?_
        refine run_q (.none rfl) rfl rfl (q_assign rfl rfl) ?_
        refine run_nil ?_
        refine run_sub (subMk (.cons (s := 1) rfl (.cons (s := 2) rfl (.cons (s := 4) rfl (.cons (s := 5) rfl (.cons (s := 6) rfl .nil))))) .refl) ?_
        refine run_ret ?_
        exact end1 rfl rfl rfl
    · have g32' := g32
      try simp only [decide_eq_true_eq, decide_eq_false_iff_not, beq_iff_eq, beq_eq_false_iff_ne, bne_iff_ne, bne_eq_false_iff_eq, Bool.not_eq_true', Bool.not_eq_false', ne_eq, Int.not_lt, Int.not_le, Decidable.not_not] at g32'
      refine run_q (.on rfl rfl rfl g32) rfl rfl (q_move rfl rfl) ?_
      refine run_q (.on rfl rfl rfl g32) rfl rfl (q_gtr rfl rfl rfl) ?_
      refine run_q (.none rfl) rfl rfl (q_pickF rfl rfl g32 rfl) ?_
      refine run_q (.none rfl) rfl rfl (q_assign rfl rfl) ?_
      refine run_nil ?_
      refine run_sub (subMk (.cons (s := 1) rfl (.cons (s := 2) rfl (.cons (s := 4) rfl (.cons (s := 5) rfl (.cons (s := 6) rfl (.cons (s := 7) rfl .nil)))))) .refl) ?_
      refine run_seq ?_
      refine run_seq ?_
      refine run_region ?_
      refine run_q (.none rfl) rfl rfl (q_assign rfl rfl) ?_
      refine run_nil ?_
      refine run_block ?_
      refine run_sub (subMk (.cons (s := 8) rfl (.cons (s := 7) rfl (.cons (s := 1) rfl (.cons (s := 2) rfl (.cons (s := 4) rfl (.cons (s := 5) rfl (.cons (s := 6) rfl .nil))))))) (.cons Sel.here .refl .nil)) ?_
      refine run_loopC2M0 (ι := Nat) (fun i => i ≤ 4) (fun i => .int .i64 (i : Int)) (fun i => .bool (wB n [c0, c1, c2, c3] i))  (fun i => 4 - i) 0 (by (try dsimp only); exact (by omega)) rfl (congrArg Value.bool (by rw [wB, Bool.eq_iff_iff]; simp only [decide_eq_true_eq]; omega))  ?_
      rintro i hi
      (try dsimp only at hi)
      show Run _ _ _ _ _ _ _ ⟨(8, .int .i64 (i : Int)) :: (7, .bool (wB n [c0, c1, c2, c3] i)) :: _, _⟩
      refine run_seq ?_
      refine run_seq ?_
      refine run_region ?_
      refine run_q (.none rfl) rfl rfl (q_move rfl rfl) ?_
      refine run_q (.none rfl) rfl rfl (q_lss rfl rfl rfl) ?_
      refine run_nil ?_
      refine run_cond rfl (fun g37 => ?_) (fun g37 => ?_)
      · have g37' := g37
        try simp only [decide_eq_true_eq, decide_eq_false_iff_not, beq_iff_eq, beq_eq_false_iff_ne, bne_iff_ne, bne_eq_false_iff_eq, Bool.not_eq_true', Bool.not_eq_false', ne_eq, Int.not_lt, Int.not_le, Decidable.not_not] at g37'
        refine run_skip ?_
        refine run_seq ?_
        refine run_block ?_
        refine run_region ?_
        refine run_q (.none rfl) rfl rfl (q_move rfl rfl) ?_
        refine run_q (.none rfl) rfl rfl (q_move rfl rfl) ?_
        refine run_split 41 rfl (fun g41 => ?_) (fun g41 => ?_)
        · have g41' := g41
          try simp only [decide_eq_true_eq, decide_eq_false_iff_not, beq_iff_eq, beq_eq_false_iff_ne, bne_iff_ne, bne_eq_false_iff_eq, Bool.not_eq_true', Bool.not_eq_false', ne_eq, Int.not_lt, Int.not_le, Decidable.not_not] at g41'
          refine run_off (.no rfl rfl rfl g41) rfl rfl ?_
          refine run_off (.no rfl rfl rfl g41) rfl rfl ?_
          refine run_off (.no rfl rfl rfl g41) rfl rfl ?_
          refine run_off (.no rfl rfl rfl g41) rfl rfl ?_
          refine run_off (.no rfl rfl rfl g41) rfl rfl ?_
          refine run_off (.no rfl rfl rfl g41) rfl rfl ?_
          refine run_q (.none rfl) rfl rfl (q_pickT rfl rfl g41 rfl) ?_
          refine run_q (.none rfl) rfl rfl (q_move rfl rfl) ?_
          refine run_off (.no rfl rfl rfl rfl) rfl rfl ?_
          refine run_off (.no rfl rfl rfl rfl) rfl rfl ?_
          refine run_off (.no rfl rfl rfl rfl) rfl rfl ?_
          refine run_off (.no rfl rfl rfl rfl) rfl rfl ?_
          refine run_off (.no rfl rfl rfl rfl) rfl rfl ?_
          refine run_off (.no rfl rfl rfl rfl) rfl rfl ?_
          refine run_q (.none rfl) rfl rfl (q_pickT rfl rfl rfl rfl) ?_
          refine run_q (.none rfl) rfl rfl (q_assign rfl rfl) ?_
          refine run_nil ?_
          refine run_sub (subMk (.cons (s := 1) rfl (.cons (s := 2) rfl (.cons (s := 4) rfl (.cons (s := 5) rfl (.cons (s := 6) rfl (.cons (s := 7) rfl (.cons (s := 8) rfl .nil))))))) .refl) ?_
          refine run_blk ?_
          refine run_region ?_
          refine run_q (.none rfl) rfl rfl (q_move rfl rfl) ?_
          refine run_q (.none rfl) rfl rfl (q_add rfl rfl rfl (by omega)) ?_
          refine run_q (.none rfl) rfl rfl (q_assign rfl rfl) ?_
          refine run_nil ?_
          exact run_again (i + 1) (by (try dsimp only); exact (by omega)) (by (try dsimp only); omega) (subMk (.cons' (s := 8) rfl (vint (by omega)) (.cons' (s := 7) rfl (congrArg Value.bool (wB_1 g41).symm) (.cons (s := 1) rfl (.cons (s := 2) rfl (.cons (s := 4) rfl (.cons (s := 5) rfl (.cons (s := 6) rfl .nil))))))) (.cons Sel.here .refl .nil))
        · have g41' := g41
          try simp only [decide_eq_true_eq, decide_eq_false_iff_not, beq_iff_eq, beq_eq_false_iff_ne, bne_iff_ne, bne_eq_false_iff_eq, Bool.not_eq_true', Bool.not_eq_false', ne_eq, Int.not_lt, Int.not_le, Decidable.not_not] at g41'
          refine run_q (.on rfl rfl rfl g41) rfl rfl (q_move rfl rfl) ?_
          refine run_q (.on rfl rfl rfl g41) rfl rfl (q_indexBDN (q := i) rfl Try.underlying70 sz69 rfl rfl rfl (by omega)) ?_
          refine run_q (.on rfl rfl rfl g41) rfl rfl (q_fieldAddr (d := 0) rfl Try.underlying69 rfl rfl sz3 rfl) ?_
          refine run_q (.on rfl rfl rfl g41) rfl rfl (q_loadF rfl one3 rfl (RdS.blkRows (rows := ([c0, c1, c2, c3].map Pt.enc)) Sel.here (.cons rfl (.cons rfl (.cons rfl (.cons rfl (.cons rfl (.cons rfl (.cons rfl (.cons rfl CellsAt.nil)))))))) (fun r hr => by obtain ⟨p, _, rfl⟩ := List.mem_map.1 hr; rfl)) (getmap (by show i < 4; omega)) rfl) ?_
          refine run_q (.on rfl rfl rfl g41) rfl rfl (q_call rfl call31 (.cons rfl (.cons rfl (.cons rfl Evs.nil))) (fun w hk hm => in_just _ _ _ w)) ?_
          refine run_q (.on rfl rfl rfl g41) rfl rfl (q_not rfl rfl) ?_
          refine run_q (.none rfl) rfl rfl (q_pickF rfl rfl g41 rfl) ?_
          refine run_q (.none rfl) rfl rfl (q_move rfl rfl) ?_
          refine run_split 49 rfl (fun g49 => ?_) (fun g49 => ?_)
          · have g49' := g49
            try simp only [decide_eq_true_eq, decide_eq_false_iff_not, beq_iff_eq, beq_eq_false_iff_ne, bne_iff_ne, bne_eq_false_iff_eq, Bool.not_eq_true', Bool.not_eq_false', ne_eq, Int.not_lt, Int.not_le, Decidable.not_not] at g49'
            refine run_off (.no rfl rfl rfl g49) rfl rfl ?_
            refine run_off (.no rfl rfl rfl g49) rfl rfl ?_
            refine run_off (.no rfl rfl rfl g49) rfl rfl ?_
            refine run_off (.no rfl rfl rfl g49) rfl rfl ?_
            refine run_off (.no rfl rfl rfl g49) rfl rfl ?_
            refine run_off (.no rfl rfl rfl g49) rfl rfl ?_
            refine run_q (.none rfl) rfl rfl (q_pickT rfl rfl g49 rfl) ?_
            refine run_q (.none rfl) rfl rfl (q_assign rfl rfl) ?_
            refine run_nil ?_
            refine run_sub (subMk (.cons (s := 1) rfl (.cons (s := 2) rfl (.cons (s := 4) rfl (.cons (s := 5) rfl (.cons (s := 6) rfl (.cons (s := 7) rfl (.cons (s := 8) rfl .nil))))))) .refl) ?_
            refine run_blk ?_
            refine run_region ?_
            refine run_q (.none rfl) rfl rfl (q_move rfl rfl) ?_
            refine run_q (.none rfl) rfl rfl (q_add rfl rfl rfl (by omega)) ?_
            refine run_q (.none rfl) rfl rfl (q_assign rfl rfl) ?_
            refine run_nil ?_
            exact run_again (i + 1) (by (try dsimp only); exact (by omega)) (by (try dsimp only); omega) (subMk (.cons' (s := 8) rfl (vint (by omega)) (.cons' (s := 7) rfl (congrArg Value.bool (wB_2 g41 g49).symm) (.cons (s := 1) rfl (.cons (s := 2) rfl (.cons (s := 4) rfl (.cons (s := 5) rfl (.cons (s := 6) rfl .nil))))))) (.cons Sel.here .refl .nil))
          · have g49' := g49
            try simp only [decide_eq_true_eq, decide_eq_false_iff_not, beq_iff_eq, beq_eq_false_iff_ne, bne_iff_ne, bne_eq_false_iff_eq, Bool.not_eq_true', Bool.not_eq_false', ne_eq, Int.not_lt, Int.not_le, Decidable.not_not] at g49'
            refine run_q (.on rfl rfl rfl g49) rfl rfl (q_move rfl rfl) ?_
            refine run_q (.on rfl rfl rfl g49) rfl rfl (q_indexBDN (q := i) rfl Try.underlying70 sz69 rfl rfl rfl (by omega)) ?_
            refine run_q (.on rfl rfl rfl g49) rfl rfl (q_fieldAddr (d := 1) rfl Try.underlying69 rfl rfl sz3 rfl) ?_
            refine run_q (.on rfl rfl rfl g49) rfl rfl (q_loadF rfl one3 rfl (RdS.blkRows (rows := ([c0, c1, c2, c3].map Pt.enc)) Sel.here (.cons rfl (.cons rfl (.cons rfl (.cons rfl (.cons rfl (.cons rfl (.cons rfl (.cons rfl CellsAt.nil)))))))) (fun r hr => by obtain ⟨p, _, rfl⟩ := List.mem_map.1 hr; rfl)) (getmap (by show i < 4; omega)) rfl) ?_
            refine run_q (.on rfl rfl rfl g49) rfl rfl (q_call rfl call31 (.cons rfl (.cons rfl (.cons rfl Evs.nil))) (fun w hk hm => in_just _ _ _ w)) ?_
            refine run_q (.on rfl rfl rfl g49) rfl rfl (q_not rfl rfl) ?_
            refine run_q (.none rfl) rfl rfl (q_pickF rfl rfl g49 rfl) ?_
            refine run_q (.none rfl) rfl rfl (q_assign rfl rfl) ?_
            refine run_nil ?_
            refine run_sub (subMk (.cons (s := 1) rfl (.cons (s := 2) rfl (.cons (s := 4) rfl (.cons (s := 5) rfl (.cons (s := 6) rfl (.cons (s := 7) rfl (.cons (s := 8) rfl .nil))))))) .refl) ?_
            refine run_blk ?_
            refine run_region ?_
            refine run_q (.none rfl) rfl rfl (q_move rfl rfl) ?_
            refine run_q (.none rfl) rfl rfl (q_add rfl rfl rfl (by omega)) ?_
            refine run_q (.none rfl) rfl rfl (q_assign rfl rfl) ?_
            refine run_nil ?_
            exact run_again (i + 1) (by (try dsimp only); exact (by omega)) (by (try dsimp only); omega) (subMk (.cons' (s := 8) rfl (vint (by omega)) (.cons' (s := 7) rfl (congrArg Value.bool (wB_3 g41 g49).symm) (.cons (s := 1) rfl (.cons (s := 2) rfl (.cons (s := 4) rfl (.cons (s := 5) rfl (.cons (s := 6) rfl .nil))))))) (.cons Sel.here .refl .nil))
      · have g37' := g37
        try simp only [decide_eq_true_eq, decide_eq_false_iff_not, beq_iff_eq, beq_eq_false_iff_ne, bne_iff_ne, bne_eq_false_iff_eq, Bool.not_eq_true', Bool.not_eq_false', ne_eq, Int.not_lt, Int.not_le, Decidable.not_not] at g37'
        refine run_exit rfl ?_
        refine run_sub (subMk (.cons (s := 1) rfl (.cons (s := 2) rfl (.cons (s := 4) rfl (.cons (s := 5) rfl (.cons (s := 6) rfl (.cons (s := 7) rfl .nil)))))) .refl) ?_
        refine run_seq ?_
        refine run_seq ?_
        refine run_region ?_
        refine run_q (.none rfl) rfl rfl (q_move rfl rfl) ?_
        refine run_nil ?_
        refine run_condT rfl (by cases h : wB n [c0, c1, c2, c3] i with | true => rfl | false => exact absurd hbad (fun hb => hb.elim (fun h1 => h1 (wB_not h).1) fun ⟨j, hj, h2⟩ => h2 ((wB_not h).2 j (by omega)))) ?_
        refine run_seq ?_
        refine run_region ?_
        refine run_q (.none rfl) rfl rfl (q_move rfl rfl) ?_
        refine run_q (.none rfl) rfl rfl (q_len rfl Try.underlying71 rfl) ?_
        refine run_q (.none rfl) rfl rfl (q_eql rfl rfl rfl) ?_
        refine run_q (.none rfl) rfl rfl (q_move rfl rfl) ?_
        refine run_q (.on rfl rfl rfl rfl) rfl rfl (q_move rfl rfl) ?_
        refine run_q (.on rfl rfl rfl rfl) rfl rfl (q_eql rfl rfl rfl) ?_
        refine run_q (.none rfl) rfl rfl (q_pickT rfl rfl rfl rfl) ?_
        refine run_q (.none rfl) rfl rfl (q_assign rfl rfl) ?_
        refine run_nil ?_
        refine run_sub (subMk (.cons (s := 1) rfl (.cons (s := 2) rfl (.cons (s := 4) rfl (.cons (s := 5) rfl (.cons (s := 6) rfl .nil))))) .refl) ?_
        refine run_ret ?_
        exact end1 rfl rfl rfl

set_option maxHeartbeats 2000000 in
set_option maxRecDepth 100000 in
theorem law10_ok (c0 c1 c2 c3 : Pt) (n : Nat) (W : World) (hn : 1 ≤ n ∧ n ≤ 256) (hC : ∀ j, j < 4 → okP (nth [c0, c1, c2, c3] j)) : Calls Try.prog 10 #[.agg #[.int .i64 c0.x, .int .i64 c0.y, .int .i64 c1.x, .int .i64 c1.y, .int .i64 c2.x, .int .i64 c2.y, .int .i64 c3.x, .int .i64 c3.y], .int .i64 (n : Int)] W (Hr.Just W (.bool true)) := by
  have hn' : 0 ≤ (n : Int) ∧ (n : Int) ≤ 256 := by omega
  have hnn := mulb hn' hn'
  have hnnn := mulb hnn hn'
  have hn1 : 1 ≤ (n : Int) * n := by have := Int.mul_le_mul (show (1 : Int) ≤ n by omega) (show (1 : Int) ≤ n by omega) (by decide) (by omega); omega
  have hn3 : 1 ≤ (n : Int) * n * n := by have := Int.mul_le_mul hn1 (show (1 : Int) ≤ n by omega) (by decide) (by omega); omega
  have o0 : okP c0 := hC 0 (by omega)
  have o1 : okP c1 := hC 1 (by omega)
  have o2 : okP c2 := hC 2 (by omega)
  have o3 : okP c3 := hC 3 (by omega)
  refine Just.of_ret ?_
  refine enterA (X := nX) (vs := [.agg #[.int .i64 c0.x, .int .i64 c0.y, .int .i64 c1.x, .int .i64 c1.y, .int .i64 c2.x, .int .i64 c2.y, .int .i64 c3.x, .int .i64 c3.y], .int .i64 (n : Int)]) Try.func10 Try.ntmps10 rfl rfl Mem.nil ?_
  refine run_seq ?_
  refine run_region ?_
  refine run_h (.none rfl) (h_box rfl rfl rfl rfl rfl) ?_
  rintro b2 -
  refine run_q (.none rfl) rfl rfl (q_assign rfl rfl) ?_
  refine run_nil ?_
  refine run_seq ?_
  refine run_seq ?_
  refine run_region ?_
  refine run_q (.none rfl) rfl rfl (q_call rfl call12 Evs.nil (fun w hk hm => known_just w)) ?_
  refine run_q (.none rfl) rfl rfl (q_not rfl rfl) ?_
  refine run_q (.none rfl) rfl rfl (q_move rfl rfl) ?_
  refine run_q (.on rfl rfl rfl rfl) rfl rfl (q_move rfl rfl) ?_
  refine run_q (.on rfl rfl rfl rfl) rfl rfl (q_gtr rfl rfl rfl) ?_
  refine run_q (.on rfl rfl rfl rfl) rfl rfl (q_move rfl rfl) ?_
  refine run_off (.no rfl rfl rfl (decide_eq_false (by omega))) rfl rfl ?_
  refine run_off (.no rfl rfl rfl (decide_eq_false (by omega))) rfl rfl ?_
  refine run_q (.on rfl rfl rfl rfl) rfl rfl (q_pickF rfl rfl (decide_eq_false (by omega)) rfl) ?_
  refine run_q (.none rfl) rfl rfl (q_pickF rfl rfl rfl rfl) ?_
  refine run_nil ?_
  refine run_sub (subMk (.cons (s := 1) rfl (.cons (s := 2) rfl (.cons (s := 4) rfl (.cons (s := 22) rfl .nil)))) .refl) ?_
  refine run_condF rfl rfl ?_
  refine run_skip ?_
  refine run_seq ?_
  refine run_region ?_
  refine run_q (.none rfl) rfl rfl (q_loadBN rfl agg70 rfl Sel.here (.cons rfl (.cons rfl (.cons rfl (.cons rfl (.cons rfl (.cons rfl (.cons rfl (.cons rfl CellsAt.nil)))))))) rfl) ?_
  refine run_q (.none rfl) rfl rfl (q_move rfl rfl) ?_
  refine run_h (.none rfl) (h_call rfl rfl rfl call30 (.cons rfl (.cons rfl Evs.nil)) (fun w hk hm => Sample_ok c0 c1 c2 c3 n w hn hC)) ?_
  rintro ⟨v, m⟩ ⟨O, co, rfl, rfl⟩
  show Run _ _ _ _ _ _ _ ⟨(27, .tuple #[.slice O (n + 1) co, .int .i64 0]) :: _, _ :: _⟩
  refine run_q (.none rfl) rfl rfl (q_move rfl rfl) ?_
  refine run_q (.none rfl) rfl rfl (q_extract rfl rfl rfl) ?_
  refine run_q (.none rfl) rfl rfl (q_extract rfl rfl rfl) ?_
  refine run_q (.none rfl) rfl rfl (q_assign rfl rfl) ?_
  refine run_q (.none rfl) rfl rfl (q_assign rfl rfl) ?_
  refine run_nil ?_
  refine run_sub (subMk (.cons (s := 1) rfl (.cons (s := 2) rfl (.cons (s := 4) rfl (.cons (s := 5) rfl (.cons (s := 6) rfl .nil))))) .refl) ?_
  refine run_seq ?_
  refine run_region ?_
  refine run_q (.none rfl) rfl rfl (q_move rfl rfl) ?_
  refine run_q (.none rfl) rfl rfl (q_lss rfl rfl rfl) ?_
  refine run_q (.none rfl) rfl rfl (q_move rfl rfl) ?_
  refine run_q (.on rfl rfl rfl (decide_eq_false (by omega))) rfl rfl (q_move rfl rfl) ?_
  refine run_q (.on rfl rfl rfl (decide_eq_false (by omega))) rfl rfl (q_gtr rfl rfl rfl) ?_
  refine run_q (.none rfl) rfl rfl (q_pickF rfl rfl (decide_eq_false (by omega)) rfl) ?_
  refine run_q (.none rfl) rfl rfl (q_assign rfl rfl) ?_
  refine run_nil ?_
  refine run_sub (subMk (.cons (s := 1) rfl (.cons (s := 2) rfl (.cons (s := 4) rfl (.cons (s := 5) rfl (.cons (s := 6) rfl (.cons (s := 7) rfl .nil)))))) .refl) ?_
  refine run_seq ?_
  refine run_seq ?_
  refine run_region ?_
  refine run_q (.none rfl) rfl rfl (q_assign rfl rfl) ?_
  refine run_nil ?_
  refine run_block ?_
  refine run_sub (subMk (.cons (s := 8) rfl (.cons (s := 7) rfl (.cons (s := 1) rfl (.cons (s := 2) rfl (.cons (s := 4) rfl (.cons (s := 5) rfl (.cons (s := 6) rfl .nil))))))) (.cons Sel.here .refl (.cons Sel.here .refl .nil))) ?_
  refine run_loopC2M0 (ι := Nat) (fun i => i ≤ 4) (fun i => .int .i64 (i : Int)) (fun i => .bool (wB (n : Int) [c0, c1, c2, c3] i))  (fun i => 4 - i) 0 (by (try dsimp only); exact (by omega)) rfl (congrArg Value.bool (by rw [wB, Bool.eq_iff_iff]; simp only [decide_eq_true_eq]; omega))  ?_
  rintro i hi
  (try dsimp only at hi)
  show Run _ _ _ _ _ _ _ ⟨(8, .int .i64 (i : Int)) :: (7, .bool (wB (n : Int) [c0, c1, c2, c3] i)) :: _, _⟩
  refine run_seq ?_
  refine run_seq ?_
  refine run_region ?_
  refine run_q (.none rfl) rfl rfl (q_move rfl rfl) ?_
  refine run_q (.none rfl) rfl rfl (q_lss rfl rfl rfl) ?_
  refine run_nil ?_
  refine run_cond rfl (fun g37 => ?_) (fun g37 => ?_)
  · have g37' := g37
    try simp only [decide_eq_true_eq, decide_eq_false_iff_not, beq_iff_eq, beq_eq_false_iff_ne, bne_iff_ne, bne_eq_false_iff_eq, Bool.not_eq_true', Bool.not_eq_false', ne_eq, Int.not_lt, Int.not_le, Decidable.not_not] at g37'
    refine run_skip ?_
    refine run_seq ?_
    refine run_block ?_
    refine run_region ?_
    refine run_q (.none rfl) rfl rfl (q_move rfl rfl) ?_
    refine run_q (.none rfl) rfl rfl (q_move rfl rfl) ?_
    refine run_split 41 rfl (fun g41 => ?_) (fun g41 => ?_)
    · have g41' := g41
      try simp only [decide_eq_true_eq, decide_eq_false_iff_not, beq_iff_eq, beq_eq_false_iff_ne, bne_iff_ne, bne_eq_false_iff_eq, Bool.not_eq_true', Bool.not_eq_false', ne_eq, Int.not_lt, Int.not_le, Decidable.not_not] at g41'
      refine run_off (.no rfl rfl rfl g41) rfl rfl ?_
      refine run_off (.no rfl rfl rfl g41) rfl rfl ?_
      refine run_off (.no rfl rfl rfl g41) rfl rfl ?_
      refine run_off (.no rfl rfl rfl g41) rfl rfl ?_
      refine run_off (.no rfl rfl rfl g41) rfl rfl ?_
      refine run_off (.no rfl rfl rfl g41) rfl rfl ?_
      refine run_q (.none rfl) rfl rfl (q_pickT rfl rfl g41 rfl) ?_
      refine run_q (.none rfl) rfl rfl (q_move rfl rfl) ?_
      refine run_off (.no rfl rfl rfl rfl) rfl rfl ?_
      refine run_off (.no rfl rfl rfl rfl) rfl rfl ?_
      refine run_off (.no rfl rfl rfl rfl) rfl rfl ?_
      refine run_off (.no rfl rfl rfl rfl) rfl rfl ?_
      refine run_off (.no rfl rfl rfl rfl) rfl rfl ?_
      refine run_off (.no rfl rfl rfl rfl) rfl rfl ?_
      refine run_q (.none rfl) rfl rfl (q_pickT rfl rfl rfl rfl) ?_
      refine run_q (.none rfl) rfl rfl (q_assign rfl rfl) ?_
      refine run_nil ?_
      refine run_sub (subMk (.cons (s := 1) rfl (.cons (s := 2) rfl (.cons (s := 4) rfl (.cons (s := 5) rfl (.cons (s := 6) rfl (.cons (s := 7) rfl (.cons (s := 8) rfl .nil))))))) .refl) ?_
      refine run_blk ?_
      refine run_region ?_
      refine run_q (.none rfl) rfl rfl (q_move rfl rfl) ?_
      refine run_q (.none rfl) rfl rfl (q_add rfl rfl rfl (by omega)) ?_
      refine run_q (.none rfl) rfl rfl (q_assign rfl rfl) ?_
      refine run_nil ?_
      exact run_again (i + 1) (by (try dsimp only); exact (by omega)) (by (try dsimp only); omega) (subMk (.cons' (s := 8) rfl (vint (by omega)) (.cons' (s := 7) rfl (congrArg Value.bool (wB_1 g41).symm) (.cons (s := 1) rfl (.cons (s := 2) rfl (.cons (s := 4) rfl (.cons (s := 5) rfl (.cons (s := 6) rfl .nil))))))) (.cons Sel.here .refl (.cons Sel.here .refl .nil)))
    · have g41' := g41
      try simp only [decide_eq_true_eq, decide_eq_false_iff_not, beq_iff_eq, beq_eq_false_iff_ne, bne_iff_ne, bne_eq_false_iff_eq, Bool.not_eq_true', Bool.not_eq_false', ne_eq, Int.not_lt, Int.not_le, Decidable.not_not] at g41'
      refine run_q (.on rfl rfl rfl g41) rfl rfl (q_move rfl rfl) ?_
      refine run_q (.on rfl rfl rfl g41) rfl rfl (q_indexBDN (q := i) rfl Try.underlying70 sz69 rfl rfl rfl (by omega)) ?_
      refine run_q (.on rfl rfl rfl g41) rfl rfl (q_fieldAddr (d := 0) rfl Try.underlying69 rfl rfl sz3 rfl) ?_
      refine run_q (.on rfl rfl rfl g41) rfl rfl (q_loadF rfl one3 rfl (RdS.blkRows (rows := ([c0, c1, c2, c3].map Pt.enc)) (.there Sel.here) (.cons rfl (.cons rfl (.cons rfl (.cons rfl (.cons rfl (.cons rfl (.cons rfl (.cons rfl CellsAt.nil)))))))) (fun r hr => by obtain ⟨p, _, rfl⟩ := List.mem_map.1 hr; rfl)) (getmap (by show i < 4; omega)) rfl) ?_
      refine run_q (.on rfl rfl rfl g41) rfl rfl (q_call rfl call31 (.cons rfl (.cons rfl (.cons rfl Evs.nil))) (fun w hk hm => in_just _ _ _ w)) ?_
      refine run_q (.on rfl rfl rfl g41) rfl rfl (q_not rfl rfl) ?_
      refine run_q (.none rfl) rfl rfl (q_pickF rfl rfl g41 rfl) ?_
      refine run_q (.none rfl) rfl rfl (q_move rfl rfl) ?_
      refine run_split 49 rfl (fun g49 => ?_) (fun g49 => ?_)
      · have g49' := g49
        try simp only [decide_eq_true_eq, decide_eq_false_iff_not, beq_iff_eq, beq_eq_false_iff_ne, bne_iff_ne, bne_eq_false_iff_eq, Bool.not_eq_true', Bool.not_eq_false', ne_eq, Int.not_lt, Int.not_le, Decidable.not_not] at g49'
        refine run_off (.no rfl rfl rfl g49) rfl rfl ?_
        refine run_off (.no rfl rfl rfl g49) rfl rfl ?_
        refine run_off (.no rfl rfl rfl g49) rfl rfl ?_
        refine run_off (.no rfl rfl rfl g49) rfl rfl ?_
        refine run_off (.no rfl rfl rfl g49) rfl rfl ?_
        refine run_off (.no rfl rfl rfl g49) rfl rfl ?_
        refine run_q (.none rfl) rfl rfl (q_pickT rfl rfl g49 rfl) ?_
        refine run_q (.none rfl) rfl rfl (q_assign rfl rfl) ?_
        refine run_nil ?_
        refine run_sub (subMk (.cons (s := 1) rfl (.cons (s := 2) rfl (.cons (s := 4) rfl (.cons (s := 5) rfl (.cons (s := 6) rfl (.cons (s := 7) rfl (.cons (s := 8) rfl .nil))))))) .refl) ?_
        refine run_blk ?_
        refine run_region ?_
        refine run_q (.none rfl) rfl rfl (q_move rfl rfl) ?_
        refine run_q (.none rfl) rfl rfl (q_add rfl rfl rfl (by omega)) ?_
        refine run_q (.none rfl) rfl rfl (q_assign rfl rfl) ?_
        refine run_nil ?_
        exact run_again (i + 1) (by (try dsimp only); exact (by omega)) (by (try dsimp only); omega) (subMk (.cons' (s := 8) rfl (vint (by omega)) (.cons' (s := 7) rfl (congrArg Value.bool (wB_2 g41 g49).symm) (.cons (s := 1) rfl (.cons (s := 2) rfl (.cons (s := 4) rfl (.cons (s := 5) rfl (.cons (s := 6) rfl .nil))))))) (.cons Sel.here .refl (.cons Sel.here .refl .nil)))
      · have g49' := g49
        try simp only [decide_eq_true_eq, decide_eq_false_iff_not, beq_iff_eq, beq_eq_false_iff_ne, bne_iff_ne, bne_eq_false_iff_eq, Bool.not_eq_true', Bool.not_eq_false', ne_eq, Int.not_lt, Int.not_le, Decidable.not_not] at g49'
        refine run_q (.on rfl rfl rfl g49) rfl rfl (q_move rfl rfl) ?_
        refine run_q (.on rfl rfl rfl g49) rfl rfl (q_indexBDN (q := i) rfl Try.underlying70 sz69 rfl rfl rfl (by omega)) ?_
        refine run_q (.on rfl rfl rfl g49) rfl rfl (q_fieldAddr (d := 1) rfl Try.underlying69 rfl rfl sz3 rfl) ?_
        refine run_q (.on rfl rfl rfl g49) rfl rfl (q_loadF rfl one3 rfl (RdS.blkRows (rows := ([c0, c1, c2, c3].map Pt.enc)) (.there Sel.here) (.cons rfl (.cons rfl (.cons rfl (.cons rfl (.cons rfl (.cons rfl (.cons rfl (.cons rfl CellsAt.nil)))))))) (fun r hr => by obtain ⟨p, _, rfl⟩ := List.mem_map.1 hr; rfl)) (getmap (by show i < 4; omega)) rfl) ?_
        refine run_q (.on rfl rfl rfl g49) rfl rfl (q_call rfl call31 (.cons rfl (.cons rfl (.cons rfl Evs.nil))) (fun w hk hm => in_just _ _ _ w)) ?_
        refine run_q (.on rfl rfl rfl g49) rfl rfl (q_not rfl rfl) ?_
        refine run_q (.none rfl) rfl rfl (q_pickF rfl rfl g49 rfl) ?_
        refine run_q (.none rfl) rfl rfl (q_assign rfl rfl) ?_
        refine run_nil ?_
        refine run_sub (subMk (.cons (s := 1) rfl (.cons (s := 2) rfl (.cons (s := 4) rfl (.cons (s := 5) rfl (.cons (s := 6) rfl (.cons (s := 7) rfl (.cons (s := 8) rfl .nil))))))) .refl) ?_
        refine run_blk ?_
        refine run_region ?_
        refine run_q (.none rfl) rfl rfl (q_move rfl rfl) ?_
        refine run_q (.none rfl) rfl rfl (q_add rfl rfl rfl (by omega)) ?_
        refine run_q (.none rfl) rfl rfl (q_assign rfl rfl) ?_
        refine run_nil ?_
        exact run_again (i + 1) (by (try dsimp only); exact (by omega)) (by (try dsimp only); omega) (subMk (.cons' (s := 8) rfl (vint (by omega)) (.cons' (s := 7) rfl (congrArg Value.bool (wB_3 g41 g49).symm) (.cons (s := 1) rfl (.cons (s := 2) rfl (.cons (s := 4) rfl (.cons (s := 5) rfl (.cons (s := 6) rfl .nil))))))) (.cons Sel.here .refl (.cons Sel.here .refl .nil)))
  · have g37' := g37
    try simp only [decide_eq_true_eq, decide_eq_false_iff_not, beq_iff_eq, beq_eq_false_iff_ne, bne_iff_ne, bne_eq_false_iff_eq, Bool.not_eq_true', Bool.not_eq_false', ne_eq, Int.not_lt, Int.not_le, Decidable.not_not] at g37'
    refine run_exit rfl ?_
    refine run_sub (subMk (.cons (s := 1) rfl (.cons (s := 2) rfl (.cons (s := 4) rfl (.cons (s := 5) rfl (.cons (s := 6) rfl (.cons (s := 7) rfl .nil)))))) .refl) ?_
    refine run_seq ?_
    refine run_seq ?_
    refine run_region ?_
    refine run_q (.none rfl) rfl rfl (q_move rfl rfl) ?_
    refine run_nil ?_
    refine run_condF rfl (by rw [show i = 4 from by omega]; exact wB_ok (by omega) hC) ?_
    refine run_skip ?_
    refine run_seq ?_
    refine run_seq ?_
    refine run_region ?_
    refine run_q (.none rfl) rfl rfl (q_move rfl rfl) ?_
    refine run_q (.none rfl) rfl rfl (q_neq rfl rfl rfl) ?_
    refine run_q (.none rfl) rfl rfl (q_move rfl rfl) ?_
    refine run_q (.on rfl rfl rfl rfl) rfl rfl (q_move rfl rfl) ?_
    refine run_q (.on rfl rfl rfl rfl) rfl rfl (q_len rfl Try.underlying71 rfl) ?_
    refine run_q (.on rfl rfl rfl rfl) rfl rfl (q_move rfl rfl) ?_
    refine run_q (.on rfl rfl rfl rfl) rfl rfl (q_add rfl rfl rfl (by omega)) ?_
    refine run_q (.on rfl rfl rfl rfl) rfl rfl (q_neq rfl rfl rfl) ?_
    refine run_q (.none rfl) rfl rfl (q_pickF rfl rfl rfl rfl) ?_
    refine run_nil ?_
    refine run_sub (subMk (.cons (s := 1) rfl (.cons (s := 2) rfl (.cons (s := 4) rfl (.cons (s := 5) rfl (.cons (s := 73) rfl .nil))))) .refl) ?_
    refine run_condF rfl (by simp) ?_
    refine run_skip ?_
    refine run_seq ?_
    refine run_seq ?_
    refine run_region ?_
    refine run_q (.none rfl) rfl rfl (q_assign rfl rfl) ?_
    refine run_nil ?_
    refine run_block ?_
    refine run_sub (subMk (.cons (s := 9) rfl (.cons (s := 1) rfl (.cons (s := 2) rfl (.cons (s := 4) rfl (.cons (s := 5) rfl .nil))))) (.cons Sel.here .refl (.cons Sel.here .refl .nil))) ?_
    refine run_loopC1M0 (ι := Nat) (fun k => k ≤ n + 1) (fun k => .int .i64 (k : Int))  (fun k => n + 1 - k) 0 (by (try dsimp only); exact (by omega)) rfl  ?_
    rintro k hkn
    (try dsimp only at hkn)
    show Run _ _ _ _ _ _ _ ⟨(9, .int .i64 (k : Int)) :: _, _⟩
    refine run_seq ?_
    refine run_seq ?_
    refine run_region ?_
    refine run_q (.none rfl) rfl rfl (q_move rfl rfl) ?_
    refine run_q (.none rfl) rfl rfl (q_move rfl rfl) ?_
    refine run_q (.none rfl) rfl rfl (q_leq rfl rfl rfl) ?_
    refine run_nil ?_
    refine run_cond rfl (fun g76 => ?_) (fun g76 => ?_)
    · have g76' := g76
      try simp only [decide_eq_true_eq, decide_eq_false_iff_not, beq_iff_eq, beq_eq_false_iff_ne, bne_iff_ne, bne_eq_false_iff_eq, Bool.not_eq_true', Bool.not_eq_false', ne_eq, Int.not_lt, Int.not_le, Decidable.not_not] at g76'
      refine run_skip ?_
      refine run_seq ?_
      refine run_block ?_
      refine run_seq ?_
      refine run_region ?_
      refine run_q (.none rfl) rfl rfl (q_move rfl rfl) ?_
      refine run_q (.none rfl) rfl rfl (q_move rfl rfl) ?_
      refine run_q (.none rfl) rfl rfl (q_sub rfl rfl rfl (by omega)) ?_
      refine run_q (.none rfl) rfl rfl (q_assign rfl rfl) ?_
      refine run_nil ?_
      refine run_sub (subMk (.cons (s := 1) rfl (.cons (s := 2) rfl (.cons (s := 4) rfl (.cons (s := 5) rfl (.cons (s := 9) rfl (.cons (s := 10) rfl .nil)))))) .refl) ?_
      refine run_seq ?_
      obtain ⟨r, hrk⟩ : ∃ r : Int, r = (n : Int) - (k : Int) := ⟨_, rfl⟩
      have hr : 0 ≤ r ∧ r ≤ 256 := by omega
      have hkb : 0 ≤ (k : Int) ∧ (k : Int) ≤ 256 := by omega
      have x1 := mulT o0.1 hr
      have x2 := mulT x1 hr
      have x3 := mulT x2 hr
      have x4 : -100663296 ≤ 3 * c1.x ∧ 3 * c1.x ≤ 100663296 := by have := o1.1; omega
      have x5 := mulT x4 hr
      have x6 := mulT x5 hr
      have x7 := mulT x6 hkb
      have x8 : -100663296 ≤ 3 * c2.x ∧ 3 * c2.x ≤ 100663296 := by have := o2.1; omega
      have x9 := mulT x8 hr
      have xa := mulT x9 hkb
      have xb := mulT xa hkb
      have xc := mulT o3.1 hkb
      have xd := mulT xc hkb
      have xe := mulT xd hkb
      have y1 := mulT o0.2 hr
      have y2 := mulT y1 hr
      have y3 := mulT y2 hr
      have y4 : -100663296 ≤ 3 * c1.y ∧ 3 * c1.y ≤ 100663296 := by have := o1.2; omega
      have y5 := mulT y4 hr
      have y6 := mulT y5 hr
      have y7 := mulT y6 hkb
      have y8 : -100663296 ≤ 3 * c2.y ∧ 3 * c2.y ≤ 100663296 := by have := o2.2; omega
      have y9 := mulT y8 hr
      have ya := mulT y9 hkb
      have yb := mulT ya hkb
      have yc := mulT o3.2 hkb
      have yd := mulT yc hkb
      have ye := mulT yd hkb
      refine run_sub (subMk (.cons (s := 1) rfl (.cons (s := 2) rfl (.cons (s := 4) rfl (.cons (s := 5) rfl (.cons (s := 9) rfl (.cons' (s := 10) (v' := .int .i64 r) rfl (vint hrk.symm) .nil)))))) .refl) ?_
      refine run_region ?_
      refine run_q (.none rfl) rfl rfl (q_indexB (q := 0) (d := 0) rfl Try.underlying70 sz69 rfl rfl rfl (by decide) rfl) ?_
      refine run_q (.none rfl) rfl rfl (q_fieldB (d := 0) rfl Try.underlying69 rfl rfl sz3 rfl) ?_
      refine run_q (.none rfl) rfl rfl (q_loadB rfl one3 rfl (.there Sel.here) rfl) ?_
      refine run_q (.none rfl) rfl rfl (q_move rfl rfl) ?_
      refine run_q (.none rfl) rfl rfl (q_mul rfl rfl rfl (by omega)) ?_
      refine run_q (.none rfl) rfl rfl (q_move rfl rfl) ?_
      refine run_q (.none rfl) rfl rfl (q_mul rfl rfl rfl (by omega)) ?_
      refine run_q (.none rfl) rfl rfl (q_move rfl rfl) ?_
      refine run_q (.none rfl) rfl rfl (q_mul rfl rfl rfl (by omega)) ?_
      refine run_q (.none rfl) rfl rfl (q_indexB (q := 1) (d := 2) rfl Try.underlying70 sz69 rfl rfl rfl (by decide) rfl) ?_
      refine run_q (.none rfl) rfl rfl (q_fieldB (d := 2) rfl Try.underlying69 rfl rfl sz3 rfl) ?_
      refine run_q (.none rfl) rfl rfl (q_loadB rfl one3 rfl (.there Sel.here) rfl) ?_
      refine run_q (.none rfl) rfl rfl (q_mul rfl rfl rfl (by omega)) ?_
      refine run_q (.none rfl) rfl rfl (q_move rfl rfl) ?_
      refine run_q (.none rfl) rfl rfl (q_mul rfl rfl rfl (by omega)) ?_
      refine run_q (.none rfl) rfl rfl (q_move rfl rfl) ?_
      refine run_q (.none rfl) rfl rfl (q_mul rfl rfl rfl (by omega)) ?_
      refine run_q (.none rfl) rfl rfl (q_move rfl rfl) ?_
      refine run_q (.none rfl) rfl rfl (q_mul rfl rfl rfl (by omega)) ?_
      refine run_q (.none rfl) rfl rfl (q_add rfl rfl rfl (by omega)) ?_
      refine run_q (.none rfl) rfl rfl (q_indexB (q := 2) (d := 4) rfl Try.underlying70 sz69 rfl rfl rfl (by decide) rfl) ?_
      refine run_q (.none rfl) rfl rfl (q_fieldB (d := 4) rfl Try.underlying69 rfl rfl sz3 rfl) ?_
      refine run_q (.none rfl) rfl rfl (q_loadB rfl one3 rfl (.there Sel.here) rfl) ?_
      refine run_q (.none rfl) rfl rfl (q_mul rfl rfl rfl (by omega)) ?_
      refine run_q (.none rfl) rfl rfl (q_move rfl rfl) ?_
      refine run_q (.none rfl) rfl rfl (q_mul rfl rfl rfl (by omega)) ?_
      refine run_q (.none rfl) rfl rfl (q_move rfl rfl) ?_
      refine run_q (.none rfl) rfl rfl (q_mul rfl rfl rfl (by omega)) ?_
      refine run_q (.none rfl) rfl rfl (q_move rfl rfl) ?_
      refine run_q (.none rfl) rfl rfl (q_mul rfl rfl rfl (by omega)) ?_
      refine run_q (.none rfl) rfl rfl (q_add rfl rfl rfl (by omega)) ?_
      refine run_q (.none rfl) rfl rfl (q_indexB (q := 3) (d := 6) rfl Try.underlying70 sz69 rfl rfl rfl (by decide) rfl) ?_
      refine run_q (.none rfl) rfl rfl (q_fieldB (d := 6) rfl Try.underlying69 rfl rfl sz3 rfl) ?_
      refine run_q (.none rfl) rfl rfl (q_loadB rfl one3 rfl (.there Sel.here) rfl) ?_
      refine run_q (.none rfl) rfl rfl (q_move rfl rfl) ?_
      refine run_q (.none rfl) rfl rfl (q_mul rfl rfl rfl (by omega)) ?_
      refine run_q (.none rfl) rfl rfl (q_move rfl rfl) ?_
      refine run_q (.none rfl) rfl rfl (q_mul rfl rfl rfl (by omega)) ?_
      refine run_q (.none rfl) rfl rfl (q_move rfl rfl) ?_
      refine run_q (.none rfl) rfl rfl (q_mul rfl rfl rfl (by omega)) ?_
      refine run_q (.none rfl) rfl rfl (q_add rfl rfl rfl (by omega)) ?_
      refine run_q (.none rfl) rfl rfl (q_assign rfl rfl) ?_
      refine run_nil ?_
      refine run_sub (subMk (.cons (s := 1) rfl (.cons (s := 2) rfl (.cons (s := 4) rfl (.cons (s := 5) rfl (.cons (s := 9) rfl (.cons (s := 10) rfl (.cons (s := 11) rfl .nil))))))) .refl) ?_
      refine run_seq ?_
      refine run_region ?_
      refine run_q (.none rfl) rfl rfl (q_indexB (q := 0) (d := 0) rfl Try.underlying70 sz69 rfl rfl rfl (by decide) rfl) ?_
      refine run_q (.none rfl) rfl rfl (q_fieldB (d := 1) rfl Try.underlying69 rfl rfl sz3 rfl) ?_
      refine run_q (.none rfl) rfl rfl (q_loadB rfl one3 rfl (.there Sel.here) rfl) ?_
      refine run_q (.none rfl) rfl rfl (q_move rfl rfl) ?_
      refine run_q (.none rfl) rfl rfl (q_mul rfl rfl rfl (by omega)) ?_
      refine run_q (.none rfl) rfl rfl (q_move rfl rfl) ?_
      refine run_q (.none rfl) rfl rfl (q_mul rfl rfl rfl (by omega)) ?_
      refine run_q (.none rfl) rfl rfl (q_move rfl rfl) ?_
      refine run_q (.none rfl) rfl rfl (q_mul rfl rfl rfl (by omega)) ?_
      refine run_q (.none rfl) rfl rfl (q_indexB (q := 1) (d := 2) rfl Try.underlying70 sz69 rfl rfl rfl (by decide) rfl) ?_
      refine run_q (.none rfl) rfl rfl (q_fieldB (d := 3) rfl Try.underlying69 rfl rfl sz3 rfl) ?_
      refine run_q (.none rfl) rfl rfl (q_loadB rfl one3 rfl (.there Sel.here) rfl) ?_
      refine run_q (.none rfl) rfl rfl (q_mul rfl rfl rfl (by omega)) ?_
      refine run_q (.none rfl) rfl rfl (q_move rfl rfl) ?_
      refine run_q (.none rfl) rfl rfl (q_mul rfl rfl rfl (by omega)) ?_
      refine run_q (.none rfl) rfl rfl (q_move rfl rfl) ?_
      refine run_q (.none rfl) rfl rfl (q_mul rfl rfl rfl (by omega)) ?_
      refine run_q (.none rfl) rfl rfl (q_move rfl rfl) ?_
      refine run_q (.none rfl) rfl rfl (q_mul rfl rfl rfl (by omega)) ?_
      refine run_q (.none rfl) rfl rfl (q_add rfl rfl rfl (by omega)) ?_
      refine run_q (.none rfl) rfl rfl (q_indexB (q := 2) (d := 4) rfl Try.underlying70 sz69 rfl rfl rfl (by decide) rfl) ?_
      refine run_q (.none rfl) rfl rfl (q_fieldB (d := 5) rfl Try.underlying69 rfl rfl sz3 rfl) ?_
      refine run_q (.none rfl) rfl rfl (q_loadB rfl one3 rfl (.there Sel.here) rfl) ?_
      refine run_q (.none rfl) rfl rfl (q_mul rfl rfl rfl (by omega)) ?_
      refine run_q (.none rfl) rfl rfl (q_move rfl rfl) ?_
      refine run_q (.none rfl) rfl rfl (q_mul rfl rfl rfl (by omega)) ?_
      refine run_q (.none rfl) rfl rfl (q_move rfl rfl) ?_
      refine run_q (.none rfl) rfl rfl (q_mul rfl rfl rfl (by omega)) ?_
      refine run_q (.none rfl) rfl rfl (q_move rfl rfl) ?_
      refine run_q (.none rfl) rfl rfl (q_mul rfl rfl rfl (by omega)) ?_
      refine run_q (.none rfl) rfl rfl (q_add rfl rfl rfl (by omega)) ?_
      refine run_q (.none rfl) rfl rfl (q_indexB (q := 3) (d := 6) rfl Try.underlying70 sz69 rfl rfl rfl (by decide) rfl) ?_
      refine run_q (.none rfl) rfl rfl (q_fieldB (d := 7) rfl Try.underlying69 rfl rfl sz3 rfl) ?_
      refine run_q (.none rfl) rfl rfl (q_loadB rfl one3 rfl (.there Sel.here) rfl) ?_
      refine run_q (.none rfl) rfl rfl (q_move rfl rfl) ?_
      refine run_q (.none rfl) rfl rfl (q_mul rfl rfl rfl (by omega)) ?_
      refine run_q (.none rfl) rfl rfl (q_move rfl rfl) ?_
      refine run_q (.none rfl) rfl rfl (q_mul rfl rfl rfl (by omega)) ?_
      refine run_q (.none rfl) rfl rfl (q_move rfl rfl) ?_
      refine run_q (.none rfl) rfl rfl (q_mul rfl rfl rfl (by omega)) ?_
      refine run_q (.none rfl) rfl rfl (q_add rfl rfl rfl (by omega)) ?_
      refine run_q (.none rfl) rfl rfl (q_assign rfl rfl) ?_
      refine run_nil ?_
      refine run_sub (subMk (.cons (s := 1) rfl (.cons (s := 2) rfl (.cons (s := 4) rfl (.cons (s := 5) rfl (.cons (s := 9) rfl (.cons (s := 11) rfl (.cons (s := 12) rfl .nil))))))) .refl) ?_
      refine run_seq ?_
      have hres : nth (smps [c0, c1, c2, c3] n (n + 1)) k = ⟨(c0.x * r * r * r + 3 * c1.x * r * r * (k : Int) + 3 * c2.x * r * (k : Int) * (k : Int) + c3.x * (k : Int) * (k : Int) * (k : Int)) / ((n : Int) * n * n), (c0.y * r * r * r + 3 * c1.y * r * r * (k : Int) + 3 * c2.y * r * (k : Int) * (k : Int) + c3.y * (k : Int) * (k : Int) * (k : Int)) / ((n : Int) * n * n)⟩ := by rw [smps_nth (by omega), smpP, ← hrk, sum4X, sum4Y]
      refine run_draw [(0, 0), (1, 0), (2, 0), (3, 0), (4, 0), (5, 0), (6, 0), (7, 0), (8, 0), (9, 0), (10, 0), (11, 0), (12, 0), (13, 0), (14, 0), (15, 0), (16, 0), (17, 0), (18, 0), (19, 0)] mixed (by kernel_rfl) .refl ?_
      refine d_q rfl rfl (.none rfl) rfl rfl (q_move rfl rfl) ?_
      refine d_q rfl rfl (.none rfl) rfl rfl (q_move rfl rfl) ?_
      refine d_q rfl rfl (.none rfl) rfl rfl (q_indexS (q := k) rfl Try.underlying71 sz69 rfl rfl (.own Sel.here) (by rw [List.length_map, smps_len]) rfl (by omega)) ?_
      refine d_q rfl rfl (.none rfl) rfl rfl (q_loadE rfl agg69 rfl (.own Sel.here) (getmap (by rw [smps_len]; omega)) rfl) ?_
      refine d_q rfl rfl (.none rfl) rfl rfl (q_move rfl rfl) ?_
      refine d_q rfl rfl (.none rfl) rfl rfl (q_move rfl rfl) ?_
      refine d_q rfl rfl (.none rfl) rfl rfl (q_move rfl rfl) ?_
      refine d_q rfl rfl (.none rfl) rfl rfl (q_mul rfl rfl rfl (by omega)) ?_
      refine d_q rfl rfl (.none rfl) rfl rfl (q_move rfl rfl) ?_
      refine d_q rfl rfl (.none rfl) rfl rfl (q_mul rfl rfl rfl (by omega)) ?_
      refine d_q rfl rfl (.none rfl) rfl rfl (q_call rfl call32 (.cons rfl (.cons rfl Evs.nil)) (fun w hk hm => refFloor_just _ _ w ⟨by omega, by omega⟩ ⟨by omega, by omega⟩)) ?_
      refine d_q rfl rfl (.none rfl) rfl rfl (q_move rfl rfl) ?_
      refine d_q rfl rfl (.none rfl) rfl rfl (q_move rfl rfl) ?_
      refine d_q rfl rfl (.none rfl) rfl rfl (q_move rfl rfl) ?_
      refine d_q rfl rfl (.none rfl) rfl rfl (q_mul rfl rfl rfl (by omega)) ?_
      refine d_q rfl rfl (.none rfl) rfl rfl (q_move rfl rfl) ?_
      refine d_q rfl rfl (.none rfl) rfl rfl (q_mul rfl rfl rfl (by omega)) ?_
      refine d_q rfl rfl (.none rfl) rfl rfl (q_call rfl call32 (.cons rfl (.cons rfl Evs.nil)) (fun w hk hm => refFloor_just _ _ w ⟨by omega, by omega⟩ ⟨by omega, by omega⟩)) ?_
      refine d_q rfl rfl (.none rfl) rfl rfl (q_build rfl (.cons rfl (.cons rfl PV.nil)) (built69p0p1 _ _)) ?_
      refine d_q rfl rfl (.none rfl) rfl rfl (q_neqS rfl rfl rfl eqg69 (fun w => eqs69 _ _ _ _ w)) ?_
      refine d_nil ?_
      refine run_sub (subMk (.cons (s := 1) rfl (.cons (s := 2) rfl (.cons (s := 4) rfl (.cons (s := 5) rfl (.cons (s := 9) rfl (.cons (s := 183) rfl .nil)))))) .refl) ?_
      refine run_condF rfl (by rw [hres]; simp) ?_
      refine run_skip ?_
      refine run_blk ?_
      refine run_region ?_
      refine run_q (.none rfl) rfl rfl (q_move rfl rfl) ?_
      refine run_q (.none rfl) rfl rfl (q_add rfl rfl rfl (by omega)) ?_
      refine run_q (.none rfl) rfl rfl (q_assign rfl rfl) ?_
      refine run_nil ?_
      refine run_sub (subMk (.cons (s := 1) rfl (.cons (s := 2) rfl (.cons (s := 4) rfl (.cons (s := 5) rfl (.cons (s := 9) rfl .nil))))) .refl) ?_
      exact run_again (k + 1) (by (try dsimp only); exact (by omega)) (by (try dsimp only); omega) (subMk (.cons' (s := 9) rfl (vint (by omega)) (.cons (s := 1) rfl (.cons (s := 2) rfl (.cons (s := 4) rfl (.cons (s := 5) rfl .nil))))) (.cons Sel.here .refl (.cons Sel.here .refl .nil)))
    · have g76' := g76
      try simp only [decide_eq_true_eq, decide_eq_false_iff_not, beq_iff_eq, beq_eq_false_iff_ne, bne_iff_ne, bne_eq_false_iff_eq, Bool.not_eq_true', Bool.not_eq_false', ne_eq, Int.not_lt, Int.not_le, Decidable.not_not] at g76'
      refine run_exit rfl ?_
      refine run_sub (subMk (.cons (s := 4) rfl .nil) .refl) ?_
      refine run_seq ?_
      refine run_region ?_
      refine run_q (.none rfl) rfl rfl (q_assign rfl rfl) ?_
      refine run_nil ?_
      refine run_ret ?_
      exact end1 rfl rfl rfl

theorem law10_just (c0 c1 c2 c3 : Pt) (n : Int) (W : World) : Calls Try.prog 10 #[.agg #[.int .i64 c0.x, .int .i64 c0.y, .int .i64 c1.x, .int .i64 c1.y, .int .i64 c2.x, .int .i64 c2.y, .int .i64 c3.x, .int .i64 c3.y], .int .i64 n] W (Hr.Just W (.bool true)) := by
  by_cases h1 : 1 ≤ n ∧ n ≤ 256
  · by_cases h2 : ∃ j, j < 4 ∧ ¬ okP (nth [c0, c1, c2, c3] j)
    · exact law10_bad c0 c1 c2 c3 n W (.inr h2)
    · obtain ⟨m, rfl⟩ : ∃ m : Nat, n = (m : Int) := ⟨n.toNat, by omega⟩
      exact law10_ok c0 c1 c2 c3 m W (by omega) (fun j hj => Classical.byContradiction fun h3 => h2 ⟨j, hj, h3⟩)
  · exact law10_bad c0 c1 c2 c3 n W (.inl h1)

end Go.Proofs.Ytomhegnaojejnaa
