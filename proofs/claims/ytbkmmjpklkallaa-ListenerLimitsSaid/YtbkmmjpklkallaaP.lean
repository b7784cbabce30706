/- A listener listens to a note. -/
import Derived.Test.YtbkmmjpklkallaaO
import Derived.Test.YtbkmmjpklkallaaLoops
set_option linter.unusedSimpArgs false
set_option linter.unusedVariables false
namespace Go.Proofs.Ytbkmmjpklkallaa
open Go Go.RowKit Hr

theorem call48 : Hr.Callable Try.prog 48 := fun args w => by kernel_rfl

set_option maxRecDepth 100000 in
theorem listen_ret (c : Cost) (a h : List Note) (x : Note) (p : Nat) (S H R : Option Addr) (cs ch cr : Nat) (W : World) (hm : Mem (atAny [.blk p 79 [(0, .slice S a.length cs), (1, .slice H h.length ch), (2, .int .i64 c.wrong), (3, .int .i64 c.missing), (4, .int .i64 c.extra), (5, .int .i64 c.time), (6, .int .i64 c.late), (7, .slice R (a.length + 1) cr)], .own 47 7 S a.length cs (a.map Note.enc), .own 47 7 H h.length ch ((h).map Note.enc), .own 3 1 R (a.length + 1) cr ((colV c a h).map encI)]) W [.blk p 79 [(0, .slice S a.length cs), (1, .slice H h.length ch), (2, .int .i64 c.wrong), (3, .int .i64 c.missing), (4, .int .i64 c.extra), (5, .int .i64 c.time), (6, .int .i64 c.late), (7, .slice R (a.length + 1) cr)], .own 47 7 S a.length cs (a.map Note.enc), .own 47 7 H h.length ch ((h).map Note.enc), .own 3 1 R (a.length + 1) cr ((colV c a h).map encI)] W) (hc : CostOk c) (hna : ∀ p ∈ a, NoteOk p) (hla : a.length ≤ 1024) (hlh : h.length < 1024) : Calls Try.prog 27 #[.pointer (some ⟨p, 0, none⟩), x.val] W (Ret W (atAny [.blk p 79 [(0, .slice S a.length cs), (1, .slice H h.length ch), (2, .int .i64 c.wrong), (3, .int .i64 c.missing), (4, .int .i64 c.extra), (5, .int .i64 c.time), (6, .int .i64 c.late), (7, .slice R (a.length + 1) cr)], .own 47 7 S a.length cs (a.map Note.enc), .own 47 7 H h.length ch ((h).map Note.enc), .own 3 1 R (a.length + 1) cr ((colV c a h).map encI)]) (fun v m => ∃ H' ch' R' cr', v = .tuple #[.int .i64 (lisN c a h x), .int .i64 (lisE h x)] ∧ m = [.blk p 79 [(0, .slice S a.length cs), (1, .slice H' (hearL h x).length ch'), (2, .int .i64 c.wrong), (3, .int .i64 c.missing), (4, .int .i64 c.extra), (5, .int .i64 c.time), (6, .int .i64 c.late), (7, .slice R' (a.length + 1) cr')], .own 47 7 S a.length cs (a.map Note.enc), .own 47 7 H' (hearL h x).length ch' (((hearL h x)).map Note.enc), .own 3 1 R' (a.length + 1) cr' ((colV c a (hearL h x)).map encI)])) := by
  refine enterA (X := _) (vs := [.pointer (some ⟨p, 0, none⟩), x.val]) Try.func27 Try.ntmps27 rfl rfl hm ?_
  refine run_seq ?_
  refine run_region ?_
  refine run_h (.none rfl) (h_box rfl rfl rfl rfl rfl) ?_
  rintro b3 -
  refine run_q (.none rfl) rfl rfl (q_assign rfl rfl) ?_
  refine run_q (.none rfl) rfl rfl (q_assign rfl rfl) ?_
  refine run_nil ?_
  refine run_seq ?_
  refine run_block ?_
  refine run_seq ?_
  refine run_region ?_
  refine run_q (.none rfl) rfl rfl (q_move rfl rfl) ?_
  refine run_q (.none rfl) rfl rfl (q_eqlPtr rfl rfl rfl Try.underlying54) ?_
  refine run_q (.none rfl) rfl rfl (q_assign rfl rfl) ?_
  refine run_nil ?_
  refine run_sub (subMk (.cons (s := 0) rfl (.cons (s := 3) rfl (.cons (s := 4) rfl (.cons (s := 5) rfl (.cons (s := 6) rfl .nil))))) .refl) ?_
  refine run_condF rfl rfl ?_
  refine run_seq ?_
  refine run_region ?_
  refine run_q (.none rfl) rfl rfl (q_move rfl rfl) ?_
  refine run_q (.none rfl) rfl rfl (q_nilCheck rfl rfl) ?_
  refine run_q (.none rfl) rfl rfl (q_fieldB (d := 1) rfl Try.underlying79 rfl rfl sz22 rfl) ?_
  refine run_q (.none rfl) rfl rfl (q_loadB rfl one22 rfl (.there Sel.here) rfl) ?_
  refine run_q (.none rfl) rfl rfl (q_len rfl Try.underlying22 rfl) ?_
  refine run_q (.none rfl) rfl rfl (q_eql rfl rfl rfl) ?_
  refine run_q (.none rfl) rfl rfl (q_assign rfl rfl) ?_
  refine run_nil ?_
  refine run_sub (subMk (.cons (s := 0) rfl (.cons (s := 3) rfl (.cons (s := 4) rfl (.cons (s := 5) rfl (.cons (s := 9) rfl .nil))))) .refl) ?_
  refine run_condF rfl (by simp; omega) ?_
  refine run_seq ?_
  refine run_region ?_
  refine run_q (.none rfl) rfl rfl (q_loadBN rfl agg47 rfl Sel.here (.cons rfl (.cons rfl (.cons rfl (.cons rfl (.cons rfl (.cons rfl (.cons rfl CellsAt.nil))))))) rfl) ?_
  refine run_q (.none rfl) rfl rfl (q_call rfl call47 (.cons rfl Evs.nil) (fun w hk hm => proper_just x w)) ?_
  refine run_q (.none rfl) rfl rfl (q_not rfl rfl) ?_
  refine run_q (.none rfl) rfl rfl (q_assign rfl rfl) ?_
  refine run_nil ?_
  refine run_sub (subMk (.cons (s := 0) rfl (.cons (s := 3) rfl (.cons (s := 4) rfl (.cons (s := 5) rfl (.cons (s := 16) rfl .nil))))) .refl) ?_
  refine run_cond rfl (fun g16 => ?_) (fun g16 => ?_)
  · have g16' := g16
    try simp only [decide_eq_true_eq, decide_eq_false_iff_not, beq_iff_eq, beq_eq_false_iff_ne, bne_iff_ne, bne_eq_false_iff_eq, Bool.not_eq_true', Bool.not_eq_false', ne_eq, Int.not_lt, Int.not_le, Decidable.not_not] at g16'
    have hE : lisE h x = 2 := by rw [lisE, if_pos (by simpa using g16)]
    refine run_seq ?_
    refine run_region ?_
    refine run_q (.none rfl) rfl rfl (q_assign rfl rfl) ?_
    refine run_q (.none rfl) rfl rfl (q_assign rfl rfl) ?_
    refine run_nil ?_
    refine run_ret ?_
    refine run_sub (subMk .refl (.cons (.there Sel.here) .refl (.cons (.there Sel.here) .refl (.cons (.there Sel.here) .refl (.cons (.there Sel.here) .refl .nil))))) ?_
    exact end2 rfl rfl rfl ⟨H, ch, R, cr, by rw [lisN_no (by rw [hE]; decide), hE], by rw [hearL_no (by rw [hE]; decide)]⟩
  · have g16' := g16
    try simp only [decide_eq_true_eq, decide_eq_false_iff_not, beq_iff_eq, beq_eq_false_iff_ne, bne_iff_ne, bne_eq_false_iff_eq, Bool.not_eq_true', Bool.not_eq_false', ne_eq, Int.not_lt, Int.not_le, Decidable.not_not] at g16'
    have hpx : properB x = true := by simpa using g16
    refine run_seq ?_
    refine run_draw [(0, 0), (1, 0), (2, 0), (3, 0), (4, 0), (5, 0), (6, 0), (7, 0), (8, 0), (9, 0), (10, 0), (11, 0), (12, 0), (13, 0), (14, 0), (15, 0), (16, 0), (17, 0), (18, 0), (19, 0), (20, 0), (21, 0), (22, 0), (23, 0), (24, 0)] mixed (by kernel_rfl) .refl ?_
    refine d_q rfl rfl (.none rfl) rfl rfl (q_move rfl rfl) ?_
    refine d_q rfl rfl (.none rfl) rfl rfl (q_nilCheck rfl rfl) ?_
    refine d_q rfl rfl (.none rfl) rfl rfl (q_fieldB (d := 1) rfl Try.underlying79 rfl rfl sz22 rfl) ?_
    refine d_q rfl rfl (.none rfl) rfl rfl (q_loadB rfl one22 rfl (.there Sel.here) rfl) ?_
    refine d_q rfl rfl (.none rfl) rfl rfl (q_len rfl Try.underlying22 rfl) ?_
    refine d_q rfl rfl (.none rfl) rfl rfl (q_gtr rfl rfl rfl) ?_
    refine d_q rfl rfl (.none rfl) rfl rfl (q_move rfl rfl) ?_
    refine d_split 27 rfl (fun g27 => ?_) (fun g27 => ?_)
    · have g27' := g27
      try simp only [decide_eq_true_eq, decide_eq_false_iff_not, beq_iff_eq, beq_eq_false_iff_ne, bne_iff_ne, bne_eq_false_iff_eq, Bool.not_eq_true', Bool.not_eq_false', ne_eq, Int.not_lt, Int.not_le, Decidable.not_not] at g27'
      refine d_q rfl rfl (.on rfl rfl rfl g27) rfl rfl (q_fieldB (d := 0) rfl Try.underlying47 rfl rfl sz3 rfl) ?_
      refine d_q rfl rfl (.on rfl rfl rfl g27) rfl rfl (q_loadB rfl one3 rfl Sel.here rfl) ?_
      refine d_q rfl rfl (.on rfl rfl rfl g27) rfl rfl (q_move rfl rfl) ?_
      refine d_q rfl rfl (.on rfl rfl rfl g27) rfl rfl (q_nilCheck rfl rfl) ?_
      refine d_q rfl rfl (.on rfl rfl rfl g27) rfl rfl (q_fieldB (d := 1) rfl Try.underlying79 rfl rfl sz22 rfl) ?_
      refine d_q rfl rfl (.on rfl rfl rfl g27) rfl rfl (q_loadB rfl one22 rfl (.there Sel.here) rfl) ?_
      refine d_q rfl rfl (.on rfl rfl rfl g27) rfl rfl (q_move rfl rfl) ?_
      refine d_q rfl rfl (.on rfl rfl rfl g27) rfl rfl (q_nilCheck rfl rfl) ?_
      refine d_q rfl rfl (.on rfl rfl rfl g27) rfl rfl (q_fieldB (d := 1) rfl Try.underlying79 rfl rfl sz22 rfl) ?_
      refine d_q rfl rfl (.on rfl rfl rfl g27) rfl rfl (q_loadB rfl one22 rfl (.there Sel.here) rfl) ?_
      refine d_q rfl rfl (.on rfl rfl rfl g27) rfl rfl (q_len rfl Try.underlying22 rfl) ?_
      refine d_q rfl rfl (.on rfl rfl rfl g27) rfl rfl (q_sub rfl rfl rfl (by omega)) ?_
      refine d_q rfl rfl (.on rfl rfl rfl g27) rfl rfl (q_indexS (q := (h.length - 1)) rfl Try.underlying22 sz47 rfl rfl (.own (.there (.there (.there Sel.here)))) (by simp <;> omega) (by omega) (by omega)) ?_
      refine d_q rfl rfl (.on rfl rfl rfl g27) rfl rfl (q_fieldAddr (d := 0) rfl Try.underlying47 rfl rfl sz3 rfl) ?_
      refine d_q rfl rfl (.on rfl rfl rfl g27) rfl rfl (q_loadF rfl one3 rfl (.own (.there (.there (.there Sel.here)))) (getmap (by omega)) rfl) ?_
      refine d_q rfl rfl (.on rfl rfl rfl g27) rfl rfl (q_lss rfl rfl rfl) ?_
      refine d_q rfl rfl (.none rfl) rfl rfl (q_pickT rfl rfl g27 rfl) ?_
      refine d_q rfl rfl (.none rfl) rfl rfl (q_assign rfl rfl) ?_
      refine d_nil ?_
      refine run_sub (subMk (.cons (s := 0) rfl (.cons (s := 3) rfl (.cons (s := 4) rfl (.cons (s := 5) rfl (.cons (s := 20) rfl .nil))))) .refl) ?_
      refine run_cond rfl (fun g20 => ?_) (fun g20 => ?_)
      · have g20' := g20
        try simp only [decide_eq_true_eq, decide_eq_false_iff_not, beq_iff_eq, beq_eq_false_iff_ne, bne_iff_ne, bne_eq_false_iff_eq, Bool.not_eq_true', Bool.not_eq_false', ne_eq, Int.not_lt, Int.not_le, Decidable.not_not] at g20'
        refine run_seq ?_
        have hE : lisE h x = 25 := by rw [lisE, if_neg (by simp [hpx]), if_pos (by omega)]
        refine run_region ?_
        refine run_q (.none rfl) rfl rfl (q_assign rfl rfl) ?_
        refine run_q (.none rfl) rfl rfl (q_assign rfl rfl) ?_
        refine run_nil ?_
        refine run_ret ?_
        refine run_sub (subMk .refl (.cons (.there Sel.here) .refl (.cons (.there Sel.here) .refl (.cons (.there Sel.here) .refl (.cons (.there Sel.here) .refl .nil))))) ?_
        exact end2 rfl rfl rfl ⟨H, ch, R, cr, by rw [lisN_no (by rw [hE]; decide), hE], by rw [hearL_no (by rw [hE]; decide)]⟩
      · have g20' := g20
        try simp only [decide_eq_true_eq, decide_eq_false_iff_not, beq_iff_eq, beq_eq_false_iff_ne, bne_iff_ne, bne_eq_false_iff_eq, Bool.not_eq_true', Bool.not_eq_false', ne_eq, Int.not_lt, Int.not_le, Decidable.not_not] at g20'
        refine run_skip ?_
        refine run_blk ?_
        refine run_seq ?_
        have hE : lisE h x = 0 := by rw [lisE, if_neg (by simp [hpx]), if_neg (by omega)]
        refine run_pure [(0, 3), (1, 0), (2, 0), (3, 0), (4, 0), (5, 0), (6, 1), (7, 2), (8, 2), (9, 2), (10, 2)] mixed (by kernel_rfl) .refl ?_
        refine p_p rfl rfl (.none rfl) rfl rfl (q_move rfl rfl) ?_
        refine p_q rfl rfl (.none rfl) rfl rfl (q_move rfl rfl) ?_
        refine p_q rfl rfl (.none rfl) rfl rfl (q_nilCheck rfl rfl) ?_
        refine p_q rfl rfl (.none rfl) rfl rfl (q_fieldB (d := 1) rfl Try.underlying79 rfl rfl sz22 rfl) ?_
        refine p_q rfl rfl (.none rfl) rfl rfl (q_loadB rfl one22 rfl (.there Sel.here) rfl) ?_
        refine p_q rfl rfl (.none rfl) rfl rfl (q_loadBN rfl agg47 rfl Sel.here (.cons rfl (.cons rfl (.cons rfl (.cons rfl (.cons rfl (.cons rfl (.cons rfl CellsAt.nil))))))) rfl) ?_
        refine p_h rfl rfl (.none rfl) (h_buildSlice rfl rfl rfl Try.underlying22 info47 (.cons rfl rfl rfl rfl Parts.nil) rfl (by omega)) (fun _ _ => (.sub (by repeat (first | exact List.Sublist.refl _ | apply List.Sublist.cons)))) ?_
        rintro b51 -
        refine p_t rfl rfl (.none rfl) (h_append rfl rfl rfl Try.underlying22 info47 rfl rfl (.there (.there (.there (.there Sel.here)))) rfl (.own Sel.here) rfl (all1 rfl) (all1 rfl) (by omega) (by omega)) ?_
        rintro ⟨A52, c52⟩ -
        refine p_t rfl rfl (.none rfl) (.of_q rfl rfl (q_nilCheck rfl rfl)) ?_
        rintro - -
        refine p_t rfl rfl (.none rfl) (.of_q rfl rfl (q_fieldB (d := 1) rfl Try.underlying79 rfl rfl sz22 rfl)) ?_
        rintro - -
        refine p_t rfl rfl (.none rfl) (h_storeB rfl rfl sz22 rfl rfl rfl rfl rfl (.there (.there (.there Sel.here))) rfl) ?_
        rintro - -
        refine p_nil ?_
        refine run_sub (subMk (.cons (s := 0) rfl (.cons (s := 3) rfl (.cons (s := 4) rfl (.cons (s := 5) rfl .nil)))) .refl) ?_
        refine run_seq ?_
        refine run_sub (subMk .refl (.cons Sel.here (.blk (.cons (s := 0) rfl (.cons' (s := 1) (v' := .slice A52 (h ++ [x]).length c52) rfl (by simp) (.cons (s := 2) rfl (.cons (s := 3) rfl (.cons (s := 4) rfl (.cons (s := 5) rfl (.cons (s := 6) rfl (.cons (s := 7) rfl (.nil)))))))))) (.cons Sel.here .refl (.cons Sel.here .refl (.cons Sel.here .refl (.cons Sel.here .refl (.cons Sel.here .refl .nil))))))) ?_
        refine run_region ?_
        refine run_q (.none rfl) rfl rfl (q_move rfl rfl) ?_
        refine run_q (.none rfl) rfl rfl (q_loadBN rfl agg47 rfl (.there (.there (.there Sel.here))) (.cons rfl (.cons rfl (.cons rfl (.cons rfl (.cons rfl (.cons rfl (.cons rfl CellsAt.nil))))))) rfl) ?_
        refine run_h (.none rfl) (h_callX [_, _, _] _ rfl rfl rfl call48 (.cons rfl (.cons rfl Evs.nil)) ((Sel.perm Sel.here).trans (.cons _ ((Sel.perm (.there (.there (.there Sel.here)))).trans (.cons _ (Sel.perm (.there (.there (.there Sel.here)))))))) (Y := fun _ => atAny [_, _, _]) (fun _ _ h => h) (fun w hk hm => hear_ret c a h x p (.slice A52 (h ++ [x]).length c52) S R cs cr w ((hm.perm ((Sel.perm Sel.here).trans (.cons _ ((Sel.perm (.there (.there (.there Sel.here)))).trans (.cons _ (Sel.perm (.there (.there (.there Sel.here))))))))).give (rs := [_, _, _])) hc hna (proper_ok hpx) hla (by omega))) ?_
        rintro ⟨v, m⟩ ⟨R', cr', rfl, rfl⟩
        show Run _ _ _ _ _ _ _ ⟨(57, .tuple #[]) :: _, _ :: _ :: _ :: _⟩
        refine run_nil ?_
        refine run_sub (subMk (.cons (s := 0) rfl (.cons (s := 4) rfl (.cons (s := 5) rfl .nil))) .refl) ?_
        refine run_seq ?_
        refine run_region ?_
        refine run_q (.none rfl) rfl rfl (q_move rfl rfl) ?_
        refine run_q (.none rfl) rfl rfl (q_call rfl call25 (.cons rfl Evs.nil) (fun w hk hm => passed_just c a (h ++ [x]) p S A52 R' cs c52 cr' w (rd_lis (Sel.here.holds hm)) (own_rd ((Sel.there (Sel.there Sel.here)).holds hm)) hla)) ?_
        refine run_q (.none rfl) rfl rfl (q_assign rfl rfl) ?_
        refine run_q (.none rfl) rfl rfl (q_assign rfl rfl) ?_
        refine run_nil ?_
        refine run_sub (subMk (.cons (s := 4) rfl (.cons (s := 5) rfl .nil)) .refl) ?_
        refine run_ret ?_
        refine run_sub (subMk .refl (.cons Sel.here .refl (.cons Sel.here .refl (.cons (.there Sel.here) (.own (m' := (h ++ [x]).length) (xs' := (h ++ [x]).map Note.enc) rfl (by simp) rfl (by rw [List.map_append]; rfl)) (.cons Sel.here .refl .nil))))) ?_
        exact end2 rfl rfl rfl ⟨A52, c52, R', cr', by rw [lisN_yes hE, hE], by rw [hearL_yes hE]⟩
    · have g27' := g27
      try simp only [decide_eq_true_eq, decide_eq_false_iff_not, beq_iff_eq, beq_eq_false_iff_ne, bne_iff_ne, bne_eq_false_iff_eq, Bool.not_eq_true', Bool.not_eq_false', ne_eq, Int.not_lt, Int.not_le, Decidable.not_not] at g27'
      refine d_off rfl rfl (.no rfl rfl rfl g27) rfl rfl ?_
      refine d_off rfl rfl (.no rfl rfl rfl g27) rfl rfl ?_
      refine d_off rfl rfl (.no rfl rfl rfl g27) rfl rfl ?_
      refine d_off rfl rfl (.no rfl rfl rfl g27) rfl rfl ?_
      refine d_off rfl rfl (.no rfl rfl rfl g27) rfl rfl ?_
      refine d_off rfl rfl (.no rfl rfl rfl g27) rfl rfl ?_
      refine d_off rfl rfl (.no rfl rfl rfl g27) rfl rfl ?_
      refine d_off rfl rfl (.no rfl rfl rfl g27) rfl rfl ?_
      refine d_off rfl rfl (.no rfl rfl rfl g27) rfl rfl ?_
      refine d_off rfl rfl (.no rfl rfl rfl g27) rfl rfl ?_
      refine d_off rfl rfl (.no rfl rfl rfl g27) rfl rfl ?_
      refine d_off rfl rfl (.no rfl rfl rfl g27) rfl rfl ?_
      refine d_off rfl rfl (.no rfl rfl rfl g27) rfl rfl ?_
      refine d_off rfl rfl (.no rfl rfl rfl g27) rfl rfl ?_
      refine d_off rfl rfl (.no rfl rfl rfl g27) rfl rfl ?_
      refine d_off rfl rfl (.no rfl rfl rfl g27) rfl rfl ?_
      refine d_q rfl rfl (.none rfl) rfl rfl (q_pickF rfl rfl g27 rfl) ?_
      refine d_q rfl rfl (.none rfl) rfl rfl (q_assign rfl rfl) ?_
      refine d_nil ?_
      refine run_sub (subMk (.cons (s := 0) rfl (.cons (s := 3) rfl (.cons (s := 4) rfl (.cons (s := 5) rfl (.cons (s := 20) rfl .nil))))) .refl) ?_
      refine run_condF rfl rfl ?_
      refine run_skip ?_
      refine run_blk ?_
      refine run_seq ?_
      have hE : lisE h x = 0 := by rw [lisE, if_neg (by simp [hpx]), if_neg (by omega)]
      refine run_pure [(0, 3), (1, 0), (2, 0), (3, 0), (4, 0), (5, 0), (6, 1), (7, 2), (8, 2), (9, 2), (10, 2)] mixed (by kernel_rfl) .refl ?_
      refine p_p rfl rfl (.none rfl) rfl rfl (q_move rfl rfl) ?_
      refine p_q rfl rfl (.none rfl) rfl rfl (q_move rfl rfl) ?_
      refine p_q rfl rfl (.none rfl) rfl rfl (q_nilCheck rfl rfl) ?_
      refine p_q rfl rfl (.none rfl) rfl rfl (q_fieldB (d := 1) rfl Try.underlying79 rfl rfl sz22 rfl) ?_
      refine p_q rfl rfl (.none rfl) rfl rfl (q_loadB rfl one22 rfl (.there Sel.here) rfl) ?_
      refine p_q rfl rfl (.none rfl) rfl rfl (q_loadBN rfl agg47 rfl Sel.here (.cons rfl (.cons rfl (.cons rfl (.cons rfl (.cons rfl (.cons rfl (.cons rfl CellsAt.nil))))))) rfl) ?_
      refine p_h rfl rfl (.none rfl) (h_buildSlice rfl rfl rfl Try.underlying22 info47 (.cons rfl rfl rfl rfl Parts.nil) rfl (by omega)) (fun _ _ => (.sub (by repeat (first | exact List.Sublist.refl _ | apply List.Sublist.cons)))) ?_
      rintro b51 -
      refine p_t rfl rfl (.none rfl) (h_append rfl rfl rfl Try.underlying22 info47 rfl rfl (.there (.there (.there (.there Sel.here)))) rfl (.own Sel.here) rfl (all1 rfl) (all1 rfl) (by omega) (by omega)) ?_
      rintro ⟨A52, c52⟩ -
      refine p_t rfl rfl (.none rfl) (.of_q rfl rfl (q_nilCheck rfl rfl)) ?_
      rintro - -
      refine p_t rfl rfl (.none rfl) (.of_q rfl rfl (q_fieldB (d := 1) rfl Try.underlying79 rfl rfl sz22 rfl)) ?_
      rintro - -
      refine p_t rfl rfl (.none rfl) (h_storeB rfl rfl sz22 rfl rfl rfl rfl rfl (.there (.there (.there Sel.here))) rfl) ?_
      rintro - -
      refine p_nil ?_
      refine run_sub (subMk (.cons (s := 0) rfl (.cons (s := 3) rfl (.cons (s := 4) rfl (.cons (s := 5) rfl .nil)))) .refl) ?_
      refine run_seq ?_
      refine run_sub (subMk .refl (.cons Sel.here (.blk (.cons (s := 0) rfl (.cons' (s := 1) (v' := .slice A52 (h ++ [x]).length c52) rfl (by simp) (.cons (s := 2) rfl (.cons (s := 3) rfl (.cons (s := 4) rfl (.cons (s := 5) rfl (.cons (s := 6) rfl (.cons (s := 7) rfl (.nil)))))))))) (.cons Sel.here .refl (.cons Sel.here .refl (.cons Sel.here .refl (.cons Sel.here .refl (.cons Sel.here .refl .nil))))))) ?_
      refine run_region ?_
      refine run_q (.none rfl) rfl rfl (q_move rfl rfl) ?_
      refine run_q (.none rfl) rfl rfl (q_loadBN rfl agg47 rfl (.there (.there (.there Sel.here))) (.cons rfl (.cons rfl (.cons rfl (.cons rfl (.cons rfl (.cons rfl (.cons rfl CellsAt.nil))))))) rfl) ?_
      refine run_h (.none rfl) (h_callX [_, _, _] _ rfl rfl rfl call48 (.cons rfl (.cons rfl Evs.nil)) ((Sel.perm Sel.here).trans (.cons _ ((Sel.perm (.there (.there (.there Sel.here)))).trans (.cons _ (Sel.perm (.there (.there (.there Sel.here)))))))) (Y := fun _ => atAny [_, _, _]) (fun _ _ h => h) (fun w hk hm => hear_ret c a h x p (.slice A52 (h ++ [x]).length c52) S R cs cr w ((hm.perm ((Sel.perm Sel.here).trans (.cons _ ((Sel.perm (.there (.there (.there Sel.here)))).trans (.cons _ (Sel.perm (.there (.there (.there Sel.here))))))))).give (rs := [_, _, _])) hc hna (proper_ok hpx) hla (by omega))) ?_
      rintro ⟨v, m⟩ ⟨R', cr', rfl, rfl⟩
      show Run _ _ _ _ _ _ _ ⟨(57, .tuple #[]) :: _, _ :: _ :: _ :: _⟩
      refine run_nil ?_
      refine run_sub (subMk (.cons (s := 0) rfl (.cons (s := 4) rfl (.cons (s := 5) rfl .nil))) .refl) ?_
      refine run_seq ?_
      refine run_region ?_
      refine run_q (.none rfl) rfl rfl (q_move rfl rfl) ?_
      refine run_q (.none rfl) rfl rfl (q_call rfl call25 (.cons rfl Evs.nil) (fun w hk hm => passed_just c a (h ++ [x]) p S A52 R' cs c52 cr' w (rd_lis (Sel.here.holds hm)) (own_rd ((Sel.there (Sel.there Sel.here)).holds hm)) hla)) ?_
      refine run_q (.none rfl) rfl rfl (q_assign rfl rfl) ?_
      refine run_q (.none rfl) rfl rfl (q_assign rfl rfl) ?_
      refine run_nil ?_
      refine run_sub (subMk (.cons (s := 4) rfl (.cons (s := 5) rfl .nil)) .refl) ?_
      refine run_ret ?_
      refine run_sub (subMk .refl (.cons Sel.here .refl (.cons Sel.here .refl (.cons (.there Sel.here) (.own (m' := (h ++ [x]).length) (xs' := (h ++ [x]).map Note.enc) rfl (by simp) rfl (by rw [List.map_append]; rfl)) (.cons Sel.here .refl .nil))))) ?_
      exact end2 rfl rfl rfl ⟨A52, c52, R', cr', by rw [lisN_yes hE, hE], by rw [hearL_yes hE]⟩

end Go.Proofs.Ytbkmmjpklkallaa
