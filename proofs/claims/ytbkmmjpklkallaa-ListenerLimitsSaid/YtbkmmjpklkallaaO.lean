/- A listener hears a note. -/
import Derived.Test.YtbkmmjpklkallaaN
set_option linter.unusedSimpArgs false
set_option linter.unusedVariables false
namespace Go.Proofs.Ytbkmmjpklkallaa
open Go Go.RowKit Hr



set_option maxRecDepth 100000 in
theorem hear_ret (c : Cost) (a h : List Note) (x : Note) (p : Nat) (hv : Value) (S R : Option Addr) (cs cr : Nat) (W : World) (hm : Mem (atAny [.blk p 79 [(0, .slice S a.length cs), (1, hv), (2, .int .i64 c.wrong), (3, .int .i64 c.missing), (4, .int .i64 c.extra), (5, .int .i64 c.time), (6, .int .i64 c.late), (7, .slice R (a.length + 1) cr)], .own 47 7 S a.length cs (a.map Note.enc), .own 3 1 R (a.length + 1) cr ((colV c a h).map encI)]) W [.blk p 79 [(0, .slice S a.length cs), (1, hv), (2, .int .i64 c.wrong), (3, .int .i64 c.missing), (4, .int .i64 c.extra), (5, .int .i64 c.time), (6, .int .i64 c.late), (7, .slice R (a.length + 1) cr)], .own 47 7 S a.length cs (a.map Note.enc), .own 3 1 R (a.length + 1) cr ((colV c a h).map encI)] W) (hc : CostOk c) (hna : ∀ p ∈ a, NoteOk p) (hx : NoteOk x) (hla : a.length ≤ 1024) (hlh : h.length ≤ 1024) : Calls Try.prog 48 #[.pointer (some ⟨p, 0, none⟩), x.val] W (Ret W (atAny [.blk p 79 [(0, .slice S a.length cs), (1, hv), (2, .int .i64 c.wrong), (3, .int .i64 c.missing), (4, .int .i64 c.extra), (5, .int .i64 c.time), (6, .int .i64 c.late), (7, .slice R (a.length + 1) cr)], .own 47 7 S a.length cs (a.map Note.enc), .own 3 1 R (a.length + 1) cr ((colV c a h).map encI)]) (fun v m => ∃ R' cr', v = .tuple #[] ∧ m = [.blk p 79 [(0, .slice S a.length cs), (1, hv), (2, .int .i64 c.wrong), (3, .int .i64 c.missing), (4, .int .i64 c.extra), (5, .int .i64 c.time), (6, .int .i64 c.late), (7, .slice R' (a.length + 1) cr')], .own 47 7 S a.length cs (a.map Note.enc), .own 3 1 R' (a.length + 1) cr' ((colV c a (h ++ [x])).map encI)])) := by
  refine enterA (X := _) (vs := [.pointer (some ⟨p, 0, none⟩), x.val]) Try.func48 Try.ntmps48 rfl rfl hm ?_
  refine run_seq ?_
  refine run_region ?_
  refine run_h (.none rfl) (h_box rfl rfl rfl rfl rfl) ?_
  rintro b3 -
  refine run_nil ?_
  refine run_seq ?_
  refine run_region ?_
  refine run_q (.none rfl) rfl rfl (q_move rfl rfl) ?_
  refine run_q (.none rfl) rfl rfl (q_nilCheck rfl rfl) ?_
  refine run_q (.none rfl) rfl rfl (q_fieldB (d := 7) rfl Try.underlying79 rfl rfl sz72 rfl) ?_
  refine run_q (.none rfl) rfl rfl (q_loadB rfl one72 rfl (.there Sel.here) rfl) ?_
  refine run_q (.none rfl) rfl rfl (q_len rfl Try.underlying72 rfl) ?_
  refine run_h (.none rfl) (h_make (m := (a.length + 1)) (cap := (a.length + 1)) rfl rfl rfl Try.underlying72 info3 rfl rfl (by omega) (by omega) (by omega)) ?_
  rintro b11 -
  refine run_q (.none rfl) rfl rfl (q_assign rfl rfl) ?_
  refine run_nil ?_
  refine run_sub (subMk (.cons (s := 0) rfl (.cons (s := 3) rfl (.cons (s := 4) rfl .nil))) .refl) ?_
  refine run_seq ?_
  have hcb := colF_bd hc (a := a) (h := h) 0
  have he := hc.e
  refine run_draw [(0, 0), (1, 0), (2, 0), (3, 0), (4, 0), (5, 0), (6, 0), (7, 0), (8, 0), (9, 0), (10, 0), (11, 0), (12, 0), (13, 0), (14, 2)] mixed (by kernel_rfl) .refl ?_
  refine d_q rfl rfl (.none rfl) rfl rfl (q_move rfl rfl) ?_
  refine d_q rfl rfl (.none rfl) rfl rfl (q_move rfl rfl) ?_
  refine d_q rfl rfl (.none rfl) rfl rfl (q_nilCheck rfl rfl) ?_
  refine d_q rfl rfl (.none rfl) rfl rfl (q_fieldB (d := 7) rfl Try.underlying79 rfl rfl sz72 rfl) ?_
  refine d_q rfl rfl (.none rfl) rfl rfl (q_loadB rfl one72 rfl (.there (.there Sel.here)) rfl) ?_
  refine d_q rfl rfl (.none rfl) rfl rfl (q_indexS (q := 0) rfl Try.underlying72 sz3 rfl rfl (.own (.there (.there (.there (.there Sel.here))))) (by simp [colV]) rfl (by omega)) ?_
  refine d_q rfl rfl (.none rfl) rfl rfl (q_loadC rfl one3 rfl (.own (.there (.there (.there (.there Sel.here))))) (colV_get (by omega))) ?_
  refine d_q rfl rfl (.none rfl) rfl rfl (q_move rfl rfl) ?_
  refine d_q rfl rfl (.none rfl) rfl rfl (q_nilCheck rfl rfl) ?_
  refine d_q rfl rfl (.none rfl) rfl rfl (q_fieldB (d := 2) rfl Try.underlying79 rfl rfl sz26 rfl) ?_
  refine d_q rfl rfl (.none rfl) rfl rfl (q_fieldB (d := 4) rfl Try.underlying26 rfl rfl sz3 rfl) ?_
  refine d_q rfl rfl (.none rfl) rfl rfl (q_loadB rfl one3 rfl (.there (.there Sel.here)) rfl) ?_
  refine d_q rfl rfl (.none rfl) rfl rfl (q_add rfl rfl rfl (by omega)) ?_
  refine d_q rfl rfl (.none rfl) rfl rfl (q_indexS (q := 0) rfl Try.underlying72 sz3 rfl rfl (.own Sel.here) (by simp) rfl (by omega)) ?_
  refine d_t rfl rfl (.none rfl) (h_storeE rfl rfl sz3 rfl rfl rfl rfl rfl Sel.here (by omega)) ?_
  rintro - -
  refine d_nil ?_
  refine run_sub (subMk (.cons (s := 0) rfl (.cons (s := 3) rfl (.cons (s := 4) rfl .nil))) .refl) ?_
  refine run_seq ?_
  refine run_seq ?_
  refine run_region ?_
  refine run_q (.none rfl) rfl rfl (q_move rfl rfl) ?_
  refine run_q (.none rfl) rfl rfl (q_nilCheck rfl rfl) ?_
  refine run_q (.none rfl) rfl rfl (q_fieldB (d := 0) rfl Try.underlying79 rfl rfl sz22 rfl) ?_
  refine run_q (.none rfl) rfl rfl (q_loadB rfl one22 rfl (.there (.there Sel.here)) rfl) ?_
  refine run_q (.none rfl) rfl rfl (q_len rfl Try.underlying22 rfl) ?_
  refine run_q (.none rfl) rfl rfl (q_move rfl rfl) ?_
  refine run_nil ?_
  refine run_sub (subMk (.cons (s := 0) rfl (.cons (s := 3) rfl (.cons (s := 4) rfl (.cons (s := 30) rfl (.cons (s := 31) rfl .nil))))) .refl) ?_
  refine run_block ?_
  refine run_sub (subMk (.cons (s := 31) rfl (.cons (s := 0) rfl (.cons (s := 3) rfl (.cons (s := 4) rfl (.cons (s := 30) rfl .nil))))) (.cons Sel.here .refl (.cons Sel.here .refl (.cons Sel.here .refl (.cons Sel.here .refl (.cons Sel.here .refl .nil)))))) ?_
  refine run_loopC1M1 (ι := Nat) (fun k => k ≤ a.length) (fun k => .int .i64 (k : Int)) (fun k => .own 3 1 (some ⟨b11, 0, none⟩) (a.length + 1) (a.length + 1) ((colK c a h x k).map encI)) (fun k => a.length - k) 0 (by (try dsimp only); exact (by omega)) rfl (.own rfl rfl rfl (colK_zero (colF_zero c a h x).symm)) ?_
  rintro k hk
  (try dsimp only at hk)
  show Run _ _ _ _ _ _ _ ⟨(31, .int .i64 (k : Int)) :: _, .own 3 1 (some ⟨b11, 0, none⟩) (a.length + 1) (a.length + 1) ((colK c a h x k).map encI) :: _⟩
  refine run_seq ?_
  refine run_region ?_
  refine run_q (.none rfl) rfl rfl (q_lss rfl rfl rfl) ?_
  refine run_nil ?_
  refine run_seq ?_
  refine run_cond rfl (fun g32 => ?_) (fun g32 => ?_)
  · have g32' := g32
    try simp only [decide_eq_true_eq, decide_eq_false_iff_not, beq_iff_eq, beq_eq_false_iff_ne, bne_iff_ne, bne_eq_false_iff_eq, Bool.not_eq_true', Bool.not_eq_false', ne_eq, Int.not_lt, Int.not_le, Decidable.not_not] at g32'
    have hb1 := colF_bd hc (a := a) (h := h) k
    have hb2 := colF_bd hc (a := a) (h := h) (k + 1)
    have hb3 := colF_bd hc (a := a) (h := h ++ [x]) k
    have hj := joinV_bd hc (nth a k) x
    have hm2 := hc.m
    have he := hc.e
    simp only [List.length_append, List.length_singleton] at hb3
    refine run_skip ?_
    refine run_seq ?_
    refine run_block ?_
    refine run_seq ?_
    refine run_region ?_
    refine run_q (.none rfl) rfl rfl (q_move rfl rfl) ?_
    refine run_q (.none rfl) rfl rfl (q_assign rfl rfl) ?_
    refine run_nil ?_
    refine run_draw [(0, 0), (1, 0), (2, 0), (3, 0), (4, 0), (5, 0), (6, 0), (7, 0), (8, 0), (9, 0), (10, 0), (11, 0), (12, 0), (13, 0), (14, 0), (15, 0), (16, 0), (17, 0), (18, 0), (19, 0), (20, 0), (21, 0), (22, 0), (23, 0), (24, 0), (25, 0), (26, 0), (27, 0), (28, 0), (29, 0), (30, 0), (31, 0), (32, 0), (33, 0), (34, 0), (35, 0), (36, 0), (37, 0), (38, 0), (39, 0), (40, 0), (41, 0), (42, 0), (43, 0), (44, 0), (45, 0), (46, 0), (47, 0), (48, 0), (49, 0), (50, 2)] mixed (by kernel_rfl) .refl ?_
    refine d_q rfl rfl (.none rfl) rfl rfl (q_move rfl rfl) ?_
    refine d_q rfl rfl (.none rfl) rfl rfl (q_move rfl rfl) ?_
    refine d_q rfl rfl (.none rfl) rfl rfl (q_add rfl rfl rfl (by omega)) ?_
    refine d_q rfl rfl (.none rfl) rfl rfl (q_move rfl rfl) ?_
    refine d_q rfl rfl (.none rfl) rfl rfl (q_nilCheck rfl rfl) ?_
    refine d_q rfl rfl (.none rfl) rfl rfl (q_fieldB (d := 7) rfl Try.underlying79 rfl rfl sz72 rfl) ?_
    refine d_q rfl rfl (.none rfl) rfl rfl (q_loadB rfl one72 rfl (.there (.there Sel.here)) rfl) ?_
    refine d_q rfl rfl (.none rfl) rfl rfl (q_move rfl rfl) ?_
    refine d_q rfl rfl (.none rfl) rfl rfl (q_indexS (q := k) rfl Try.underlying72 sz3 rfl rfl (.own (.there (.there (.there (.there Sel.here))))) (by simp [colV]) rfl (by omega)) ?_
    refine d_q rfl rfl (.none rfl) rfl rfl (q_loadC rfl one3 rfl (.own (.there (.there (.there (.there Sel.here))))) (colV_get (by omega))) ?_
    refine d_q rfl rfl (.none rfl) rfl rfl (q_move rfl rfl) ?_
    refine d_q rfl rfl (.none rfl) rfl rfl (q_nilCheck rfl rfl) ?_
    refine d_q rfl rfl (.none rfl) rfl rfl (q_fieldB (d := 2) rfl Try.underlying79 rfl rfl sz26 rfl) ?_
    refine d_q rfl rfl (.none rfl) rfl rfl (q_loadBN rfl agg26 rfl (.there (.there Sel.here)) (.cons rfl (.cons rfl (.cons rfl (.cons rfl (.cons rfl CellsAt.nil))))) rfl) ?_
    refine d_q rfl rfl (.none rfl) rfl rfl (q_move rfl rfl) ?_
    refine d_q rfl rfl (.none rfl) rfl rfl (q_nilCheck rfl rfl) ?_
    refine d_q rfl rfl (.none rfl) rfl rfl (q_fieldB (d := 0) rfl Try.underlying79 rfl rfl sz22 rfl) ?_
    refine d_q rfl rfl (.none rfl) rfl rfl (q_loadB rfl one22 rfl (.there (.there Sel.here)) rfl) ?_
    refine d_q rfl rfl (.none rfl) rfl rfl (q_move rfl rfl) ?_
    refine d_q rfl rfl (.none rfl) rfl rfl (q_indexS (q := k) rfl Try.underlying22 sz47 rfl rfl (.own (.there (.there (.there Sel.here)))) (by simp <;> omega) rfl (by omega)) ?_
    refine d_q rfl rfl (.none rfl) rfl rfl (q_loadE rfl agg47 rfl (.own (.there (.there (.there Sel.here)))) (getmap (by omega)) rfl) ?_
    refine d_q rfl rfl (.none rfl) rfl rfl (q_loadBN rfl agg47 rfl (.there Sel.here) (.cons rfl (.cons rfl (.cons rfl (.cons rfl (.cons rfl (.cons rfl (.cons rfl CellsAt.nil))))))) rfl) ?_
    refine d_q rfl rfl (.none rfl) rfl rfl (q_call rfl call41 (.cons rfl (.cons rfl (.cons rfl Evs.nil))) (fun w hk hm => join_just c (nth a k) x w hc (noteOk_nth hna (by omega)) hx)) ?_
    refine d_q rfl rfl (.none rfl) rfl rfl (q_add rfl rfl rfl (by omega)) ?_
    refine d_q rfl rfl (.none rfl) rfl rfl (q_move rfl rfl) ?_
    refine d_q rfl rfl (.none rfl) rfl rfl (q_move rfl rfl) ?_
    refine d_q rfl rfl (.none rfl) rfl rfl (q_indexS (q := k) rfl Try.underlying72 sz3 rfl rfl (.own Sel.here) (by simp [colK]) rfl (by omega)) ?_
    refine d_q rfl rfl (.none rfl) rfl rfl (q_loadC rfl one3 rfl (.own Sel.here) (colK_get (by omega) (by omega))) ?_
    refine d_q rfl rfl (.none rfl) rfl rfl (q_move rfl rfl) ?_
    refine d_q rfl rfl (.none rfl) rfl rfl (q_nilCheck rfl rfl) ?_
    refine d_q rfl rfl (.none rfl) rfl rfl (q_fieldB (d := 2) rfl Try.underlying79 rfl rfl sz26 rfl) ?_
    refine d_q rfl rfl (.none rfl) rfl rfl (q_fieldB (d := 3) rfl Try.underlying26 rfl rfl sz3 rfl) ?_
    refine d_q rfl rfl (.none rfl) rfl rfl (q_loadB rfl one3 rfl (.there (.there Sel.here)) rfl) ?_
    refine d_q rfl rfl (.none rfl) rfl rfl (q_add rfl rfl rfl (by omega)) ?_
    refine d_q rfl rfl (.none rfl) rfl rfl (q_move rfl rfl) ?_
    refine d_q rfl rfl (.none rfl) rfl rfl (q_nilCheck rfl rfl) ?_
    refine d_q rfl rfl (.none rfl) rfl rfl (q_fieldB (d := 7) rfl Try.underlying79 rfl rfl sz72 rfl) ?_
    refine d_q rfl rfl (.none rfl) rfl rfl (q_loadB rfl one72 rfl (.there (.there Sel.here)) rfl) ?_
    refine d_q rfl rfl (.none rfl) rfl rfl (q_move rfl rfl) ?_
    refine d_q rfl rfl (.none rfl) rfl rfl (q_add rfl rfl rfl (by omega)) ?_
    refine d_q rfl rfl (.none rfl) rfl rfl (q_indexS (q := (k + 1)) rfl Try.underlying72 sz3 rfl rfl (.own (.there (.there (.there (.there Sel.here))))) (by simp [colV]) (by omega) (by omega)) ?_
    refine d_q rfl rfl (.none rfl) rfl rfl (q_loadC rfl one3 rfl (.own (.there (.there (.there (.there Sel.here))))) (colV_get (by omega))) ?_
    refine d_q rfl rfl (.none rfl) rfl rfl (q_move rfl rfl) ?_
    refine d_q rfl rfl (.none rfl) rfl rfl (q_nilCheck rfl rfl) ?_
    refine d_q rfl rfl (.none rfl) rfl rfl (q_fieldB (d := 2) rfl Try.underlying79 rfl rfl sz26 rfl) ?_
    refine d_q rfl rfl (.none rfl) rfl rfl (q_fieldB (d := 4) rfl Try.underlying26 rfl rfl sz3 rfl) ?_
    refine d_q rfl rfl (.none rfl) rfl rfl (q_loadB rfl one3 rfl (.there (.there Sel.here)) rfl) ?_
    refine d_q rfl rfl (.none rfl) rfl rfl (q_add rfl rfl rfl (by omega)) ?_
    refine d_q rfl rfl (.none rfl) rfl rfl (q_min3 rfl rfl rfl rfl) ?_
    refine d_q rfl rfl (.none rfl) rfl rfl (q_indexS (q := (k + 1)) rfl Try.underlying72 sz3 rfl rfl (.own Sel.here) (by simp [colK]) (by omega) (by omega)) ?_
    refine d_t rfl rfl (.none rfl) (h_storeE rfl rfl sz3 rfl rfl rfl rfl rfl Sel.here (by omega)) ?_
    rintro - -
    refine d_nil ?_
    refine run_sub (subMk (.cons (s := 0) rfl (.cons (s := 3) rfl (.cons (s := 4) rfl (.cons (s := 30) rfl (.cons (s := 31) rfl .nil))))) .refl) ?_
    refine run_blk ?_
    refine run_region ?_
    refine run_q (.none rfl) rfl rfl (q_add rfl rfl rfl (by omega)) ?_
    refine run_q (.none rfl) rfl rfl (q_move rfl rfl) ?_
    refine run_nil ?_
    exact run_again (k + 1) (by (try dsimp only); exact (by omega)) (by (try dsimp only); omega) (subMk (.cons' (s := 31) rfl rfl (.cons (s := 0) rfl (.cons (s := 3) rfl (.cons (s := 4) rfl (.cons (s := 30) rfl .nil))))) (.cons Sel.here (.own rfl rfl rfl (colK_set (by omega) (colF_succ (by omega)).symm)) (.cons Sel.here .refl (.cons Sel.here .refl (.cons Sel.here .refl (.cons Sel.here .refl .nil))))))
  · have g32' := g32
    try simp only [decide_eq_true_eq, decide_eq_false_iff_not, beq_iff_eq, beq_eq_false_iff_ne, bne_iff_ne, bne_eq_false_iff_eq, Bool.not_eq_true', Bool.not_eq_false', ne_eq, Int.not_lt, Int.not_le, Decidable.not_not] at g32'
    refine run_exit rfl ?_
    refine run_sub (subMk (.cons (s := 0) rfl (.cons (s := 4) rfl .nil)) .refl) ?_
    refine run_region ?_
    refine run_q (.none rfl) rfl rfl (q_move rfl rfl) ?_
    refine run_q (.none rfl) rfl rfl (q_move rfl rfl) ?_
    refine run_q (.none rfl) rfl rfl (q_nilCheck rfl rfl) ?_
    refine run_q (.none rfl) rfl rfl (q_fieldB (d := 7) rfl Try.underlying79 rfl rfl sz72 rfl) ?_
    refine run_h (.none rfl) (h_storeB rfl rfl sz72 rfl rfl rfl rfl rfl (.there (.there Sel.here)) rfl) ?_
    rintro - -
    refine run_nil ?_
    refine run_sub (subMk .nil .refl) ?_
    refine run_sub (subMk .refl (.cons Sel.here (.blk (.cons (s := 0) rfl (.cons (s := 1) rfl (.cons (s := 2) rfl (.cons (s := 3) rfl (.cons (s := 4) rfl (.cons (s := 5) rfl (.cons (s := 6) rfl (.cons (s := 7) rfl (.nil)))))))))) (.cons (.there (.there Sel.here)) .refl (.cons Sel.here .refl .nil)))) ?_
    exact end0 rfl ⟨some ⟨b11, 0, none⟩, a.length + 1, rfl, by rw [colK_all (by omega)]⟩

end Go.Proofs.Ytbkmmjpklkallaa
