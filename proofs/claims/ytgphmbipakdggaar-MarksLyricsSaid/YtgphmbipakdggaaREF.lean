/- An event cut short. -/
import Derived.Test.YtgphmbipakdggaaREE
import Derived.Test.YtgphmbipakdggaaRELaw
import Derived.Test.YtgphmbipakdggaaRPure
set_option linter.unusedSimpArgs false
set_option linter.unusedVariables false
namespace Go.Proofs.YtgphmbipakdggaaR.Ev
open Go Go.RowKit Hr

theorem call99 : Hr.Callable Try.prog 99 := fun args w => by kernel_rfl

theorem take_min {α : Type} {l : List α} {m k : Nat} (h : k = (min (l.length : Int) m).toNat) : l.take m = l.take k := by
  by_cases h1 : l.length ≤ m
  · rw [List.take_of_length_le h1, List.take_of_length_le (by omega)]
  · rw [show k = m from by omega]

set_option maxHeartbeats 4000000 in
set_option maxRecDepth 100000 in
theorem shortEv_ret (x : Evt) (p : Lie) (W : World) (hx : RdE W x p) (bh : x.hs.length * 40 ≤ 140737488355328) (bg : x.gs.length * 40 ≤ 140737488355328) (bl : x.ls.length * 24 ≤ 140737488355328) : Calls Try.prog 95 #[evV x p] W (Ret W nX (fun v m => ∃ q : Lie, v = evV (shE x) q ∧ m = [.own 152 5 q.HA (shE x).hs.length q.hc ((shE x).hs.map Hd.enc), .own 155 5 q.GA (shE x).gs.length q.gc ((shE x).gs.map Gr.enc), .own 86 2 q.LA (shE x).ls.length q.lc ((shE x).ls.map Syl.enc)])) := by
  refine enterA (X := nX) (vs := [evV x p]) Try.func95 Try.ntmps95 rfl rfl Mem.nil ?_
  refine run_seq ?_
  refine run_region ?_
  refine run_h (.none rfl) (h_box rfl rfl rfl rfl rfl) ?_
  rintro b1 -
  refine run_h (.none rfl) (h_alloc rfl rfl rfl info78) ?_
  rintro b2 -
  refine run_nil ?_
  refine run_seq ?_
  refine run_region ?_
  refine run_q (.none rfl) rfl rfl (q_loadBN rfl agg78 rfl (.there Sel.here) (.cons rfl (.cons rfl (.cons rfl (.cons rfl (.cons rfl (.cons rfl (.cons rfl (.cons rfl (.cons rfl (.cons rfl (.cons rfl (.cons rfl (.cons rfl CellsAt.nil))))))))))))) rfl) ?_
  refine run_h (.none rfl) (h_call rfl rfl rfl call99 (.cons rfl Evs.nil) (fun w hk hm => evClone_ret x p w (hx.kept0 hk) bh bg bl)) ?_
  rintro ⟨v, m⟩ ⟨q, rfl, rfl⟩
  show Run _ _ _ _ _ _ _ ⟨(5, evV x q) :: _, _ :: _ :: _ :: _⟩
  refine run_h (.none rfl) (h_storeB rfl rfl sz78 rfl rfl rfl rfl rfl (.there (.there (.there (.there Sel.here)))) rfl) ?_
  rintro - -
  refine run_nil ?_
  refine run_sub (subMk (.cons (s := 1) rfl (.cons (s := 2) rfl .nil)) .refl) ?_
  refine run_seq ?_
  refine run_ownLe (.there Sel.here) (fun hhle => ?_)
  refine run_ownLe (.there (.there Sel.here)) (fun hgle => ?_)
  refine run_ownLe (.there (.there (.there Sel.here))) (fun hyle => ?_)
  refine run_pure [(0, 0), (1, 0), (2, 0), (3, 0), (4, 0), (5, 0), (6, 0), (7, 0), (8, 0), (9, 0), (10, 0), (11, 3), (12, 3), (13, 3), (14, 0), (15, 0), (16, 0), (17, 0), (18, 3), (19, 3), (20, 3), (21, 0), (22, 2), (23, 2), (24, 2), (25, 2), (26, 2)] mixed (by kernel_rfl) .refl ?_
  refine p_q rfl rfl (.none rfl) rfl rfl (q_fieldB (d := 5) rfl Try.underlying78 rfl rfl sz74 rfl) ?_
  refine p_q rfl rfl (.none rfl) rfl rfl (q_loadB rfl one74 rfl Sel.here rfl) ?_
  refine p_q rfl rfl (.none rfl) rfl rfl (q_fieldB (d := 5) rfl Try.underlying78 rfl rfl sz74 rfl) ?_
  refine p_q rfl rfl (.none rfl) rfl rfl (q_loadB rfl one74 rfl Sel.here rfl) ?_
  refine p_q rfl rfl (.none rfl) rfl rfl (q_len rfl Try.underlying74 rfl) ?_
  refine p_q rfl rfl (.none rfl) rfl rfl (q_min2 rfl rfl rfl) ?_
  refine p_q rfl rfl (.none rfl) rfl rfl (q_sliceH rfl Try.underlying74 sz152 rfl rfl (by omega)) ?_
  refine p_q rfl rfl (.none rfl) rfl rfl (q_fieldB (d := 6) rfl Try.underlying78 rfl rfl sz75 rfl) ?_
  refine p_q rfl rfl (.none rfl) rfl rfl (q_loadB rfl one75 rfl Sel.here rfl) ?_
  refine p_q rfl rfl (.none rfl) rfl rfl (q_fieldB (d := 6) rfl Try.underlying78 rfl rfl sz75 rfl) ?_
  refine p_q rfl rfl (.none rfl) rfl rfl (q_loadB rfl one75 rfl Sel.here rfl) ?_
  refine p_p rfl rfl (.none rfl) rfl rfl (q_len rfl Try.underlying75 rfl) ?_
  refine p_p rfl rfl (.none rfl) rfl rfl (q_min2 rfl rfl rfl) ?_
  refine p_p rfl rfl (.none rfl) rfl rfl (q_sliceH rfl Try.underlying75 sz155 rfl rfl (by omega)) ?_
  refine p_q rfl rfl (.none rfl) rfl rfl (q_fieldB (d := 10) rfl Try.underlying78 rfl rfl sz76 rfl) ?_
  refine p_q rfl rfl (.none rfl) rfl rfl (q_loadB rfl one76 rfl Sel.here rfl) ?_
  refine p_q rfl rfl (.none rfl) rfl rfl (q_fieldB (d := 10) rfl Try.underlying78 rfl rfl sz76 rfl) ?_
  refine p_q rfl rfl (.none rfl) rfl rfl (q_loadB rfl one76 rfl Sel.here rfl) ?_
  refine p_p rfl rfl (.none rfl) rfl rfl (q_len rfl Try.underlying76 rfl) ?_
  refine p_p rfl rfl (.none rfl) rfl rfl (q_min2 rfl rfl rfl) ?_
  refine p_p rfl rfl (.none rfl) rfl rfl (q_sliceH rfl Try.underlying76 sz86 rfl rfl (by omega)) ?_
  refine p_q rfl rfl (.none rfl) rfl rfl (q_fieldB (d := 5) rfl Try.underlying78 rfl rfl sz74 rfl) ?_
  refine p_t rfl rfl (.none rfl) (h_storeB rfl rfl sz74 rfl rfl rfl rfl rfl Sel.here rfl) ?_
  rintro - -
  refine p_t rfl rfl (.none rfl) (.of_q rfl rfl (q_fieldB (d := 6) rfl Try.underlying78 rfl rfl sz75 rfl)) ?_
  rintro - -
  refine p_t rfl rfl (.none rfl) (h_storeB rfl rfl sz75 rfl rfl rfl rfl rfl Sel.here rfl) ?_
  rintro - -
  refine p_t rfl rfl (.none rfl) (.of_q rfl rfl (q_fieldB (d := 10) rfl Try.underlying78 rfl rfl sz76 rfl)) ?_
  rintro - -
  refine p_t rfl rfl (.none rfl) (h_storeB rfl rfl sz76 rfl rfl rfl rfl rfl Sel.here rfl) ?_
  rintro - -
  refine p_nil ?_
  refine run_sub (subMk (.cons (s := 1) rfl (.cons (s := 2) rfl .nil)) .refl) ?_
  refine run_seq ?_
  refine run_seq ?_
  refine run_sub (subMk .refl (.cons Sel.here (.blk (.cons (s := 0) rfl (.cons (s := 1) rfl (.cons (s := 2) rfl (.cons (s := 3) rfl (.cons (s := 4) rfl (.cons' (s := 5) (v' := .slice q.HA (shE x).hs.length q.hc) rfl (by rw [shE_hs]) (.cons' (s := 6) (v' := .slice q.GA (shE x).gs.length q.gc) rfl (by rw [shE_gs]) (.cons (s := 7) rfl (.cons (s := 8) rfl (.cons (s := 9) rfl (.cons' (s := 10) (v' := .slice q.LA (shE x).ls.length q.lc) rfl (by rw [shE_ls]) (.cons (s := 11) rfl (.cons (s := 12) rfl (.nil))))))))))))))) (.cons Sel.here (.ownTake (n' := (shE x).hs.length) (m' := (shE x).hs.length) (ls' := (shE x).hs.map Hd.enc) rfl rfl (by rw [shE_hs]; omega) (by rw [← List.map_take]; exact congrArg _ (take_min (by rw [shE_hs]; rfl)))) (.cons Sel.here (.ownTake (n' := (shE x).gs.length) (m' := (shE x).gs.length) (ls' := (shE x).gs.map Gr.enc) rfl rfl (by rw [shE_gs]; omega) (by rw [← List.map_take]; exact congrArg _ (take_min (by rw [shE_gs]; rfl)))) (.cons Sel.here (.ownTake (n' := (shE x).ls.length) (m' := (shE x).ls.length) (ls' := (x.ls.take 5).map Syl.enc) rfl rfl (by rw [shE_ls]; omega) (by rw [← List.map_take]; exact congrArg _ (take_min (by rw [shE_ls]; rfl)))) (.cons Sel.here .refl .nil)))))) ?_
  refine run_region ?_
  refine run_q (.none rfl) rfl rfl (q_assign rfl rfl) ?_
  refine run_nil ?_
  refine run_block ?_
  refine run_sub (subMk (.cons (s := 3) rfl (.cons (s := 1) rfl (.cons (s := 2) rfl .nil))) (.cons Sel.here .refl (.cons (.there (.there Sel.here)) .refl (.cons Sel.here .refl (.cons Sel.here .refl (.cons Sel.here .refl .nil)))))) ?_
  refine run_loopC1M2 (ι := Nat) (fun k => k ≤ (x.ls.take 5).length) (fun k => .int .i64 (k : Int)) (fun k => .blk b1 78 [(0, .int .i64 (shE x).n.site), (1, .int .i64 (shE x).n.num), (2, .int .i64 (shE x).n.kind), (3, .int .i64 (shE x).n.log), (4, .int .i64 (shE x).n.dots), (5, .slice q.HA (shE x).hs.length q.hc), (6, .slice q.GA (shE x).gs.length q.gc), (7, .int .i64 (shE x).n.art), (8, .int .i64 (shE x).n.orn), (9, .int .i64 (shE x).n.dyn), (10, .slice q.LA (shE x).ls.length q.lc), (11, .int .i64 (shE x).n.stem), (12, .int .i64 (shE x).n.beam)]) (fun k => .own 86 2 q.LA (shE x).ls.length q.lc ((shK x.ls k).map Syl.enc)) (fun k => (x.ls.take 5).length - k) 0 (by (try dsimp only); exact (by omega)) rfl (.blk (.cons (s := 0) rfl (.cons (s := 1) rfl (.cons (s := 2) rfl (.cons (s := 3) rfl (.cons (s := 4) rfl (.cons (s := 5) rfl (.cons (s := 6) rfl (.cons (s := 7) rfl (.cons (s := 8) rfl (.cons (s := 9) rfl (.cons (s := 10) rfl (.cons (s := 11) rfl (.cons (s := 12) rfl (.nil))))))))))))))) (.own rfl rfl rfl (by rw [shK_zero])) ?_
  rintro k hk
  (try dsimp only at hk)
  show Run _ _ _ _ _ _ _ ⟨(3, .int .i64 (k : Int)) :: _, .blk b1 78 [(0, .int .i64 (shE x).n.site), (1, .int .i64 (shE x).n.num), (2, .int .i64 (shE x).n.kind), (3, .int .i64 (shE x).n.log), (4, .int .i64 (shE x).n.dots), (5, .slice q.HA (shE x).hs.length q.hc), (6, .slice q.GA (shE x).gs.length q.gc), (7, .int .i64 (shE x).n.art), (8, .int .i64 (shE x).n.orn), (9, .int .i64 (shE x).n.dyn), (10, .slice q.LA (shE x).ls.length q.lc), (11, .int .i64 (shE x).n.stem), (12, .int .i64 (shE x).n.beam)] :: .own 86 2 q.LA (shE x).ls.length q.lc ((shK x.ls k).map Syl.enc) :: _⟩
  refine run_seq ?_
  refine run_seq ?_
  refine run_region ?_
  refine run_q (.none rfl) rfl rfl (q_move rfl rfl) ?_
  refine run_q (.none rfl) rfl rfl (q_fieldB (d := 10) rfl Try.underlying78 rfl rfl sz76 rfl) ?_
  refine run_q (.none rfl) rfl rfl (q_loadB rfl one76 rfl Sel.here rfl) ?_
  refine run_q (.none rfl) rfl rfl (q_len rfl Try.underlying76 rfl) ?_
  refine run_q (.none rfl) rfl rfl (q_lss rfl rfl rfl) ?_
  refine run_nil ?_
  refine run_sub (subMk (.cons (s := 1) rfl (.cons (s := 2) rfl (.cons (s := 3) rfl (.cons (s := 34) rfl .nil)))) .refl) ?_
  refine run_cond rfl (fun g34 => ?_) (fun g34 => ?_)
  · have g34' := g34
    try simp only [decide_eq_true_eq, decide_eq_false_iff_not, beq_iff_eq, beq_eq_false_iff_ne, bne_iff_ne, bne_eq_false_iff_eq, Bool.not_eq_true', Bool.not_eq_false', ne_eq, Int.not_lt, Int.not_le, Decidable.not_not] at g34'
    have hk5 : k < (x.ls.take 5).length := by rw [shE_ls] at g34'; rw [List.length_take]; omega
    have hl5 : (x.ls.take 5).length ≤ 5 := by rw [List.length_take]; omega
    refine run_skip ?_
    refine run_seq ?_
    refine run_block ?_
    refine run_draw [(0, 0), (1, 0), (2, 0), (3, 0), (4, 0), (5, 0), (6, 0), (7, 0), (8, 0), (9, 0), (10, 0), (11, 0), (12, 0), (13, 0), (14, 0), (15, 0), (16, 0), (17, 0), (18, 0), (19, 0), (20, 2)] mixed (by kernel_rfl) .refl ?_
    refine d_q rfl rfl (.none rfl) rfl rfl (q_fieldB (d := 10) rfl Try.underlying78 rfl rfl sz76 rfl) ?_
    refine d_q rfl rfl (.none rfl) rfl rfl (q_loadB rfl one76 rfl Sel.here rfl) ?_
    refine d_q rfl rfl (.none rfl) rfl rfl (q_move rfl rfl) ?_
    refine d_q rfl rfl (.none rfl) rfl rfl (q_fieldB (d := 10) rfl Try.underlying78 rfl rfl sz76 rfl) ?_
    refine d_q rfl rfl (.none rfl) rfl rfl (q_loadB rfl one76 rfl Sel.here rfl) ?_
    refine d_q rfl rfl (.none rfl) rfl rfl (q_move rfl rfl) ?_
    refine d_q rfl rfl (.none rfl) rfl rfl (q_indexS (q := k) rfl Try.underlying76 sz86 rfl rfl (.own (.there Sel.here)) (by rw [List.length_map, shK_len (by omega)]; simp [shE]) rfl (by omega)) ?_
    refine d_q rfl rfl (.none rfl) rfl rfl (q_fieldAddr (d := 0) rfl Try.underlying86 rfl rfl sz9 rfl) ?_
    refine d_q rfl rfl (.none rfl) rfl rfl (q_loadF rfl one9 rfl (.own (.there Sel.here)) (by rw [getmap (by rw [shK_len (by omega)]; exact hk5), shK_at hk5]) rfl) ?_
    refine d_q rfl rfl (.none rfl) rfl rfl (q_fieldB (d := 10) rfl Try.underlying78 rfl rfl sz76 rfl) ?_
    refine d_q rfl rfl (.none rfl) rfl rfl (q_loadB rfl one76 rfl Sel.here rfl) ?_
    refine d_q rfl rfl (.none rfl) rfl rfl (q_move rfl rfl) ?_
    refine d_q rfl rfl (.none rfl) rfl rfl (q_indexS (q := k) rfl Try.underlying76 sz86 rfl rfl (.own (.there Sel.here)) (by rw [List.length_map, shK_len (by omega)]; simp [shE]) rfl (by omega)) ?_
    refine d_q rfl rfl (.none rfl) rfl rfl (q_fieldAddr (d := 0) rfl Try.underlying86 rfl rfl sz9 rfl) ?_
    refine d_q rfl rfl (.none rfl) rfl rfl (q_loadF rfl one9 rfl (.own (.there Sel.here)) (by rw [getmap (by rw [shK_len (by omega)]; exact hk5), shK_at hk5]) rfl) ?_
    refine d_q rfl rfl (.none rfl) rfl rfl (q_lens rfl Try.underlying9 rfl) ?_
    refine d_q rfl rfl (.none rfl) rfl rfl (q_min2 rfl rfl rfl) ?_
    refine d_q rfl rfl (.none rfl) rfl rfl (q_sliceStrH rfl Try.underlying9 rfl rfl (by omega)) ?_
    refine d_q rfl rfl (.none rfl) rfl rfl (q_indexS (q := k) rfl Try.underlying76 sz86 rfl rfl (.own (.there Sel.here)) (by rw [List.length_map, shK_len (by omega)]; simp [shE]) rfl (by omega)) ?_
    refine d_q rfl rfl (.none rfl) rfl rfl (q_fieldAddr (d := 0) rfl Try.underlying86 rfl rfl sz9 rfl) ?_
    refine d_t rfl rfl (.none rfl) (h_storeF rfl rfl sz9 rfl rfl rfl rfl rfl (.there Sel.here) (by omega) (by decide) (by rw [getmap (by rw [shK_len (by omega)]; exact hk5), shK_at hk5])) ?_
    rintro - -
    refine d_nil ?_
    refine run_sub (subMk (.cons (s := 1) rfl (.cons (s := 2) rfl (.cons (s := 3) rfl .nil))) .refl) ?_
    refine run_blk ?_
    refine run_region ?_
    refine run_q (.none rfl) rfl rfl (q_move rfl rfl) ?_
    refine run_q (.none rfl) rfl rfl (q_add rfl rfl rfl (by omega)) ?_
    refine run_q (.none rfl) rfl rfl (q_assign rfl rfl) ?_
    refine run_nil ?_
    exact run_again (k + 1) (by (try dsimp only); exact (by omega)) (by (try dsimp only); omega) (subMk (.cons' (s := 3) rfl (vint (by omega)) (.cons (s := 1) rfl (.cons (s := 2) rfl .nil))) (.cons (.there Sel.here) (.blk (.cons (s := 0) rfl (.cons (s := 1) rfl (.cons (s := 2) rfl (.cons (s := 3) rfl (.cons (s := 4) rfl (.cons (s := 5) rfl (.cons (s := 6) rfl (.cons (s := 7) rfl (.cons (s := 8) rfl (.cons (s := 9) rfl (.cons (s := 10) rfl (.cons (s := 11) rfl (.cons (s := 12) rfl (.nil))))))))))))))) (.cons Sel.here (.own rfl rfl rfl (by rw [← shK_set hk5, List.map_set]; rfl)) (.cons Sel.here .refl (.cons Sel.here .refl (.cons Sel.here .refl .nil))))))
  · have g34' := g34
    try simp only [decide_eq_true_eq, decide_eq_false_iff_not, beq_iff_eq, beq_eq_false_iff_ne, bne_iff_ne, bne_eq_false_iff_eq, Bool.not_eq_true', Bool.not_eq_false', ne_eq, Int.not_lt, Int.not_le, Decidable.not_not] at g34'
    refine run_exit rfl ?_
    refine run_seq ?_
    refine run_region ?_
    refine run_q (.none rfl) rfl rfl (q_loadBN rfl agg78 rfl Sel.here (.cons rfl (.cons rfl (.cons rfl (.cons rfl (.cons rfl (.cons rfl (.cons rfl (.cons rfl (.cons rfl (.cons rfl (.cons rfl (.cons rfl (.cons rfl CellsAt.nil))))))))))))) rfl) ?_
    refine run_h (.none rfl) (h_storeB rfl rfl sz78 rfl rfl rfl rfl rfl (.there (.there (.there (.there Sel.here)))) rfl) ?_
    rintro - -
    refine run_nil ?_
    refine run_sub (subMk (.cons (s := 2) rfl .nil) .refl) ?_
    refine run_ret ?_
    exact endG rfl (.cellN rfl agg78 Sel.here (.cons rfl (.cons rfl (.cons rfl (.cons rfl (.cons rfl (.cons rfl (.cons rfl (.cons rfl (.cons rfl (.cons rfl (.cons rfl (.cons rfl (.cons rfl CellsAt.nil))))))))))))) rfl Outs.nil) _ (.cons (.there (.there (.there Sel.here))) .refl (.cons (.there (.there (.there Sel.here))) .refl (.cons (.there (.there Sel.here)) (.own (m' := (shE x).ls.length) (xs' := (shE x).ls.map Syl.enc) rfl rfl rfl (by rw [shK_end (by rw [shE_ls] at g34'; rw [List.length_take]; omega)]; rfl)) .nil))) ⟨q, rfl, rfl⟩

end Go.Proofs.YtgphmbipakdggaaR.Ev
