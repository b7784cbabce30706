/- The canonical form of an event. -/
import Derived.Test.YtneadapfoaccmaaI
set_option linter.unusedSimpArgs false
set_option linter.unusedVariables false
namespace Go.Proofs.Ytneadapfoaccmaa
open Go Go.RowKit Hr

theorem call64 : Hr.Callable Try.prog 64 := fun args w => by kernel_rfl
theorem call65 : Hr.Callable Try.prog 65 := fun args w => by kernel_rfl
theorem call66 : Hr.Callable Try.prog 66 := fun args w => by kernel_rfl
theorem call29 : Hr.Callable Try.prog 29 := fun args w => by kernel_rfl
theorem call57 : Hr.Callable Try.prog 57 := fun args w => by kernel_rfl
theorem call59 : Hr.Callable Try.prog 59 := fun args w => by kernel_rfl
theorem call61 : Hr.Callable Try.prog 61 := fun args w => by kernel_rfl

set_option maxHeartbeats 2000000 in
set_option maxRecDepth 100000 in
theorem evClone_ret (x : Evt) (p : Lie) (W : World) (hx : RdE W x p) (fx : x.few) : Calls Try.prog 29 #[evV x p] W (Ret W nX (fun v m => ∃ q : Lie, v = evV x q ∧ m = [.own 53 5 q.HA x.hs.length q.hc (x.hs.map Hd.enc), .own 55 5 q.GA x.gs.length q.gc (x.gs.map Gr.enc), .own 57 2 q.LA x.ls.length q.lc (x.ls.map Syl.enc)])) := by
  obtain ⟨fx1, fx2, fx3, fx4⟩ := id fx
  refine enterA (X := nX) (vs := [evV x p]) Try.func29 Try.ntmps29 rfl rfl Mem.nil ?_
  refine run_seq ?_
  refine run_region ?_
  refine run_h (.none rfl) (h_box rfl rfl rfl rfl rfl) ?_
  rintro b1 -
  refine run_h (.none rfl) (h_alloc rfl rfl rfl info30) ?_
  rintro b2 -
  refine run_nil ?_
  refine run_seq ?_
  refine run_draw [(0, 0), (1, 0), (3, 0), (4, 0), (6, 0), (7, 0), (2, 1), (9, 0), (5, 1), (8, 1), (10, 2), (11, 2), (12, 2), (13, 2), (14, 2)] mixed (by kernel_rfl) .refl ?_
  refine d_q rfl rfl (.none rfl) rfl rfl (q_fieldB (d := 5) rfl Try.underlying30 rfl rfl sz26 rfl) ?_
  refine d_q rfl rfl (.none rfl) rfl rfl (q_loadB rfl one26 rfl (.there Sel.here) rfl) ?_
  refine d_q rfl rfl (.none rfl) rfl rfl (q_fieldB (d := 6) rfl Try.underlying30 rfl rfl sz27 rfl) ?_
  refine d_q rfl rfl (.none rfl) rfl rfl (q_loadB rfl one27 rfl (.there Sel.here) rfl) ?_
  refine d_q rfl rfl (.none rfl) rfl rfl (q_fieldB (d := 10) rfl Try.underlying30 rfl rfl sz28 rfl) ?_
  refine d_q rfl rfl (.none rfl) rfl rfl (q_loadB rfl one28 rfl (.there Sel.here) rfl) ?_
  refine d_h rfl rfl (.none rfl) (h_call rfl rfl rfl call64 (.cons rfl Evs.nil) (fun w hk hm => cloneH x.hs p.HA p.hc w (hx.h.kept0 hk) (by omega))) (fun _ _ => (.sub (List.sublist_append_right _ _))) ?_
  rintro ⟨v, m⟩ ⟨O5, c5, rfl, rfl⟩
  show RunD _ _ _ _ _ _ _ _ _ _ _ ⟨(5, .slice O5 x.hs.length c5) :: _, _ :: _⟩
  refine d_q rfl rfl (.none rfl) rfl rfl (q_fieldB (d := 5) rfl Try.underlying30 rfl rfl sz26 rfl) ?_
  refine d_h rfl rfl (.none rfl) (h_call rfl rfl rfl call65 (.cons rfl Evs.nil) (fun w hk hm => cloneG x.gs p.GA p.gc w (hx.g.kept0 hk) (by omega))) (fun _ _ => (.sub (.trans (by repeat (first | exact List.Sublist.refl _ | apply List.Sublist.cons)) (List.sublist_append_right _ _)))) ?_
  rintro ⟨v, m⟩ ⟨O8, c8, rfl, rfl⟩
  show RunD _ _ _ _ _ _ _ _ _ _ _ ⟨(8, .slice O8 x.gs.length c8) :: _, _ :: _⟩
  refine d_h rfl rfl (.none rfl) (h_call rfl rfl rfl call66 (.cons rfl Evs.nil) (fun w hk hm => cloneY x.ls p.LA p.lc w (hx.l.kept0 hk) (by omega))) (fun _ _ => (.sub (.trans (by repeat (first | exact List.Sublist.refl _ | apply List.Sublist.cons)) (List.sublist_append_right _ _)))) ?_
  rintro ⟨v, m⟩ ⟨O11, c11, rfl, rfl⟩
  show RunD _ _ _ _ _ _ _ _ _ _ _ ⟨(11, .slice O11 x.ls.length c11) :: _, _ :: _⟩
  refine d_t rfl rfl (.none rfl) (h_storeB rfl rfl sz26 rfl rfl rfl rfl rfl (.there (.there (.there (.there Sel.here)))) rfl) ?_
  rintro - -
  refine d_t rfl rfl (.none rfl) (.of_q rfl rfl (q_fieldB (d := 6) rfl Try.underlying30 rfl rfl sz27 rfl)) ?_
  rintro - -
  refine d_t rfl rfl (.none rfl) (h_storeB rfl rfl sz27 rfl rfl rfl rfl rfl Sel.here rfl) ?_
  rintro - -
  refine d_t rfl rfl (.none rfl) (.of_q rfl rfl (q_fieldB (d := 10) rfl Try.underlying30 rfl rfl sz28 rfl)) ?_
  rintro - -
  refine d_t rfl rfl (.none rfl) (h_storeB rfl rfl sz28 rfl rfl rfl rfl rfl Sel.here rfl) ?_
  rintro - -
  refine d_nil ?_
  refine run_sub (subMk (.cons (s := 1) rfl (.cons (s := 2) rfl .nil)) .refl) ?_
  refine run_seq ?_
  refine run_region ?_
  refine run_q (.none rfl) rfl rfl (q_loadBN rfl agg30 rfl Sel.here (.cons rfl (.cons rfl (.cons rfl (.cons rfl (.cons rfl (.cons rfl (.cons rfl (.cons rfl (.cons rfl (.cons rfl (.cons rfl (.cons rfl (.cons rfl CellsAt.nil))))))))))))) rfl) ?_
  refine run_h (.none rfl) (h_storeB rfl rfl sz30 rfl rfl rfl rfl rfl (.there (.there (.there (.there Sel.here)))) rfl) ?_
  rintro - -
  refine run_nil ?_
  refine run_ret ?_
  exact endG rfl (.cellN rfl agg30 Sel.here (.cons rfl (.cons rfl (.cons rfl (.cons rfl (.cons rfl (.cons rfl (.cons rfl (.cons rfl (.cons rfl (.cons rfl (.cons rfl (.cons rfl (.cons rfl CellsAt.nil))))))))))))) rfl Outs.nil) _ (.cons (.there (.there (.there (.there Sel.here)))) .refl (.cons (.there (.there (.there Sel.here))) .refl (.cons (.there (.there Sel.here)) .refl .nil))) ⟨⟨O5, c5, O8, c8, O11, c11⟩, rfl, rfl⟩

theorem cptR (l : List Hd) (A : Option Addr) (ca : Nat) (W : World) (hm : Mem (atAny [.own 53 5 A (Flt.rest badH l).length ca ((Srt.sort (ltN nm) (Flt.rest badH l) (Flt.rest badH l).length).map Hd.enc)]) W [.own 53 5 A (Flt.rest badH l).length ca ((Srt.sort (ltN nm) (Flt.rest badH l) (Flt.rest badH l).length).map Hd.enc)] W) (hl : (Flt.rest badH l).length ≤ 1000000) :
    Calls Try.prog 61 #[.slice A (Flt.rest badH l).length ca, .func (.func 62) #[] #[]] W (Ret W (atAny [.own 53 5 A (Flt.rest badH l).length ca ((Srt.sort (ltN nm) (Flt.rest badH l) (Flt.rest badH l).length).map Hd.enc)]) (fun v m => v = .slice A (canH l).length ca ∧ m = [.own 53 5 A (canH l).length ca ((canH l).map Hd.enc)])) := by
  have h := cptH (Srt.sort (ltN nm) (Flt.rest badH l) (Flt.rest badH l).length) A ca W (by rw [Srt.sort_len]; exact hm) (by rw [Srt.sort_len]; exact hl)
  rw [Srt.sort_len] at h
  exact h

set_option maxHeartbeats 4000000 in
set_option maxRecDepth 100000 in
theorem canonical_ret (x : Evt) (p : Lie) (W : World) (hx : RdE W x p) (fx : x.few) (h20 : x.hs.length ≤ 20) : Calls Try.prog 24 #[evV x p] W (Ret W nX (fun v m => ∃ q : Lie, v = evV (canE x) q ∧ m = [.own 53 5 q.HA (canE x).hs.length q.hc ((canE x).hs.map Hd.enc), .own 55 5 q.GA (canE x).gs.length q.gc ((canE x).gs.map Gr.enc), .own 57 2 q.LA (canE x).ls.length q.lc ((canE x).ls.map Syl.enc)])) := by
  obtain ⟨fx1, fx2, fx3, fx4⟩ := id fx
  have hsl := strip_hs x
  have hrl := rest_le (stripE x).hs
  have fs := fx.strip
  obtain ⟨fs1, fs2, fs3, fs4⟩ := id fs
  refine enterA (X := nX) (vs := [evV x p]) Try.func24 Try.ntmps24 rfl rfl Mem.nil ?_
  refine run_seq ?_
  refine run_region ?_
  refine run_h (.none rfl) (h_box rfl rfl rfl rfl rfl) ?_
  rintro b1 -
  refine run_h (.none rfl) (h_alloc rfl rfl rfl info30) ?_
  rintro b2 -
  refine run_nil ?_
  refine run_seq ?_
  refine run_seq ?_
  refine run_region ?_
  refine run_q (.none rfl) rfl rfl (q_fieldB (d := 2) rfl Try.underlying30 rfl rfl sz3 rfl) ?_
  refine run_q (.none rfl) rfl rfl (q_loadB rfl one3 rfl (.there Sel.here) rfl) ?_
  refine run_q (.none rfl) rfl rfl (q_call rfl call46 (.cons rfl Evs.nil) (fun w hk hm => exists_just _ w)) ?_
  refine run_q (.none rfl) rfl rfl (q_not rfl rfl) ?_
  refine run_nil ?_
  refine run_sub (subMk (.cons (s := 1) rfl (.cons (s := 2) rfl (.cons (s := 8) rfl .nil))) .refl) ?_
  refine run_cond rfl (fun g8 => ?_) (fun g8 => ?_)
  · have g8' := g8
    try simp only [decide_eq_true_eq, decide_eq_false_iff_not, beq_iff_eq, beq_eq_false_iff_ne, bne_iff_ne, bne_eq_false_iff_eq, Bool.not_eq_true', Bool.not_eq_false', ne_eq, Int.not_lt, Int.not_le, Decidable.not_not] at g8'
    refine run_seq ?_
    refine run_region ?_
    refine run_q (.none rfl) rfl rfl (q_loadBN rfl agg30 rfl (.there Sel.here) (.cons rfl (.cons rfl (.cons rfl (.cons rfl (.cons rfl (.cons rfl (.cons rfl (.cons rfl (.cons rfl (.cons rfl (.cons rfl (.cons rfl (.cons rfl CellsAt.nil))))))))))))) rfl) ?_
    refine run_h (.none rfl) (h_call rfl rfl rfl call29 (.cons rfl Evs.nil) (fun w hk hm => evClone_ret x p w (hx.kept0 hk) fx)) ?_
    rintro ⟨v, m⟩ ⟨q, rfl, rfl⟩
    show Run _ _ _ _ _ _ _ ⟨(10, evV x q) :: _, _ :: _ :: _ :: _⟩
    refine run_h (.none rfl) (h_storeB rfl rfl sz30 rfl rfl rfl rfl rfl (.there (.there (.there Sel.here))) rfl) ?_
    rintro - -
    refine run_nil ?_
    refine run_sub (subMk (.cons (s := 1) rfl (.cons (s := 2) rfl .nil)) .refl) ?_
    refine run_ret ?_
    exact endG rfl (.cellN rfl agg30 Sel.here (.cons rfl (.cons rfl (.cons rfl (.cons rfl (.cons rfl (.cons rfl (.cons rfl (.cons rfl (.cons rfl (.cons rfl (.cons rfl (.cons rfl (.cons rfl CellsAt.nil))))))))))))) rfl Outs.nil) _ (.cons (.there Sel.here) .refl (.cons (.there Sel.here) .refl (.cons (.there Sel.here) .refl .nil))) ⟨q, by rw [canE_out (by omega)]; rfl, by rw [canE_out (by omega)]⟩
  · have g8' := g8
    try simp only [decide_eq_true_eq, decide_eq_false_iff_not, beq_iff_eq, beq_eq_false_iff_ne, bne_iff_ne, bne_eq_false_iff_eq, Bool.not_eq_true', Bool.not_eq_false', ne_eq, Int.not_lt, Int.not_le, Decidable.not_not] at g8'
    refine run_skip ?_
    refine run_seq ?_
    refine run_region ?_
    refine run_q (.none rfl) rfl rfl (q_loadBN rfl agg30 rfl (.there Sel.here) (.cons rfl (.cons rfl (.cons rfl (.cons rfl (.cons rfl (.cons rfl (.cons rfl (.cons rfl (.cons rfl (.cons rfl (.cons rfl (.cons rfl (.cons rfl CellsAt.nil))))))))))))) rfl) ?_
    refine run_q (.none rfl) rfl rfl (q_call rfl call47 (.cons rfl Evs.nil) (fun w hk hm => strip_just x p w (hx.kept0 hk) fx)) ?_
    refine run_h (.none rfl) (h_call rfl rfl rfl call29 (.cons rfl Evs.nil) (fun w hk hm => evClone_ret (stripE x) (stripP x p) w (hx.kept0 hk).strip fx.strip)) ?_
    rintro ⟨v, m⟩ ⟨q, rfl, rfl⟩
    show Run _ _ _ _ _ _ _ ⟨(13, evV (stripE x) q) :: _, _ :: _ :: _ :: _⟩
    refine run_h (.none rfl) (h_alloc rfl rfl rfl info30) ?_
    rintro b3 -
    refine run_h (.none rfl) (h_storeB rfl rfl sz30 rfl rfl rfl rfl rfl Sel.here rfl) ?_
    rintro - -
    refine run_nil ?_
    refine run_sub (subMk (.cons (s := 2) rfl (.cons (s := 3) rfl .nil)) .refl) ?_
    refine run_seq ?_
    refine run_region ?_
    refine run_q (.none rfl) rfl rfl (q_fieldB (d := 5) rfl Try.underlying30 rfl rfl sz26 rfl) ?_
    refine run_q (.none rfl) rfl rfl (q_loadB rfl one26 rfl Sel.here rfl) ?_
    refine run_h (.none rfl) (h_callX [_] _ rfl rfl rfl call57 (.cons rfl (.cons rfl Evs.nil)) (Sel.perm (.there Sel.here)) (Y := fun _ => atAny [_]) (fun _ _ h => h) (fun w hk hm => delBad (stripE x).hs q.HA q.hc w ((hm.perm (Sel.perm (.there Sel.here))).give (rs := [_])) (by omega))) ?_
    rintro ⟨v, m⟩ ⟨rfl, rfl⟩
    show Run _ _ _ _ _ _ _ ⟨(16, .slice q.HA (Flt.rest badH (stripE x).hs).length q.hc) :: _, _ :: _⟩
    refine run_q (.none rfl) rfl rfl (q_fieldB (d := 5) rfl Try.underlying30 rfl rfl sz26 rfl) ?_
    refine run_h (.none rfl) (h_storeB rfl rfl sz26 rfl rfl rfl rfl rfl (.there Sel.here) rfl) ?_
    rintro - -
    refine run_nil ?_
    refine run_sub (subMk (.cons (s := 2) rfl (.cons (s := 3) rfl .nil)) .refl) ?_
    refine run_seq ?_
    refine run_region ?_
    refine run_q (.none rfl) rfl rfl (q_fieldB (d := 5) rfl Try.underlying30 rfl rfl sz26 rfl) ?_
    refine run_q (.none rfl) rfl rfl (q_loadB rfl one26 rfl Sel.here rfl) ?_
    refine run_h (.none rfl) (h_callX [_] _ rfl rfl rfl call59 (.cons rfl (.cons rfl Evs.nil)) (Sel.perm (.there Sel.here)) (Y := fun _ => atAny [_]) (fun _ _ h => h) (fun w hk hm => sH_sort (Flt.rest badH (stripE x).hs) q.HA q.hc w ((hm.perm (Sel.perm (.there Sel.here))).give (rs := [_])) (by omega))) ?_
    rintro ⟨v, m⟩ ⟨rfl, rfl⟩
    show Run _ _ _ _ _ _ _ ⟨(20, .tuple #[]) :: _, _ :: _⟩
    refine run_nil ?_
    refine run_sub (subMk (.cons (s := 2) rfl (.cons (s := 3) rfl .nil)) .refl) ?_
    refine run_seq ?_
    refine run_region ?_
    refine run_q (.none rfl) rfl rfl (q_fieldB (d := 5) rfl Try.underlying30 rfl rfl sz26 rfl) ?_
    refine run_q (.none rfl) rfl rfl (q_loadB rfl one26 rfl (.there Sel.here) rfl) ?_
    refine run_h (.none rfl) (h_callX [_] _ rfl rfl rfl call61 (.cons rfl (.cons rfl Evs.nil)) (Sel.perm Sel.here) (Y := fun _ => atAny [_]) (fun _ _ h => h) (fun w hk hm => cptR (stripE x).hs q.HA q.hc w ((hm.perm (Sel.perm Sel.here)).give (rs := [_])) (by omega))) ?_
    rintro ⟨v, m⟩ ⟨rfl, rfl⟩
    show Run _ _ _ _ _ _ _ ⟨(23, .slice q.HA (canH (stripE x).hs).length q.hc) :: _, _ :: _⟩
    refine run_q (.none rfl) rfl rfl (q_fieldB (d := 5) rfl Try.underlying30 rfl rfl sz26 rfl) ?_
    refine run_h (.none rfl) (h_storeB rfl rfl sz26 rfl rfl rfl rfl rfl (.there Sel.here) rfl) ?_
    rintro - -
    refine run_nil ?_
    refine run_sub (subMk (.cons (s := 2) rfl (.cons (s := 3) rfl .nil)) .refl) ?_
    refine run_seq ?_
    refine run_seq ?_
    refine run_ownLe (.there (.there (.there Sel.here))) (fun hle => ?_)
    refine run_region ?_
    refine run_q (.none rfl) rfl rfl (q_fieldB (d := 10) rfl Try.underlying30 rfl rfl sz28 rfl) ?_
    refine run_q (.none rfl) rfl rfl (q_loadB rfl one28 rfl Sel.here rfl) ?_
    refine run_q (.none rfl) rfl rfl (q_len rfl Try.underlying28 rfl) ?_
    refine run_q (.none rfl) rfl rfl (q_assign rfl rfl) ?_
    refine run_nil ?_
    refine run_sub (subMk (.cons (s := 2) rfl (.cons (s := 3) rfl (.cons (s := 4) rfl .nil))) .refl) ?_
    refine run_block ?_
    refine run_sub (subMk (.cons (s := 4) rfl (.cons (s := 2) rfl (.cons (s := 3) rfl .nil))) (.cons Sel.here .refl (.cons (.there (.there Sel.here)) .refl (.cons Sel.here .refl (.cons Sel.here .refl (.cons Sel.here .refl (.cons Sel.here .refl .nil))))))) ?_
    refine run_loopC1M2 (ι := Nat) (fun n => n ≤ (stripE x).ls.length ∧ trimN (stripE x).ls (stripE x).ls.length = trimN (stripE x).ls n) (fun n => .int .i64 (n : Int)) (fun n => .blk b3 30 [(0, .int .i64 (stripE x).n.site), (1, .int .i64 (stripE x).n.num), (2, .int .i64 (stripE x).n.kind), (3, .int .i64 (stripE x).n.log), (4, .int .i64 (stripE x).n.dots), (5, .slice q.HA (canH (stripE x).hs).length q.hc), (6, .slice q.GA (stripE x).gs.length q.gc), (7, .int .i64 (stripE x).n.art), (8, .int .i64 (stripE x).n.orn), (9, .int .i64 (stripE x).n.dyn), (10, .slice q.LA n q.lc), (11, .int .i64 (stripE x).n.stem), (12, .int .i64 (stripE x).n.beam)]) (fun n => .own 57 2 q.LA n q.lc (((stripE x).ls.take n).map Syl.enc)) (fun n => n) (stripE x).ls.length (by (try dsimp only); exact ⟨by omega, rfl⟩) rfl (.blk (.cons (s := 0) rfl (.cons (s := 1) rfl (.cons (s := 2) rfl (.cons (s := 3) rfl (.cons (s := 4) rfl (.cons (s := 5) rfl (.cons (s := 6) rfl (.cons (s := 7) rfl (.cons (s := 8) rfl (.cons (s := 9) rfl (.cons (s := 10) rfl (.cons (s := 11) rfl (.cons (s := 12) rfl (.nil))))))))))))))) (.own rfl rfl rfl (by simp)) ?_
    rintro n hq
    (try dsimp only at hq)
    obtain ⟨hn, hT⟩ := hq
    show Run _ _ _ _ _ _ _ ⟨(4, .int .i64 (n : Int)) :: _, .blk b3 30 [(0, .int .i64 (stripE x).n.site), (1, .int .i64 (stripE x).n.num), (2, .int .i64 (stripE x).n.kind), (3, .int .i64 (stripE x).n.log), (4, .int .i64 (stripE x).n.dots), (5, .slice q.HA (canH (stripE x).hs).length q.hc), (6, .slice q.GA (stripE x).gs.length q.gc), (7, .int .i64 (stripE x).n.art), (8, .int .i64 (stripE x).n.orn), (9, .int .i64 (stripE x).n.dyn), (10, .slice q.LA n q.lc), (11, .int .i64 (stripE x).n.stem), (12, .int .i64 (stripE x).n.beam)] :: .own 57 2 q.LA n q.lc (((stripE x).ls.take n).map Syl.enc) :: _⟩
    refine run_seq ?_
    refine run_seq ?_
    refine run_region ?_
    refine run_q (.none rfl) rfl rfl (q_move rfl rfl) ?_
    refine run_q (.none rfl) rfl rfl (q_gtr rfl rfl rfl) ?_
    refine run_q (.none rfl) rfl rfl (q_move rfl rfl) ?_
    refine run_split 30 rfl (fun g30 => ?_) (fun g30 => ?_)
    · have g30' := g30
      try simp only [decide_eq_true_eq, decide_eq_false_iff_not, beq_iff_eq, beq_eq_false_iff_ne, bne_iff_ne, bne_eq_false_iff_eq, Bool.not_eq_true', Bool.not_eq_false', ne_eq, Int.not_lt, Int.not_le, Decidable.not_not] at g30'
      refine run_q (.on rfl rfl rfl g30) rfl rfl (q_fieldB (d := 10) rfl Try.underlying30 rfl rfl sz28 rfl) ?_
      refine run_q (.on rfl rfl rfl g30) rfl rfl (q_loadB rfl one28 rfl Sel.here rfl) ?_
      refine run_q (.on rfl rfl rfl g30) rfl rfl (q_move rfl rfl) ?_
      refine run_q (.on rfl rfl rfl g30) rfl rfl (q_sub rfl rfl rfl (by omega)) ?_
      refine run_q (.on rfl rfl rfl g30) rfl rfl (q_indexS (q := (n - 1)) rfl Try.underlying28 sz57 rfl rfl (.own (.there Sel.here)) (by rw [List.length_map]; exact take_le hn) (by omega) (by omega)) ?_
      refine run_q (.on rfl rfl rfl g30) rfl rfl (q_loadE rfl agg57 rfl (.own (.there Sel.here)) (getmapT (by omega) (by omega)) rfl) ?_
      refine run_q (.on rfl rfl rfl g30) rfl rfl (q_call rfl call55 (.cons rfl Evs.nil) (fun w hk hm => absent_just (nth (stripE x).ls (n - 1)) w)) ?_
      refine run_q (.none rfl) rfl rfl (q_pickT rfl rfl g30 rfl) ?_
      refine run_nil ?_
      refine run_sub (subMk (.cons (s := 2) rfl (.cons (s := 3) rfl (.cons (s := 4) rfl (.cons (s := 38) rfl .nil)))) .refl) ?_
      refine run_cond rfl (fun g38 => ?_) (fun g38 => ?_)
      · have g38' := g38
        try simp only [decide_eq_true_eq, decide_eq_false_iff_not, beq_iff_eq, beq_eq_false_iff_ne, bne_iff_ne, bne_eq_false_iff_eq, Bool.not_eq_true', Bool.not_eq_false', ne_eq, Int.not_lt, Int.not_le, Decidable.not_not] at g38'
        refine run_skip ?_
        refine run_seq ?_
        refine run_block ?_
        refine run_region ?_
        refine run_q (.none rfl) rfl rfl (q_fieldB (d := 10) rfl Try.underlying30 rfl rfl sz28 rfl) ?_
        refine run_q (.none rfl) rfl rfl (q_loadB rfl one28 rfl Sel.here rfl) ?_
        refine run_q (.none rfl) rfl rfl (q_move rfl rfl) ?_
        refine run_q (.none rfl) rfl rfl (q_sub rfl rfl rfl (by omega)) ?_
        refine run_q (.none rfl) rfl rfl (q_sliceH rfl Try.underlying28 sz57 rfl rfl (by omega)) ?_
        refine run_q (.none rfl) rfl rfl (q_fieldB (d := 10) rfl Try.underlying30 rfl rfl sz28 rfl) ?_
        refine run_h (.none rfl) (h_storeB rfl rfl sz28 rfl rfl rfl rfl rfl Sel.here rfl) ?_
        rintro - -
        refine run_nil ?_
        refine run_sub (subMk (.cons (s := 2) rfl (.cons (s := 3) rfl (.cons (s := 4) rfl .nil))) .refl) ?_
        refine run_blk ?_
        refine run_region ?_
        refine run_q (.none rfl) rfl rfl (q_move rfl rfl) ?_
        refine run_q (.none rfl) rfl rfl (q_sub rfl rfl rfl (by omega)) ?_
        refine run_q (.none rfl) rfl rfl (q_assign rfl rfl) ?_
        refine run_nil ?_
        exact run_again (n - 1) (by (try dsimp only); exact ⟨by omega, by rw [hT, trimN_skip (by omega) g38']⟩) (by (try dsimp only); omega) (subMk (.cons' (s := 4) rfl (vint (by omega)) (.cons (s := 2) rfl (.cons (s := 3) rfl .nil))) (.cons Sel.here (.blk (.cons (s := 0) rfl (.cons (s := 1) rfl (.cons (s := 2) rfl (.cons (s := 3) rfl (.cons (s := 4) rfl (.cons (s := 5) rfl (.cons (s := 6) rfl (.cons (s := 7) rfl (.cons (s := 8) rfl (.cons (s := 9) rfl (.cons' (s := 10) (v' := .slice q.LA (n - 1) q.lc) rfl (by congr 1; omega) (.cons (s := 11) rfl (.cons (s := 12) rfl (.nil))))))))))))))) (.cons Sel.here (.ownTake (n' := n - 1) (m' := n - 1) (ls' := ((stripE x).ls.take (n - 1)).map Syl.enc) rfl rfl (by omega) (by rw [← List.map_take, List.take_take, Nat.min_eq_left (by omega)])) (.cons Sel.here .refl (.cons Sel.here .refl (.cons Sel.here .refl (.cons Sel.here .refl .nil)))))))
      · have g38' := g38
        try simp only [decide_eq_true_eq, decide_eq_false_iff_not, beq_iff_eq, beq_eq_false_iff_ne, bne_iff_ne, bne_eq_false_iff_eq, Bool.not_eq_true', Bool.not_eq_false', ne_eq, Int.not_lt, Int.not_le, Decidable.not_not] at g38'
        refine run_exit rfl ?_
        refine run_seq ?_
        refine run_region ?_
        refine run_q (.none rfl) rfl rfl (q_loadBN rfl agg30 rfl Sel.here (.cons rfl (.cons rfl (.cons rfl (.cons rfl (.cons rfl (.cons rfl (.cons rfl (.cons rfl (.cons rfl (.cons rfl (.cons rfl (.cons rfl (.cons rfl CellsAt.nil))))))))))))) rfl) ?_
        refine run_h (.none rfl) (h_storeB rfl rfl sz30 rfl rfl rfl rfl rfl (.there (.there (.there (.there Sel.here)))) rfl) ?_
        rintro - -
        refine run_nil ?_
        refine run_sub (subMk (.cons (s := 2) rfl .nil) .refl) ?_
        refine run_ret ?_
        exact endG rfl (.cellN rfl agg30 Sel.here (.cons rfl (.cons rfl (.cons rfl (.cons rfl (.cons rfl (.cons rfl (.cons rfl (.cons rfl (.cons rfl (.cons rfl (.cons rfl (.cons rfl (.cons rfl CellsAt.nil))))))))))))) rfl Outs.nil) _ (.cons (.there (.there (.there Sel.here))) .refl (.cons (.there (.there (.there Sel.here))) .refl (.cons (.there (.there Sel.here)) .refl .nil))) (by have hTn := hT.trans (trimN_stop (.inr g38')); have hE := canE_in (x := x) (by omega) hTn; have hl := take_le hn; refine ⟨q, ?_, ?_⟩; (· rw [hE]; unfold evV evC; simp only [hl]; rfl); (· rw [hE]; simp only [hl]))
    · have g30' := g30
      try simp only [decide_eq_true_eq, decide_eq_false_iff_not, beq_iff_eq, beq_eq_false_iff_ne, bne_iff_ne, bne_eq_false_iff_eq, Bool.not_eq_true', Bool.not_eq_false', ne_eq, Int.not_lt, Int.not_le, Decidable.not_not] at g30'
      refine run_off (.no rfl rfl rfl g30) rfl rfl ?_
      refine run_off (.no rfl rfl rfl g30) rfl rfl ?_
      refine run_off (.no rfl rfl rfl g30) rfl rfl ?_
      refine run_off (.no rfl rfl rfl g30) rfl rfl ?_
      refine run_off (.no rfl rfl rfl g30) rfl rfl ?_
      refine run_off (.no rfl rfl rfl g30) rfl rfl ?_
      refine run_off (.no rfl rfl rfl g30) rfl rfl ?_
      refine run_q (.none rfl) rfl rfl (q_pickF rfl rfl g30 rfl) ?_
      refine run_nil ?_
      refine run_sub (subMk (.cons (s := 2) rfl (.cons (s := 3) rfl (.cons (s := 4) rfl (.cons (s := 38) rfl .nil)))) .refl) ?_
      refine run_condF rfl rfl ?_
      refine run_exit rfl ?_
      refine run_seq ?_
      refine run_region ?_
      refine run_q (.none rfl) rfl rfl (q_loadBN rfl agg30 rfl Sel.here (.cons rfl (.cons rfl (.cons rfl (.cons rfl (.cons rfl (.cons rfl (.cons rfl (.cons rfl (.cons rfl (.cons rfl (.cons rfl (.cons rfl (.cons rfl CellsAt.nil))))))))))))) rfl) ?_
      refine run_h (.none rfl) (h_storeB rfl rfl sz30 rfl rfl rfl rfl rfl (.there (.there (.there (.there Sel.here)))) rfl) ?_
      rintro - -
      refine run_nil ?_
      refine run_sub (subMk (.cons (s := 2) rfl .nil) .refl) ?_
      refine run_ret ?_
      exact endG rfl (.cellN rfl agg30 Sel.here (.cons rfl (.cons rfl (.cons rfl (.cons rfl (.cons rfl (.cons rfl (.cons rfl (.cons rfl (.cons rfl (.cons rfl (.cons rfl (.cons rfl (.cons rfl CellsAt.nil))))))))))))) rfl Outs.nil) _ (.cons (.there (.there (.there Sel.here))) .refl (.cons (.there (.there (.there Sel.here))) .refl (.cons (.there (.there Sel.here)) .refl .nil))) (by have hTn := hT.trans (trimN_stop (.inl (by omega))); have hE := canE_in (x := x) (by omega) hTn; have hl := take_le hn; refine ⟨q, ?_, ?_⟩; (· rw [hE]; unfold evV evC; simp only [hl]; rfl); (· rw [hE]; simp only [hl]))

end Go.Proofs.Ytneadapfoaccmaa
