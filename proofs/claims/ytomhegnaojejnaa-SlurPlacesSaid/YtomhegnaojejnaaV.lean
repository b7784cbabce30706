/- The law on clear curves. -/
import Derived.Test.YtomhegnaojejnaaU
set_option linter.unusedSimpArgs false
set_option linter.unusedVariables false
namespace Go.Proofs.Ytomhegnaojejnaa
open Go Go.RowKit Hr

theorem call26 : Hr.Callable Try.prog 26 := fun args w => by kernel_rfl

set_option maxHeartbeats 8000000 in
set_option maxRecDepth 100000 in
theorem law8_just (la lb : List Int) (LA LB : Option Addr) (ca0 cb0 : Nat) (x : Spn) (W : World) (hla : Rd W LA 1 (la.map encH)) (hlb : Rd W LB 1 (lb.map encH)) (hbA : ∀ x ∈ la, -32768 ≤ x ∧ x ≤ 32767) (hbB : ∀ x ∈ lb, -32768 ≤ x ∧ x ≤ 32767) (hca0 : la.length ≤ 9223372036854775807) (hcb0 : lb.length ≤ 9223372036854775807) (hxo : okX x) : Calls Try.prog 8 #[.agg #[.slice LA la.length ca0, .slice LB lb.length cb0], x.val] W (Hr.Just W (.bool true)) := by
  have hgn : ((gN la) : Int) = max 1 (min 30 (la.length : Int)) := by unfold gN; omega
  obtain ⟨hxf, hxl⟩ := hxo
  refine Just.of_ret ?_
  refine enterA (X := nX) (vs := [.agg #[.slice LA la.length ca0, .slice LB lb.length cb0], x.val]) Try.func8 Try.ntmps8 rfl rfl Mem.nil ?_
  refine run_seq ?_
  refine run_region ?_
  refine run_h (.none rfl) (h_box rfl rfl rfl rfl rfl) ?_
  rintro b2 -
  refine run_h (.none rfl) (h_box rfl rfl rfl rfl rfl) ?_
  rintro b3 -
  refine run_q (.none rfl) rfl rfl (q_assign rfl rfl) ?_
  refine run_nil ?_
  refine run_seq ?_
  refine run_seq ?_
  refine run_region ?_
  refine run_q (.none rfl) rfl rfl (q_call rfl call12 Evs.nil (fun w hk hm => known_just w)) ?_
  refine run_q (.none rfl) rfl rfl (q_not rfl rfl) ?_
  refine run_nil ?_
  refine run_sub (subMk (.cons (s := 2) rfl (.cons (s := 3) rfl (.cons (s := 4) rfl (.cons (s := 17) rfl .nil)))) .refl) ?_
  refine run_condF rfl rfl ?_
  refine run_skip ?_
  refine run_seq ?_
  refine run_region ?_
  refine run_q (.none rfl) rfl rfl (q_loadBN rfl agg36 rfl (.there Sel.here) (.cons rfl (.cons rfl CellsAt.nil)) rfl) ?_
  refine run_h (.none rfl) (h_call rfl rfl rfl call19 (.cons rfl Evs.nil) (fun w hk hm => lay_ret la lb LA LB ca0 cb0 w (hla.kept0 hk) (hlb.kept0 hk) hbA hbB hca0 hcb0)) ?_
  rintro ⟨v, m⟩ ⟨pa, pb, A, B, ca, cb, P, cp, Q, cq, rfl, hca, hcb, rfl⟩
  show Run _ _ _ _ _ _ _ ⟨(20, .tuple #[.pointer (some ⟨pa, 0, none⟩), .pointer (some ⟨pb, 0, none⟩), .agg #[.int .i64 1, .slice P (gN la) cp], .agg #[.int .i64 (-1), .slice Q (gN la) cq]]) :: _, _ :: _ :: _ :: _ :: _ :: _ :: _⟩
  refine run_q (.none rfl) rfl rfl (q_move rfl rfl) ?_
  refine run_q (.none rfl) rfl rfl (q_extract rfl rfl rfl) ?_
  refine run_q (.none rfl) rfl rfl (q_extract rfl rfl rfl) ?_
  refine run_q (.none rfl) rfl rfl (q_extract rfl rfl rfl) ?_
  refine run_q (.none rfl) rfl rfl (q_extract rfl rfl rfl) ?_
  refine run_h (.none rfl) (h_alloc rfl rfl rfl info40) ?_
  rintro b7 -
  refine run_h (.none rfl) (h_alloc rfl rfl rfl info40) ?_
  rintro b8 -
  refine run_q (.none rfl) rfl rfl (q_assign rfl rfl) ?_
  refine run_q (.none rfl) rfl rfl (q_assign rfl rfl) ?_
  refine run_h (.none rfl) (h_storeB rfl rfl sz40 rfl rfl rfl rfl rfl (.there Sel.here) rfl) ?_
  rintro - -
  refine run_h (.none rfl) (h_storeB rfl rfl sz40 rfl rfl rfl rfl rfl (.there Sel.here) rfl) ?_
  rintro - -
  refine run_nil ?_
  refine run_sub (subMk (.cons (s := 3) rfl (.cons (s := 4) rfl (.cons (s := 5) rfl (.cons (s := 6) rfl (.cons (s := 7) rfl .nil))))) .refl) ?_
  refine run_seq ?_
  refine run_region ?_
  refine run_q (.none rfl) rfl rfl (q_fieldB (d := 0) rfl Try.underlying25 rfl rfl sz3 rfl) ?_
  refine run_h (.none rfl) (h_storeB rfl rfl sz3 rfl rfl rfl rfl rfl (.there (.there (.there (.there (.there (.there (.there (.there Sel.here)))))))) rfl) ?_
  rintro - -
  refine run_nil ?_
  refine run_seq ?_
  refine run_seq ?_
  refine run_region ?_
  refine run_q (.none rfl) rfl rfl (q_loadBN rfl agg25 rfl Sel.here (.cons rfl (.cons rfl (.cons rfl (.cons rfl (.cons rfl (.cons rfl (.cons rfl (.cons rfl (.cons rfl (.cons rfl (.cons rfl (.cons rfl CellsAt.nil)))))))))))) rfl) ?_
  refine run_q (.none rfl) rfl rfl (q_fieldB (d := 1) rfl Try.underlying40 rfl rfl sz38 rfl) ?_
  refine run_q (.none rfl) rfl rfl (q_loadB rfl one38 rfl (.there (.there Sel.here)) rfl) ?_
  refine run_q (.none rfl) rfl rfl (q_len rfl Try.underlying38 rfl) ?_
  refine run_q (.none rfl) rfl rfl (q_call rfl call14 (.cons rfl (.cons rfl Evs.nil)) (fun w hk hm => wrong_just (c41 x) ((gN la) : Int) w)) ?_
  refine run_q (.none rfl) rfl rfl (q_neq rfl rfl rfl) ?_
  refine run_q (.none rfl) rfl rfl (q_move rfl rfl) ?_
  refine run_split 32 rfl (fun g32 => ?_) (fun g32 => ?_)
  · have g32' := g32
    try simp only [decide_eq_true_eq, decide_eq_false_iff_not, beq_iff_eq, beq_eq_false_iff_ne, bne_iff_ne, bne_eq_false_iff_eq, Bool.not_eq_true', Bool.not_eq_false', ne_eq, Int.not_lt, Int.not_le, Decidable.not_not] at g32'
    refine run_off (.no rfl rfl rfl g32) rfl rfl ?_
    refine run_off (.no rfl rfl rfl g32) rfl rfl ?_
    refine run_off (.no rfl rfl rfl g32) rfl rfl ?_
    refine run_q (.none rfl) rfl rfl (q_pickT rfl rfl g32 rfl) ?_
    refine run_q (.none rfl) rfl rfl (q_move rfl rfl) ?_
    refine run_off (.no rfl rfl rfl rfl) rfl rfl ?_
    refine run_off (.no rfl rfl rfl rfl) rfl rfl ?_
    refine run_off (.no rfl rfl rfl rfl) rfl rfl ?_
    refine run_q (.none rfl) rfl rfl (q_pickT rfl rfl rfl rfl) ?_
    refine run_q (.none rfl) rfl rfl (q_move rfl rfl) ?_
    refine run_off (.no rfl rfl rfl rfl) rfl rfl ?_
    refine run_off (.no rfl rfl rfl rfl) rfl rfl ?_
    refine run_off (.no rfl rfl rfl rfl) rfl rfl ?_
    refine run_q (.none rfl) rfl rfl (q_pickT rfl rfl rfl rfl) ?_
    refine run_q (.none rfl) rfl rfl (q_move rfl rfl) ?_
    refine run_off (.no rfl rfl rfl rfl) rfl rfl ?_
    refine run_off (.no rfl rfl rfl rfl) rfl rfl ?_
    refine run_off (.no rfl rfl rfl rfl) rfl rfl ?_
    refine run_q (.none rfl) rfl rfl (q_pickT rfl rfl rfl rfl) ?_
    refine run_nil ?_
    refine run_sub (subMk (.cons (s := 3) rfl (.cons (s := 4) rfl (.cons (s := 5) rfl (.cons (s := 6) rfl (.cons (s := 51) rfl .nil))))) .refl) ?_
    refine run_condT rfl rfl ?_
    refine run_seq ?_
    refine run_region ?_
    refine run_q (.none rfl) rfl rfl (q_assign rfl rfl) ?_
    refine run_nil ?_
    refine run_ret ?_
    exact end1 rfl rfl (by first | rfl | exact congrArg Value.bool (beq_iff_eq.2 (by omega)))
  · have g32' := g32
    try simp only [decide_eq_true_eq, decide_eq_false_iff_not, beq_iff_eq, beq_eq_false_iff_ne, bne_iff_ne, bne_eq_false_iff_eq, Bool.not_eq_true', Bool.not_eq_false', ne_eq, Int.not_lt, Int.not_le, Decidable.not_not] at g32'
    refine run_q (.on rfl rfl rfl g32) rfl rfl (q_fieldB (d := 8) rfl Try.underlying25 rfl rfl sz3 rfl) ?_
    refine run_q (.on rfl rfl rfl g32) rfl rfl (q_loadB rfl one3 rfl Sel.here rfl) ?_
    refine run_q (.on rfl rfl rfl g32) rfl rfl (q_gtr rfl rfl rfl) ?_
    refine run_q (.none rfl) rfl rfl (q_pickF rfl rfl g32 rfl) ?_
    refine run_q (.none rfl) rfl rfl (q_move rfl rfl) ?_
    refine run_split 37 rfl (fun g37 => ?_) (fun g37 => ?_)
    · have g37' := g37
      try simp only [decide_eq_true_eq, decide_eq_false_iff_not, beq_iff_eq, beq_eq_false_iff_ne, bne_iff_ne, bne_eq_false_iff_eq, Bool.not_eq_true', Bool.not_eq_false', ne_eq, Int.not_lt, Int.not_le, Decidable.not_not] at g37'
      refine run_off (.no rfl rfl rfl g37) rfl rfl ?_
      refine run_off (.no rfl rfl rfl g37) rfl rfl ?_
      refine run_off (.no rfl rfl rfl g37) rfl rfl ?_
      refine run_q (.none rfl) rfl rfl (q_pickT rfl rfl g37 rfl) ?_
      refine run_q (.none rfl) rfl rfl (q_move rfl rfl) ?_
      refine run_off (.no rfl rfl rfl rfl) rfl rfl ?_
      refine run_off (.no rfl rfl rfl rfl) rfl rfl ?_
      refine run_off (.no rfl rfl rfl rfl) rfl rfl ?_
      refine run_q (.none rfl) rfl rfl (q_pickT rfl rfl rfl rfl) ?_
      refine run_q (.none rfl) rfl rfl (q_move rfl rfl) ?_
      refine run_off (.no rfl rfl rfl rfl) rfl rfl ?_
      refine run_off (.no rfl rfl rfl rfl) rfl rfl ?_
      refine run_off (.no rfl rfl rfl rfl) rfl rfl ?_
      refine run_q (.none rfl) rfl rfl (q_pickT rfl rfl rfl rfl) ?_
      refine run_nil ?_
      refine run_sub (subMk (.cons (s := 3) rfl (.cons (s := 4) rfl (.cons (s := 5) rfl (.cons (s := 6) rfl (.cons (s := 51) rfl .nil))))) .refl) ?_
      refine run_condT rfl rfl ?_
      refine run_seq ?_
      refine run_region ?_
      refine run_q (.none rfl) rfl rfl (q_assign rfl rfl) ?_
      refine run_nil ?_
      refine run_ret ?_
      exact end1 rfl rfl (by first | rfl | exact congrArg Value.bool (beq_iff_eq.2 (by omega)))
    · have g37' := g37
      try simp only [decide_eq_true_eq, decide_eq_false_iff_not, beq_iff_eq, beq_eq_false_iff_ne, bne_iff_ne, bne_eq_false_iff_eq, Bool.not_eq_true', Bool.not_eq_false', ne_eq, Int.not_lt, Int.not_le, Decidable.not_not] at g37'
      refine run_q (.on rfl rfl rfl g37) rfl rfl (q_fieldB (d := 9) rfl Try.underlying25 rfl rfl sz3 rfl) ?_
      refine run_q (.on rfl rfl rfl g37) rfl rfl (q_loadB rfl one3 rfl Sel.here rfl) ?_
      refine run_q (.on rfl rfl rfl g37) rfl rfl (q_gtr rfl rfl rfl) ?_
      refine run_q (.none rfl) rfl rfl (q_pickF rfl rfl g37 rfl) ?_
      refine run_q (.none rfl) rfl rfl (q_move rfl rfl) ?_
      refine run_split 42 rfl (fun g42 => ?_) (fun g42 => ?_)
      · have g42' := g42
        try simp only [decide_eq_true_eq, decide_eq_false_iff_not, beq_iff_eq, beq_eq_false_iff_ne, bne_iff_ne, bne_eq_false_iff_eq, Bool.not_eq_true', Bool.not_eq_false', ne_eq, Int.not_lt, Int.not_le, Decidable.not_not] at g42'
        refine run_off (.no rfl rfl rfl g42) rfl rfl ?_
        refine run_off (.no rfl rfl rfl g42) rfl rfl ?_
        refine run_off (.no rfl rfl rfl g42) rfl rfl ?_
        refine run_q (.none rfl) rfl rfl (q_pickT rfl rfl g42 rfl) ?_
        refine run_q (.none rfl) rfl rfl (q_move rfl rfl) ?_
        refine run_off (.no rfl rfl rfl rfl) rfl rfl ?_
        refine run_off (.no rfl rfl rfl rfl) rfl rfl ?_
        refine run_off (.no rfl rfl rfl rfl) rfl rfl ?_
        refine run_q (.none rfl) rfl rfl (q_pickT rfl rfl rfl rfl) ?_
        refine run_nil ?_
        refine run_sub (subMk (.cons (s := 3) rfl (.cons (s := 4) rfl (.cons (s := 5) rfl (.cons (s := 6) rfl (.cons (s := 51) rfl .nil))))) .refl) ?_
        refine run_condT rfl rfl ?_
        refine run_seq ?_
        refine run_region ?_
        refine run_q (.none rfl) rfl rfl (q_assign rfl rfl) ?_
        refine run_nil ?_
        refine run_ret ?_
        exact end1 rfl rfl (by first | rfl | exact congrArg Value.bool (beq_iff_eq.2 (by omega)))
      · have g42' := g42
        try simp only [decide_eq_true_eq, decide_eq_false_iff_not, beq_iff_eq, beq_eq_false_iff_ne, bne_iff_ne, bne_eq_false_iff_eq, Bool.not_eq_true', Bool.not_eq_false', ne_eq, Int.not_lt, Int.not_le, Decidable.not_not] at g42'
        refine run_q (.on rfl rfl rfl g42) rfl rfl (q_fieldB (d := 8) rfl Try.underlying25 rfl rfl sz3 rfl) ?_
        refine run_q (.on rfl rfl rfl g42) rfl rfl (q_loadB rfl one3 rfl Sel.here rfl) ?_
        refine run_q (.on rfl rfl rfl g42) rfl rfl (q_lss rfl rfl rfl) ?_
        refine run_q (.none rfl) rfl rfl (q_pickF rfl rfl g42 rfl) ?_
        refine run_q (.none rfl) rfl rfl (q_move rfl rfl) ?_
        refine run_split 47 rfl (fun g47 => ?_) (fun g47 => ?_)
        · have g47' := g47
          try simp only [decide_eq_true_eq, decide_eq_false_iff_not, beq_iff_eq, beq_eq_false_iff_ne, bne_iff_ne, bne_eq_false_iff_eq, Bool.not_eq_true', Bool.not_eq_false', ne_eq, Int.not_lt, Int.not_le, Decidable.not_not] at g47'
          refine run_off (.no rfl rfl rfl g47) rfl rfl ?_
          refine run_off (.no rfl rfl rfl g47) rfl rfl ?_
          refine run_off (.no rfl rfl rfl g47) rfl rfl ?_
          refine run_q (.none rfl) rfl rfl (q_pickT rfl rfl g47 rfl) ?_
          refine run_nil ?_
          refine run_sub (subMk (.cons (s := 3) rfl (.cons (s := 4) rfl (.cons (s := 5) rfl (.cons (s := 6) rfl (.cons (s := 51) rfl .nil))))) .refl) ?_
          refine run_condT rfl rfl ?_
          refine run_seq ?_
          refine run_region ?_
          refine run_q (.none rfl) rfl rfl (q_assign rfl rfl) ?_
          refine run_nil ?_
          refine run_ret ?_
          exact end1 rfl rfl (by first | rfl | exact congrArg Value.bool (beq_iff_eq.2 (by omega)))
        · have g47' := g47
          try simp only [decide_eq_true_eq, decide_eq_false_iff_not, beq_iff_eq, beq_eq_false_iff_ne, bne_iff_ne, bne_eq_false_iff_eq, Bool.not_eq_true', Bool.not_eq_false', ne_eq, Int.not_lt, Int.not_le, Decidable.not_not] at g47'
          refine run_q (.on rfl rfl rfl g47) rfl rfl (q_fieldB (d := 9) rfl Try.underlying25 rfl rfl sz3 rfl) ?_
          refine run_q (.on rfl rfl rfl g47) rfl rfl (q_loadB rfl one3 rfl Sel.here rfl) ?_
          refine run_q (.on rfl rfl rfl g47) rfl rfl (q_lss rfl rfl rfl) ?_
          refine run_q (.none rfl) rfl rfl (q_pickF rfl rfl g47 rfl) ?_
          refine run_nil ?_
          refine run_sub (subMk (.cons (s := 3) rfl (.cons (s := 4) rfl (.cons (s := 5) rfl (.cons (s := 6) rfl (.cons (s := 51) rfl .nil))))) .refl) ?_
          refine run_cond rfl (fun g51 => ?_) (fun g51 => ?_)
          · have g51' := g51
            try simp only [decide_eq_true_eq, decide_eq_false_iff_not, beq_iff_eq, beq_eq_false_iff_ne, bne_iff_ne, bne_eq_false_iff_eq, Bool.not_eq_true', Bool.not_eq_false', ne_eq, Int.not_lt, Int.not_le, Decidable.not_not] at g51'
            refine run_seq ?_
            refine run_region ?_
            refine run_q (.none rfl) rfl rfl (q_assign rfl rfl) ?_
            refine run_nil ?_
            refine run_ret ?_
            exact end1 rfl rfl (by first | rfl | exact congrArg Value.bool (beq_iff_eq.2 (by omega)))
          · have g51' := g51
            try simp only [decide_eq_true_eq, decide_eq_false_iff_not, beq_iff_eq, beq_eq_false_iff_ne, bne_iff_ne, bne_eq_false_iff_eq, Bool.not_eq_true', Bool.not_eq_false', ne_eq, Int.not_lt, Int.not_le, Decidable.not_not] at g51'
            refine run_skip ?_
            refine run_seq ?_
            have k8 := spE_ok (x := (c41 x)) (n := ((gN la) : Int)) (by omega)
            have ks : x.side = 1 ∨ x.side = -1 := k8.2.1
            have kf : 0 ≤ x.fst ∧ x.fst ≤ x.lst := ⟨k8.2.2.2.2.1, k8.2.2.2.2.2.1⟩
            have kl : x.lst < ((gN la) : Int) := k8.2.2.2.2.2.2.1
            obtain ⟨hE8, hM8, hat, hat2⟩ := clear_facts (x := x) (a := (gs la (gN la))) (b := (negL (gs lb (gN la)))) (N := ((gN la) : Int)) (by rw [gs_len]) (by rw [negL_len, gs_len, gs_len]) (by omega) (fun i => by have := gs_bd hbA (gN la) i; omega) (fun i => by have := gs_bd hbB (gN la) i; rw [negL_nth]; omega) (by omega) (by omega) (by omega) (by omega)
            have hgt := hgt_pos (f := x.fst) (l := x.lst) kf
            have hgb := hgtS_bd (f := x.fst) (l := x.lst)
            refine run_region ?_
            refine run_q (.none rfl) rfl rfl (q_move rfl rfl) ?_
            refine run_h (.none rfl) (h_call rfl rfl rfl call25 (.cons rfl Evs.nil) (fun w hk hm => cloneS_ret (gs la (gN la)) pa A ca 1 (gN la) w gs_len (rd_sky ((Sel.there (Sel.there (Sel.there Sel.here))).holds hm)) (own_rd ((Sel.there (Sel.there (Sel.there (Sel.there Sel.here)))).holds hm)) (by rw [gs_len]; omega))) ?_
            rintro ⟨v, m⟩ ⟨qa, A2, ca2, rfl, hda, rfl⟩
            show Run _ _ _ _ _ _ _ ⟨(53, .pointer (some ⟨qa, 0, none⟩)) :: _, _ :: _ :: _⟩
            refine run_q (.none rfl) rfl rfl (q_assign rfl rfl) ?_
            refine run_nil ?_
            refine run_sub (subMk (.cons (s := 3) rfl (.cons (s := 4) rfl (.cons (s := 5) rfl (.cons (s := 6) rfl (.cons (s := 9) rfl .nil))))) .refl) ?_
            refine run_seq ?_
            refine run_seq ?_
            refine run_region ?_
            refine run_q (.none rfl) rfl rfl (q_fieldB (d := 3) rfl Try.underlying25 rfl rfl sz3 rfl) ?_
            refine run_q (.none rfl) rfl rfl (q_loadB rfl one3 rfl (.there (.there Sel.here)) rfl) ?_
            refine run_q (.none rfl) rfl rfl (q_lss rfl rfl rfl) ?_
            refine run_nil ?_
            refine run_cond rfl (fun g56 => ?_) (fun g56 => ?_)
            · have g56' := g56
              try simp only [decide_eq_true_eq, decide_eq_false_iff_not, beq_iff_eq, beq_eq_false_iff_ne, bne_iff_ne, bne_eq_false_iff_eq, Bool.not_eq_true', Bool.not_eq_false', ne_eq, Int.not_lt, Int.not_le, Decidable.not_not] at g56'
              refine run_region ?_
              refine run_q (.none rfl) rfl rfl (q_move rfl rfl) ?_
              refine run_h (.none rfl) (h_call rfl rfl rfl call25 (.cons rfl Evs.nil) (fun w hk hm => cloneS_ret (negL (gs lb (gN la))) pb B cb (-1) (gN la) w (by rw [negL_len, gs_len]) (rd_sky ((Sel.there (Sel.there (Sel.there (Sel.there (Sel.there (Sel.there (Sel.there Sel.here))))))).holds hm)) (own_rd ((Sel.there (Sel.there (Sel.there (Sel.there (Sel.there (Sel.there (Sel.there (Sel.there Sel.here)))))))).holds hm)) (by rw [negL_len, gs_len]; omega))) ?_
              rintro ⟨v, m⟩ ⟨qb, B2, cb2, rfl, hdb, rfl⟩
              show Run _ _ _ _ _ _ _ ⟨(58, .pointer (some ⟨qb, 0, none⟩)) :: _, _ :: _ :: _⟩
              refine run_q (.none rfl) rfl rfl (q_assign rfl rfl) ?_
              refine run_nil ?_
              refine run_sub (subMk (.cons (s := 3) rfl (.cons (s := 4) rfl (.cons (s := 5) rfl (.cons (s := 6) rfl (.cons (s := 9) rfl .nil))))) .refl) ?_
              refine run_seq ?_
              refine run_region ?_
              refine run_q (.none rfl) rfl rfl (q_loadBN rfl agg25 rfl (.there (.there (.there (.there Sel.here)))) (.cons rfl (.cons rfl (.cons rfl (.cons rfl (.cons rfl (.cons rfl (.cons rfl (.cons rfl (.cons rfl (.cons rfl (.cons rfl (.cons rfl CellsAt.nil)))))))))))) rfl) ?_
              refine run_h (.none rfl) (h_buildSlice rfl rfl rfl Try.underlying30 info25 (.cons rfl rfl rfl rfl Parts.nil) rfl (by omega)) ?_
              rintro b61 -
              refine run_q (.none rfl) rfl rfl (q_move rfl rfl) ?_
              refine run_q (.none rfl) rfl rfl (q_move rfl rfl) ?_
              refine run_h (.none rfl) (h_callX [_, _, _, _] _ rfl rfl rfl call20 (.cons rfl (.cons rfl (.cons rfl Evs.nil))) ((Sel.perm (.there (.there (.there (.there (.there (.there (.there (.there Sel.here))))))))).trans (.cons _ ((Sel.perm (.there (.there (.there (.there (.there (.there (.there (.there Sel.here))))))))).trans (.cons _ ((Sel.perm (.there (.there (.there (.there (.there (.there (.there (.there Sel.here))))))))).trans (.cons _ (Sel.perm (.there (.there (.there (.there (.there (.there (.there (.there Sel.here))))))))))))))) (Y := fun _ => atAny [_, _, _, _]) (fun _ _ h => h) (fun w hk hm => Place_ret [(c41 x)] (some ⟨b61, 0, none⟩) 1 (gs la (gN la)) (negL (gs lb (gN la))) pa pb A B ca cb (gN la) w gs_len (by rw [negL_len, gs_len]) ((hm.perm ((Sel.perm (.there (.there (.there (.there (.there (.there (.there (.there Sel.here))))))))).trans (.cons _ ((Sel.perm (.there (.there (.there (.there (.there (.there (.there (.there Sel.here))))))))).trans (.cons _ ((Sel.perm (.there (.there (.there (.there (.there (.there (.there (.there Sel.here))))))))).trans (.cons _ (Sel.perm (.there (.there (.there (.there (.there (.there (.there (.there Sel.here)))))))))))))))).give (rs := [_, _, _, _])) (keep_own (hm.perm ((Sel.perm (.there (.there (.there (.there (.there (.there (.there (.there Sel.here))))))))).trans (.cons _ ((Sel.perm (.there (.there (.there (.there (.there (.there (.there (.there Sel.here))))))))).trans (.cons _ ((Sel.perm (.there (.there (.there (.there (.there (.there (.there (.there Sel.here))))))))).trans (.cons _ (Sel.perm (.there (.there (.there (.there (.there (.there (.there (.there Sel.here)))))))))))))))) Sel.here) (show 1 ≤ 20 by decide) (by omega) (ground_bd (fun i => gs_bd hbA _ i)) (neg_bd (fun i => gs_bd hbB _ i)))) ?_
              rintro ⟨v, m⟩ ⟨O, co, rfl, rfl⟩
              show Run _ _ _ _ _ _ _ ⟨(64, .tuple #[.slice O (slpM [(c41 x)] (gs la (gN la)) (negL (gs lb (gN la)))).length co, .int .i64 (slpE [(c41 x)] (gs la (gN la)) (negL (gs lb (gN la))))]) :: _, _ :: _ :: _ :: _ :: _ :: _⟩
              refine run_q (.none rfl) rfl rfl (q_move rfl rfl) ?_
              refine run_q (.none rfl) rfl rfl (q_extract rfl rfl rfl) ?_
              refine run_q (.none rfl) rfl rfl (q_extract rfl rfl rfl) ?_
              refine run_q (.none rfl) rfl rfl (q_assign rfl rfl) ?_
              refine run_q (.none rfl) rfl rfl (q_assign rfl rfl) ?_
              refine run_nil ?_
              refine run_sub (subMk (.cons (s := 3) rfl (.cons (s := 4) rfl (.cons (s := 9) rfl (.cons (s := 10) rfl (.cons (s := 11) rfl .nil))))) .refl) ?_
              refine run_seq ?_
              refine run_seq ?_
              have hs1 : x.side = -1 := by omega
              have hrw : (row1 x (gs la (gN la)) (negL (gs lb (gN la)))) = (negL (gs lb (gN la))) := if_neg (by omega)
              obtain ⟨hbb, hbt⟩ := mk_dn (x := (c41 x)) (e := x.side * atS (c41 x) (row1 x (gs la (gN la)) (negL (gs lb (gN la))))) (show ¬ x.side = 1 by omega)
              have hh8 : hS (c41 x) = hgtS x.fst x.lst := rfl
              have hse : x.side * atS (c41 x) (row1 x (gs la (gN la)) (negL (gs lb (gN la)))) = -atS (c41 x) (row1 x (gs la (gN la)) (negL (gs lb (gN la)))) := by rw [hs1]; omega
              have hfr : x.side * x.frm = -x.frm := by rw [hs1]; omega
              have hti : x.side * x.til = -x.til := by rw [hs1]; omega
              rw [hrw] at hat hse hbb hbt
              rw [hrw] at hM8
              have hsm : x.side * ((-1) * maxR (negL (gs lb (gN la))) x.fst.toNat x.lst.toNat) = maxR (negL (gs lb (gN la))) x.fst.toNat x.lst.toNat := by rw [hs1]; omega
              have hmb := maxR_bd (o := (negL (gs lb (gN la)))) (f := x.fst.toNat) (l := x.lst.toNat) (neg_bd (fun i => gs_bd hbB _ i)) (by omega) (by rw [negL_len, gs_len]; omega)
              refine run_sub (subMk .refl (.cons (.there (.there (.there (.there Sel.here)))) (.own (m' := 1) (xs' := [Mk.enc (mkS (c41 x) (x.side * atS (c41 x) (negL (gs lb (gN la)))))]) rfl (by rw [hM8]; rfl) rfl (by rw [hM8]; rfl)) (.cons Sel.here .refl (.cons Sel.here .refl (.cons Sel.here .refl (.cons Sel.here .refl (.cons Sel.here .refl (.cons Sel.here .refl (.cons Sel.here .refl (.cons Sel.here .refl (.cons Sel.here .refl (.cons Sel.here .refl (.cons Sel.here .refl (.cons Sel.here .refl (.cons Sel.here .refl (.cons Sel.here .refl (.cons Sel.here .refl .nil))))))))))))))))) ?_
              refine run_sub (subMk (.cons (s := 3) rfl (.cons (s := 4) rfl (.cons (s := 9) rfl (.cons' (s := 10) (v' := .slice O 1 co) rfl (by rw [hM8]; rfl) (.cons' (s := 11) (v' := .int .i64 0) rfl (vint hE8) .nil))))) .refl) ?_
              refine run_fork mixed (by kernel_rfl) .refl ?_
              refine b_q (i := 0) rfl (by kernel_rfl) (.none rfl) rfl rfl (q_move rfl rfl) ?_
              refine b_q (i := 1) rfl (by kernel_rfl) (.none rfl) rfl rfl (q_neq rfl rfl rfl) ?_
              refine b_q (i := 2) rfl (by kernel_rfl) (.none rfl) rfl rfl (q_move rfl rfl) ?_
              refine b_q (i := 3) rfl (by kernel_rfl) (.on rfl rfl rfl rfl) rfl rfl (q_move rfl rfl) ?_
              refine b_q (i := 4) rfl (by kernel_rfl) (.on rfl rfl rfl rfl) rfl rfl (q_len rfl Try.underlying43 rfl) ?_
              refine b_q (i := 5) rfl (by kernel_rfl) (.on rfl rfl rfl rfl) rfl rfl (q_neq rfl rfl rfl) ?_
              refine b_q (i := 6) rfl (by kernel_rfl) (.none rfl) rfl rfl (q_pickF rfl rfl rfl rfl) ?_
              refine b_q (i := 7) rfl (by kernel_rfl) (.none rfl) rfl rfl (q_move rfl rfl) ?_
              refine b_q (i := 8) rfl (by kernel_rfl) (.on rfl rfl rfl rfl) rfl rfl (q_move rfl rfl) ?_
              refine b_q (i := 9) rfl (by kernel_rfl) (.on rfl rfl rfl rfl) rfl rfl (q_fieldB (d := 6) rfl Try.underlying25 rfl rfl sz3 rfl) ?_
              refine b_q (i := 10) rfl (by kernel_rfl) (.on rfl rfl rfl rfl) rfl rfl (q_loadB rfl one3 rfl (.there (.there (.there (.there (.there (.there (.there (.there (.there (.there Sel.here)))))))))) rfl) ?_
              refine b_q (i := 11) rfl (by kernel_rfl) (.on rfl rfl rfl rfl) rfl rfl (q_fieldB (d := 7) rfl Try.underlying25 rfl rfl sz3 rfl) ?_
              refine b_q (i := 12) rfl (by kernel_rfl) (.on rfl rfl rfl rfl) rfl rfl (q_loadB rfl one3 rfl (.there (.there (.there (.there (.there (.there (.there (.there (.there (.there Sel.here)))))))))) rfl) ?_
              refine b_q (i := 13) rfl (by kernel_rfl) (.on rfl rfl rfl rfl) rfl rfl (q_move rfl rfl) ?_
              refine b_q (i := 14) rfl (by kernel_rfl) (.on rfl rfl rfl rfl) rfl rfl (q_indexS (q := 0) rfl Try.underlying43 sz49 rfl rfl (.own Sel.here) rfl rfl (by decide)) ?_
              refine b_q (i := 15) rfl (by kernel_rfl) (.on rfl rfl rfl rfl) rfl rfl (q_fieldAddr (d := 8) rfl Try.underlying49 rfl rfl sz47 rfl) ?_
              refine b_q (i := 16) rfl (by kernel_rfl) (.on rfl rfl rfl rfl) rfl rfl (q_loadFN rfl agg47 rfl (.own Sel.here) rfl rfl rfl) ?_
              refine b_q (i := 17) rfl (by kernel_rfl) (.on rfl rfl rfl rfl) rfl rfl (q_call rfl call26 (.cons rfl (.cons rfl (.cons rfl (.cons rfl Evs.nil)))) (fun w hk hm => touch_m (negL (gs lb (gN la))) qb B2 cb2 (gN la) x.fst x.lst (mkS (c41 x) (x.side * atS (c41 x) (negL (gs lb (gN la))))).bl (mkS (c41 x) (x.side * atS (c41 x) (negL (gs lb (gN la))))).bb (mkS (c41 x) (x.side * atS (c41 x) (negL (gs lb (gN la))))).br (mkS (c41 x) (x.side * atS (c41 x) (negL (gs lb (gN la))))).bt w (by rw [negL_len, gs_len]) (rd_sky ((Sel.there (Sel.there (Sel.there (Sel.there (Sel.there (Sel.there Sel.here)))))).holds hm)) (own_rd ((Sel.there (Sel.there (Sel.there (Sel.there (Sel.there (Sel.there (Sel.there Sel.here))))))).holds hm)) ⟨by omega, by omega, by rw [negL_len, gs_len]; omega⟩ (by rw [negL_len, gs_len]; omega) (by rw [negL_len, gs_len]; omega) (neg_bd (fun i => gs_bd hbB _ i)) (by omega))) ?_
              refine b_q (i := 18) rfl (by kernel_rfl) (.none rfl) rfl rfl (q_pickF rfl rfl rfl rfl) ?_
              refine b_nil (by kernel_rfl) ?_
              refine run_sub (subMk (.cons (s := 3) rfl (.cons (s := 4) rfl (.cons (s := 9) rfl (.cons (s := 10) rfl (.cons (s := 85) rfl .nil))))) .refl) ?_
              refine run_condF rfl (decide_eq_false (by omega)) ?_
              refine run_skip ?_
              refine run_seq ?_
              refine run_region ?_
              refine run_q (.none rfl) rfl rfl (q_move rfl rfl) ?_
              refine run_q (.none rfl) rfl rfl (q_fieldB (d := 6) rfl Try.underlying25 rfl rfl sz3 rfl) ?_
              refine run_q (.none rfl) rfl rfl (q_loadB rfl one3 rfl (.there (.there (.there (.there (.there (.there (.there (.there (.there (.there Sel.here)))))))))) rfl) ?_
              refine run_q (.none rfl) rfl rfl (q_fieldB (d := 7) rfl Try.underlying25 rfl rfl sz3 rfl) ?_
              refine run_q (.none rfl) rfl rfl (q_loadB rfl one3 rfl (.there (.there (.there (.there (.there (.there (.there (.there (.there (.there Sel.here)))))))))) rfl) ?_
              refine run_q (.none rfl) rfl rfl (q_call rfl call27 (.cons rfl (.cons rfl (.cons rfl Evs.nil))) (fun w hk hm => most_just (negL (gs lb (gN la))) qb B2 cb2 (-1) (gN la) x.fst x.lst w (by rw [negL_len, gs_len]) (rd_sky ((Sel.there (Sel.there (Sel.there (Sel.there (Sel.there (Sel.there Sel.here)))))).holds hm)) (own_rd ((Sel.there (Sel.there (Sel.there (Sel.there (Sel.there (Sel.there (Sel.there Sel.here))))))).holds hm)) ⟨by omega, by omega, by rw [negL_len, gs_len]; omega⟩ (by rw [negL_len, gs_len]; omega) (by rw [negL_len, gs_len]; omega) (neg_bd (fun i => gs_bd hbB _ i)) (.inr rfl))) ?_
              refine run_q (.none rfl) rfl rfl (q_move rfl rfl) ?_
              refine run_q (.none rfl) rfl rfl (q_extract rfl rfl rfl) ?_
              refine run_q (.none rfl) rfl rfl (q_extract rfl rfl rfl) ?_
              refine run_q (.none rfl) rfl rfl (q_assign rfl rfl) ?_
              refine run_q (.none rfl) rfl rfl (q_assign rfl rfl) ?_
              refine run_nil ?_
              refine run_sub (subMk (.cons (s := 3) rfl (.cons (s := 4) rfl (.cons (s := 10) rfl (.cons (s := 12) rfl (.cons (s := 13) rfl .nil))))) .refl) ?_
              refine run_seq ?_
              refine run_region ?_
              refine run_q (.none rfl) rfl rfl (q_move rfl rfl) ?_
              refine run_q (.none rfl) rfl rfl (q_indexS (q := 0) rfl Try.underlying43 sz49 rfl rfl (.own Sel.here) rfl rfl (by decide)) ?_
              refine run_q (.none rfl) rfl rfl (q_fieldAddr (d := 8) rfl Try.underlying49 rfl rfl sz47 rfl) ?_
              refine run_q (.none rfl) rfl rfl (q_fieldF (d2 := 9) rfl Try.underlying47 rfl rfl sz3 rfl) ?_
              refine run_q (.none rfl) rfl rfl (q_loadF rfl one3 rfl (.own Sel.here) rfl rfl) ?_
              refine run_q (.none rfl) rfl rfl (q_assign rfl rfl) ?_
              refine run_nil ?_
              refine run_sub (subMk (.cons (s := 3) rfl (.cons (s := 4) rfl (.cons (s := 10) rfl (.cons (s := 12) rfl (.cons (s := 13) rfl (.cons (s := 14) rfl .nil)))))) .refl) ?_
              refine run_seq ?_
              refine run_seq ?_
              refine run_region ?_
              refine run_q (.none rfl) rfl rfl (q_fieldB (d := 3) rfl Try.underlying25 rfl rfl sz3 rfl) ?_
              refine run_q (.none rfl) rfl rfl (q_loadB rfl one3 rfl (.there (.there (.there (.there (.there (.there (.there (.there (.there (.there Sel.here)))))))))) rfl) ?_
              refine run_q (.none rfl) rfl rfl (q_lss rfl rfl rfl) ?_
              refine run_nil ?_
              refine run_condT rfl (decide_eq_true (by omega)) ?_
              refine run_region ?_
              refine run_q (.none rfl) rfl rfl (q_move rfl rfl) ?_
              refine run_q (.none rfl) rfl rfl (q_indexS (q := 0) rfl Try.underlying43 sz49 rfl rfl (.own Sel.here) rfl rfl (by decide)) ?_
              refine run_q (.none rfl) rfl rfl (q_fieldAddr (d := 8) rfl Try.underlying49 rfl rfl sz47 rfl) ?_
              refine run_q (.none rfl) rfl rfl (q_fieldF (d2 := 11) rfl Try.underlying47 rfl rfl sz3 rfl) ?_
              refine run_q (.none rfl) rfl rfl (q_loadF rfl one3 rfl (.own Sel.here) rfl rfl) ?_
              refine run_q (.none rfl) rfl rfl (q_neg rfl rfl (by omega)) ?_
              refine run_q (.none rfl) rfl rfl (q_assign rfl rfl) ?_
              refine run_nil ?_
              refine run_sub (subMk (.cons (s := 3) rfl (.cons (s := 4) rfl (.cons (s := 10) rfl (.cons (s := 12) rfl (.cons (s := 13) rfl (.cons (s := 14) rfl .nil)))))) .refl) ?_
              refine run_seq ?_
              refine run_region ?_
              refine run_q (.none rfl) rfl rfl (q_fieldB (d := 3) rfl Try.underlying25 rfl rfl sz3 rfl) ?_
              refine run_q (.none rfl) rfl rfl (q_loadB rfl one3 rfl (.there (.there (.there (.there (.there (.there (.there (.there (.there (.there Sel.here)))))))))) rfl) ?_
              refine run_q (.none rfl) rfl rfl (q_fieldB (d := 8) rfl Try.underlying25 rfl rfl sz3 rfl) ?_
              refine run_q (.none rfl) rfl rfl (q_loadB rfl one3 rfl (.there (.there (.there (.there (.there (.there (.there (.there (.there (.there Sel.here)))))))))) rfl) ?_
              refine run_q (.none rfl) rfl rfl (q_mul rfl rfl rfl (by omega)) ?_
              refine run_q (.none rfl) rfl rfl (q_fieldB (d := 3) rfl Try.underlying25 rfl rfl sz3 rfl) ?_
              refine run_q (.none rfl) rfl rfl (q_loadB rfl one3 rfl (.there (.there (.there (.there (.there (.there (.there (.there (.there (.there Sel.here)))))))))) rfl) ?_
              refine run_q (.none rfl) rfl rfl (q_fieldB (d := 9) rfl Try.underlying25 rfl rfl sz3 rfl) ?_
              refine run_q (.none rfl) rfl rfl (q_loadB rfl one3 rfl (.there (.there (.there (.there (.there (.there (.there (.there (.there (.there Sel.here)))))))))) rfl) ?_
              refine run_q (.none rfl) rfl rfl (q_mul rfl rfl rfl (by omega)) ?_
              refine run_q (.none rfl) rfl rfl (q_max2 rfl rfl rfl) ?_
              refine run_q (.none rfl) rfl rfl (q_assign rfl rfl) ?_
              refine run_nil ?_
              refine run_sub (subMk (.cons (s := 3) rfl (.cons (s := 4) rfl (.cons (s := 10) rfl (.cons (s := 12) rfl (.cons (s := 13) rfl (.cons (s := 14) rfl (.cons (s := 15) rfl .nil))))))) .refl) ?_
              refine run_seq ?_
              refine run_fork mixed (by kernel_rfl) .refl ?_
              refine b_q (i := 0) rfl (by kernel_rfl) (.none rfl) rfl rfl (q_move rfl rfl) ?_
              refine b_q (i := 1) rfl (by kernel_rfl) (.none rfl) rfl rfl (q_eql rfl rfl rfl) ?_
              refine b_q (i := 2) rfl (by kernel_rfl) (.none rfl) rfl rfl (q_move rfl rfl) ?_
              refine b_q (i := 3) rfl (by kernel_rfl) (.on rfl rfl rfl rfl) rfl rfl (q_move rfl rfl) ?_
              refine b_q (i := 4) rfl (by kernel_rfl) (.on rfl rfl rfl rfl) rfl rfl (q_move rfl rfl) ?_
              refine b_q (i := 5) rfl (by kernel_rfl) (.on rfl rfl rfl rfl) rfl rfl (q_fieldB (d := 3) rfl Try.underlying25 rfl rfl sz3 rfl) ?_
              refine b_q (i := 6) rfl (by kernel_rfl) (.on rfl rfl rfl rfl) rfl rfl (q_loadB rfl one3 rfl (.there (.there (.there (.there (.there (.there (.there (.there (.there (.there Sel.here)))))))))) rfl) ?_
              refine b_q (i := 7) rfl (by kernel_rfl) (.on rfl rfl rfl rfl) rfl rfl (q_move rfl rfl) ?_
              refine b_q (i := 8) rfl (by kernel_rfl) (.on rfl rfl rfl rfl) rfl rfl (q_mul rfl rfl rfl (by omega)) ?_
              refine b_q (i := 9) rfl (by kernel_rfl) (.on rfl rfl rfl rfl) rfl rfl (q_add rfl rfl rfl (by omega)) ?_
              refine b_q (i := 10) rfl (by kernel_rfl) (.on rfl rfl rfl rfl) rfl rfl (q_max2 rfl rfl rfl) ?_
              refine b_q (i := 11) rfl (by kernel_rfl) (.on rfl rfl rfl rfl) rfl rfl (q_eql rfl rfl rfl) ?_
              refine b_q (i := 12) rfl (by kernel_rfl) (.none rfl) rfl rfl (q_pickT rfl rfl rfl rfl) ?_
              refine b_q (i := 13) rfl (by kernel_rfl) (.none rfl) rfl rfl (q_move rfl rfl) ?_
              refine b_q (i := 14) rfl (by kernel_rfl) (.on rfl rfl rfl (beq_iff_eq.2 (by omega))) rfl rfl (q_move rfl rfl) ?_
              refine b_q (i := 15) rfl (by kernel_rfl) (.on rfl rfl rfl (beq_iff_eq.2 (by omega))) rfl rfl (q_indexS (q := 0) rfl Try.underlying43 sz49 rfl rfl (.own Sel.here) rfl rfl (by decide)) ?_
              refine b_q (i := 16) rfl (by kernel_rfl) (.on rfl rfl rfl (beq_iff_eq.2 (by omega))) rfl rfl (q_fieldAddr (d := 8) rfl Try.underlying49 rfl rfl sz47 rfl) ?_
              refine b_q (i := 17) rfl (by kernel_rfl) (.on rfl rfl rfl (beq_iff_eq.2 (by omega))) rfl rfl (q_fieldF (d2 := 11) rfl Try.underlying47 rfl rfl sz3 rfl) ?_
              refine b_q (i := 18) rfl (by kernel_rfl) (.on rfl rfl rfl (beq_iff_eq.2 (by omega))) rfl rfl (q_loadF rfl one3 rfl (.own Sel.here) rfl rfl) ?_
              refine b_q (i := 19) rfl (by kernel_rfl) (.on rfl rfl rfl (beq_iff_eq.2 (by omega))) rfl rfl (q_move rfl rfl) ?_
              refine b_q (i := 20) rfl (by kernel_rfl) (.on rfl rfl rfl (beq_iff_eq.2 (by omega))) rfl rfl (q_indexS (q := 0) rfl Try.underlying43 sz49 rfl rfl (.own Sel.here) rfl rfl (by decide)) ?_
              refine b_q (i := 21) rfl (by kernel_rfl) (.on rfl rfl rfl (beq_iff_eq.2 (by omega))) rfl rfl (q_fieldAddr (d := 8) rfl Try.underlying49 rfl rfl sz47 rfl) ?_
              refine b_q (i := 22) rfl (by kernel_rfl) (.on rfl rfl rfl (beq_iff_eq.2 (by omega))) rfl rfl (q_fieldF (d2 := 9) rfl Try.underlying47 rfl rfl sz3 rfl) ?_
              refine b_q (i := 23) rfl (by kernel_rfl) (.on rfl rfl rfl (beq_iff_eq.2 (by omega))) rfl rfl (q_loadF rfl one3 rfl (.own Sel.here) rfl rfl) ?_
              refine b_q (i := 24) rfl (by kernel_rfl) (.on rfl rfl rfl (beq_iff_eq.2 (by omega))) rfl rfl (q_sub rfl rfl rfl (by omega)) ?_
              refine b_q (i := 25) rfl (by kernel_rfl) (.on rfl rfl rfl (beq_iff_eq.2 (by omega))) rfl rfl (q_fieldB (d := 6) rfl Try.underlying25 rfl rfl sz3 rfl) ?_
              refine b_q (i := 26) rfl (by kernel_rfl) (.on rfl rfl rfl (beq_iff_eq.2 (by omega))) rfl rfl (q_loadB rfl one3 rfl (.there (.there (.there (.there (.there (.there (.there (.there (.there (.there Sel.here)))))))))) rfl) ?_
              refine b_q (i := 27) rfl (by kernel_rfl) (.on rfl rfl rfl (beq_iff_eq.2 (by omega))) rfl rfl (q_fieldB (d := 7) rfl Try.underlying25 rfl rfl sz3 rfl) ?_
              refine b_q (i := 28) rfl (by kernel_rfl) (.on rfl rfl rfl (beq_iff_eq.2 (by omega))) rfl rfl (q_loadB rfl one3 rfl (.there (.there (.there (.there (.there (.there (.there (.there (.there (.there Sel.here)))))))))) rfl) ?_
              refine b_q (i := 29) rfl (by kernel_rfl) (.on rfl rfl rfl (beq_iff_eq.2 (by omega))) rfl rfl (q_call rfl call17 (.cons rfl (.cons rfl Evs.nil)) (fun w hk hm => height_just x.fst x.lst w (by omega) (by omega))) ?_
              refine b_q (i := 30) rfl (by kernel_rfl) (.on rfl rfl rfl (beq_iff_eq.2 (by omega))) rfl rfl (q_eql rfl rfl rfl) ?_
              refine b_q (i := 31) rfl (by kernel_rfl) (.none rfl) rfl rfl (q_pickT rfl rfl (beq_iff_eq.2 (by omega)) rfl) ?_
              refine b_q (i := 32) rfl (by kernel_rfl) (.none rfl) rfl rfl (q_assign rfl rfl) ?_
              refine b_nil (by kernel_rfl) ?_
              refine run_sub (subMk (.cons (s := 4) rfl .nil) .refl) ?_
              refine run_ret ?_
              exact end1 rfl rfl (by first | rfl | exact congrArg Value.bool (beq_iff_eq.2 (by omega)))
            · have g56' := g56
              try simp only [decide_eq_true_eq, decide_eq_false_iff_not, beq_iff_eq, beq_eq_false_iff_ne, bne_iff_ne, bne_eq_false_iff_eq, Bool.not_eq_true', Bool.not_eq_false', ne_eq, Int.not_lt, Int.not_le, Decidable.not_not] at g56'
              refine run_skip ?_
              refine run_seq ?_
              refine run_region ?_
              refine run_q (.none rfl) rfl rfl (q_loadBN rfl agg25 rfl (.there (.there Sel.here)) (.cons rfl (.cons rfl (.cons rfl (.cons rfl (.cons rfl (.cons rfl (.cons rfl (.cons rfl (.cons rfl (.cons rfl (.cons rfl (.cons rfl CellsAt.nil)))))))))))) rfl) ?_
              refine run_h (.none rfl) (h_buildSlice rfl rfl rfl Try.underlying30 info25 (.cons rfl rfl rfl rfl Parts.nil) rfl (by omega)) ?_
              rintro b61 -
              refine run_q (.none rfl) rfl rfl (q_move rfl rfl) ?_
              refine run_q (.none rfl) rfl rfl (q_move rfl rfl) ?_
              refine run_h (.none rfl) (h_callX [_, _, _, _] _ rfl rfl rfl call20 (.cons rfl (.cons rfl (.cons rfl Evs.nil))) ((Sel.perm (.there (.there (.there (.there (.there (.there Sel.here))))))).trans (.cons _ ((Sel.perm (.there (.there (.there (.there (.there (.there Sel.here))))))).trans (.cons _ ((Sel.perm (.there (.there (.there (.there (.there (.there Sel.here))))))).trans (.cons _ (Sel.perm (.there (.there (.there (.there (.there (.there Sel.here))))))))))))) (Y := fun _ => atAny [_, _, _, _]) (fun _ _ h => h) (fun w hk hm => Place_ret [(c41 x)] (some ⟨b61, 0, none⟩) 1 (gs la (gN la)) (negL (gs lb (gN la))) pa pb A B ca cb (gN la) w gs_len (by rw [negL_len, gs_len]) ((hm.perm ((Sel.perm (.there (.there (.there (.there (.there (.there Sel.here))))))).trans (.cons _ ((Sel.perm (.there (.there (.there (.there (.there (.there Sel.here))))))).trans (.cons _ ((Sel.perm (.there (.there (.there (.there (.there (.there Sel.here))))))).trans (.cons _ (Sel.perm (.there (.there (.there (.there (.there (.there Sel.here)))))))))))))).give (rs := [_, _, _, _])) (keep_own (hm.perm ((Sel.perm (.there (.there (.there (.there (.there (.there Sel.here))))))).trans (.cons _ ((Sel.perm (.there (.there (.there (.there (.there (.there Sel.here))))))).trans (.cons _ ((Sel.perm (.there (.there (.there (.there (.there (.there Sel.here))))))).trans (.cons _ (Sel.perm (.there (.there (.there (.there (.there (.there Sel.here)))))))))))))) Sel.here) (show 1 ≤ 20 by decide) (by omega) (ground_bd (fun i => gs_bd hbA _ i)) (neg_bd (fun i => gs_bd hbB _ i)))) ?_
              rintro ⟨v, m⟩ ⟨O, co, rfl, rfl⟩
              show Run _ _ _ _ _ _ _ ⟨(64, .tuple #[.slice O (slpM [(c41 x)] (gs la (gN la)) (negL (gs lb (gN la)))).length co, .int .i64 (slpE [(c41 x)] (gs la (gN la)) (negL (gs lb (gN la))))]) :: _, _ :: _ :: _ :: _ :: _ :: _⟩
              refine run_q (.none rfl) rfl rfl (q_move rfl rfl) ?_
              refine run_q (.none rfl) rfl rfl (q_extract rfl rfl rfl) ?_
              refine run_q (.none rfl) rfl rfl (q_extract rfl rfl rfl) ?_
              refine run_q (.none rfl) rfl rfl (q_assign rfl rfl) ?_
              refine run_q (.none rfl) rfl rfl (q_assign rfl rfl) ?_
              refine run_nil ?_
              refine run_sub (subMk (.cons (s := 3) rfl (.cons (s := 4) rfl (.cons (s := 9) rfl (.cons (s := 10) rfl (.cons (s := 11) rfl .nil))))) .refl) ?_
              refine run_seq ?_
              refine run_seq ?_
              have hs1 : x.side = 1 := by omega
              have hrw : (row1 x (gs la (gN la)) (negL (gs lb (gN la)))) = (gs la (gN la)) := if_pos hs1
              obtain ⟨hbb, hbt⟩ := mk_up (x := (c41 x)) (e := x.side * atS (c41 x) (row1 x (gs la (gN la)) (negL (gs lb (gN la))))) (show x.side = 1 by omega)
              have hh8 : hS (c41 x) = hgtS x.fst x.lst := rfl
              have hse : x.side * atS (c41 x) (row1 x (gs la (gN la)) (negL (gs lb (gN la)))) = atS (c41 x) (row1 x (gs la (gN la)) (negL (gs lb (gN la)))) := by rw [hs1]; omega
              have hfr : x.side * x.frm = x.frm := by rw [hs1]; omega
              have hti : x.side * x.til = x.til := by rw [hs1]; omega
              rw [hrw] at hat hse hbb hbt
              rw [hrw] at hM8
              have hsm : x.side * (1 * maxR (gs la (gN la)) x.fst.toNat x.lst.toNat) = maxR (gs la (gN la)) x.fst.toNat x.lst.toNat := by rw [hs1]; omega
              have hmb := maxR_bd (o := (gs la (gN la))) (f := x.fst.toNat) (l := x.lst.toNat) (ground_bd (fun i => gs_bd hbA _ i)) (by omega) (by rw [gs_len]; omega)
              refine run_sub (subMk .refl (.cons (.there (.there (.there (.there Sel.here)))) (.own (m' := 1) (xs' := [Mk.enc (mkS (c41 x) (x.side * atS (c41 x) (gs la (gN la))))]) rfl (by rw [hM8]; rfl) rfl (by rw [hM8]; rfl)) (.cons Sel.here .refl (.cons Sel.here .refl (.cons Sel.here .refl (.cons Sel.here .refl (.cons Sel.here .refl (.cons Sel.here .refl (.cons Sel.here .refl (.cons Sel.here .refl (.cons Sel.here .refl (.cons Sel.here .refl (.cons Sel.here .refl (.cons Sel.here .refl (.cons Sel.here .refl .nil))))))))))))))) ?_
              refine run_sub (subMk (.cons (s := 3) rfl (.cons (s := 4) rfl (.cons (s := 9) rfl (.cons' (s := 10) (v' := .slice O 1 co) rfl (by rw [hM8]; rfl) (.cons' (s := 11) (v' := .int .i64 0) rfl (vint hE8) .nil))))) .refl) ?_
              refine run_fork mixed (by kernel_rfl) .refl ?_
              refine b_q (i := 0) rfl (by kernel_rfl) (.none rfl) rfl rfl (q_move rfl rfl) ?_
              refine b_q (i := 1) rfl (by kernel_rfl) (.none rfl) rfl rfl (q_neq rfl rfl rfl) ?_
              refine b_q (i := 2) rfl (by kernel_rfl) (.none rfl) rfl rfl (q_move rfl rfl) ?_
              refine b_q (i := 3) rfl (by kernel_rfl) (.on rfl rfl rfl rfl) rfl rfl (q_move rfl rfl) ?_
              refine b_q (i := 4) rfl (by kernel_rfl) (.on rfl rfl rfl rfl) rfl rfl (q_len rfl Try.underlying43 rfl) ?_
              refine b_q (i := 5) rfl (by kernel_rfl) (.on rfl rfl rfl rfl) rfl rfl (q_neq rfl rfl rfl) ?_
              refine b_q (i := 6) rfl (by kernel_rfl) (.none rfl) rfl rfl (q_pickF rfl rfl rfl rfl) ?_
              refine b_q (i := 7) rfl (by kernel_rfl) (.none rfl) rfl rfl (q_move rfl rfl) ?_
              refine b_q (i := 8) rfl (by kernel_rfl) (.on rfl rfl rfl rfl) rfl rfl (q_move rfl rfl) ?_
              refine b_q (i := 9) rfl (by kernel_rfl) (.on rfl rfl rfl rfl) rfl rfl (q_fieldB (d := 6) rfl Try.underlying25 rfl rfl sz3 rfl) ?_
              refine b_q (i := 10) rfl (by kernel_rfl) (.on rfl rfl rfl rfl) rfl rfl (q_loadB rfl one3 rfl (.there (.there (.there (.there (.there (.there (.there (.there Sel.here)))))))) rfl) ?_
              refine b_q (i := 11) rfl (by kernel_rfl) (.on rfl rfl rfl rfl) rfl rfl (q_fieldB (d := 7) rfl Try.underlying25 rfl rfl sz3 rfl) ?_
              refine b_q (i := 12) rfl (by kernel_rfl) (.on rfl rfl rfl rfl) rfl rfl (q_loadB rfl one3 rfl (.there (.there (.there (.there (.there (.there (.there (.there Sel.here)))))))) rfl) ?_
              refine b_q (i := 13) rfl (by kernel_rfl) (.on rfl rfl rfl rfl) rfl rfl (q_move rfl rfl) ?_
              refine b_q (i := 14) rfl (by kernel_rfl) (.on rfl rfl rfl rfl) rfl rfl (q_indexS (q := 0) rfl Try.underlying43 sz49 rfl rfl (.own Sel.here) rfl rfl (by decide)) ?_
              refine b_q (i := 15) rfl (by kernel_rfl) (.on rfl rfl rfl rfl) rfl rfl (q_fieldAddr (d := 8) rfl Try.underlying49 rfl rfl sz47 rfl) ?_
              refine b_q (i := 16) rfl (by kernel_rfl) (.on rfl rfl rfl rfl) rfl rfl (q_loadFN rfl agg47 rfl (.own Sel.here) rfl rfl rfl) ?_
              refine b_q (i := 17) rfl (by kernel_rfl) (.on rfl rfl rfl rfl) rfl rfl (q_call rfl call26 (.cons rfl (.cons rfl (.cons rfl (.cons rfl Evs.nil)))) (fun w hk hm => touch_1 (gs la (gN la)) qa A2 ca2 (gN la) x.fst x.lst (mkS (c41 x) (x.side * atS (c41 x) (gs la (gN la)))).bl (mkS (c41 x) (x.side * atS (c41 x) (gs la (gN la)))).bb (mkS (c41 x) (x.side * atS (c41 x) (gs la (gN la)))).br (mkS (c41 x) (x.side * atS (c41 x) (gs la (gN la)))).bt w gs_len (rd_sky ((Sel.there (Sel.there (Sel.there (Sel.there (Sel.there (Sel.there Sel.here)))))).holds hm)) (own_rd ((Sel.there (Sel.there (Sel.there (Sel.there (Sel.there (Sel.there (Sel.there Sel.here))))))).holds hm)) ⟨by omega, by omega, by rw [gs_len]; omega⟩ (by rw [gs_len]; omega) (by rw [gs_len]; omega) (ground_bd (fun i => gs_bd hbA _ i)) (by omega))) ?_
              refine b_q (i := 18) rfl (by kernel_rfl) (.none rfl) rfl rfl (q_pickF rfl rfl rfl rfl) ?_
              refine b_nil (by kernel_rfl) ?_
              refine run_sub (subMk (.cons (s := 3) rfl (.cons (s := 4) rfl (.cons (s := 9) rfl (.cons (s := 10) rfl (.cons (s := 85) rfl .nil))))) .refl) ?_
              refine run_condF rfl (decide_eq_false (by omega)) ?_
              refine run_skip ?_
              refine run_seq ?_
              refine run_region ?_
              refine run_q (.none rfl) rfl rfl (q_move rfl rfl) ?_
              refine run_q (.none rfl) rfl rfl (q_fieldB (d := 6) rfl Try.underlying25 rfl rfl sz3 rfl) ?_
              refine run_q (.none rfl) rfl rfl (q_loadB rfl one3 rfl (.there (.there (.there (.there (.there (.there (.there (.there Sel.here)))))))) rfl) ?_
              refine run_q (.none rfl) rfl rfl (q_fieldB (d := 7) rfl Try.underlying25 rfl rfl sz3 rfl) ?_
              refine run_q (.none rfl) rfl rfl (q_loadB rfl one3 rfl (.there (.there (.there (.there (.there (.there (.there (.there Sel.here)))))))) rfl) ?_
              refine run_q (.none rfl) rfl rfl (q_call rfl call27 (.cons rfl (.cons rfl (.cons rfl Evs.nil))) (fun w hk hm => most_just (gs la (gN la)) qa A2 ca2 1 (gN la) x.fst x.lst w gs_len (rd_sky ((Sel.there (Sel.there (Sel.there (Sel.there (Sel.there (Sel.there Sel.here)))))).holds hm)) (own_rd ((Sel.there (Sel.there (Sel.there (Sel.there (Sel.there (Sel.there (Sel.there Sel.here))))))).holds hm)) ⟨by omega, by omega, by rw [gs_len]; omega⟩ (by rw [gs_len]; omega) (by rw [gs_len]; omega) (ground_bd (fun i => gs_bd hbA _ i)) (.inl rfl))) ?_
              refine run_q (.none rfl) rfl rfl (q_move rfl rfl) ?_
              refine run_q (.none rfl) rfl rfl (q_extract rfl rfl rfl) ?_
              refine run_q (.none rfl) rfl rfl (q_extract rfl rfl rfl) ?_
              refine run_q (.none rfl) rfl rfl (q_assign rfl rfl) ?_
              refine run_q (.none rfl) rfl rfl (q_assign rfl rfl) ?_
              refine run_nil ?_
              refine run_sub (subMk (.cons (s := 3) rfl (.cons (s := 4) rfl (.cons (s := 10) rfl (.cons (s := 12) rfl (.cons (s := 13) rfl .nil))))) .refl) ?_
              refine run_seq ?_
              refine run_region ?_
              refine run_q (.none rfl) rfl rfl (q_move rfl rfl) ?_
              refine run_q (.none rfl) rfl rfl (q_indexS (q := 0) rfl Try.underlying43 sz49 rfl rfl (.own Sel.here) rfl rfl (by decide)) ?_
              refine run_q (.none rfl) rfl rfl (q_fieldAddr (d := 8) rfl Try.underlying49 rfl rfl sz47 rfl) ?_
              refine run_q (.none rfl) rfl rfl (q_fieldF (d2 := 9) rfl Try.underlying47 rfl rfl sz3 rfl) ?_
              refine run_q (.none rfl) rfl rfl (q_loadF rfl one3 rfl (.own Sel.here) rfl rfl) ?_
              refine run_q (.none rfl) rfl rfl (q_assign rfl rfl) ?_
              refine run_nil ?_
              refine run_sub (subMk (.cons (s := 3) rfl (.cons (s := 4) rfl (.cons (s := 10) rfl (.cons (s := 12) rfl (.cons (s := 13) rfl (.cons (s := 14) rfl .nil)))))) .refl) ?_
              refine run_seq ?_
              refine run_seq ?_
              refine run_region ?_
              refine run_q (.none rfl) rfl rfl (q_fieldB (d := 3) rfl Try.underlying25 rfl rfl sz3 rfl) ?_
              refine run_q (.none rfl) rfl rfl (q_loadB rfl one3 rfl (.there (.there (.there (.there (.there (.there (.there (.there Sel.here)))))))) rfl) ?_
              refine run_q (.none rfl) rfl rfl (q_lss rfl rfl rfl) ?_
              refine run_nil ?_
              refine run_condF rfl (decide_eq_false (by omega)) ?_
              refine run_skip ?_
              refine run_seq ?_
              refine run_region ?_
              refine run_q (.none rfl) rfl rfl (q_fieldB (d := 3) rfl Try.underlying25 rfl rfl sz3 rfl) ?_
              refine run_q (.none rfl) rfl rfl (q_loadB rfl one3 rfl (.there (.there (.there (.there (.there (.there (.there (.there Sel.here)))))))) rfl) ?_
              refine run_q (.none rfl) rfl rfl (q_fieldB (d := 8) rfl Try.underlying25 rfl rfl sz3 rfl) ?_
              refine run_q (.none rfl) rfl rfl (q_loadB rfl one3 rfl (.there (.there (.there (.there (.there (.there (.there (.there Sel.here)))))))) rfl) ?_
              refine run_q (.none rfl) rfl rfl (q_mul rfl rfl rfl (by omega)) ?_
              refine run_q (.none rfl) rfl rfl (q_fieldB (d := 3) rfl Try.underlying25 rfl rfl sz3 rfl) ?_
              refine run_q (.none rfl) rfl rfl (q_loadB rfl one3 rfl (.there (.there (.there (.there (.there (.there (.there (.there Sel.here)))))))) rfl) ?_
              refine run_q (.none rfl) rfl rfl (q_fieldB (d := 9) rfl Try.underlying25 rfl rfl sz3 rfl) ?_
              refine run_q (.none rfl) rfl rfl (q_loadB rfl one3 rfl (.there (.there (.there (.there (.there (.there (.there (.there Sel.here)))))))) rfl) ?_
              refine run_q (.none rfl) rfl rfl (q_mul rfl rfl rfl (by omega)) ?_
              refine run_q (.none rfl) rfl rfl (q_max2 rfl rfl rfl) ?_
              refine run_q (.none rfl) rfl rfl (q_assign rfl rfl) ?_
              refine run_nil ?_
              refine run_sub (subMk (.cons (s := 3) rfl (.cons (s := 4) rfl (.cons (s := 10) rfl (.cons (s := 12) rfl (.cons (s := 13) rfl (.cons (s := 14) rfl (.cons (s := 15) rfl .nil))))))) .refl) ?_
              refine run_seq ?_
              refine run_fork mixed (by kernel_rfl) .refl ?_
              refine b_q (i := 0) rfl (by kernel_rfl) (.none rfl) rfl rfl (q_move rfl rfl) ?_
              refine b_q (i := 1) rfl (by kernel_rfl) (.none rfl) rfl rfl (q_eql rfl rfl rfl) ?_
              refine b_q (i := 2) rfl (by kernel_rfl) (.none rfl) rfl rfl (q_move rfl rfl) ?_
              refine b_q (i := 3) rfl (by kernel_rfl) (.on rfl rfl rfl rfl) rfl rfl (q_move rfl rfl) ?_
              refine b_q (i := 4) rfl (by kernel_rfl) (.on rfl rfl rfl rfl) rfl rfl (q_move rfl rfl) ?_
              refine b_q (i := 5) rfl (by kernel_rfl) (.on rfl rfl rfl rfl) rfl rfl (q_fieldB (d := 3) rfl Try.underlying25 rfl rfl sz3 rfl) ?_
              refine b_q (i := 6) rfl (by kernel_rfl) (.on rfl rfl rfl rfl) rfl rfl (q_loadB rfl one3 rfl (.there (.there (.there (.there (.there (.there (.there (.there Sel.here)))))))) rfl) ?_
              refine b_q (i := 7) rfl (by kernel_rfl) (.on rfl rfl rfl rfl) rfl rfl (q_move rfl rfl) ?_
              refine b_q (i := 8) rfl (by kernel_rfl) (.on rfl rfl rfl rfl) rfl rfl (q_mul rfl rfl rfl (by omega)) ?_
              refine b_q (i := 9) rfl (by kernel_rfl) (.on rfl rfl rfl rfl) rfl rfl (q_add rfl rfl rfl (by omega)) ?_
              refine b_q (i := 10) rfl (by kernel_rfl) (.on rfl rfl rfl rfl) rfl rfl (q_max2 rfl rfl rfl) ?_
              refine b_q (i := 11) rfl (by kernel_rfl) (.on rfl rfl rfl rfl) rfl rfl (q_eql rfl rfl rfl) ?_
              refine b_q (i := 12) rfl (by kernel_rfl) (.none rfl) rfl rfl (q_pickT rfl rfl rfl rfl) ?_
              refine b_q (i := 13) rfl (by kernel_rfl) (.none rfl) rfl rfl (q_move rfl rfl) ?_
              refine b_q (i := 14) rfl (by kernel_rfl) (.on rfl rfl rfl (beq_iff_eq.2 (by omega))) rfl rfl (q_move rfl rfl) ?_
              refine b_q (i := 15) rfl (by kernel_rfl) (.on rfl rfl rfl (beq_iff_eq.2 (by omega))) rfl rfl (q_indexS (q := 0) rfl Try.underlying43 sz49 rfl rfl (.own Sel.here) rfl rfl (by decide)) ?_
              refine b_q (i := 16) rfl (by kernel_rfl) (.on rfl rfl rfl (beq_iff_eq.2 (by omega))) rfl rfl (q_fieldAddr (d := 8) rfl Try.underlying49 rfl rfl sz47 rfl) ?_
              refine b_q (i := 17) rfl (by kernel_rfl) (.on rfl rfl rfl (beq_iff_eq.2 (by omega))) rfl rfl (q_fieldF (d2 := 11) rfl Try.underlying47 rfl rfl sz3 rfl) ?_
              refine b_q (i := 18) rfl (by kernel_rfl) (.on rfl rfl rfl (beq_iff_eq.2 (by omega))) rfl rfl (q_loadF rfl one3 rfl (.own Sel.here) rfl rfl) ?_
              refine b_q (i := 19) rfl (by kernel_rfl) (.on rfl rfl rfl (beq_iff_eq.2 (by omega))) rfl rfl (q_move rfl rfl) ?_
              refine b_q (i := 20) rfl (by kernel_rfl) (.on rfl rfl rfl (beq_iff_eq.2 (by omega))) rfl rfl (q_indexS (q := 0) rfl Try.underlying43 sz49 rfl rfl (.own Sel.here) rfl rfl (by decide)) ?_
              refine b_q (i := 21) rfl (by kernel_rfl) (.on rfl rfl rfl (beq_iff_eq.2 (by omega))) rfl rfl (q_fieldAddr (d := 8) rfl Try.underlying49 rfl rfl sz47 rfl) ?_
              refine b_q (i := 22) rfl (by kernel_rfl) (.on rfl rfl rfl (beq_iff_eq.2 (by omega))) rfl rfl (q_fieldF (d2 := 9) rfl Try.underlying47 rfl rfl sz3 rfl) ?_
              refine b_q (i := 23) rfl (by kernel_rfl) (.on rfl rfl rfl (beq_iff_eq.2 (by omega))) rfl rfl (q_loadF rfl one3 rfl (.own Sel.here) rfl rfl) ?_
              refine b_q (i := 24) rfl (by kernel_rfl) (.on rfl rfl rfl (beq_iff_eq.2 (by omega))) rfl rfl (q_sub rfl rfl rfl (by omega)) ?_
              refine b_q (i := 25) rfl (by kernel_rfl) (.on rfl rfl rfl (beq_iff_eq.2 (by omega))) rfl rfl (q_fieldB (d := 6) rfl Try.underlying25 rfl rfl sz3 rfl) ?_
              refine b_q (i := 26) rfl (by kernel_rfl) (.on rfl rfl rfl (beq_iff_eq.2 (by omega))) rfl rfl (q_loadB rfl one3 rfl (.there (.there (.there (.there (.there (.there (.there (.there Sel.here)))))))) rfl) ?_
              refine b_q (i := 27) rfl (by kernel_rfl) (.on rfl rfl rfl (beq_iff_eq.2 (by omega))) rfl rfl (q_fieldB (d := 7) rfl Try.underlying25 rfl rfl sz3 rfl) ?_
              refine b_q (i := 28) rfl (by kernel_rfl) (.on rfl rfl rfl (beq_iff_eq.2 (by omega))) rfl rfl (q_loadB rfl one3 rfl (.there (.there (.there (.there (.there (.there (.there (.there Sel.here)))))))) rfl) ?_
              refine b_q (i := 29) rfl (by kernel_rfl) (.on rfl rfl rfl (beq_iff_eq.2 (by omega))) rfl rfl (q_call rfl call17 (.cons rfl (.cons rfl Evs.nil)) (fun w hk hm => height_just x.fst x.lst w (by omega) (by omega))) ?_
              refine b_q (i := 30) rfl (by kernel_rfl) (.on rfl rfl rfl (beq_iff_eq.2 (by omega))) rfl rfl (q_eql rfl rfl rfl) ?_
              refine b_q (i := 31) rfl (by kernel_rfl) (.none rfl) rfl rfl (q_pickT rfl rfl (beq_iff_eq.2 (by omega)) rfl) ?_
              refine b_q (i := 32) rfl (by kernel_rfl) (.none rfl) rfl rfl (q_assign rfl rfl) ?_
              refine b_nil (by kernel_rfl) ?_
              refine run_sub (subMk (.cons (s := 4) rfl .nil) .refl) ?_
              refine run_ret ?_
              exact end1 rfl rfl (by first | rfl | exact congrArg Value.bool (beq_iff_eq.2 (by omega)))

end Go.Proofs.Ytomhegnaojejnaa
