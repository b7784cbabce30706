/- A listener: what it says of itself. -/
import Derived.Test.YtbkmmjpklkallaaG
import Derived.Test.YtbkmmjpklkallaaFoll
import Derived.Test.YtbkmmjpklkallaaPtr
set_option linter.unusedSimpArgs false
set_option linter.unusedVariables false
namespace Go.Proofs.Ytbkmmjpklkallaa
open Go Go.RowKit Hr

theorem call46 : Hr.Callable Try.prog 46 := fun args w => by kernel_rfl
theorem call45 : Hr.Callable Try.prog 45 := fun args w => by kernel_rfl
theorem call25 : Hr.Callable Try.prog 25 := fun args w => by kernel_rfl

theorem Note_len {l : List Note} {z : List Value} (h : z ∈ l.map Note.enc) : z.length = 7 := by
  obtain ⟨p, _, rfl⟩ := List.mem_map.1 h; rfl
theorem Note_all {l : List Note} {z : List Value} (h : z ∈ l.map Note.enc) : allCells z = true := by
  obtain ⟨p, _, rfl⟩ := List.mem_map.1 h; rfl
theorem rd_none {α : Type} {enc : α → List Value} {w : World} {A : Option Addr} {s : Nat} {l : List α} (h : Rd w A s (l.map enc)) (hA : A.isNone = true) : l = [] := by
  rcases h with h | ⟨ad, rfl, _⟩
  · exact List.map_eq_nil_iff.1 h
  · cases hA

set_option maxRecDepth 100000 in
theorem cloneN_ret (l : List Note) (A : Option Addr) (ca : Nat) (W : World) (hr : Rd W A 7 (l.map Note.enc)) (hl : l.length ≤ 1000000) : Calls Try.prog 44 #[.slice A l.length ca] W (Ret W nX (fun v m => ∃ O co, v = .slice O l.length co ∧ m = [.own 47 7 O l.length co ((l).map Note.enc)])) := by
  refine enterA (X := nX) (vs := [.slice A l.length ca]) Try.func44 Try.ntmps44 rfl rfl Mem.nil ?_
  refine run_seq ?_
  refine run_region ?_
  refine run_q (.none rfl) rfl rfl (q_assign rfl rfl) ?_
  refine run_nil ?_
  refine run_seq ?_
  refine run_seq ?_
  refine run_region ?_
  refine run_q (.none rfl) rfl rfl (q_move rfl rfl) ?_
  refine run_q (.none rfl) rfl rfl (q_eqlNil rfl rfl rfl Try.underlying22) ?_
  refine run_nil ?_
  refine run_cond rfl (fun g4 => ?_) (fun g4 => ?_)
  · have g4' := g4
    try simp only [decide_eq_true_eq, decide_eq_false_iff_not, beq_iff_eq, beq_eq_false_iff_ne, bne_iff_ne, bne_eq_false_iff_eq, Bool.not_eq_true', Bool.not_eq_false', ne_eq, Int.not_lt, Int.not_le, Decidable.not_not] at g4'
    have hl0 := rd_none hr g4
    refine run_seq ?_
    refine run_region ?_
    refine run_q (.none rfl) rfl rfl (q_assign rfl rfl) ?_
    refine run_nil ?_
    refine run_ret ?_
    refine run_sub (subMk .refl (MemSub.nilOwn 47 7)) ?_
    refine run_sub (subMk .refl (.cons Sel.here .refl .nil)) ?_
    exact end1 rfl rfl ⟨none, 0, by rw [hl0]; rfl, by rw [hl0]; rfl⟩
  · have g4' := g4
    try simp only [decide_eq_true_eq, decide_eq_false_iff_not, beq_iff_eq, beq_eq_false_iff_ne, bne_iff_ne, bne_eq_false_iff_eq, Bool.not_eq_true', Bool.not_eq_false', ne_eq, Int.not_lt, Int.not_le, Decidable.not_not] at g4'
    refine run_skip ?_
    refine run_seq ?_
    refine run_region ?_
    refine run_h (.none rfl) (h_buildSlice rfl rfl rfl Try.underlying22 info47 Parts.nil rfl (by omega)) ?_
    rintro b5 -
    refine run_q (.none rfl) rfl rfl (q_move rfl rfl) ?_
    refine run_h (.none rfl) (h_append rfl rfl rfl Try.underlying22 info47 rfl rfl Sel.here rfl (.inp hr .no) (by simp) (fun z hz => Note_len hz) (fun z hz => Note_all hz) (by omega) (by omega)) ?_
    rintro ⟨A7, c7⟩ -
    refine run_q (.none rfl) rfl rfl (q_assign rfl rfl) ?_
    refine run_nil ?_
    refine run_sub (subMk (.cons (s := 2) rfl .nil) .refl) ?_
    refine run_ret ?_
    refine run_sub (subMk .refl (.cons Sel.here .refl .nil)) ?_
    exact end1 rfl rfl ⟨A7, c7, by simp, by simp⟩

theorem range_get {f : Nat → Int} {n k : Nat} (h : k < n) : (((List.range n).map f).map encI)[k]? = some [.int .i64 (f k)] := by simp [encI, h]

theorem min_just (f : Nat → Int) (m : Nat) (A : Option Addr) (ca : Nat) (W : World) (hr : Rd W A 1 (((List.range (m + 1)).map f).map encI)) (hm : m ≤ 1000000) : Calls Try.prog 46 #[.slice A (m + 1) ca] W (Hr.Just W (.int .i64 (f (amin f m)))) := by
  refine Just.of_ret ?_
  refine enterA (X := nX) (vs := [.slice A (m + 1) ca]) Try.func46 Try.ntmps46 rfl rfl Mem.nil ?_
  refine run_seq ?_
  refine run_region ?_
  refine run_q (.none rfl) rfl rfl (q_assign rfl rfl) ?_
  refine run_nil ?_
  refine run_seq ?_
  refine run_seq ?_
  refine run_region ?_
  refine run_q (.none rfl) rfl rfl (q_move rfl rfl) ?_
  refine run_q (.none rfl) rfl rfl (q_len rfl Try.underlying72 rfl) ?_
  refine run_q (.none rfl) rfl rfl (q_lss rfl rfl rfl) ?_
  refine run_nil ?_
  refine run_condF rfl (decide_eq_false (by omega)) ?_
  refine run_skip ?_
  refine run_seq ?_
  refine run_region ?_
  refine run_q (.none rfl) rfl rfl (q_move rfl rfl) ?_
  refine run_q (.none rfl) rfl rfl (q_indexS (q := 0) rfl Try.underlying72 sz3 rfl rfl (.inp hr .no) (by simp) rfl (by omega)) ?_
  refine run_q (.none rfl) rfl rfl (q_loadC rfl one3 rfl (.inp hr .no) (range_get (by omega))) ?_
  refine run_q (.none rfl) rfl rfl (q_assign rfl rfl) ?_
  refine run_nil ?_
  refine run_sub (subMk (.cons (s := 0) rfl (.cons (s := 2) rfl (.cons (s := 3) rfl .nil))) .refl) ?_
  refine run_seq ?_
  refine run_seq ?_
  refine run_region ?_
  refine run_q (.none rfl) rfl rfl (q_assign rfl rfl) ?_
  refine run_nil ?_
  refine run_block ?_
  refine run_sub (subMk (.cons (s := 4) rfl (.cons (s := 3) rfl (.cons (s := 0) rfl (.cons (s := 2) rfl .nil)))) .nil) ?_
  refine run_loopC2M0 (ι := Nat) (fun k => k ≤ m) (fun k => .int .i64 ((k : Int) + 1)) (fun k => .int .i64 (f (amin f k)))  (fun k => m - k) 0 (by (try dsimp only); exact (by omega)) rfl rfl  ?_
  rintro k hk
  (try dsimp only at hk)
  show Run _ _ _ _ _ _ _ ⟨(4, .int .i64 ((k : Int) + 1)) :: (3, .int .i64 (f (amin f k))) :: _, _⟩
  refine run_seq ?_
  refine run_seq ?_
  refine run_region ?_
  refine run_q (.none rfl) rfl rfl (q_move rfl rfl) ?_
  refine run_q (.none rfl) rfl rfl (q_move rfl rfl) ?_
  refine run_q (.none rfl) rfl rfl (q_len rfl Try.underlying72 rfl) ?_
  refine run_q (.none rfl) rfl rfl (q_lss rfl rfl rfl) ?_
  refine run_nil ?_
  refine run_sub (subMk (.cons (s := 0) rfl (.cons (s := 2) rfl (.cons (s := 3) rfl (.cons (s := 4) rfl (.cons (s := 15) rfl .nil))))) .refl) ?_
  refine run_cond rfl (fun g15 => ?_) (fun g15 => ?_)
  · have g15' := g15
    try simp only [decide_eq_true_eq, decide_eq_false_iff_not, beq_iff_eq, beq_eq_false_iff_ne, bne_iff_ne, bne_eq_false_iff_eq, Bool.not_eq_true', Bool.not_eq_false', ne_eq, Int.not_lt, Int.not_le, Decidable.not_not] at g15'
    refine run_skip ?_
    refine run_seq ?_
    refine run_block ?_
    refine run_region ?_
    refine run_q (.none rfl) rfl rfl (q_move rfl rfl) ?_
    refine run_q (.none rfl) rfl rfl (q_move rfl rfl) ?_
    refine run_q (.none rfl) rfl rfl (q_move rfl rfl) ?_
    refine run_q (.none rfl) rfl rfl (q_indexS (q := (k + 1)) rfl Try.underlying72 sz3 rfl rfl (.inp hr .no) (by simp) (by omega) (by omega)) ?_
    refine run_q (.none rfl) rfl rfl (q_loadC rfl one3 rfl (.inp hr .no) (range_get (by omega))) ?_
    refine run_q (.none rfl) rfl rfl (q_min2 rfl rfl rfl) ?_
    refine run_q (.none rfl) rfl rfl (q_assign rfl rfl) ?_
    refine run_nil ?_
    refine run_sub (subMk (.cons (s := 0) rfl (.cons (s := 2) rfl (.cons (s := 3) rfl (.cons (s := 4) rfl .nil)))) .refl) ?_
    refine run_blk ?_
    refine run_region ?_
    refine run_q (.none rfl) rfl rfl (q_move rfl rfl) ?_
    refine run_q (.none rfl) rfl rfl (q_add rfl rfl rfl (by omega)) ?_
    refine run_q (.none rfl) rfl rfl (q_assign rfl rfl) ?_
    refine run_nil ?_
    exact run_again (k + 1) (by (try dsimp only); exact (by omega)) (by (try dsimp only); omega) (subMk (.cons' (s := 4) rfl (vint (by omega)) (.cons' (s := 3) rfl (vint (amin_min f k)) (.cons (s := 0) rfl (.cons (s := 2) rfl .nil)))) .nil)
  · have g15' := g15
    try simp only [decide_eq_true_eq, decide_eq_false_iff_not, beq_iff_eq, beq_eq_false_iff_ne, bne_iff_ne, bne_eq_false_iff_eq, Bool.not_eq_true', Bool.not_eq_false', ne_eq, Int.not_lt, Int.not_le, Decidable.not_not] at g15'
    refine run_exit rfl ?_
    refine run_sub (subMk (.cons (s := 2) rfl (.cons (s := 3) rfl .nil)) .refl) ?_
    refine run_seq ?_
    refine run_region ?_
    refine run_q (.none rfl) rfl rfl (q_move rfl rfl) ?_
    refine run_q (.none rfl) rfl rfl (q_assign rfl rfl) ?_
    refine run_nil ?_
    refine run_ret ?_
    exact end1 rfl rfl (by rw [show k = m from by omega])

theorem index_just (f : Nat → Int) (m : Nat) (A : Option Addr) (ca : Nat) (W : World) (hr : Rd W A 1 (((List.range (m + 1)).map f).map encI)) (hm : m ≤ 1000000) : Calls Try.prog 45 #[.slice A (m + 1) ca, .int .i64 (f (amin f m))] W (Hr.Just W (.int .i64 (amin f m : Int))) := by
  have hle := amin_le f m
  have hfirst := amin_first f m
  refine Just.of_ret ?_
  refine enterA (X := nX) (vs := [.slice A (m + 1) ca, .int .i64 (f (amin f m))]) Try.func45 Try.ntmps45 rfl rfl Mem.nil ?_
  refine run_seq ?_
  refine run_region ?_
  refine run_q (.none rfl) rfl rfl (q_assign rfl rfl) ?_
  refine run_nil ?_
  refine run_seq ?_
  refine run_seq ?_
  refine run_region ?_
  refine run_q (.none rfl) rfl rfl (q_move rfl rfl) ?_
  refine run_q (.none rfl) rfl rfl (q_len rfl Try.underlying72 rfl) ?_
  refine run_q (.none rfl) rfl rfl (q_move rfl rfl) ?_
  refine run_nil ?_
  refine run_block ?_
  refine run_sub (subMk (.cons (s := 8) rfl (.cons (s := 0) rfl (.cons (s := 1) rfl (.cons (s := 4) rfl (.cons (s := 7) rfl .nil))))) .nil) ?_
  refine run_loopC1M0 (ι := Nat) (fun k => k ≤ amin f m) (fun k => .int .i64 (k : Int))  (fun k => m + 1 - k) 0 (by (try dsimp only); exact (by omega)) rfl  ?_
  rintro k hk
  (try dsimp only at hk)
  show Run _ _ _ _ _ _ _ ⟨(8, .int .i64 (k : Int)) :: _, _⟩
  refine run_seq ?_
  refine run_region ?_
  refine run_q (.none rfl) rfl rfl (q_lss rfl rfl rfl) ?_
  refine run_nil ?_
  refine run_seq ?_
  refine run_cond rfl (fun g9 => ?_) (fun g9 => ?_)
  · have g9' := g9
    try simp only [decide_eq_true_eq, decide_eq_false_iff_not, beq_iff_eq, beq_eq_false_iff_ne, bne_iff_ne, bne_eq_false_iff_eq, Bool.not_eq_true', Bool.not_eq_false', ne_eq, Int.not_lt, Int.not_le, Decidable.not_not] at g9'
    refine run_skip ?_
    refine run_seq ?_
    refine run_block ?_
    refine run_seq ?_
    refine run_region ?_
    refine run_q (.none rfl) rfl rfl (q_move rfl rfl) ?_
    refine run_q (.none rfl) rfl rfl (q_assign rfl rfl) ?_
    refine run_nil ?_
    refine run_seq ?_
    refine run_region ?_
    refine run_q (.none rfl) rfl rfl (q_move rfl rfl) ?_
    refine run_q (.none rfl) rfl rfl (q_move rfl rfl) ?_
    refine run_q (.none rfl) rfl rfl (q_move rfl rfl) ?_
    refine run_q (.none rfl) rfl rfl (q_indexS (q := k) rfl Try.underlying72 sz3 rfl rfl (.inp hr .no) (by simp) rfl (by omega)) ?_
    refine run_q (.none rfl) rfl rfl (q_loadC rfl one3 rfl (.inp hr .no) (range_get (by omega))) ?_
    refine run_q (.none rfl) rfl rfl (q_eql rfl rfl rfl) ?_
    refine run_nil ?_
    refine run_sub (subMk (.cons (s := 0) rfl (.cons (s := 1) rfl (.cons (s := 4) rfl (.cons (s := 5) rfl (.cons (s := 7) rfl (.cons (s := 8) rfl (.cons (s := 16) rfl .nil))))))) .refl) ?_
    refine run_cond rfl (fun g16 => ?_) (fun g16 => ?_)
    · have g16' := g16
      try simp only [decide_eq_true_eq, decide_eq_false_iff_not, beq_iff_eq, beq_eq_false_iff_ne, bne_iff_ne, bne_eq_false_iff_eq, Bool.not_eq_true', Bool.not_eq_false', ne_eq, Int.not_lt, Int.not_le, Decidable.not_not] at g16'
      refine run_seq ?_
      refine run_region ?_
      refine run_q (.none rfl) rfl rfl (q_move rfl rfl) ?_
      refine run_q (.none rfl) rfl rfl (q_assign rfl rfl) ?_
      refine run_nil ?_
      refine run_sub (subMk (.cons (s := 0) rfl (.cons (s := 1) rfl (.cons (s := 4) rfl (.cons (s := 7) rfl (.cons (s := 8) rfl .nil))))) .refl) ?_
      refine run_ret ?_
      exact end1 rfl rfl (by by_cases e : k = amin f m; (· rw [← e]); (· have := hfirst k (by omega); omega))
    · have g16' := g16
      try simp only [decide_eq_true_eq, decide_eq_false_iff_not, beq_iff_eq, beq_eq_false_iff_ne, bne_iff_ne, bne_eq_false_iff_eq, Bool.not_eq_true', Bool.not_eq_false', ne_eq, Int.not_lt, Int.not_le, Decidable.not_not] at g16'
      refine run_skip ?_
      refine run_blk ?_
      refine run_region ?_
      refine run_q (.none rfl) rfl rfl (q_add rfl rfl rfl (by omega)) ?_
      refine run_q (.none rfl) rfl rfl (q_move rfl rfl) ?_
      refine run_nil ?_
      refine run_sub (subMk (.cons (s := 0) rfl (.cons (s := 1) rfl (.cons (s := 4) rfl (.cons (s := 7) rfl (.cons (s := 8) rfl .nil))))) .refl) ?_
      exact run_again (k + 1) (by (try dsimp only); exact (by by_cases e : k = amin f m; (· rw [e] at g16; simp at g16); (· omega))) (by (try dsimp only); omega) (subMk (.cons' (s := 8) rfl rfl (.cons (s := 0) rfl (.cons (s := 1) rfl (.cons (s := 4) rfl (.cons (s := 7) rfl .nil))))) .nil)
  · have g9' := g9
    try simp only [decide_eq_true_eq, decide_eq_false_iff_not, beq_iff_eq, beq_eq_false_iff_ne, bne_iff_ne, bne_eq_false_iff_eq, Bool.not_eq_true', Bool.not_eq_false', ne_eq, Int.not_lt, Int.not_le, Decidable.not_not] at g9'
    refine run_exit rfl ?_
    refine run_sub (subMk (.cons (s := 4) rfl .nil) .refl) ?_
    refine run_seq ?_
    refine run_region ?_
    refine run_q (.none rfl) rfl rfl (q_assign rfl rfl) ?_
    refine run_nil ?_
    refine run_ret ?_
    exact end1 rfl rfl (by omega)

theorem heard_just (c : Cost) (a h : List Note) (p : Nat) (S H R : Option Addr) (cs ch cr : Nat) (W : World) (hb : Rd W (some ⟨p, 0, none⟩) 8 [[.slice S a.length cs, .slice H h.length ch, .int .i64 c.wrong, .int .i64 c.missing, .int .i64 c.extra, .int .i64 c.time, .int .i64 c.late, .slice R (a.length + 1) cr]]) : Calls Try.prog 24 #[.pointer (some ((adr (some ⟨p, 0, none⟩)).add (0 * 8)))] W (Hr.Just W (.int .i64 (h.length : Int))) := by
  refine Just.of_ret ?_
  refine enterA (X := nX) (vs := [.pointer (some ((adr (some ⟨p, 0, none⟩)).add (0 * 8)))]) Try.func24 Try.ntmps24 rfl rfl Mem.nil ?_
  refine run_seq ?_
  refine run_region ?_
  refine run_q (.none rfl) rfl rfl (q_assign rfl rfl) ?_
  refine run_nil ?_
  refine run_seq ?_
  refine run_seq ?_
  refine run_region ?_
  refine run_q (.none rfl) rfl rfl (q_move rfl rfl) ?_
  refine run_q (.none rfl) rfl rfl (q_eqlPtr rfl rfl rfl Try.underlying54) ?_
  refine run_nil ?_
  refine run_condF rfl rfl ?_
  refine run_skip ?_
  refine run_seq ?_
  refine run_region ?_
  refine run_q (.none rfl) rfl rfl (q_move rfl rfl) ?_
  refine run_q (.none rfl) rfl rfl (q_nilCheck rfl rfl) ?_
  refine run_q (.none rfl) rfl rfl (q_fieldAddr (d := 1) rfl Try.underlying79 rfl rfl sz22 rfl) ?_
  refine run_q (.none rfl) rfl rfl (q_loadF rfl one22 rfl (.inp hb .no) (show ([[.slice S a.length cs, .slice H h.length ch, .int .i64 c.wrong, .int .i64 c.missing, .int .i64 c.extra, .int .i64 c.time, .int .i64 c.late, .slice R (a.length + 1) cr]] : List (List Value))[0]? = some [.slice S a.length cs, .slice H h.length ch, .int .i64 c.wrong, .int .i64 c.missing, .int .i64 c.extra, .int .i64 c.time, .int .i64 c.late, .slice R (a.length + 1) cr] from rfl) rfl) ?_
  refine run_q (.none rfl) rfl rfl (q_len rfl Try.underlying22 rfl) ?_
  refine run_q (.none rfl) rfl rfl (q_assign rfl rfl) ?_
  refine run_nil ?_
  refine run_sub (subMk (.cons (s := 2) rfl .nil) .refl) ?_
  refine run_ret ?_
  exact end1 rfl rfl rfl

theorem passed_just (c : Cost) (a h : List Note) (p : Nat) (S H R : Option Addr) (cs ch cr : Nat) (W : World) (hb : Rd W (some ⟨p, 0, none⟩) 8 [[.slice S a.length cs, .slice H h.length ch, .int .i64 c.wrong, .int .i64 c.missing, .int .i64 c.extra, .int .i64 c.time, .int .i64 c.late, .slice R (a.length + 1) cr]]) (hrow : Rd W R 1 ((colV c a h).map encI)) (hla : a.length ≤ 1024) : Calls Try.prog 25 #[.pointer (some ((adr (some ⟨p, 0, none⟩)).add (0 * 8)))] W (Hr.Just W (.int .i64 (passV c a h : Int))) := by
  refine Just.of_ret ?_
  refine enterA (X := nX) (vs := [.pointer (some ((adr (some ⟨p, 0, none⟩)).add (0 * 8)))]) Try.func25 Try.ntmps25 rfl rfl Mem.nil ?_
  refine run_seq ?_
  refine run_region ?_
  refine run_q (.none rfl) rfl rfl (q_assign rfl rfl) ?_
  refine run_nil ?_
  refine run_seq ?_
  refine run_seq ?_
  refine run_region ?_
  refine run_q (.none rfl) rfl rfl (q_move rfl rfl) ?_
  refine run_q (.none rfl) rfl rfl (q_eqlPtr rfl rfl rfl Try.underlying54) ?_
  refine run_nil ?_
  refine run_condF rfl rfl ?_
  refine run_skip ?_
  refine run_seq ?_
  refine run_draw [(0, 0), (1, 0), (2, 0), (3, 0), (4, 0), (5, 0), (6, 0), (7, 0), (8, 0), (9, 0), (10, 0)] mixed (by kernel_rfl) .refl ?_
  refine d_q rfl rfl (.none rfl) rfl rfl (q_move rfl rfl) ?_
  refine d_q rfl rfl (.none rfl) rfl rfl (q_nilCheck rfl rfl) ?_
  refine d_q rfl rfl (.none rfl) rfl rfl (q_fieldAddr (d := 7) rfl Try.underlying79 rfl rfl sz72 rfl) ?_
  refine d_q rfl rfl (.none rfl) rfl rfl (q_loadF rfl one72 rfl (.inp hb .no) (show ([[.slice S a.length cs, .slice H h.length ch, .int .i64 c.wrong, .int .i64 c.missing, .int .i64 c.extra, .int .i64 c.time, .int .i64 c.late, .slice R (a.length + 1) cr]] : List (List Value))[0]? = some [.slice S a.length cs, .slice H h.length ch, .int .i64 c.wrong, .int .i64 c.missing, .int .i64 c.extra, .int .i64 c.time, .int .i64 c.late, .slice R (a.length + 1) cr] from rfl) rfl) ?_
  refine d_q rfl rfl (.none rfl) rfl rfl (q_move rfl rfl) ?_
  refine d_q rfl rfl (.none rfl) rfl rfl (q_nilCheck rfl rfl) ?_
  refine d_q rfl rfl (.none rfl) rfl rfl (q_fieldAddr (d := 7) rfl Try.underlying79 rfl rfl sz72 rfl) ?_
  refine d_q rfl rfl (.none rfl) rfl rfl (q_loadF rfl one72 rfl (.inp hb .no) (show ([[.slice S a.length cs, .slice H h.length ch, .int .i64 c.wrong, .int .i64 c.missing, .int .i64 c.extra, .int .i64 c.time, .int .i64 c.late, .slice R (a.length + 1) cr]] : List (List Value))[0]? = some [.slice S a.length cs, .slice H h.length ch, .int .i64 c.wrong, .int .i64 c.missing, .int .i64 c.extra, .int .i64 c.time, .int .i64 c.late, .slice R (a.length + 1) cr] from rfl) rfl) ?_
  refine d_q rfl rfl (.none rfl) rfl rfl (q_call rfl call46 (.cons rfl Evs.nil) (fun w hk hm => min_just (colF c a h) a.length R cr w (hrow.kept0 hk) (by omega))) ?_
  refine d_q rfl rfl (.none rfl) rfl rfl (q_call rfl call45 (.cons rfl (.cons rfl Evs.nil)) (fun w hk hm => index_just (colF c a h) a.length R cr w (hrow.kept0 hk) (by omega))) ?_
  refine d_q rfl rfl (.none rfl) rfl rfl (q_assign rfl rfl) ?_
  refine d_nil ?_
  refine run_sub (subMk (.cons (s := 2) rfl .nil) .refl) ?_
  refine run_ret ?_
  exact end1 rfl rfl rfl

theorem align_take {c : Cost} {a h : List Note} {S H : Option Addr} {cs ch k : Nat} {W : World} {R : Ending → World → Prop} (hk : k ≤ a.length) (g : Calls Try.prog 38 #[.slice S (a.take k).length cs, .slice H h.length ch, c.val] W R) : Calls Try.prog 38 #[.slice S k cs, .slice H h.length ch, c.val] W R := by
  rw [List.length_take, Nat.min_eq_left hk] at g; exact g
theorem alignM_take {c : Cost} {a h : List Note} {S H : Option Addr} {cs ch k : Nat} {W : World} {R : Ending → World → Prop} (hk : k ≤ a.length) (g : Calls Try.prog 17 #[.slice S (a.take k).length cs, .slice H h.length ch, c.val] W R) : Calls Try.prog 17 #[.slice S k cs, .slice H h.length ch, c.val] W R := by
  rw [List.length_take, Nat.min_eq_left hk] at g; exact g
theorem table_take {c : Cost} {a h : List Note} {S H : Option Addr} {cs ch k : Nat} {W : World} {R : Ending → World → Prop} (hk : k ≤ a.length) (g : Calls Try.prog 39 #[.slice S (a.take k).length cs, .slice H h.length ch, c.val] W R) : Calls Try.prog 39 #[.slice S k cs, .slice H h.length ch, c.val] W R := by
  rw [List.length_take, Nat.min_eq_left hk] at g; exact g

theorem pairs_ret (c : Cost) (a h : List Note) (p : Nat) (S H R : Option Addr) (cs ch cr : Nat) (W : World) (hb : Rd W (some ⟨p, 0, none⟩) 8 [[.slice S a.length cs, .slice H h.length ch, .int .i64 c.wrong, .int .i64 c.missing, .int .i64 c.extra, .int .i64 c.time, .int .i64 c.late, .slice R (a.length + 1) cr]]) (hs : Rd W S 7 (a.map Note.enc)) (hh : Rd W H 7 (h.map Note.enc)) (hrow : Rd W R 1 ((colV c a h).map encI)) (hc : CostOk c) (hna : ∀ p ∈ a, NoteOk p) (hnb : ∀ p ∈ h, NoteOk p) (hla : a.length ≤ 1024) (hlb : h.length ≤ 1024) (hcs : a.length ≤ cs) : Calls Try.prog 26 #[.pointer (some ((adr (some ⟨p, 0, none⟩)).add (0 * 8)))] W (Ret W nX (fun v m => ∃ A' c', v = .slice A' (path c (a.take (passV c a h)) h 0 0).length c' ∧ m = [.own 40 3 A' (path c (a.take (passV c a h)) h 0 0).length c' ((path c (a.take (passV c a h)) h 0 0).map Pair.enc)])) := by
  have hpl := passV_le c a h
  have hst := rd_take hs (rfl : a.take (passV c a h) = a.take (passV c a h))
  have hnt : ∀ p ∈ a.take (passV c a h), NoteOk p := fun p hp => hna p (List.mem_of_mem_take hp)
  refine enterA (X := nX) (vs := [.pointer (some ((adr (some ⟨p, 0, none⟩)).add (0 * 8)))]) Try.func26 Try.ntmps26 rfl rfl Mem.nil ?_
  refine run_seq ?_
  refine run_region ?_
  refine run_q (.none rfl) rfl rfl (q_assign rfl rfl) ?_
  refine run_nil ?_
  refine run_seq ?_
  refine run_seq ?_
  refine run_region ?_
  refine run_q (.none rfl) rfl rfl (q_move rfl rfl) ?_
  refine run_q (.none rfl) rfl rfl (q_eqlPtr rfl rfl rfl Try.underlying54) ?_
  refine run_nil ?_
  refine run_condF rfl rfl ?_
  refine run_skip ?_
  refine run_seq ?_
  refine run_draw [(0, 0), (1, 0), (2, 0), (3, 0), (4, 0), (5, 0), (6, 0), (7, 0), (8, 0), (9, 0), (10, 0), (11, 0), (12, 0), (13, 0), (14, 0), (15, 1), (16, 0), (17, 0), (18, 0), (19, 0), (20, 0)] mixed (by kernel_rfl) .refl ?_
  refine d_q rfl rfl (.none rfl) rfl rfl (q_move rfl rfl) ?_
  refine d_q rfl rfl (.none rfl) rfl rfl (q_nilCheck rfl rfl) ?_
  refine d_q rfl rfl (.none rfl) rfl rfl (q_fieldAddr (d := 0) rfl Try.underlying79 rfl rfl sz22 rfl) ?_
  refine d_q rfl rfl (.none rfl) rfl rfl (q_loadF rfl one22 rfl (.inp hb .no) (show ([[.slice S a.length cs, .slice H h.length ch, .int .i64 c.wrong, .int .i64 c.missing, .int .i64 c.extra, .int .i64 c.time, .int .i64 c.late, .slice R (a.length + 1) cr]] : List (List Value))[0]? = some [.slice S a.length cs, .slice H h.length ch, .int .i64 c.wrong, .int .i64 c.missing, .int .i64 c.extra, .int .i64 c.time, .int .i64 c.late, .slice R (a.length + 1) cr] from rfl) rfl) ?_
  refine d_q rfl rfl (.none rfl) rfl rfl (q_move rfl rfl) ?_
  refine d_q rfl rfl (.none rfl) rfl rfl (q_call rfl call25 (.cons rfl Evs.nil) (fun w hk hm => passed_just c a h p S H R cs ch cr w (hb.kept0 hk) (hrow.kept0 hk) hla)) ?_
  refine d_q rfl rfl (.none rfl) rfl rfl (q_sliceH rfl Try.underlying22 sz47 rfl rfl (by omega)) ?_
  refine d_q rfl rfl (.none rfl) rfl rfl (q_move rfl rfl) ?_
  refine d_q rfl rfl (.none rfl) rfl rfl (q_nilCheck rfl rfl) ?_
  refine d_q rfl rfl (.none rfl) rfl rfl (q_fieldAddr (d := 1) rfl Try.underlying79 rfl rfl sz22 rfl) ?_
  refine d_q rfl rfl (.none rfl) rfl rfl (q_loadF rfl one22 rfl (.inp hb .no) (show ([[.slice S a.length cs, .slice H h.length ch, .int .i64 c.wrong, .int .i64 c.missing, .int .i64 c.extra, .int .i64 c.time, .int .i64 c.late, .slice R (a.length + 1) cr]] : List (List Value))[0]? = some [.slice S a.length cs, .slice H h.length ch, .int .i64 c.wrong, .int .i64 c.missing, .int .i64 c.extra, .int .i64 c.time, .int .i64 c.late, .slice R (a.length + 1) cr] from rfl) rfl) ?_
  refine d_q rfl rfl (.none rfl) rfl rfl (q_move rfl rfl) ?_
  refine d_q rfl rfl (.none rfl) rfl rfl (q_nilCheck rfl rfl) ?_
  refine d_q rfl rfl (.none rfl) rfl rfl (q_fieldAddr (d := 2) rfl Try.underlying79 rfl rfl sz26 rfl) ?_
  refine d_q rfl rfl (.none rfl) rfl rfl (q_loadFN rfl agg26 rfl (.inp hb .no) (show ([[.slice S a.length cs, .slice H h.length ch, .int .i64 c.wrong, .int .i64 c.missing, .int .i64 c.extra, .int .i64 c.time, .int .i64 c.late, .slice R (a.length + 1) cr]] : List (List Value))[0]? = some [.slice S a.length cs, .slice H h.length ch, .int .i64 c.wrong, .int .i64 c.missing, .int .i64 c.extra, .int .i64 c.time, .int .i64 c.late, .slice R (a.length + 1) cr] from rfl) rfl rfl) ?_
  refine d_h rfl rfl (.none rfl) (h_call rfl rfl rfl call38 (.cons rfl (.cons rfl (.cons rfl Evs.nil))) (fun w hk hm => align_take hpl (align_ret c (a.take (passV c a h)) h S H cs ch w (hst.kept0 hk) (hh.kept0 hk) hc hnt hnb (by simp; omega) hlb))) (fun _ _ => (.sub (List.sublist_append_right _ _))) ?_
  rintro ⟨v, m⟩ ⟨A', c', rfl, rfl⟩
  show RunD _ _ _ _ _ _ _ _ _ _ _ ⟨(23, .tuple #[.slice A' (path c (a.take (passV c a h)) h 0 0).length c', .int .i64 (best c (a.take (passV c a h)) h)]) :: _, _ :: _⟩
  refine d_q rfl rfl (.none rfl) rfl rfl (q_move rfl rfl) ?_
  refine d_q rfl rfl (.none rfl) rfl rfl (q_extract rfl rfl rfl) ?_
  refine d_q rfl rfl (.none rfl) rfl rfl (q_extract rfl rfl rfl) ?_
  refine d_q rfl rfl (.none rfl) rfl rfl (q_assign rfl rfl) ?_
  refine d_q rfl rfl (.none rfl) rfl rfl (q_assign rfl rfl) ?_
  refine d_nil ?_
  refine run_sub (subMk (.cons (s := 2) rfl (.cons (s := 3) rfl .nil)) .refl) ?_
  refine run_seq ?_
  refine run_region ?_
  refine run_q (.none rfl) rfl rfl (q_move rfl rfl) ?_
  refine run_q (.none rfl) rfl rfl (q_assign rfl rfl) ?_
  refine run_nil ?_
  refine run_ret ?_
  refine run_sub (subMk .refl (.cons Sel.here .refl .nil)) ?_
  exact end1 rfl rfl ⟨A', c', rfl, rfl⟩

end Go.Proofs.Ytbkmmjpklkallaa
