/- When a list of pairs is an alignment, what it costs, and that the preferred alignment costs least and comes first. Nothing of the program. -/
import Derived.Test.YtbkmmjpklkallaaLaws
set_option linter.unusedSimpArgs false
set_option linter.unusedVariables false
namespace Go.Proofs.Ytbkmmjpklkallaa
open Go Go.RowKit Hr

/-- The error of one pair at places i and k. -/
def errP (a b : List Note) (i k : Nat) (p : Pair) : Int :=
  if p.kind < 1 ∨ 4 < p.kind then 11
  else if p.score ≠ (if p.kind = 4 then -1 else (i : Int)) then 38
  else if p.played ≠ (if p.kind = 3 then -1 else (k : Int)) then 38
  else if p.kind ≠ 4 ∧ a.length ≤ i then 38
  else if p.kind ≠ 3 ∧ b.length ≤ k then 38
  else if p.kind ≤ 2 ∧ p.kind ≠ kindV (nth a i) (nth b k) then 3 else 0
def stI (p : Pair) (i : Nat) : Nat := if p.kind = 4 then i else i + 1
def stK (p : Pair) (k : Nat) : Nat := if p.kind = 3 then k else k + 1
/-- The error of the pairs from places i and k on. -/
def errPs (a b : List Note) : List Pair → Nat → Nat → Int
  | [], i, k => if i < a.length ∨ k < b.length then 4 else 0
  | p :: ps, i, k => if errP a b i k p ≠ 0 then errP a b i k p else errPs a b ps (stI p i) (stK p k)
def checkV (a b : List Note) (ps : List Pair) : Int := if wrongL a ≠ 0 then wrongL a else if wrongL b ≠ 0 then wrongL b else errPs a b ps 0 0
def costP (c : Cost) (a b : List Note) (i k : Nat) (p : Pair) : Int := if p.kind = 3 then c.missing else if p.kind = 4 then c.extra else joinV c (nth a i) (nth b k)
def costPs (c : Cost) (a b : List Note) : List Pair → Nat → Nat → Int
  | [], _, _ => 0
  | p :: ps, i, k => costP c a b i k p + costPs c a b ps (stI p i) (stK p k)

theorem errPs_step {a b : List Note} {ps : List Pair} {j i k : Nat} (h : j < ps.length) (h0 : errP a b i k (nth ps j) = 0) : errPs a b (ps.drop j) i k = errPs a b (ps.drop (j + 1)) (stI (nth ps j) i) (stK (nth ps j) k) := by
  rw [drop_nth h, errPs, if_neg (by simp [h0])]
theorem errPs_hit {a b : List Note} {ps : List Pair} {j i k : Nat} {e : Int} (h : j < ps.length) (h0 : errP a b i k (nth ps j) = e) (he : e ≠ 0) : errPs a b (ps.drop j) i k = e := by
  rw [drop_nth h, errPs, if_pos (by rw [h0]; exact he), h0]
theorem errPs_end {a b : List Note} {ps : List Pair} {j i k : Nat} (h : ps.length ≤ j) : errPs a b (ps.drop j) i k = if i < a.length ∨ k < b.length then 4 else 0 := by
  rw [List.drop_eq_nil_of_le h, errPs]
theorem errP_11 {a b : List Note} {i k : Nat} {p : Pair} (h : p.kind < 1 ∨ 4 < p.kind) : errP a b i k p = 11 := if_pos h
theorem errP_38 {a b : List Note} {i k : Nat} {p : Pair} (h : 1 ≤ p.kind ∧ p.kind ≤ 4)
    (h' : (p.kind = 4 ∧ (p.score ≠ -1 ∨ p.played ≠ (k : Int) ∨ b.length ≤ k)) ∨ (p.kind = 3 ∧ (p.score ≠ (i : Int) ∨ p.played ≠ -1 ∨ a.length ≤ i)) ∨ (p.kind ≤ 2 ∧ (p.score ≠ (i : Int) ∨ p.played ≠ (k : Int) ∨ a.length ≤ i ∨ b.length ≤ k))) : errP a b i k p = 38 := by
  rw [errP, if_neg (by omega)]
  by_cases e4 : p.kind = 4
  · rw [if_pos e4, if_neg (show ¬ p.kind = 3 by omega)]
    repeat (first | rfl | split)
    all_goals omega
  · rw [if_neg e4]
    by_cases e3 : p.kind = 3
    · rw [if_pos e3]
      repeat (first | rfl | split)
      all_goals omega
    · rw [if_neg e3]
      repeat (first | rfl | split)
      all_goals omega
theorem errP_k {a b : List Note} {i k : Nat} {p : Pair} (h1 : 1 ≤ p.kind) (h2 : p.kind ≤ 2) (h3 : p.score = (i : Int)) (h4 : p.played = (k : Int)) (hi : i < a.length) (hk : k < b.length) (h : p.kind ≠ kindV (nth a i) (nth b k)) : errP a b i k p = 3 := by
  rw [errP, if_neg (by omega), if_neg (show ¬ p.kind = 4 by omega), if_neg (show ¬ p.kind = 3 by omega), if_neg (by omega), if_neg (by omega), if_neg (by omega), if_neg (by omega), if_pos ⟨h2, h⟩]
theorem kind_iff {x y d : Int} (h1 : 1 ≤ d) (h2 : d ≤ 2) : (!((x == y) == (d == 1))) = decide (d ≠ (if x = y then 1 else 2)) := by
  by_cases h : x = y
  · by_cases hd : d = 1
    · simp [h, hd]
    · have : d = 2 := by omega
      simp [h, this]
  · by_cases hd : d = 1
    · simp [h, hd]
    · have : d = 2 := by omega
      simp [h, this]
theorem errPs_3 {a b : List Note} {ps : List Pair} {j i k : Nat} (h : j < ps.length) (hk : (nth ps j).kind = 3) (hs : (nth ps j).score = (i : Int)) (hp : (nth ps j).played = -1) (hi : i < a.length) : errPs a b (ps.drop j) i k = errPs a b (ps.drop (j + 1)) (i + 1) k := by
  have h0 : errP a b i k (nth ps j) = 0 := by
    rw [errP, hk, if_neg (by omega), if_neg (show ¬ (3 : Int) = 4 by omega), if_pos rfl, if_neg (by omega), if_neg (by omega), if_neg (by omega), if_neg (by omega), if_neg (by omega)]
  rw [errPs_step h h0, stI, stK, hk, if_neg (by omega), if_pos rfl]
theorem errPs_4 {a b : List Note} {ps : List Pair} {j i k : Nat} (h : j < ps.length) (hk : (nth ps j).kind = 4) (hs : (nth ps j).score = -1) (hp : (nth ps j).played = (k : Int)) (hi : k < b.length) : errPs a b (ps.drop j) i k = errPs a b (ps.drop (j + 1)) i (k + 1) := by
  have h0 : errP a b i k (nth ps j) = 0 := by
    rw [errP, hk, if_neg (by omega), if_pos rfl, if_neg (show ¬ (4 : Int) = 3 by omega), if_neg (by omega), if_neg (by omega), if_neg (by omega), if_neg (by omega), if_neg (by omega)]
  rw [errPs_step h h0, stI, stK, hk, if_pos rfl, if_neg (by omega)]
theorem errPs_J {a b : List Note} {ps : List Pair} {j i k : Nat} (h : j < ps.length) (h1 : 1 ≤ (nth ps j).kind) (h2 : (nth ps j).kind ≤ 2) (hs : (nth ps j).score = (i : Int)) (hp : (nth ps j).played = (k : Int)) (hi : i < a.length) (hk : k < b.length)
    (he : (nth ps j).kind = kindV (nth a i) (nth b k)) : errPs a b (ps.drop j) i k = errPs a b (ps.drop (j + 1)) (i + 1) (k + 1) := by
  have h0 : errP a b i k (nth ps j) = 0 := by
    rw [errP, if_neg (by omega), if_neg (show ¬ (nth ps j).kind = 4 by omega), if_neg (show ¬ (nth ps j).kind = 3 by omega), if_neg (by omega), if_neg (by omega), if_neg (by omega), if_neg (by omega), if_neg (by rw [← he]; omega)]
  rw [errPs_step h h0, stI, stK, if_neg (by omega), if_neg (by omega)]
theorem checkV_ok {a b : List Note} {ps : List Pair} (h1 : wrongL a = 0) (h2 : wrongL b = 0) : checkV a b ps = errPs a b ps 0 0 := by rw [checkV, if_neg (by omega), if_neg (by omega)]
theorem checkV_zero {a b : List Note} {ps : List Pair} (h : checkV a b ps = 0) : wrongL a = 0 ∧ wrongL b = 0 ∧ errPs a b ps 0 0 = 0 := by
  unfold checkV at h
  split at h
  · rename_i h1; exact absurd h h1
  · rename_i h1
    split at h
    · rename_i h2; exact absurd h h2
    · rename_i h2; exact ⟨Decidable.not_not.1 h1, Decidable.not_not.1 h2, h⟩
theorem firstNZ2 {x y : Int} (h : firstNZ [x, y] = 0) : x = 0 ∧ y = 0 := by
  simp only [firstNZ] at h
  by_cases h1 : x = 0
  · by_cases h2 : y = 0
    · exact ⟨h1, h2⟩
    · rw [if_neg (by simp [h1]), if_pos h2] at h; exact absurd h h2
  · rw [if_pos h1] at h; exact absurd h h1
theorem checkV_first {a b : List Note} {ps : List Pair} (h : firstNZ [wrongL a, wrongL b] ≠ 0) : checkV a b ps = firstNZ [wrongL a, wrongL b] := by
  unfold checkV
  simp only [firstNZ] at h ⊢
  by_cases h1 : wrongL a = 0
  · by_cases h2 : wrongL b = 0
    · rw [if_neg (by simp [h1]), if_neg (by simp [h2])] at h; exact absurd rfl h
    · rw [if_neg (by simp [h1]), if_pos h2, if_neg (by simp [h1]), if_pos h2]
  · rw [if_pos h1, if_pos h1]
theorem errP_zero {a b : List Note} {i k : Nat} {p : Pair} (h : errP a b i k p = 0) : 1 ≤ p.kind ∧ p.kind ≤ 4 ∧ p.score = (if p.kind = 4 then -1 else (i : Int)) ∧ p.played = (if p.kind = 3 then -1 else (k : Int)) ∧
    (p.kind ≠ 4 → i < a.length) ∧ (p.kind ≠ 3 → k < b.length) ∧ (p.kind ≤ 2 → p.kind = kindV (nth a i) (nth b k)) := by
  unfold errP at h
  by_cases h1 : p.kind < 1 ∨ 4 < p.kind
  · rw [if_pos h1] at h; cases h
  rw [if_neg h1] at h
  by_cases h2 : p.score ≠ (if p.kind = 4 then -1 else (i : Int))
  · rw [if_pos h2] at h; cases h
  rw [if_neg h2] at h
  by_cases h3 : p.played ≠ (if p.kind = 3 then -1 else (k : Int))
  · rw [if_pos h3] at h; cases h
  rw [if_neg h3] at h
  by_cases h4 : p.kind ≠ 4 ∧ a.length ≤ i
  · rw [if_pos h4] at h; cases h
  rw [if_neg h4] at h
  by_cases h5 : p.kind ≠ 3 ∧ b.length ≤ k
  · rw [if_pos h5] at h; cases h
  rw [if_neg h5] at h
  by_cases h6 : p.kind ≤ 2 ∧ p.kind ≠ kindV (nth a i) (nth b k)
  · rw [if_pos h6] at h; cases h
  exact ⟨by omega, by omega, Decidable.not_not.1 h2, Decidable.not_not.1 h3, fun x => by have := h4; omega, fun x => by have := h5; omega, fun x => by
    by_cases e : p.kind = kindV (nth a i) (nth b k)
    · exact e
    · exact absurd ⟨x, e⟩ h6⟩
theorem errPs_cons {a b : List Note} {p : Pair} {ps : List Pair} {i k : Nat} (h : errPs a b (p :: ps) i k = 0) : errP a b i k p = 0 ∧ errPs a b ps (stI p i) (stK p k) = 0 := by
  rw [errPs] at h
  split at h
  · rename_i h1; exact absurd h h1
  · rename_i h1; exact ⟨Decidable.not_not.1 h1, h⟩
theorem costP_bd {c : Cost} (hc : CostOk c) {a b : List Note} {i k : Nat} {p : Pair} : 0 ≤ costP c a b i k p ∧ costP c a b i k p ≤ 1001000000 := by
  have hm := hc.m; have he := hc.e; have hj := joinV_bd hc (nth a i) (nth b k)
  unfold costP
  split
  · omega
  · split <;> omega
/-- One step costs no less than what it takes off the least cost. -/
theorem best_step {c : Cost} (hc : CostOk c) {a b : List Note} {i k : Nat} {p : Pair} (h : errP a b i k p = 0) : best c (a.drop i) (b.drop k) ≤ costP c a b i k p + best c (a.drop (stI p i)) (b.drop (stK p k)) := by
  obtain ⟨h1, h2, -, -, h5, h6, h7⟩ := errP_zero h
  unfold costP stI stK
  by_cases e3 : p.kind = 3
  · have hi := h5 (by omega)
    rw [if_pos e3, if_neg (by omega), if_pos e3, drop_nth hi]
    exact best_head _ _ _
  · by_cases e4 : p.kind = 4
    · have hk := h6 e3
      rw [if_neg e3, if_pos e4, if_pos e4, if_neg e3]
      by_cases hi : i < a.length
      · rw [best_both hi hk]; omega
      · rw [best_rightS (by omega) hk]; omega
    · have hk := h6 e3
      have hi := h5 e4
      rw [if_neg e3, if_neg e4, if_neg e4, if_neg e3, best_both hi hk]; omega
theorem best_le {c : Cost} (hc : CostOk c) {a b : List Note} : ∀ (ps : List Pair) (i k : Nat), errPs a b ps i k = 0 → best c (a.drop i) (b.drop k) ≤ costPs c a b ps i k
  | [], i, k, h => by
    rw [errPs] at h
    split at h
    · cases h
    · rename_i h1
      rw [best_end (by omega) (by omega), costPs]; omega
  | p :: ps, i, k, h => by
    obtain ⟨h1, h2⟩ := errPs_cons h
    have := best_step hc h1
    have := best_le hc ps _ _ h2
    rw [costPs]; omega
/-- Where a pair of a cheapest alignment is not the preferred one, its kind is greater. -/
theorem path_first {c : Cost} (hc : CostOk c) {a b : List Note} {p : Pair} {ps : List Pair} {i k : Nat} (h : errPs a b (p :: ps) i k = 0) (hcost : costPs c a b (p :: ps) i k = best c (a.drop i) (b.drop k)) :
    costPs c a b ps (stI p i) (stK p k) = best c (a.drop (stI p i)) (b.drop (stK p k)) ∧
    ∃ q r, path c (a.drop i) (b.drop k) i k = q :: r ∧ (q = p → r = path c (a.drop (stI p i)) (b.drop (stK p k)) (stI p i) (stK p k)) ∧ (q ≠ p → max q.kind 2 < max p.kind 2) := by
  obtain ⟨h1, h2⟩ := errPs_cons h
  have s1 := best_step hc h1
  have s2 := best_le hc ps _ _ h2
  rw [costPs] at hcost
  have e1 : costPs c a b ps (stI p i) (stK p k) = best c (a.drop (stI p i)) (b.drop (stK p k)) := by omega
  have e2 : best c (a.drop i) (b.drop k) = costP c a b i k p + best c (a.drop (stI p i)) (b.drop (stK p k)) := by omega
  refine ⟨e1, ?_⟩
  obtain ⟨g1, g2, g3, g4, g5, g6, g7⟩ := errP_zero h1
  obtain ⟨pk, psc, ppl⟩ := p
  dsimp only at *
  have kk : kindV (nth a i) (nth b k) = 1 ∨ kindV (nth a i) (nth b k) = 2 := by unfold kindV; split <;> simp
  by_cases e3 : pk = 3
  · subst e3
    have hi := g5 (by omega)
    simp only [costP, stI, stK, if_true] at e2 ⊢
    rw [if_neg (by omega)] at e2 ⊢
    simp only [if_true] at g4
    rw [if_neg (by omega)] at g3
    by_cases hk : k < b.length
    · rw [path_both hi hk]
      split
      · exact ⟨_, _, rfl, fun e => by simp only [Pair.mk.injEq] at e; omega, fun _ => by dsimp only; omega⟩
      · first | rw [if_pos e2] | skip
        exact ⟨_, _, rfl, fun _ => rfl, fun e => absurd (by rw [g3, g4]) e⟩
    · rw [path_left hi (by omega)]
      exact ⟨_, _, rfl, fun _ => rfl, fun e => absurd (by rw [g3, g4]) e⟩
  · have hk := g6 e3
    rw [if_neg e3] at g4
    by_cases e4 : pk = 4
    · subst e4
      simp only [if_true] at g3
      simp only [costP, stI, stK, if_true] at e2 ⊢
      rw [if_neg (by omega)] at e2 ⊢
      by_cases hi : i < a.length
      · rw [path_both hi hk]
        split
        · exact ⟨_, _, rfl, fun e => by simp only [Pair.mk.injEq] at e; omega, fun _ => by dsimp only; omega⟩
        · split
          · exact ⟨_, _, rfl, fun e => by simp only [Pair.mk.injEq] at e; omega, fun _ => by dsimp only; omega⟩
          · exact ⟨_, _, rfl, fun _ => rfl, fun e => absurd (by rw [g3, g4]) e⟩
      · rw [path_right (by omega) hk]
        exact ⟨_, _, rfl, fun _ => rfl, fun e => absurd (by rw [g3, g4]) e⟩
    · have hi := g5 e4
      rw [if_neg e4] at g3
      have hkd := g7 (by omega)
      simp only [costP, stI, stK] at e2 ⊢
      simp only [if_neg e3, if_neg e4] at e2 ⊢
      rw [path_both hi hk, if_pos e2]
      exact ⟨_, _, rfl, fun _ => rfl, fun e => absurd (by rw [g3, g4, hkd]) e⟩
theorem path_end {c : Cost} {a b : List Note} {i k : Nat} (h : errPs a b [] i k = 0) : path c (a.drop i) (b.drop k) i k = [] := by
  rw [errPs] at h
  split at h
  · cases h
  · exact path_none (by omega) (by omega)
theorem errC_J {a b : List Note} {r : List Pair} {i k : Nat} {d : Int} (hi : i < a.length) (hk : k < b.length) (h : d = kindV (nth a i) (nth b k)) : errPs a b (⟨d, i, k⟩ :: r) i k = errPs a b r (i + 1) (k + 1) := by
  have kk : d = 1 ∨ d = 2 := by rw [h]; unfold kindV; split <;> simp
  have h0 : errP a b i k ⟨d, i, k⟩ = 0 := by
    rw [errP]; dsimp only
    rw [if_neg (by omega), if_neg (show ¬ d = 4 by omega), if_neg (show ¬ d = 3 by omega), if_neg (by omega), if_neg (by omega), if_neg (by omega), if_neg (by omega), if_neg (by rw [← h]; omega)]
  rw [errPs, if_neg (by simp [h0]), stI, stK, if_neg (by dsimp only; omega), if_neg (by dsimp only; omega)]
theorem errC_3 {a b : List Note} {r : List Pair} {i k : Nat} (hi : i < a.length) : errPs a b (⟨3, i, -1⟩ :: r) i k = errPs a b r (i + 1) k := by
  have h0 : errP a b i k ⟨3, i, -1⟩ = 0 := by
    rw [errP]; dsimp only
    rw [if_neg (by omega), if_neg (show ¬ (3 : Int) = 4 by omega), if_pos rfl, if_neg (by omega), if_neg (by omega), if_neg (by omega), if_neg (by omega), if_neg (by omega)]
  rw [errPs, if_neg (by simp [h0]), stI, stK, if_neg (by dsimp only; omega), if_pos rfl]
theorem errC_4 {a b : List Note} {r : List Pair} {i k : Nat} (hk : k < b.length) : errPs a b (⟨4, -1, k⟩ :: r) i k = errPs a b r i (k + 1) := by
  have h0 : errP a b i k ⟨4, -1, k⟩ = 0 := by
    rw [errP]; dsimp only
    rw [if_neg (by omega), if_pos rfl, if_neg (show ¬ (4 : Int) = 3 by omega), if_neg (by omega), if_neg (by omega), if_neg (by omega), if_neg (by omega), if_neg (by omega)]
  rw [errPs, if_neg (by simp [h0]), stI, stK, if_pos rfl, if_neg (by dsimp only; omega)]
theorem pair_eq {p q : Pair} (h : (!(p.kind == q.kind && (p.score == q.score && p.played == q.played))) = false) : p = q := by
  cases p; cases q; simp at h; simp [h]
theorem pair_ne {p q : Pair} (h : (!(p.kind == q.kind && (p.score == q.score && p.played == q.played))) = true) : p ≠ q := by
  rintro rfl; simp at h
theorem nth_mem {α : Type} [Inhabited α] {l : List α} {q : Nat} (h : q < l.length) : nth l q ∈ l := by
  rw [nth, List.getD_eq_getElem?_getD, List.getElem?_eq_getElem h]; exact List.getElem_mem h
def encU8 (n : Int) : List Value := [.int .u8 n]
/-- What holds along a cheapest alignment beside the preferred one. -/
def Along (c : Cost) (a b : List Note) (o : List Pair) (n : Nat) : Prop := ∃ i k, errPs a b (o.drop n) i k = 0 ∧ costPs c a b (o.drop n) i k = best c (a.drop i) (b.drop k) ∧ (path c a b 0 0).drop n = path c (a.drop i) (b.drop k) i k
theorem along_step {c : Cost} (hc : CostOk c) {a b : List Note} {o : List Pair} {n : Nat} (h : Along c a b o n) (hn : n < o.length) (hp : n < (path c a b 0 0).length) :
    (nth (path c a b 0 0) n = nth o n → Along c a b o (n + 1)) ∧ (nth (path c a b 0 0) n ≠ nth o n → max (nth (path c a b 0 0) n).kind 2 < max (nth o n).kind 2) := by
  obtain ⟨i, k, h1, h2, h3⟩ := h
  rw [drop_nth hn] at h1 h2
  obtain ⟨e1, q, r, e2, e3, e4⟩ := path_first hc h1 h2
  obtain ⟨g1, g2⟩ := errPs_cons h1
  rw [drop_nth hp, e2] at h3
  simp only [List.cons.injEq] at h3
  obtain ⟨h4, h5⟩ := h3
  rw [h4]
  refine ⟨fun e => ⟨_, _, g2, e1, ?_⟩, e4⟩
  rw [h5]; exact e3 e
end Go.Proofs.Ytbkmmjpklkallaa
