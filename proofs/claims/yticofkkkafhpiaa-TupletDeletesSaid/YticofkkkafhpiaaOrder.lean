/- Sorting by insertion from the right, as both the layer and the reference do it; lists compared. Nothing of the program. -/
import Derived.Test.YticofkkkafhpiaaScale
import Derived.Test.YticofkkkafhpiaaFork
set_option linter.unusedSimpArgs false
set_option linter.unusedVariables false
namespace Go.Proofs.Yticofkkkafhpiaa
open Go Go.RowKit Hr

def posN (s : List Tup) (t : Tup) : Nat → Nat
  | 0 => 0
  | k + 1 => if aftT t (nth s k) then posN s t k else k + 1
theorem posN_le (s : List Tup) (t : Tup) : ∀ k, posN s t k ≤ k
  | 0 => Nat.le_refl _
  | k + 1 => by rw [posN]; split; exact Nat.le_succ_of_le (posN_le s t k); exact Nat.le_refl _
theorem posN_skip {s : List Tup} {t : Tup} {k : Nat} (h : aftT t (nth s k)) : posN s t (k + 1) = posN s t k := by rw [posN, if_pos h]
theorem posN_stop {s : List Tup} {t : Tup} {k : Nat} (h : ¬ aftT t (nth s k)) : posN s t (k + 1) = k + 1 := by rw [posN, if_neg h]
theorem posN_skip' {s : List Tup} {t : Tup} {j : Nat} (h0 : 0 < j) (h : aftT t (nth s (j - 1))) : posN s t j = posN s t (j - 1) := by
  obtain ⟨k, rfl⟩ : ∃ k, j = k + 1 := ⟨j - 1, by omega⟩
  exact posN_skip h
theorem posN_stop' {s : List Tup} {t : Tup} {j : Nat} (h0 : 0 < j) (h : ¬ aftT t (nth s (j - 1))) : posN s t j = j := by
  obtain ⟨k, rfl⟩ : ∃ k, j = k + 1 := ⟨j - 1, by omega⟩
  exact posN_stop h
def insR (s : List Tup) (t : Tup) : List Tup := s.take (posN s t s.length) ++ t :: s.drop (posN s t s.length)
theorem insR_len (s : List Tup) (t : Tup) : (insR s t).length = s.length + 1 := by
  have := posN_le s t s.length
  simp [insR]; omega
def sortR (l : List Tup) : Nat → List Tup
  | 0 => []
  | k + 1 => insR (sortR l k) (nth l k)
theorem sortR_len (l : List Tup) : ∀ k, (sortR l k).length = k
  | 0 => rfl
  | k + 1 => by rw [sortR, insR_len, sortR_len l k]
theorem ordV_neg {p t : Tup} : ordV p t < 0 ↔ aftT p t := by
  unfold ordV aftT
  by_cases h1 : p.first = t.first
  · by_cases h2 : p.count = t.count
    · simp [h1, h2]
    · by_cases h3 : t.count < p.count
      · rw [if_neg (by simp [h1]), if_pos h2, if_pos h3]; omega
      · rw [if_neg (by simp [h1]), if_pos h2, if_neg h3]; omega
  · by_cases h3 : p.first < t.first
    · rw [if_pos h1, if_pos h3]; omega
    · rw [if_pos h1, if_neg h3]; omega
/-- The list while t goes down through the sorted part s; r is still to come. -/
def midL (s : List Tup) (t : Tup) (r : List Tup) (j : Nat) : List Tup := s.take j ++ t :: (s.drop j ++ r)
theorem midL_len {s : List Tup} {t : Tup} {r : List Tup} {j : Nat} (h : j ≤ s.length) : (midL s t r j).length = s.length + 1 + r.length := by simp [midL]; omega
theorem midL_at {s : List Tup} {t : Tup} {r : List Tup} {j : Nat} (h : j ≤ s.length) : nth (midL s t r j) j = t := by
  have : (s.take j).length = j := by rw [List.length_take]; omega
  simp [midL, nth, List.getElem?_append_right, this]
theorem midL_below {s : List Tup} {t : Tup} {r : List Tup} {j : Nat} (h : j + 1 ≤ s.length) : nth (midL s t r (j + 1)) j = nth s j := by
  have h1 : j < (s.take (j + 1)).length := by rw [List.length_take]; omega
  simp only [midL, nth, List.getD_eq_getElem?_getD]
  rw [List.getElem?_append_left h1, List.getElem?_take_of_lt (by omega)]
theorem midL_swap {s : List Tup} {t : Tup} {r : List Tup} {j : Nat} (h : j + 1 ≤ s.length) : ((midL s t r (j + 1)).set (j + 1) (nth s j)).set j t = midL s t r j := by
  have h1 : (s.take j).length = j := by rw [List.length_take]; omega
  have h2 : s.take (j + 1) = s.take j ++ [nth s j] := take_nth (by omega)
  have h3 : s.drop j = nth s j :: s.drop (j + 1) := drop_nth (by omega)
  unfold midL
  rw [h2, h3]
  simp only [List.append_assoc, List.cons_append, List.nil_append]
  rw [List.set_append_right _ _ (by omega), h1, show j + 1 - j = 1 from by omega, List.set_append_right _ _ (by omega), h1, Nat.sub_self]
  simp
theorem midL_end (s : List Tup) (t : Tup) (r : List Tup) : midL s t r s.length = s ++ t :: r := by simp [midL]
theorem midL_ins (s : List Tup) (t : Tup) (r : List Tup) : midL s t r (posN s t s.length) = insR s t ++ r := by simp [midL, insR]
/-- The list after i steps of the outer loop. -/
def srtL (l : List Tup) (i : Nat) : List Tup := sortR l (min (i + 1) l.length) ++ l.drop (i + 1)
theorem srtL_zero (l : List Tup) : srtL l 0 = l := by
  cases l with
  | nil => rfl
  | cons t l => simp [srtL, sortR, insR, posN, nth, show min 1 (l.length + 1) = 1 by omega]
theorem srtL_len (l : List Tup) (i : Nat) : (srtL l i).length = l.length := by simp [srtL, sortR_len]; omega
theorem srtL_mid {l : List Tup} {i : Nat} (h : i + 1 < l.length) : srtL l i = midL (sortR l (i + 1)) (nth l (i + 1)) (l.drop (i + 2)) (i + 1) := by
  have := midL_end (sortR l (i + 1)) (nth l (i + 1)) (l.drop (i + 2))
  rw [sortR_len] at this
  rw [this, srtL, show min (i + 1) l.length = i + 1 from by omega, drop_nth h]
theorem srtL_next {l : List Tup} {i j : Nat} (h : i + 1 < l.length) (hj : posN (sortR l (i + 1)) (nth l (i + 1)) (i + 1) = j) : midL (sortR l (i + 1)) (nth l (i + 1)) (l.drop (i + 2)) j = srtL l (i + 1) := by
  have := midL_ins (sortR l (i + 1)) (nth l (i + 1)) (l.drop (i + 2))
  rw [sortR_len, hj] at this
  rw [this, srtL, show min (i + 1 + 1) l.length = i + 2 from by omega]
  rfl
theorem srtL_last {l : List Tup} {i : Nat} (h : l.length ≤ i + 1) : srtL l i = sortR l l.length := by
  rw [srtL, show min (i + 1) l.length = l.length from by omega, List.drop_eq_nil_of_le h, List.append_nil]
theorem rd_none {w : World} {A : Option Addr} {s : Nat} {l : List Tup} (h : Rd w A s (l.map Tup.enc)) (hA : A.isNone = true) : l = [] := by
  rcases h with h | ⟨ad, rfl, _⟩
  · exact List.map_eq_nil_iff.1 h
  · cases hA

theorem enc_len {l : List Tup} {z : List Value} (h : z ∈ l.map Tup.enc) : z.length = 4 := by
  obtain ⟨p, _, rfl⟩ := List.mem_map.1 h; rfl
theorem enc_all {l : List Tup} {z : List Value} (h : z ∈ l.map Tup.enc) : allCells z = true := by
  obtain ⟨p, _, rfl⟩ := List.mem_map.1 h; rfl
def eqT (p q : Tup) : Bool := p.first == q.first && (p.count == q.count && (p.actual == q.actual && p.normal == q.normal))
theorem eqT_iff {p q : Tup} : eqT p q = true ↔ p = q := by
  cases p; cases q; simp [eqT]
/-- From place k on the lists agree. -/
def eqFrom (l l' : List Tup) : Nat → Nat → Bool
  | 0, _ => true
  | m + 1, k => eqT (nth l k) (nth l' k) && eqFrom l l' m (k + 1)
def eqL (l l' : List Tup) : Bool := if l.length = l'.length then eqFrom l l' l.length 0 else false
theorem eqFrom_step {l l' : List Tup} {n k : Nat} (h : k < n) (h0 : eqT (nth l k) (nth l' k) = true) : eqFrom l l' (n - k) k = eqFrom l l' (n - (k + 1)) (k + 1) := by
  rw [show n - k = n - (k + 1) + 1 from by omega, eqFrom, h0, Bool.true_and]
theorem eqFrom_hit {l l' : List Tup} {n k : Nat} (h : k < n) (h0 : eqT (nth l k) (nth l' k) = false) : eqFrom l l' (n - k) k = false := by
  rw [show n - k = n - (k + 1) + 1 from by omega, eqFrom, h0, Bool.false_and]
theorem eqFrom_refl (l : List Tup) : ∀ m k, eqFrom l l m k = true
  | 0, _ => rfl
  | m + 1, k => by rw [eqFrom, eqFrom_refl l m (k + 1), eqT_iff.2 rfl]; rfl
theorem eqL_refl (l : List Tup) : eqL l l = true := by rw [eqL, if_pos rfl, eqFrom_refl]
theorem eqL_len {l l' : List Tup} (h : l.length ≠ l'.length) : eqL l l' = false := by rw [eqL, if_neg h]
end Go.Proofs.Yticofkkkafhpiaa
