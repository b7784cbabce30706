/- The first element that a predicate picks, and what is left without those that it picks. Nothing of a program. -/
import Derived.Test.YtomhegnaojejnaaPtr
set_option linter.unusedSimpArgs false
set_option linter.unusedVariables false
namespace Go.Proofs.Ytomhegnaojejnaa
namespace Flt
open Go Go.RowKit Hr

section
variable {α : Type} {p : α → Bool}
def fidx (p : α → Bool) : List α → Nat
  | [] => 0
  | x :: r => if p x = true then 0 else fidx p r + 1
def idxV (p : α → Bool) (l : List α) : Int := if fidx p l < l.length then (fidx p l : Int) else -1
theorem fidx_step [Inhabited α] {l : List α} {k : Nat} (hk : k < l.length) (h : fidx p l = k + fidx p (l.drop k)) (hp : p (nth l k) = false) : fidx p l = (k + 1) + fidx p (l.drop (k + 1)) := by
  rw [drop_nth hk, fidx, if_neg (by simp [hp])] at h
  omega
theorem fidx_hit [Inhabited α] {l : List α} {k : Nat} (hk : k < l.length) (h : fidx p l = k + fidx p (l.drop k)) (hp : p (nth l k) = true) : idxV p l = (k : Int) := by
  rw [drop_nth hk, fidx, if_pos hp, Nat.add_zero] at h
  rw [idxV, h, if_pos hk]
theorem fidx_none {l : List α} {k : Nat} (hk : l.length ≤ k) (h : fidx p l = k + fidx p (l.drop k)) : idxV p l = -1 := by
  rw [idxV, if_neg (by omega)]
theorem fidx_le : ∀ (l : List α), fidx p l ≤ l.length
  | [] => Nat.le_refl _
  | x :: r => by rw [fidx]; have := fidx_le r; split <;> simp <;> omega
/-- What stays. -/
def rest (p : α → Bool) (l : List α) : List α := l.filter fun x => !p x
theorem rest_none : ∀ (l : List α), fidx p l = l.length → rest p l = l
  | [], _ => rfl
  | x :: r, h => by
    rw [fidx] at h
    by_cases hx : p x = true
    · rw [if_pos hx] at h; simp at h
    · rw [if_neg hx] at h
      have := rest_none r (by simp at h; omega)
      simp only [rest] at this ⊢
      rw [List.filter_cons, if_pos (by simp [hx]), this]
theorem idxV_neg {l : List α} (h : idxV p l = -1) : rest p l = l := by
  refine rest_none l ?_
  have := fidx_le (p := p) l
  unfold idxV at h
  split at h <;> omega
theorem rest_first [Inhabited α] : ∀ (l : List α), fidx p l < l.length → rest p (l.take (fidx p l + 1)) = l.take (fidx p l) ∧ p (nth l (fidx p l)) = true
  | [], h => by simp at h
  | x :: r, h => by
    rw [fidx] at h ⊢
    by_cases hx : p x = true
    · rw [if_pos hx]; simp [rest, hx, nth]
    · rw [if_neg hx] at h ⊢
      obtain ⟨h1, h2⟩ := rest_first r (by simp at h; omega)
      refine ⟨?_, ?_⟩
      · rw [List.take_succ_cons, List.take_succ_cons, rest, List.filter_cons, if_pos (by simp [hx])]
        rw [rest] at h1; rw [h1]
      · simpa [nth] using h2
theorem idxV_pos [Inhabited α] {l : List α} (h : idxV p l ≠ -1) : ∃ i : Nat, i < l.length ∧ idxV p l = (i : Int) ∧ rest p (l.take (i + 1)) = l.take i ∧ p (nth l i) = true := by
  unfold idxV at h ⊢
  split at h
  · rename_i hlt
    obtain ⟨h1, h2⟩ := rest_first l hlt
    exact ⟨fidx p l, hlt, by rw [if_pos hlt], h1, h2⟩
  · exact absurd rfl h
/-- The row while it is rewritten: what stays of the first j, what has gone, what is still to come. -/
def mixL (p : α → Bool) (l m : List α) (j : Nat) : List α := rest p (l.take j) ++ m ++ l.drop j
theorem mixL_len {l m : List α} {j : Nat} (hj : j ≤ l.length) (hm : (rest p (l.take j)).length + m.length = j) : (mixL p l m j).length = l.length := by
  simp only [mixL, List.length_append, List.length_drop]; omega
theorem mixL_nth [Inhabited α] {l m : List α} {j : Nat} (hj : j < l.length) (hm : (rest p (l.take j)).length + m.length = j) : nth (mixL p l m j) j = nth l j := by
  have e : (rest p (l.take j) ++ m).length = j := by rw [List.length_append]; exact hm
  simp only [mixL, nth, List.getD_eq_getElem?_getD]
  rw [List.getElem?_append_right (by omega), e]
  simp
theorem rest_succ_out [Inhabited α] {l : List α} {j : Nat} (hj : j < l.length) (h : p (nth l j) = true) : rest p (l.take (j + 1)) = rest p (l.take j) := by
  rw [take_nth hj, rest, List.filter_append]; simp [rest, h]
theorem rest_succ_in [Inhabited α] {l : List α} {j : Nat} (hj : j < l.length) (h : p (nth l j) = false) : rest p (l.take (j + 1)) = rest p (l.take j) ++ [nth l j] := by
  rw [take_nth hj, rest, List.filter_append]; simp [rest, h]
theorem mixL_out [Inhabited α] {l m : List α} {j : Nat} (hj : j < l.length) (h : p (nth l j) = true) : mixL p l m j = mixL p l (m ++ [nth l j]) (j + 1) := by
  rw [mixL, mixL, rest_succ_out hj h, drop_nth hj]; simp
theorem mixL_in [Inhabited α] {l m : List α} {x : α} {j : Nat} (hj : j < l.length) (h : p (nth l j) = false) : (mixL p l (x :: m) j).set (rest p (l.take j)).length (nth l j) = mixL p l (m ++ [nth l j]) (j + 1) := by
  rw [mixL, mixL, rest_succ_in hj h, drop_nth hj, List.append_assoc, List.set_append_right _ _ (by omega), Nat.sub_self]
  simp
theorem mixL_zero [Inhabited α] {l : List α} {i : Nat} (hi : i < l.length) (h1 : rest p (l.take (i + 1)) = l.take i) : mixL p l [nth l i] (i + 1) = l := by
  rw [mixL, h1, List.append_assoc, List.singleton_append, ← drop_nth hi, List.take_append_drop]
theorem mixL_end {l m : List α} {j : Nat} (hj : l.length ≤ j) : (mixL p l m j).take (rest p l).length = rest p l := by
  rw [mixL, List.take_of_length_le hj, List.drop_eq_nil_of_le hj, List.append_nil, List.take_left]
theorem mixL_row {enc : α → List Value} {l m : List α} {j : Nat} {zs : List (List Value)} (hj : l.length ≤ j) : (((mixL p l m j).map enc).take (rest p (l.take j)).length ++ zs).take (rest p l).length = (rest p l).map enc := by
  rw [show l.take j = l from List.take_of_length_le hj]
  have h1 : (rest p l).length ≤ (mixL p l m j).length := by
    rw [mixL, List.take_of_length_le hj]; simp
  rw [List.take_append_of_le_length (by rw [List.length_take, List.length_map]; omega), List.take_take, Nat.min_self, ← List.map_take, mixL_end hj]
theorem rest_len {l : List α} : (rest p l).length ≤ l.length := List.length_filter_le _ _
end
end Flt
end Go.Proofs.Ytomhegnaojejnaa
