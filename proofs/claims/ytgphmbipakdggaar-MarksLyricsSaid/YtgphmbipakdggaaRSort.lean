/- Sorting by insertion from the right, over any order; what comes of it. Nothing of a program. -/
import Derived.Test.YtgphmbipakdggaaRPure
set_option linter.unusedSimpArgs false
set_option linter.unusedVariables false
namespace Go.Proofs.YtgphmbipakdggaaR
namespace Srt
open Go Go.RowKit Hr

section
variable {α : Type} [Inhabited α] {lt : α → α → Bool}
/-- How far t goes down through the first k of s. -/
def pos (lt : α → α → Bool) (s : List α) (t : α) : Nat → Nat
  | 0 => 0
  | k + 1 => if lt t (nth s k) = true then pos lt s t k else k + 1
theorem pos_le (s : List α) (t : α) : ∀ k, pos lt s t k ≤ k
  | 0 => Nat.le_refl _
  | k + 1 => by rw [pos]; split; exact Nat.le_succ_of_le (pos_le s t k); exact Nat.le_refl _
theorem pos_skip {s : List α} {t : α} {k : Nat} (h : lt t (nth s k) = true) : pos lt s t (k + 1) = pos lt s t k := by rw [pos, if_pos h]
theorem pos_stop {s : List α} {t : α} {k : Nat} (h : lt t (nth s k) = false) : pos lt s t (k + 1) = k + 1 := by rw [pos, if_neg (by simp [h])]
theorem pos_skip' {s : List α} {t : α} {j : Nat} (h0 : 0 < j) (h : lt t (nth s (j - 1)) = true) : pos lt s t j = pos lt s t (j - 1) := by
  obtain ⟨k, rfl⟩ : ∃ k, j = k + 1 := ⟨j - 1, by omega⟩
  exact pos_skip h
theorem pos_stop' {s : List α} {t : α} {j : Nat} (h0 : 0 < j) (h : lt t (nth s (j - 1)) = false) : pos lt s t j = j := by
  obtain ⟨k, rfl⟩ : ∃ k, j = k + 1 := ⟨j - 1, by omega⟩
  exact pos_stop h
def ins (lt : α → α → Bool) (s : List α) (t : α) : List α := s.take (pos lt s t s.length) ++ t :: s.drop (pos lt s t s.length)
theorem ins_len (s : List α) (t : α) : (ins lt s t).length = s.length + 1 := by
  have := pos_le (lt := lt) s t s.length
  simp [ins]; omega
def sort (lt : α → α → Bool) (l : List α) : Nat → List α
  | 0 => []
  | k + 1 => ins lt (sort lt l k) (nth l k)
theorem sort_len (l : List α) : ∀ k, (sort lt l k).length = k
  | 0 => rfl
  | k + 1 => by rw [sort, ins_len, sort_len l k]
/-- The list while t goes down through the sorted part s; r is still to come. -/
def mid (s : List α) (t : α) (r : List α) (j : Nat) : List α := s.take j ++ t :: (s.drop j ++ r)
theorem mid_len {α : Type} {s : List α} {t : α} {r : List α} {j : Nat} (h : j ≤ s.length) : (mid s t r j).length = s.length + 1 + r.length := by simp [mid]; omega
theorem mid_at {s : List α} {t : α} {r : List α} {j : Nat} (h : j ≤ s.length) : nth (mid s t r j) j = t := by
  have : (s.take j).length = j := by rw [List.length_take]; omega
  simp [mid, nth, List.getElem?_append_right, this]
theorem mid_below {s : List α} {t : α} {r : List α} {j : Nat} (h : j + 1 ≤ s.length) : nth (mid s t r (j + 1)) j = nth s j := by
  have h1 : j < (s.take (j + 1)).length := by rw [List.length_take]; omega
  simp only [mid, nth, List.getD_eq_getElem?_getD]
  rw [List.getElem?_append_left h1, List.getElem?_take_of_lt (by omega)]
theorem mid_swap {s : List α} {t : α} {r : List α} {j : Nat} (h : j + 1 ≤ s.length) : ((mid s t r (j + 1)).set (j + 1) (nth s j)).set j t = mid s t r j := by
  have h1 : (s.take j).length = j := by rw [List.length_take]; omega
  have h2 : s.take (j + 1) = s.take j ++ [nth s j] := take_nth (by omega)
  have h3 : s.drop j = nth s j :: s.drop (j + 1) := drop_nth (by omega)
  unfold mid
  rw [h2, h3]
  simp only [List.append_assoc, List.cons_append, List.nil_append]
  rw [List.set_append_right _ _ (by omega), h1, show j + 1 - j = 1 from by omega, List.set_append_right _ _ (by omega), h1, Nat.sub_self]
  simp
theorem mid_end {α : Type} (s : List α) (t : α) (r : List α) : mid s t r s.length = s ++ t :: r := by simp [mid]
theorem mid_ins (s : List α) (t : α) (r : List α) : mid s t r (pos lt s t s.length) = ins lt s t ++ r := by simp [mid, ins]
/-- The list after i steps of the outer loop. -/
def steps (lt : α → α → Bool) (l : List α) (i : Nat) : List α := sort lt l (min (i + 1) l.length) ++ l.drop (i + 1)
theorem steps_zero (l : List α) : steps lt l 0 = l := by
  cases l with
  | nil => rfl
  | cons t l => simp [steps, sort, ins, pos, nth, show min 1 (l.length + 1) = 1 by omega]
theorem steps_len (l : List α) (i : Nat) : (steps lt l i).length = l.length := by simp [steps, sort_len]; omega
theorem steps_mid {l : List α} {i : Nat} (h : i + 1 < l.length) : steps lt l i = mid (sort lt l (i + 1)) (nth l (i + 1)) (l.drop (i + 2)) (i + 1) := by
  have := mid_end (sort lt l (i + 1)) (nth l (i + 1)) (l.drop (i + 2))
  rw [sort_len] at this
  rw [this, steps, show min (i + 1) l.length = i + 1 from by omega, drop_nth h]
theorem steps_next {l : List α} {i j : Nat} (h : i + 1 < l.length) (hj : pos lt (sort lt l (i + 1)) (nth l (i + 1)) (i + 1) = j) : mid (sort lt l (i + 1)) (nth l (i + 1)) (l.drop (i + 2)) j = steps lt l (i + 1) := by
  have := mid_ins (lt := lt) (sort lt l (i + 1)) (nth l (i + 1)) (l.drop (i + 2))
  rw [sort_len, hj] at this
  rw [this, steps, show min (i + 1 + 1) l.length = i + 2 from by omega]
  rfl
theorem steps_last {l : List α} {i : Nat} (h : l.length ≤ i + 1) : steps lt l i = sort lt l l.length := by
  rw [steps, show min (i + 1) l.length = l.length from by omega, List.drop_eq_nil_of_le h, List.append_nil]
theorem ins_perm (s : List α) (t : α) : (ins lt s t).Perm (t :: s) := by
  rw [ins]
  refine (List.perm_middle).trans (.cons _ ?_)
  rw [List.take_append_drop]
theorem sort_perm (l : List α) : ∀ k, k ≤ l.length → (sort lt l k).Perm (l.take k)
  | 0, _ => by simp [sort]
  | k + 1, h => by
    rw [sort, take_nth (by omega)]
    refine (ins_perm _ _).trans (((sort_perm l k (by omega)).cons _).trans ?_)
    exact (List.perm_append_comm (l₁ := [nth l k]))
theorem sort_all (l : List α) : (sort lt l l.length).Perm l := by
  have := sort_perm (lt := lt) l l.length (Nat.le_refl _)
  rwa [List.take_length] at this

/-- None stands behind one that it is less than. -/
def Sorted (lt : α → α → Bool) (l : List α) : Prop := l.Pairwise fun a b => lt b a = false
/-- What a sort asks of its order: what is not less goes on. -/
structure Weak (lt : α → α → Bool) : Prop where
  trans : ∀ {a b c}, lt b a = false → lt c b = false → lt c a = false
  asym : ∀ {a b}, lt a b = true → lt b a = false
theorem nth_append_left {l r : List α} {k : Nat} (h : k < l.length) : nth (l ++ r) k = nth l k := by
  simp [nth, List.getElem?_append_left h]
theorem Sorted.take {α : Type} {lt : α → α → Bool} {l : List α} (h : Sorted lt l) (k : Nat) : Sorted lt (l.take k) := h.sublist (List.take_sublist _ _)
theorem mem_take_lt {l : List α} {k : Nat} {x : α} (h : x ∈ l.take k) : ∃ j, j < k ∧ j < l.length ∧ nth l j = x := by
  obtain ⟨j, hj, rfl⟩ := List.getElem_of_mem h
  rw [List.length_take] at hj
  exact ⟨j, by omega, by omega, by simp [nth, show j < l.length by omega]⟩
theorem mem_drop_ge {l : List α} {k : Nat} {x : α} (h : x ∈ l.drop k) : ∃ j, k ≤ j ∧ j < l.length ∧ nth l j = x := by
  obtain ⟨j, hj, rfl⟩ := List.getElem_of_mem h
  rw [List.length_drop] at hj
  exact ⟨k + j, by omega, by omega, by simp [nth, show k + j < l.length by omega]⟩
theorem Sorted.nth {l : List α} (h : Sorted lt l) {i j : Nat} (hij : i < j) (hj : j < l.length) : lt (Hr.nth l j) (Hr.nth l i) = false := by
  have := List.pairwise_iff_getElem.1 h i j (by omega) hj hij
  simpa [Hr.nth, hj, show i < l.length by omega] using this
theorem pos_above {s : List α} {t : α} : ∀ {k : Nat}, ∀ j, pos lt s t k ≤ j → j < k → lt t (nth s j) = true
  | 0, j, _, h => by omega
  | k + 1, j, h1, h2 => by
    by_cases hc : lt t (nth s k) = true
    · rw [pos_skip hc] at h1
      by_cases e : j = k
      · rw [e]; exact hc
      · exact pos_above j h1 (by omega)
    · rw [pos_stop (by simpa using hc)] at h1; omega
theorem pos_below {s : List α} {t : α} : ∀ {k : Nat}, 0 < pos lt s t k → lt t (nth s (pos lt s t k - 1)) = false
  | 0, h => by simp [pos] at h
  | k + 1, h => by
    by_cases hc : lt t (nth s k) = true
    · rw [pos_skip hc] at h ⊢; exact pos_below h
    · rw [pos_stop (by simpa using hc)]; simpa using hc
theorem ins_sorted (hw : Weak lt) {s : List α} (hs : Sorted lt s) (t : α) : Sorted lt (ins lt s t) := by
  have hp := pos_le (lt := lt) s t s.length
  unfold ins
  refine List.pairwise_append.2 ⟨hs.take _, List.pairwise_cons.2 ⟨fun x hx => ?_, hs.sublist (List.drop_sublist _ _)⟩, fun a ha b hb => ?_⟩
  · obtain ⟨j, h1, h2, rfl⟩ := mem_drop_ge hx
    exact hw.asym (pos_above j h1 h2)
  · obtain ⟨i, h1, h2, rfl⟩ := mem_take_lt ha
    rcases List.mem_cons.1 hb with rfl | hb
    · have hlast := pos_below (lt := lt) (s := s) (t := b) (k := s.length) (by omega)
      by_cases e : i = pos lt s b s.length - 1
      · rw [e]; exact hlast
      · exact hw.trans (hs.nth (i := i) (j := pos lt s b s.length - 1) (by omega) (by omega)) hlast
    · obtain ⟨j, h3, h4, rfl⟩ := mem_drop_ge hb
      exact hs.nth (by omega) h4
theorem sort_sorted (hw : Weak lt) (l : List α) : ∀ k, Sorted lt (sort lt l k)
  | 0 => .nil
  | k + 1 => ins_sorted hw (sort_sorted hw l k) _
theorem sort_id_aux {l : List α} (h : Sorted lt l) : ∀ k, k ≤ l.length → sort lt l k = l.take k
  | 0, _ => by simp [sort]
  | k + 1, hk => by
    rw [sort, sort_id_aux h k (by omega), ins]
    have hl : (l.take k).length = k := by rw [List.length_take]; omega
    have e : pos lt (l.take k) (nth l k) (l.take k).length = k := by
      rw [hl]
      cases k with
      | zero => rfl
      | succ k =>
        refine pos_stop ?_
        have : nth (l.take (k + 1)) k = nth l k := by simp [nth]
        rw [this]
        exact h.nth (by omega) (by omega)
    rw [e, take_nth (by omega), List.take_of_length_le (by omega), List.drop_eq_nil_of_le (by omega)]
/-- What is sorted stays as it is. -/
theorem sort_id {l : List α} (h : Sorted lt l) : sort lt l l.length = l := by
  rw [sort_id_aux h _ (Nat.le_refl _), List.take_length]
theorem sort_mem {l : List α} {x : α} (h : x ∈ sort lt l l.length) : x ∈ l := (sort_all l).mem_iff.1 h
end
end Srt
end Go.Proofs.YtgphmbipakdggaaR
