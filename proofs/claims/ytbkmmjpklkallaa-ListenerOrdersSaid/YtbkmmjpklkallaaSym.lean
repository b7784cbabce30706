/- Sorted runs merged in place: what the swaps, the rotations and the two halves make of a list. Nothing of a program. -/
import Derived.Test.YtbkmmjpklkallaaSort
set_option linter.unusedSimpArgs false
set_option linter.unusedVariables false
namespace Go.Proofs.Ytbkmmjpklkallaa
namespace Srt
open Go Go.RowKit Hr

section
variable {α : Type} [Inhabited α]
theorem at_app {L R : List α} {x : α} {i : Nat} (h : i = L.length) : nth (L ++ x :: R) i = x := by
  subst h; simp [nth, List.getElem?_append_right]
theorem set_app {α : Type} {L R : List α} {x y : α} {i : Nat} (h : i = L.length) : (L ++ x :: R).set i y = L ++ y :: R := by
  subst h; rw [List.set_append_right _ _ (Nat.le_refl _), Nat.sub_self]; rfl
theorem nth_app {L R : List α} {i j : Nat} (h : i = L.length + j) : nth (L ++ R) i = nth R j := by
  subst h; simp [nth, List.getElem?_append_right]
theorem nth_left {L R : List α} {i : Nat} (h : i < L.length) : nth (L ++ R) i = nth L i := by
  simp [nth, List.getElem?_append_left h]
theorem nth_take {L : List α} {i k : Nat} (h : i < k) : nth (L.take k) i = nth L i := by simp [nth, List.getElem?_take, h]
theorem nth_drop {L : List α} {i k : Nat} : nth (L.drop k) i = nth L (k + i) := by simp [nth]
/-- Two pieces of one length change places, one element after another. -/
def swr (p a m b s : List α) (k : Nat) : List α := p ++ (b.take k ++ (a.drop k ++ (m ++ (a.take k ++ (b.drop k ++ s)))))
theorem swr_zero {α : Type} {p a m b s : List α} : swr p a m b s 0 = p ++ (a ++ (m ++ (b ++ s))) := by simp [swr]
theorem swr_end {α : Type} {p a m b s : List α} {k : Nat} (ha : a.length = k) (hb : b.length = k) : swr p a m b s k = p ++ (b ++ (m ++ (a ++ s))) := by
  rw [swr, List.take_of_length_le (by omega), List.take_of_length_le (by omega), List.drop_eq_nil_of_le (by omega), List.drop_eq_nil_of_le (by omega)]; simp
theorem swr_len {α : Type} {p a m b s : List α} {k : Nat} (ha : k ≤ a.length) (hb : k ≤ b.length) : (swr p a m b s k).length = p.length + (a.length + (m.length + (b.length + s.length))) := by
  simp only [swr, List.length_append, List.length_take, List.length_drop]; omega
theorem swr_a {p a m b s : List α} {k i : Nat} (ha : k < a.length) (hb : k < b.length) (hi : i = p.length + k) : nth (swr p a m b s k) i = nth a k := by
  rw [swr, drop_nth ha, ← List.append_assoc]
  exact at_app (by simp only [List.length_append, List.length_take]; omega)
theorem swr_b {p a m b s : List α} {k i : Nat} (ha : k < a.length) (hb : k < b.length) (hi : i = p.length + a.length + m.length + k) : nth (swr p a m b s k) i = nth b k := by
  rw [swr, drop_nth hb]
  have e : p ++ (b.take k ++ (a.drop k ++ (m ++ (a.take k ++ (nth b k :: b.drop (k + 1) ++ s))))) = (p ++ (b.take k ++ (a.drop k ++ (m ++ a.take k)))) ++ nth b k :: (b.drop (k + 1) ++ s) := by simp
  rw [e]
  exact at_app (by simp only [List.length_append, List.length_take, List.length_drop]; omega)
theorem swr_step {p a m b s : List α} {k i j : Nat} (ha : k < a.length) (hb : k < b.length) (hi : i = p.length + k) (hj : j = p.length + a.length + m.length + k) :
    ((swr p a m b s k).set i (nth b k)).set j (nth a k) = swr p a m b s (k + 1) := by
  have e1 : swr p a m b s k = (p ++ b.take k) ++ nth a k :: (a.drop (k + 1) ++ (m ++ (a.take k ++ (b.drop k ++ s)))) := by rw [swr, drop_nth ha]; simp
  rw [e1, set_app (by simp only [List.length_append, List.length_take]; omega), drop_nth hb]
  have e2 : (p ++ b.take k) ++ nth b k :: (a.drop (k + 1) ++ (m ++ (a.take k ++ (nth b k :: b.drop (k + 1) ++ s)))) = (p ++ (b.take k ++ ([nth b k] ++ (a.drop (k + 1) ++ (m ++ a.take k))))) ++ nth b k :: (b.drop (k + 1) ++ s) := by simp
  rw [e2, set_app (by simp only [List.length_append, List.length_take, List.length_drop, List.length_cons, List.length_nil]; omega), swr, take_nth ha, take_nth hb]
  simp
variable {lt : α → α → Bool}
theorem Weak.refl {α : Type} {lt : α → α → Bool} (hw : Weak lt) (a : α) : lt a a = false := by
  cases h : lt a a with
  | false => rfl
  | true => have := hw.asym h; rw [h] at this; cases this
theorem Sorted.le (hw : Weak lt) {l : List α} (h : Sorted lt l) {i j : Nat} (hij : i ≤ j) (hj : j < l.length) : lt (Hr.nth l j) (Hr.nth l i) = false := by
  by_cases e : i = j
  · subst e; exact hw.refl _
  · exact h.nth (by omega) hj
/-- An element set where all before it are no greater and all behind it are no less. -/
theorem mid_sorted (hw : Weak lt) {s : List α} {x : α} {t : Nat} (hs : Sorted lt s) (ht : t ≤ s.length) (h1 : t = 0 ∨ lt x (Hr.nth s (t - 1)) = false) (h2 : t = s.length ∨ lt (Hr.nth s t) x = false) : Sorted lt (s.take t ++ x :: s.drop t) := by
  refine List.pairwise_append.2 ⟨hs.take _, List.pairwise_cons.2 ⟨fun y hy => ?_, hs.sublist (List.drop_sublist _ _)⟩, fun a ha b hb => ?_⟩
  · obtain ⟨j, h3, h4, rfl⟩ := mem_drop_ge hy
    rcases h2 with h2 | h2
    · omega
    · exact hw.trans h2 (hs.le hw h3 h4)
  · obtain ⟨i, h3, h4, rfl⟩ := mem_take_lt ha
    rcases List.mem_cons.1 hb with rfl | hb
    · rcases h1 with h1 | h1
      · omega
      · exact hw.trans (hs.le hw (show i ≤ t - 1 by omega) (by omega)) h1
    · obtain ⟨j, h5, h6, rfl⟩ := mem_drop_ge hb
      exact hs.le hw (by omega) h6
theorem mid_perm {α : Type} {s : List α} {x : α} {t : Nat} : (s.take t ++ x :: s.drop t).Perm (x :: s) := by
  refine (List.perm_middle).trans (.cons _ ?_)
  rw [List.take_append_drop]
/-- Two sorted runs, each cut; the fronts and the backs merged. -/
theorem halves_sorted (hw : Weak lt) {x y z1 z2 : List α} {u v : Nat} (hx : Sorted lt x) (hy : Sorted lt y) (h1 : z1.Perm (x.take u ++ y.take v)) (h2 : z2.Perm (x.drop u ++ y.drop v)) (s1 : Sorted lt z1) (s2 : Sorted lt z2)
    (hu : u ≤ x.length) (hv : v ≤ y.length) (hA : u = 0 ∨ v = y.length ∨ lt (Hr.nth y v) (Hr.nth x (u - 1)) = false) (hB : v = 0 ∨ u = x.length ∨ lt (Hr.nth y (v - 1)) (Hr.nth x u) = true) : Sorted lt (z1 ++ z2) := by
  refine List.pairwise_append.2 ⟨s1, s2, fun a ha b hb => ?_⟩
  have ha' := h1.mem_iff.1 ha
  have hb' := h2.mem_iff.1 hb
  rcases List.mem_append.1 ha' with ha' | ha' <;> rcases List.mem_append.1 hb' with hb' | hb'
  · obtain ⟨i, h3, h4, rfl⟩ := mem_take_lt ha'
    obtain ⟨j, h5, h6, rfl⟩ := mem_drop_ge hb'
    exact hx.le hw (by omega) h6
  · obtain ⟨i, h3, h4, rfl⟩ := mem_take_lt ha'
    obtain ⟨j, h5, h6, rfl⟩ := mem_drop_ge hb'
    rcases hA with h | h | h
    · omega
    · omega
    · exact hw.trans (hw.trans (hx.le hw (show i ≤ u - 1 by omega) (by omega)) h) (hy.le hw h5 h6)
  · obtain ⟨i, h3, h4, rfl⟩ := mem_take_lt ha'
    obtain ⟨j, h5, h6, rfl⟩ := mem_drop_ge hb'
    rcases hB with h | h | h
    · omega
    · omega
    · exact hw.trans (hw.trans (hy.le hw (show i ≤ v - 1 by omega) (by omega)) (hw.asym h)) (hx.le hw h5 h6)
  · obtain ⟨i, h3, h4, rfl⟩ := mem_take_lt ha'
    obtain ⟨j, h5, h6, rfl⟩ := mem_drop_ge hb'
    exact hy.le hw (by omega) h6
theorem halves_perm {α : Type} {x y z1 z2 : List α} {u v : Nat} (h1 : z1.Perm (x.take u ++ y.take v)) (h2 : z2.Perm (x.drop u ++ y.drop v)) : (z1 ++ z2).Perm (x ++ y) := by
  refine (h1.append h2).trans ?_
  have e : (x ++ y).Perm ((x.take u ++ x.drop u) ++ (y.take v ++ y.drop v)) := by rw [List.take_append_drop, List.take_append_drop]
  refine List.Perm.trans ?_ e.symm
  rw [List.append_assoc, List.append_assoc]
  refine List.Perm.append_left _ ?_
  rw [← List.append_assoc, ← List.append_assoc]
  exact List.Perm.append_right _ List.perm_append_comm
/-- What a merge in place leaves. -/
def Mrg (lt : α → α → Bool) (p x y s d : List α) : Prop := ∃ z, z.Perm (x ++ y) ∧ Sorted lt z ∧ d = p ++ (z ++ s)
theorem Mrg.len {α : Type} {lt : α → α → Bool} {p x y s d : List α} (h : Mrg lt p x y s d) : d.length = p.length + (x.length + (y.length + s.length)) := by
  obtain ⟨z, h1, _, rfl⟩ := h
  have := h1.length_eq
  simp only [List.length_append] at this ⊢; omega
/-- Up by one. -/
theorem mid_up {s : List α} {t : α} {r : List α} {j : Nat} (h : j < s.length) : ((mid s t r j).set j (nth s j)).set (j + 1) t = mid s t r (j + 1) := by
  have h1 : (s.take j).length = j := by rw [List.length_take]; omega
  unfold mid
  rw [set_app (by omega), drop_nth h]
  have e : s.take j ++ nth s j :: (nth s j :: s.drop (j + 1) ++ r) = (s.take j ++ [nth s j]) ++ nth s j :: (s.drop (j + 1) ++ r) := by simp
  rw [e, set_app (by simp; omega), take_nth h]
theorem mid_next {s : List α} {t : α} {r : List α} {j : Nat} (h : j < s.length) : nth (mid s t r j) (j + 1) = nth s j := by
  have h1 : (s.take j).length = j := by rw [List.length_take]; omega
  unfold mid
  rw [drop_nth h]
  have e : s.take j ++ t :: (nth s j :: s.drop (j + 1) ++ r) = (s.take j ++ [t]) ++ nth s j :: (s.drop (j + 1) ++ r) := by simp
  rw [e]
  exact at_app (by simp; omega)
theorem pre_set {α : Type} {p l : List α} {i j : Nat} {v : α} (h : i = p.length + j) : (p ++ l).set i v = p ++ l.set j v := by
  subst h; rw [List.set_append_right _ _ (by omega), Nat.add_sub_cancel_left]
theorem row_x {p x r : List α} {i k : Nat} (hi : i = p.length + k) (hk : k < x.length) : nth (p ++ (x ++ r)) i = nth x k := by
  rw [nth_app hi, nth_left hk]
theorem row_y {p x y r : List α} {i k : Nat} (hi : i = p.length + x.length + k) (hk : k < y.length) : nth (p ++ (x ++ (y ++ r))) i = nth y k := by
  rw [nth_app (j := x.length + k) (by omega), nth_app rfl, nth_left hk]
theorem row_set {α : Type} {p x r : List α} {i k : Nat} {v : α} (hi : i = p.length + k) (hk : k < x.length) : (p ++ (x ++ r)).set i v = p ++ (x.set k v ++ r) := by
  rw [pre_set hi, List.set_append_left _ _ hk]
theorem pmid_up {p s : List α} {t : α} {r : List α} {i i' j : Nat} (h : j < s.length) (hi : i = p.length + j) (hi' : i' = p.length + (j + 1)) : ((p ++ mid s t r j).set i (nth s j)).set i' t = p ++ mid s t r (j + 1) := by
  rw [pre_set hi, pre_set hi', mid_up h]
theorem pmid_dn {p s : List α} {t : α} {r : List α} {i i' j : Nat} (h : j + 1 ≤ s.length) (hi : i = p.length + (j + 1)) (hi' : i' = p.length + j) : ((p ++ mid s t r (j + 1)).set i (nth s j)).set i' t = p ++ mid s t r j := by
  rw [pre_set hi, pre_set hi', mid_swap h]
theorem pmid_at {p s : List α} {t : α} {r : List α} {i j : Nat} (h : j ≤ s.length) (hi : i = p.length + j) : nth (p ++ mid s t r j) i = t := by
  rw [nth_app hi, mid_at h]
theorem pmid_next {p s : List α} {t : α} {r : List α} {i j : Nat} (h : j < s.length) (hi : i = p.length + (j + 1)) : nth (p ++ mid s t r j) i = nth s j := by
  rw [nth_app hi, mid_next h]
theorem pmid_below {p s : List α} {t : α} {r : List α} {i j : Nat} (h : j + 1 ≤ s.length) (hi : i = p.length + j) : nth (p ++ mid s t r (j + 1)) i = nth s j := by
  rw [nth_app hi, mid_below h]
theorem pmid_len {α : Type} {p s : List α} {t : α} {r : List α} {j : Nat} (h : j ≤ s.length) : (p ++ mid s t r j).length = p.length + (s.length + (1 + r.length)) := by
  rw [List.length_append, mid_len h]; omega
theorem pmid_row {α : Type} {p s : List α} {t : α} {r : List α} {j : Nat} : p ++ mid s t r j = p ++ ((s.take j ++ t :: s.drop j) ++ r) := by simp [mid]
theorem pmq_dn {p s : List α} {t : α} {r q : List α} {i i' j : Nat} (h : j + 1 ≤ s.length) (hi : i = p.length + (j + 1)) (hi' : i' = p.length + j) : ((p ++ (mid s t r (j + 1) ++ q)).set i (nth s j)).set i' t = p ++ (mid s t r j ++ q) := by
  rw [row_set hi (by rw [mid_len h]; omega), row_set hi' (by rw [List.length_set, mid_len h]; omega), mid_swap h]
theorem mrg_1 (hw : Weak lt) {p y s : List α} {a : α} {i : Nat} (hy : Sorted lt y) (hi : i ≤ y.length) (h1 : i = 0 ∨ lt (Hr.nth y (i - 1)) a = true) (h2 : i = y.length ∨ lt (Hr.nth y i) a = false) : Mrg lt p [a] y s (p ++ mid y a s i) :=
  ⟨_, mid_perm, mid_sorted hw hy hi (h1.imp_right fun h => hw.asym h) h2, pmid_row⟩
theorem mrg_2 (hw : Weak lt) {p x s : List α} {b : α} {i : Nat} (hx : Sorted lt x) (hi : i ≤ x.length) (h1 : i = 0 ∨ lt b (Hr.nth x (i - 1)) = false) (h2 : i = x.length ∨ lt b (Hr.nth x i) = true) : Mrg lt p x [b] s (p ++ mid x b s i) :=
  ⟨_, mid_perm.trans (List.perm_append_comm (l₁ := [b])), mid_sorted hw hx hi h1 (h2.imp_right fun h => hw.asym h), pmid_row⟩
theorem mrg_3 (hw : Weak lt) {p x y s z1 z2 d : List α} {u v : Nat} (hx : Sorted lt x) (hy : Sorted lt y) (h1 : z1.Perm (x.take u ++ y.take v)) (h2 : z2.Perm (x.drop u ++ y.drop v)) (s1 : Sorted lt z1) (s2 : Sorted lt z2)
    (hu : u ≤ x.length) (hv : v ≤ y.length) (hA : u = 0 ∨ v = y.length ∨ lt (Hr.nth y v) (Hr.nth x (u - 1)) = false) (hB : v = 0 ∨ u = x.length ∨ lt (Hr.nth y (v - 1)) (Hr.nth x u) = true) (hd : d = p ++ (z1 ++ (z2 ++ s))) : Mrg lt p x y s d :=
  ⟨z1 ++ z2, halves_perm h1 h2, halves_sorted hw hx hy h1 h2 s1 s2 hu hv hA hB, by rw [hd, List.append_assoc]⟩
theorem no_rot {α : Type} {x y r : List α} {u v : Nat} (h : u = x.length ∨ v = 0) : x ++ (y ++ r) = x.take u ++ (y.take v ++ (x.drop u ++ (y.drop v ++ r))) := by
  rcases h with h | h
  · subst h; simp only [List.take_length, List.drop_length, List.nil_append]; rw [← List.append_assoc (y.take v), List.take_append_drop]
  · subst h; simp only [List.take_zero, List.drop_zero, List.nil_append]; rw [← List.append_assoc (x.take u), List.take_append_drop]
theorem cut_rot {α : Type} {x y r : List α} {u v : Nat} : x ++ (y ++ r) = x.take u ++ (x.drop u ++ (y.take v ++ (y.drop v ++ r))) := by
  rw [← List.append_assoc (x.take u), List.take_append_drop, ← List.append_assoc (y.take v), List.take_append_drop]
theorem Sorted.drop {α : Type} {lt : α → α → Bool} {l : List α} (h : Sorted lt l) (k : Nat) : Sorted lt (l.drop k) := h.sublist (List.drop_sublist _ _)
theorem front_sorted {α : Type} {lt : α → α → Bool} {x y : List α} {u v : Nat} (hx : Sorted lt x) (hy : Sorted lt y) (h : u = 0 ∨ v = 0) : Sorted lt (x.take u ++ y.take v) := by
  rcases h with h | h
  · subst h; rw [List.take_zero, List.nil_append]; exact hy.take _
  · subst h; rw [List.take_zero, List.append_nil]; exact hx.take _
theorem back_sorted {α : Type} {lt : α → α → Bool} {x y : List α} {u v : Nat} (hx : Sorted lt x) (hy : Sorted lt y) (h : u = x.length ∨ v = y.length) : Sorted lt (x.drop u ++ y.drop v) := by
  rcases h with h | h
  · subst h; rw [List.drop_length, List.nil_append]; exact hy.drop _
  · subst h; rw [List.drop_length, List.append_nil]; exact hx.drop _
theorem shr1 (y : Int) : y.fdiv (2 ^ (min (1 : Int).toNat IntKind.u64.bits)) = y / 2 := by
  show y.fdiv 2 = y / 2
  exact Int.fdiv_eq_ediv_of_nonneg _ (by decide)
theorem uw {y : Int} (h : 0 ≤ y ∧ y < 18446744073709551616) : IntKind.u64.wrap y = y := by
  simp [IntKind.wrap, IntKind.bits, IntKind.signed]; omega
end
end Srt
end Go.Proofs.Ytbkmmjpklkallaa
