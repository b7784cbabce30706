/- How the reference finds a tuplet that is not nested, and what tuplets make of a length. Nothing of the program. -/
import Derived.Test.YticofkkkafhpiaaPlain
set_option linter.unusedSimpArgs false
set_option linter.unusedVariables false
namespace Go.Proofs.Yticofkkkafhpiaa
open Go Go.RowKit Hr

def inB (t : Tup) (e : Int) : Bool := decide (t.first ≤ e) && decide (e < tend t)
def withinB (t u : Tup) : Bool := decide (u.first ≤ t.first) && decide (tend t ≤ tend u)
theorem inB_iff {t : Tup} {e : Int} : inB t e = true ↔ t.first ≤ e ∧ e < tend t := by simp [inB]
theorem withinB_iff {t u : Tup} : withinB t u = true ↔ u.first ≤ t.first ∧ tend t ≤ tend u := by simp [withinB]
def cntE (ts : List Tup) (t : Tup) (e : Int) (j : Nat) : Nat := ((ts.take j).filter fun u => inB t e && inB u e).length
theorem cntE_zero (ts : List Tup) (t : Tup) (e : Int) : cntE ts t e 0 = 0 := by simp [cntE]
theorem cntE_in {ts : List Tup} {t : Tup} {e : Int} {j : Nat} (hj : j < ts.length) (h1 : inB t e = true) (h2 : inB (nth ts j) e = true) : cntE ts t e (j + 1) = cntE ts t e j + 1 := by
  rw [cntE, take_nth hj, List.filter_append]; simp [cntE, h1, h2]
theorem cntE_out {ts : List Tup} {t : Tup} {e : Int} {j : Nat} (hj : j < ts.length) (h : inB t e = false ∨ inB (nth ts j) e = false) : cntE ts t e (j + 1) = cntE ts t e j := by
  rw [cntE, take_nth hj, List.filter_append]; rcases h with h | h <;> simp [cntE, h]
theorem cntE_le (ts : List Tup) (t : Tup) (e : Int) (j : Nat) : cntE ts t e j ≤ j := by
  rw [cntE]; exact Nat.le_trans (List.length_filter_le _ _) (by simp; omega)
/-- What the reference asks at event e, of the first j. -/
def OkE (ts : List Tup) (i : Nat) (e : Int) (j : Nat) : Prop := ∀ k, k < j → inB (nth ts i) e = true → inB (nth ts k) e = true → withinB (nth ts i) (nth ts k) = true
theorem OkE.zero {ts : List Tup} {i : Nat} {e : Int} : OkE ts i e 0 := fun k h => by omega
theorem OkE.succ {ts : List Tup} {i : Nat} {e : Int} {j : Nat} (h : OkE ts i e j) (h1 : inB (nth ts i) e = true → inB (nth ts j) e = true → withinB (nth ts i) (nth ts j) = true) : OkE ts i e (j + 1) := fun k hk => by
  by_cases e0 : k = j
  · subst e0; exact h1
  · exact h k (by omega)
theorem okE_end {ts : List Tup} {i j e : Nat} (hok : OkE ts i e j) (hj : j = i) (hc : cntE ts (nth ts i) e j < 3) (hall : ∀ x : Nat, x < e → OkE ts i x i ∧ cntE ts (nth ts i) x i < 3) : ∀ x : Nat, x < e + 1 → OkE ts i x i ∧ cntE ts (nth ts i) x i < 3 := by
  intro x hx
  subst hj
  by_cases h : x = e
  · subst h; exact ⟨hok, hc⟩
  · exact hall x (by omega)
theorem bad_out {n : Int} {ts : List Tup} {i j : Nat} {e : Int} (hg : Good n ts i) (ha : 0 < i → ¬ aftT (nth ts i) (nth ts (i - 1))) (hi : i < ts.length) (hj : j < i) (h1 : inB (nth ts i) e = true) (h2 : inB (nth ts j) e = true) (h : withinB (nth ts i) (nth ts j) = false) : badN ts i := by
  rw [inB_iff] at h1 h2
  have h3 := hg.first_lt ha hj
  refine .inr ⟨nth ts j, mem_opnS.2 ⟨nth_mem_take hj (by omega), by omega⟩, ?_⟩
  by_cases hx : tend (nth ts j) < tend (nth ts i)
  · exact hx
  · have : withinB (nth ts i) (nth ts j) = true := withinB_iff.2 ⟨h3, by omega⟩
    rw [this] at h; cases h
theorem filter_len_le {l : List Tup} {p q : Tup → Bool} (h : ∀ u ∈ l, p u = true → q u = true) : (l.filter p).length ≤ (l.filter q).length := by
  rw [← List.countP_eq_length_filter, ← List.countP_eq_length_filter]
  exact List.countP_mono_left h
theorem bad_deep {ts : List Tup} {i : Nat} {e : Int} (h : 3 ≤ cntE ts (nth ts i) e i) : badN ts i := by
  refine .inl (Nat.le_trans h (filter_len_le fun u _ hu => ?_))
  simp only [Bool.and_eq_true, inB_iff] at hu
  simp; omega
theorem not_bad {n : Int} {ts : List Tup} {i : Nat} (hg : Good n ts i) (hp : propT n (nth ts i)) (ha : 0 < i → ¬ aftT (nth ts i) (nth ts (i - 1)))
    (h : ∀ e : Nat, (e : Int) < n → OkE ts i e i ∧ cntE ts (nth ts i) e i < 3) : ¬ badN ts i := by
  have hp' := hp
  unfold propT at hp
  obtain ⟨e, he⟩ : ∃ e : Nat, (e : Int) = (nth ts i).first := ⟨(nth ts i).first.toNat, by omega⟩
  obtain ⟨h1, h2⟩ := h e (by omega)
  have ht : inB (nth ts i) (e : Int) = true := by rw [inB_iff, he]; unfold tend; omega
  rintro (hb | ⟨u, hu, hlt⟩)
  · have : (opnS ts i (nth ts i).first).length ≤ cntE ts (nth ts i) e i := by
      refine filter_len_le fun u hu hx => ?_
      obtain ⟨j, hj, hjl, rfl⟩ := mem_take_nth hu
      have := hg.first_lt ha hj
      simp only [decide_eq_true_eq] at hx
      rw [ht, Bool.true_and, inB_iff, he]
      omega
    omega
  · rw [mem_opnS] at hu
    obtain ⟨j, hj, hjl, rfl⟩ := mem_take_nth hu.1
    have := hg.first_lt ha hj
    have h3 := h1 j hj ht (by rw [inB_iff, he]; omega)
    rw [withinB_iff] at h3
    omega
end Go.Proofs.Yticofkkkafhpiaa
