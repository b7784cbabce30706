/- The ground: heights above and below. Nothing of the program. -/
import Derived.Test.YtomhegnaojejnaaPlain
set_option linter.unusedSimpArgs false
set_option linter.unusedVariables false
namespace Go.Proofs.Ytomhegnaojejnaa
open Go Go.RowKit Hr

def encH (n : Int) : List Value := [.int .i16 n]
def negL (l : List Int) : List Int := l.map fun x => -x
theorem negL_len {l : List Int} : (negL l).length = l.length := by simp [negL]
theorem negL_nth {l : List Int} {i : Nat} : nth (negL l) i = -(nth l i) := by
  by_cases h : i < l.length
  · simp [nth, negL, h]
  · simp [nth, negL, List.getElem?_eq_none (Nat.le_of_not_lt h)]
def gN (la : List Int) : Nat := max 1 (min 30 la.length)
def gV (l : List Int) (i : Nat) : Int := if i < l.length then nth l i else 0
def gs (l : List Int) (n : Nat) : List Int := (List.range n).map (gV l)
theorem gV_yes {l : List Int} {i : Nat} (h : i < l.length) : gV l i = nth l i := if_pos h
theorem gV_no {l : List Int} {i : Nat} (h : ¬ i < l.length) : gV l i = 0 := if_neg h
theorem gs_succ {l : List Int} {n : Nat} : gs l (n + 1) = gs l n ++ [gV l n] := by simp [gs, List.range_succ]
theorem gs_len {l : List Int} {n : Nat} : (gs l n).length = n := by simp [gs]
theorem gs_at {l : List Int} {n i : Nat} (h : i < n) : nth (gs l n) i = gV l i := by simp [nth, gs, h]
theorem gV_bd {l : List Int} (hb : ∀ x ∈ l, -32768 ≤ x ∧ x ≤ 32767) (i : Nat) : -32768 ≤ gV l i ∧ gV l i ≤ 32767 := by
  unfold gV; split
  · rename_i h; exact hb _ (nth_mem h)
  · omega
theorem gs_bd {l : List Int} (hb : ∀ x ∈ l, -32768 ≤ x ∧ x ≤ 32767) (n i : Nat) : -32768 ≤ nth (gs l n) i ∧ nth (gs l n) i ≤ 32767 := by
  by_cases h : i < n
  · rw [gs_at h]; exact gV_bd hb i
  · have e : nth (gs l n) i = 0 := by simp [nth, gs, h]
    rw [e]; omega
/-- A row of n places of which the first i are h's. -/
def mixG (h : List Int) (n i : Nat) : List Int := (List.range n).map fun j => if j < i then nth h j else -524288
theorem mixG_len {h : List Int} {n i : Nat} : (mixG h n i).length = n := by simp [mixG]
theorem mixG_at {h : List Int} {n i j : Nat} (hj : j < n) : nth (mixG h n i) j = if j < i then nth h j else -524288 := by simp [mixG, nth, hj]
theorem mixG_zero {h : List Int} {n : Nat} {x : Int} (hx : x = -524288) : List.replicate n x = mixG h n 0 := by
  refine list_ext_nth (by simp [mixG]) fun i hi => ?_
  have hi' : i < n := by simpa using hi
  rw [mixG_at hi', if_neg (by omega), rep_nth hi', hx]
theorem mixG_step {h : List Int} {n i : Nat} {v : Int} (hi : i < n) (h0 : -524288 ≤ nth h i) (hv : v = nth h i) : raiseN (mixG h n i) ((i : Int)).toNat (((i : Int)).toNat + 1) v = mixG h n (i + 1) := by
  rw [Int.toNat_natCast]
  refine list_ext_nth (by rw [raiseN_len, mixG_len, mixG_len]) fun j hj => ?_
  rw [raiseN_len, mixG_len] at hj
  rw [raiseN_at (by rw [mixG_len]; exact hj), mixG_at hj, mixG_at hj]
  by_cases e : j = i
  · subst e
    rw [if_pos ⟨Nat.le_refl _, by omega⟩, if_neg (by omega), if_pos (by omega), hv]; omega
  · rw [if_neg (by omega)]
    by_cases e2 : j < i
    · rw [if_pos e2, if_pos (by omega)]
    · rw [if_neg e2, if_neg (by omega)]
theorem mixG_all {h : List Int} {n i : Nat} (hl : h.length = n) (hi : n ≤ i) : mixG h n i = h := by
  refine list_ext_nth (by rw [mixG_len, hl]) fun j hj => ?_
  rw [mixG_len] at hj
  rw [mixG_at hj, if_pos (by omega)]
theorem ground_bd {h : List Int} (hb : ∀ i, -32768 ≤ nth h i ∧ nth h i ≤ 32767) : Bd h := fun i _ => by have := hb i; omega
theorem neg_bd {h : List Int} (hb : ∀ i, -32768 ≤ nth h i ∧ nth h i ≤ 32767) : Bd (negL h) := fun i _ => by rw [negL_nth]; have := hb i; omega
end Go.Proofs.Ytomhegnaojejnaa
