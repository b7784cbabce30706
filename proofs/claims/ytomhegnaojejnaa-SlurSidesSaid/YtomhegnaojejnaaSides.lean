/- The sides of a chord's slurs and ties. Nothing of the program. -/
import Derived.Test.YtomhegnaojejnaaPlain
set_option linter.unusedSimpArgs false
set_option linter.unusedVariables false
namespace Go.Proofs.Ytomhegnaojejnaa
open Go Go.RowKit Hr

def sideV (up : Bool) (v vs : Int) : Int := if 2 ≤ vs ∧ v = 0 then 1 else if 2 ≤ vs ∨ up = true then -1 else 1
/-- The sides after k pairs. -/
def tieN (s : Int) (n k : Nat) : List Int := (List.range n).map fun i => if i < k then -1 else if n ≤ i + k then 1 else s
theorem tieN_len {s : Int} {n k : Nat} : (tieN s n k).length = n := by simp [tieN]
theorem tieN_at {s : Int} {n k i : Nat} (h : i < n) : nth (tieN s n k) i = if i < k then -1 else if n ≤ i + k then 1 else s := by simp [tieN, nth, h]
theorem tieN_zero {s : Int} {n : Nat} : List.replicate n s = tieN s n 0 :=
  list_ext_nth (by simp [tieN_len]) fun i hi => by
    have hi' : i < n := by simpa using hi
    rw [rep_nth hi', tieN_at hi', if_neg (by omega), if_neg (by omega)]
theorem tieN_step {s : Int} {n k : Nat} (h : 2 * (k + 1) ≤ n) : ((tieN s n k).set k (-1)).set (n - 1 - k) 1 = tieN s n (k + 1) := by
  refine list_ext_nth (by simp [tieN_len]) fun i hi => ?_
  have hi' : i < n := by simpa [tieN_len] using hi
  rw [tieN_at hi']
  have e0 : nth (((tieN s n k).set k (-1)).set (n - 1 - k) 1) i = if n - 1 - k = i then 1 else if k = i then -1 else nth (tieN s n k) i := by
    by_cases h1 : n - 1 - k = i
    · subst h1; simp [nth, tieN_len, hi']
    · by_cases h2 : k = i
      · subst h2; simp [nth, List.getElem?_set, h1, tieN_len, hi']
      · simp [nth, List.getElem?_set, h1, h2]
  rw [e0, tieN_at hi']
  by_cases h1 : n - 1 - k = i
  · rw [if_pos h1, if_neg (by omega), if_pos (by omega)]
  · rw [if_neg h1]
    by_cases h2 : k = i
    · rw [if_pos h2, if_pos (by omega)]
    · rw [if_neg h2]
      by_cases h3 : i < k
      · rw [if_pos h3, if_pos (by omega)]
      · rw [if_neg h3, if_neg (show ¬ i < k + 1 by omega)]
        by_cases h4 : n ≤ i + k
        · rw [if_pos h4, if_pos (by omega)]
        · rw [if_neg h4, if_neg (by omega)]
/-- What TieSides answers. -/
def tieL (s vs : Int) (n : Nat) : List Int := if 2 ≤ vs then List.replicate n s else tieN s n (n / 2)
theorem tieL_len {s vs : Int} {n : Nat} : (tieL s vs n).length = n := by
  unfold tieL; split
  · simp
  · exact tieN_len
theorem tieL_2 {s vs : Int} {n i : Nat} (h : 2 ≤ vs) (hi : i < n) : nth (tieL s vs n) i = s := by rw [tieL, if_pos h, rep_nth hi]
theorem tieL_1 {s vs : Int} {n i : Nat} (h : ¬ 2 ≤ vs) (hi : i < n) : nth (tieL s vs n) i = if 2 * i + 1 < n then -1 else if n < 2 * i + 1 then 1 else s := by
  rw [tieL, if_neg h, tieN_at hi]
  by_cases h1 : i < n / 2
  · rw [if_pos h1, if_pos (by omega)]
  · rw [if_neg h1, if_neg (show ¬ 2 * i + 1 < n by omega)]
    by_cases h2 : n ≤ i + n / 2
    · rw [if_pos h2, if_pos (show n < 2 * i + 1 by omega)]
    · rw [if_neg h2, if_neg (show ¬ n < 2 * i + 1 by omega)]
theorem sideV_1 {up : Bool} {v vs : Int} (h : 2 ≤ vs ∧ v = 0) : sideV up v vs = 1 := if_pos h
theorem sideV_2 {up : Bool} {v vs : Int} (h : ¬ (2 ≤ vs ∧ v = 0)) (h1 : 2 ≤ vs ∨ up = true) : sideV up v vs = -1 := by rw [sideV, if_neg h, if_pos h1]
theorem sideV_3 {up : Bool} {v vs : Int} (h : ¬ (2 ≤ vs ∧ v = 0)) (h1 : ¬ (2 ≤ vs ∨ up = true)) : sideV up v vs = 1 := by rw [sideV, if_neg h, if_neg h1]
end Go.Proofs.Ytomhegnaojejnaa
