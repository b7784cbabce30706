/- The width of a text, and a text's request. Nothing of the program. -/
import Derived.Test.YtgphmbipakdggaaRPlain
import Derived.Test.YtgphmbipakdggaaRStr
set_option linter.unusedSimpArgs false
set_option linter.unusedVariables false
namespace Go.Proofs.YtgphmbipakdggaaR
open Go Go.RowKit Hr

def encB (n : Int) : List Value := [.int .u8 n]
def W14 : List Int := [32, 33, 39, 40, 41, 44, 46, 58, 59, 73, 105, 106, 108, 124]
/-- The first place of b, counted from k, or -1. -/
def ixF (b : Int) : List Int → Nat → Int
  | [], _ => -1
  | x :: r, k => if b = x then k else ixF b r (k + 1)
theorem ixF_step {b : Int} {l : List Int} {k : Nat} (h : k < l.length) : ixF b (l.drop k) k = if b = nth l k then (k : Int) else ixF b (l.drop (k + 1)) (k + 1) := by
  rw [List.drop_eq_getElem_cons h, ixF]
  simp [nth, h]
def chW (b : Int) : Int := if 0 ≤ ixF b W14 0 then 20 else if b = 77 ∨ b = 87 ∨ b = 109 ∨ b = 119 then 60 else if b < 128 ∨ 191 < b then 40 else 0
theorem chW_bd (b : Int) : 0 ≤ chW b ∧ chW b ≤ 60 := by
  unfold chW; split
  · decide
  · split
    · decide
    · split <;> decide
def bAt (s : ByteArray) (k : Nat) : Int := ((s[k]?.getD 0).toNat : Int)
theorem bAt_get {s : ByteArray} {k : Nat} (h : k < s.size) : s[k]? = some (s[k]?.getD 0) := by
  rw [getElem?_pos s k h]; rfl
def glyT (s : ByteArray) : Nat → Int
  | 0 => 0
  | k + 1 => glyT s k + chW (bAt s k)
theorem glyT_bd (s : ByteArray) : ∀ k : Nat, 0 ≤ glyT s k ∧ glyT s k ≤ 60 * (k : Int)
  | 0 => by simp [glyT]
  | k + 1 => by
    have h1 := glyT_bd s k
    have h2 := chW_bd (bAt s k)
    rw [glyT]; omega
theorem glyT_20 {s : ByteArray} {k : Nat} (h : 0 ≤ ixF (bAt s k) W14 0) : glyT s k + 20 = glyT s (k + 1) := by rw [glyT, chW, if_pos h]
theorem glyT_60 {s : ByteArray} {k : Nat} (h : ¬ 0 ≤ ixF (bAt s k) W14 0) (h1 : bAt s k = 77 ∨ bAt s k = 87 ∨ bAt s k = 109 ∨ bAt s k = 119) : glyT s k + 60 = glyT s (k + 1) := by rw [glyT, chW, if_neg h, if_pos h1]
theorem glyT_40 {s : ByteArray} {k : Nat} (h : ¬ 0 ≤ ixF (bAt s k) W14 0) (h1 : ¬ (bAt s k = 77 ∨ bAt s k = 87 ∨ bAt s k = 109 ∨ bAt s k = 119)) (h2 : bAt s k < 128 ∨ 191 < bAt s k) : glyT s k + 40 = glyT s (k + 1) := by rw [glyT, chW, if_neg h, if_neg h1, if_pos h2]
theorem glyT_0 {s : ByteArray} {k : Nat} (h : ¬ 0 ≤ ixF (bAt s k) W14 0) (h1 : ¬ (bAt s k = 77 ∨ bAt s k = 87 ∨ bAt s k = 109 ∨ bAt s k = 119)) (h2 : ¬ (bAt s k < 128 ∨ 191 < bAt s k)) : glyT s k = glyT s (k + 1) := by rw [glyT, chW, if_neg h, if_neg h1, if_neg h2]; omega
def textV (k site num i t f : Int) (s : ByteArray) : Req × Int :=
  if k ≠ 59 ∧ k ≠ 60 then (default, 11) else if i < 0 ∨ t < 0 ∨ f < 0 then (default, 2) else if strEq s ⟨#[]⟩ = true then (default, 4) else if 256 < (s.size : Int) then (default, 5)
  else (⟨k, i, t, f, f, 1, 136, 0, site, num, 0, glyT s s.size, 80⟩, 0)
end Go.Proofs.YtgphmbipakdggaaR
