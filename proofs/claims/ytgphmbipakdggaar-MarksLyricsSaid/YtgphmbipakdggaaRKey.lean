/- Lists of numbers compared one number after another. Nothing of a program. -/
import Derived.Test.YtgphmbipakdggaaRSort
set_option linter.unusedSimpArgs false
set_option linter.unusedVariables false
namespace Go.Proofs.YtgphmbipakdggaaR
namespace Ky
open Go Go.RowKit Hr

def cmpI (a b : Int) : Int := if a < b then -1 else if b < a then 1 else 0
/-- The first number that is not 0. -/
def fst0 : List Int → Int
  | [] => 0
  | e :: r => if e ≠ 0 then e else fst0 r
theorem fst0_step {l : List Int} {k : Nat} (hk : k < l.length) (h0 : nth l k = 0) : fst0 (l.drop k) = fst0 (l.drop (k + 1)) := by
  rw [drop_nth hk, fst0, if_neg (by simp [h0])]
theorem fst0_hit {l : List Int} {k : Nat} (hk : k < l.length) (h0 : nth l k ≠ 0) : fst0 (l.drop k) = nth l k := by
  rw [drop_nth hk, fst0, if_pos h0]
def lex : List Int → List Int → Int
  | a :: x, b :: y => if a < b then -1 else if b < a then 1 else lex x y
  | _, _ => 0
theorem lex_fst0 : ∀ (x y : List Int), fst0 (List.zipWith cmpI x y) = lex x y
  | [], _ => by cases ‹List Int› <;> rfl
  | _ :: _, [] => rfl
  | a :: x, b :: y => by
    rw [List.zipWith_cons_cons, fst0, lex, lex_fst0 x y, cmpI]
    by_cases h1 : a < b
    · simp [h1]
    · by_cases h2 : b < a
      · simp [h1, h2]
      · simp [h1, h2]
theorem lex_eq {x y : List Int} {k : Nat} (hx : k < x.length) (hy : k < y.length) (h : nth x k = nth y k) : lex (x.drop k) (y.drop k) = lex (x.drop (k + 1)) (y.drop (k + 1)) := by
  rw [drop_nth hx, drop_nth hy, lex, h, if_neg (by omega), if_neg (by omega)]
theorem lex_lt {x y : List Int} {k : Nat} (hx : k < x.length) (hy : k < y.length) (h : nth x k < nth y k) : lex (x.drop k) (y.drop k) = -1 := by
  rw [drop_nth hx, drop_nth hy, lex, if_pos h]
theorem lex_gt {x y : List Int} {k : Nat} (hx : k < x.length) (hy : k < y.length) (h : nth y k < nth x k) : lex (x.drop k) (y.drop k) = 1 := by
  rw [drop_nth hx, drop_nth hy, lex, if_neg (by omega), if_pos h]
theorem lex_end {x y : List Int} {k : Nat} (hx : x.length ≤ k) : lex (x.drop k) (y.drop k) = 0 := by
  rw [List.drop_eq_nil_of_le hx]; cases y.drop k <;> rfl
theorem lex_bd : ∀ (x y : List Int), lex x y = -1 ∨ lex x y = 0 ∨ lex x y = 1
  | [], _ => .inr (.inl (by cases ‹List Int› <;> rfl))
  | _ :: _, [] => .inr (.inl rfl)
  | a :: x, b :: y => by
    have := lex_bd x y
    rw [lex]
    split
    · exact .inl rfl
    · split
      · exact .inr (.inr rfl)
      · exact this
theorem lex_neg : ∀ (x y : List Int), x.length = y.length → lex y x = - lex x y
  | [], [], _ => rfl
  | a :: x, b :: y, h => by
    have ih := lex_neg x y (by simpa using h)
    rw [lex, lex]
    by_cases h1 : a < b
    · rw [if_neg (by omega), if_pos h1, if_pos h1]; rfl
    · by_cases h2 : b < a
      · rw [if_pos h2, if_neg h1, if_pos h2]
      · rw [if_neg h2, if_neg h1, if_neg h1, if_neg h2, ih]
theorem lex_trans : ∀ (x y z : List Int), x.length = y.length → y.length = z.length → lex y x ≥ 0 → lex z y ≥ 0 → lex z x ≥ 0
  | [], [], [], _, _, _, _ => by simp [lex]
  | a :: x, b :: y, c :: z, h1, h2, h3, h4 => by
    have ih := lex_trans x y z (by simpa using h1) (by simpa using h2)
    rw [lex] at h3 h4 ⊢
    by_cases p1 : b < a
    · rw [if_pos p1] at h3; omega
    rw [if_neg p1] at h3
    by_cases p2 : c < b
    · rw [if_pos p2] at h4; omega
    rw [if_neg p2] at h4
    rw [if_neg (by omega)]
    by_cases p3 : a < c
    · rw [if_pos p3]; omega
    rw [if_neg p3]
    rw [if_neg (by omega)] at h3 h4
    exact ih h3 h4
/-- The order by keys of one length. -/
def ltK {α : Type} (key : α → List Int) (a b : α) : Bool := decide (lex (key a) (key b) < 0)
theorem weakK {α : Type} {key : α → List Int} {n : Nat} (h : ∀ a, (key a).length = n) : Srt.Weak (ltK key) := ⟨fun {a b c} h1 h2 => by
  simp only [ltK, decide_eq_false_iff_not] at h1 h2 ⊢
  have := lex_trans (key a) (key b) (key c) (by rw [h, h]) (by rw [h, h]) (by omega) (by omega)
  omega, fun {a b} h1 => by
  simp only [ltK, decide_eq_false_iff_not, decide_eq_true_eq] at h1 ⊢
  have := lex_neg (key a) (key b) (by rw [h, h])
  omega⟩
end Ky
end Go.Proofs.YtgphmbipakdggaaR
