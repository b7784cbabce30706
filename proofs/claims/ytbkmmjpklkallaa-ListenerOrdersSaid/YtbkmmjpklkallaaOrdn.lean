/- Notes in order, and counted. Nothing of the program. -/
import Derived.Test.YtbkmmjpklkallaaPlain
import Derived.Test.YtbkmmjpklkallaaKey
import Derived.Test.YtbkmmjpklkallaaSym
set_option linter.unusedSimpArgs false
set_option linter.unusedVariables false
namespace Go.Proofs.Ytbkmmjpklkallaa
open Go Go.RowKit Hr

theorem cmpI_1 {a b : Int} (h : b < a) : 1 = Ky.cmpI a b := by rw [Ky.cmpI, if_neg (by omega), if_pos h]
theorem cmpI_m {a b : Int} (h : a < b) : -1 = Ky.cmpI a b := by rw [Ky.cmpI, if_pos h]
theorem cmpI_0 {a b : Int} (h : a = b) : 0 = Ky.cmpI a b := by rw [Ky.cmpI, if_neg (by omega), if_neg (by omega)]
def keyN (x : Note) : List Int := [x.on, x.num, x.part, x.off, x.vel, x.site, x.id]
theorem key_or {a b : Note} : Ky.fst0 [Ky.cmpI a.on b.on, Ky.cmpI a.num b.num, Ky.cmpI a.part b.part, Ky.cmpI a.off b.off, Ky.cmpI a.vel b.vel, Ky.cmpI a.site b.site, Ky.cmpI a.id b.id] = Ky.lex (keyN a) (keyN b) :=
  Ky.lex_fst0 (keyN a) (keyN b)
theorem weakN : Srt.Weak (Ky.ltK keyN) := Ky.weakK (n := 7) fun _ => rfl
theorem bef_end {a b : Note} {k : Nat} (hE : Ky.lex (keyN a) (keyN b) = Ky.lex ((keyN a).drop k) ((keyN b).drop k)) (hk : k < 7) (h : ¬ nth (keyN a) k = nth (keyN b) k) : decide (nth (keyN a) k < nth (keyN b) k) = Ky.ltK keyN a b := by
  rw [Ky.ltK, hE]
  by_cases h1 : nth (keyN a) k < nth (keyN b) k
  · rw [Ky.lex_lt (show k < (keyN a).length from hk) (show k < (keyN b).length from hk) h1, decide_eq_true h1]; rfl
  · rw [Ky.lex_gt (show k < (keyN a).length from hk) (show k < (keyN b).length from hk) (by omega), decide_eq_false h1]; rfl
theorem bef_eq {a b : Note} {k : Nat} (hE : Ky.lex (keyN a) (keyN b) = Ky.lex ((keyN a).drop k) ((keyN b).drop k)) (hk : 7 ≤ k) : false = Ky.ltK keyN a b := by
  rw [Ky.ltK, hE, Ky.lex_end hk]; rfl
def nEq (a b : Note) : Bool := a.on == b.on && (a.off == b.off && (a.num == b.num && (a.vel == b.vel && (a.part == b.part && (a.site == b.site && (a.id == b.id))))))
def cntN (l : List Note) (x : Note) (k : Nat) : Int := ((l.take k).countP fun y => nEq y x : Nat)
theorem cntN_zero {l : List Note} {x : Note} : cntN l x 0 = 0 := rfl
theorem cntN_1 {l : List Note} {x : Note} {k : Nat} (h : k < l.length) (g : nEq (nth l k) x = true) : cntN l x (k + 1) = cntN l x k + 1 := by
  simp [cntN, take_nth h, g]
theorem cntN_0 {l : List Note} {x : Note} {k : Nat} (h : k < l.length) (g : nEq (nth l k) x = false) : cntN l x (k + 1) = cntN l x k := by
  simp [cntN, take_nth h, g]
theorem cntN_bd {l : List Note} {x : Note} {k : Nat} (h : l.length ≤ 1000) : 0 ≤ cntN l x k ∧ cntN l x k ≤ 1000 := by
  have := List.countP_le_length (p := fun y => nEq y x) (l := l.take k)
  rw [List.length_take] at this
  unfold cntN; omega
theorem cntN_perm {a b : List Note} {x : Note} {k : Nat} (h : a.Perm b) (hk : a.length ≤ k) : cntN a x k = cntN b x k := by
  have hl := h.length_eq
  rw [cntN, cntN, List.take_of_length_le hk, List.take_of_length_le (by omega), h.countP_eq]
end Go.Proofs.Ytbkmmjpklkallaa
