/- Points of a cubic curve: plain law. -/
import Derived.Test.YtomhegnaojejnaaPlain
import Derived.Test.YtomhegnaojejnaaFilt
set_option linter.unusedSimpArgs false
set_option linter.unusedVariables false
namespace Go.Proofs.Ytomhegnaojejnaa
open Go Go.RowKit Hr

structure Pt where
  x : Int
  y : Int
instance : Inhabited Pt := ⟨⟨0, 0⟩⟩
def Pt.enc (p : Pt) : List Value := [.int .i64 p.x, .int .i64 p.y]
def okP (p : Pt) : Prop := (-33554432 ≤ p.x ∧ p.x ≤ 33554432) ∧ (-33554432 ≤ p.y ∧ p.y ≤ 33554432)
def outL (L z : Int) : Bool := decide (z < -L) || decide (z > L)
theorem okP_any {p : Pt} : [p.x, p.y].any (outL 33554432) = false ↔ okP p := by
  simp only [List.any_cons, List.any_nil, Bool.or_false, outL, okP, Bool.or_eq_false_iff, decide_eq_false_iff_not]
  omega
theorem idx_any {α : Type} {p : α → Bool} : ∀ l : List α, decide (Flt.idxV p l ≥ 0) = l.any p := by
  intro l
  have h : ∀ l : List α, decide (Flt.fidx p l < l.length) = l.any p := by
    intro l
    induction l with
    | nil => rfl
    | cons a r ih =>
      rw [Flt.fidx, List.any_cons]
      by_cases ha : p a = true
      · rw [if_pos ha, ha]; simp
      · rw [if_neg ha, ← ih, show p a = false from by simpa using ha]; simp
  rw [← h l, Flt.idxV]
  by_cases h1 : Flt.fidx p l < l.length
  · rw [if_pos h1, decide_eq_true h1]; exact decide_eq_true (by omega)
  · rw [if_neg h1, decide_eq_false h1]; rfl
theorem mulb {a b A B : Int} (ha : 0 ≤ a ∧ a ≤ A) (hb : 0 ≤ b ∧ b ≤ B) : 0 ≤ a * b ∧ a * b ≤ A * B :=
  ⟨Int.mul_nonneg ha.1 hb.1, Int.mul_le_mul ha.2 hb.2 hb.1 (Int.le_trans ha.1 ha.2)⟩
theorem mulS {a b A B : Int} (ha : 0 ≤ a ∧ a ≤ A) (hb : -B ≤ b ∧ b ≤ B) : -(A * B) ≤ a * b ∧ a * b ≤ A * B := by
  have hB : 0 ≤ B := by omega
  have h1 : a * b ≤ a * B := Int.mul_le_mul_of_nonneg_left hb.2 ha.1
  have h2 : a * (-B) ≤ a * b := Int.mul_le_mul_of_nonneg_left hb.1 ha.1
  have h3 : a * B ≤ A * B := Int.mul_le_mul_of_nonneg_right ha.2 hB
  rw [Int.mul_neg] at h2
  omega
theorem mulT {a b A B : Int} (hb : -B ≤ b ∧ b ≤ B) (ha : 0 ≤ a ∧ a ≤ A) : -(B * A) ≤ b * a ∧ b * a ≤ B * A := by
  rw [Int.mul_comm b a, Int.mul_comm B A]; exact mulS ha hb
def wts (r k : Int) : List Int := [r * r * r, 3 * r * r * k, 3 * r * k * k, k * k * k]
def sumX (c : List Pt) (w : List Int) : Nat → Int
  | 0 => 0
  | j + 1 => sumX c w j + nth w j * (nth c j).x
def sumY (c : List Pt) (w : List Int) : Nat → Int
  | 0 => 0
  | j + 1 => sumY c w j + nth w j * (nth c j).y
def smpP (c : List Pt) (n k : Nat) : Pt := ⟨sumX c (wts ((n : Int) - k) k) 4 / ((n : Int) * n * n), sumY c (wts ((n : Int) - k) k) 4 / ((n : Int) * n * n)⟩
def smps (c : List Pt) (n m : Nat) : List Pt := (List.range m).map (smpP c n)
theorem smps_len {c : List Pt} {n m : Nat} : (smps c n m).length = m := by simp [smps]
theorem smps_succ {c : List Pt} {n m : Nat} : smps c n (m + 1) = smps c n m ++ [smpP c n m] := by simp [smps, List.range_succ]
theorem smps_nth {c : List Pt} {n m k : Nat} (h : k < m) : nth (smps c n m) k = smpP c n k := by
  have h2 : (smps c n m)[k]? = some (smpP c n k) := by simp [smps, h]
  simp [nth, h2]
theorem ge4 {a : List Value} {k : Nat} (h : ¬ k < 4) : 4 ≤ k := by omega
theorem ext4 {c0 c1 c2 c3 : Pt} {k : Nat} (h : k < 4) : (#[.int .i64 c0.x, .int .i64 c0.y, .int .i64 c1.x, .int .i64 c1.y, .int .i64 c2.x, .int .i64 c2.y, .int .i64 c3.x, .int .i64 c3.y] : Array Value).extract (k * 2) (k * 2 + 2) = #[.int .i64 (nth [c0, c1, c2, c3] k).x, .int .i64 (nth [c0, c1, c2, c3] k).y] := by
  match k, h with
  | 0, _ => rfl
  | 1, _ => rfl
  | 2, _ => rfl
  | 3, _ => rfl
theorem wts_bd {r k : Int} (hr : 0 ≤ r ∧ r ≤ 256) (hk : 0 ≤ k ∧ k ≤ 256) {i : Nat} (h : i < 4) : 0 ≤ nth (wts r k) i ∧ nth (wts r k) i ≤ 50331648 := by
  have e1 := mulb hr hr
  have e2 := mulb e1 hr
  have e3 : 0 ≤ 3 * r ∧ 3 * r ≤ 768 := by omega
  have e4 := mulb (mulb e3 hr) hk
  have e5 := mulb (mulb e3 hk) hk
  have e6 := mulb (mulb hk hk) hk
  match i, h with
  | 0, _ => show 0 ≤ r * r * r ∧ r * r * r ≤ 50331648; omega
  | 1, _ => show 0 ≤ 3 * r * r * k ∧ 3 * r * r * k ≤ 50331648; omega
  | 2, _ => show 0 ≤ 3 * r * k * k ∧ 3 * r * k * k ≤ 50331648; omega
  | 3, _ => show 0 ≤ k * k * k ∧ k * k * k ≤ 50331648; omega
theorem sumX_bd {c : List Pt} {w : List Int} (hw : ∀ i, i < 4 → 0 ≤ nth w i ∧ nth w i ≤ 50331648) (hc : ∀ i, i < 4 → okP (nth c i)) : ∀ {j : Nat}, j ≤ 4 → -((j : Int) * 1688849860263936) ≤ sumX c w j ∧ sumX c w j ≤ (j : Int) * 1688849860263936
  | 0, _ => by simp [sumX]
  | j + 1, h => by
    have h1 := sumX_bd hw hc (j := j) (by omega)
    have h2 := mulS (hw j (by omega)) (hc j (by omega)).1
    rw [sumX]; omega
theorem sumY_bd {c : List Pt} {w : List Int} (hw : ∀ i, i < 4 → 0 ≤ nth w i ∧ nth w i ≤ 50331648) (hc : ∀ i, i < 4 → okP (nth c i)) : ∀ {j : Nat}, j ≤ 4 → -((j : Int) * 1688849860263936) ≤ sumY c w j ∧ sumY c w j ≤ (j : Int) * 1688849860263936
  | 0, _ => by simp [sumY]
  | j + 1, h => by
    have h1 := sumY_bd hw hc (j := j) (by omega)
    have h2 := mulS (hw j (by omega)) (hc j (by omega)).2
    rw [sumY]; omega
theorem flr {a b : Int} (hb : 0 < b) : (if Int.tmod a b < 0 then Int.tdiv a b - 1 else Int.tdiv a b) = a / b := by
  rcases Int.le_total 0 a with h | h
  · rw [if_neg (by have := Int.tmod_nonneg b h; omega), Int.tdiv_eq_ediv_of_nonneg h]
  · have h1 := Int.mul_tdiv_add_tmod a b
    have h2 : -b < Int.tmod a b := by
      have := Int.tmod_lt_of_pos (-a) hb
      rw [Int.neg_tmod] at this; omega
    have h3 : Int.tmod a b ≤ 0 := by
      have := Int.tmod_nonneg b (show (0 : Int) ≤ -a by omega)
      rw [Int.neg_tmod] at this; omega
    split
    · exact ((Int.ediv_emod_unique (a := a) (b := b) (q := Int.tdiv a b - 1) (r := Int.tmod a b + b) hb).2 ⟨by rw [Int.mul_sub]; omega, by omega, by omega⟩).1.symm
    · exact ((Int.ediv_emod_unique (a := a) (b := b) (q := Int.tdiv a b) (r := Int.tmod a b) hb).2 ⟨by omega, by omega, by omega⟩).1.symm
theorem flr2 {a b : Int} (hb : 0 < b) : (Int.tdiv a b * b > a) ↔ Int.tmod a b < 0 := by
  have h1 := Int.mul_tdiv_add_tmod a b
  rw [Int.mul_comm] at h1; omega
theorem tdiv_bd {a b M : Int} (hb : 0 < b) (ha : -M ≤ a ∧ a ≤ M) : (-M ≤ Int.tdiv a b ∧ Int.tdiv a b ≤ M) ∧ (-M ≤ Int.tdiv a b * b ∧ Int.tdiv a b * b ≤ M) := by
  have h1 := Int.mul_tdiv_add_tmod a b
  have key : ∀ q : Int, 0 ≤ q → q ≤ b * q := fun q hq => by
    have := Int.mul_le_mul_of_nonneg_right (show (1 : Int) ≤ b by omega) hq
    rwa [Int.one_mul] at this
  rw [Int.mul_comm (Int.tdiv a b) b]
  rcases Int.le_total 0 a with h | h
  · have h2 := Int.tmod_nonneg b h
    have h3 : 0 ≤ Int.tdiv a b := Int.tdiv_nonneg h (by omega)
    have h4 := key _ h3
    omega
  · have h2 : Int.tmod a b ≤ 0 := by
      have := Int.tmod_nonneg b (show (0 : Int) ≤ -a by omega)
      rw [Int.neg_tmod] at this; omega
    have h3 : Int.tdiv a b ≤ 0 := by
      have := Int.tdiv_nonneg (show (0 : Int) ≤ -a by omega) (show 0 ≤ b by omega)
      rw [Int.neg_tdiv] at this; omega
    have h4 := key _ (show 0 ≤ -Int.tdiv a b by omega)
    rw [Int.mul_neg] at h4
    omega
theorem sum4X {c0 c1 c2 c3 : Pt} {r k : Int} : c0.x * r * r * r + 3 * c1.x * r * r * k + 3 * c2.x * r * k * k + c3.x * k * k * k = sumX [c0, c1, c2, c3] (wts r k) 4 := by
  show _ = 0 + r * r * r * c0.x + 3 * r * r * k * c1.x + 3 * r * k * k * c2.x + k * k * k * c3.x
  rw [Int.zero_add]; ac_rfl
theorem sum4Y {c0 c1 c2 c3 : Pt} {r k : Int} : c0.y * r * r * r + 3 * c1.y * r * r * k + 3 * c2.y * r * k * k + c3.y * k * k * k = sumY [c0, c1, c2, c3] (wts r k) 4 := by
  show _ = 0 + r * r * r * c0.y + 3 * r * r * k * c1.y + 3 * r * k * k * c2.y + k * k * k * c3.y
  rw [Int.zero_add]; ac_rfl
def wB (n : Int) (c : List Pt) : Nat → Bool
  | 0 => decide (n < 1 ∨ n > 256)
  | j + 1 => wB n c j || (!decide (-33554432 ≤ (nth c j).x ∧ (nth c j).x ≤ 33554432) || !decide (-33554432 ≤ (nth c j).y ∧ (nth c j).y ≤ 33554432))
theorem wB_1 {n : Int} {c : List Pt} {j : Nat} (h : wB n c j = true) : wB n c (j + 1) = true := by rw [wB, h]; rfl
theorem wB_2 {n : Int} {c : List Pt} {j : Nat} (h : wB n c j = false) (h2 : (!decide (-33554432 ≤ (nth c j).x ∧ (nth c j).x ≤ 33554432)) = true) : wB n c (j + 1) = true := by rw [wB, h, h2]; rfl
theorem wB_3 {n : Int} {c : List Pt} {j : Nat} (h : wB n c j = false) (h2 : (!decide (-33554432 ≤ (nth c j).x ∧ (nth c j).x ≤ 33554432)) = false) : wB n c (j + 1) = !decide (-33554432 ≤ (nth c j).y ∧ (nth c j).y ≤ 33554432) := by rw [wB, h, h2]; rfl
theorem wB_not {n : Int} {c : List Pt} : ∀ {j : Nat}, wB n c j = false → (1 ≤ n ∧ n ≤ 256) ∧ ∀ i, i < j → okP (nth c i)
  | 0, h => by rw [wB, decide_eq_false_iff_not] at h; exact ⟨by omega, fun i hi => absurd hi (by omega)⟩
  | j + 1, h => by
    rw [wB, Bool.or_eq_false_iff, Bool.or_eq_false_iff] at h
    have h1 := wB_not h.1
    refine ⟨h1.1, fun i hi => ?_⟩
    by_cases e : i = j
    · subst e; have h2 := h.2; simp only [Bool.not_eq_false', decide_eq_true_eq] at h2; exact h2
    · exact h1.2 i (by omega)
theorem wB_ok {n : Int} {c : List Pt} (hn : 1 ≤ n ∧ n ≤ 256) : ∀ {j : Nat}, (∀ i, i < j → okP (nth c i)) → wB n c j = false
  | 0, _ => by rw [wB, decide_eq_false_iff_not]; omega
  | j + 1, h => by
    have h2 := h j (by omega)
    rw [wB, wB_ok hn (fun i hi => h i (by omega)), decide_eq_true h2.1, decide_eq_true h2.2]; rfl
end Go.Proofs.Ytomhegnaojejnaa
