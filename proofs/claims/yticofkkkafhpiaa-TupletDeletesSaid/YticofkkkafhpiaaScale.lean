/- What valid tuplets make of a written length. Nothing of the program. -/
import Derived.Test.YticofkkkafhpiaaLaws
set_option linter.unusedSimpArgs false
set_option linter.unusedVariables false
namespace Go.Proofs.Yticofkkkafhpiaa
open Go Go.RowKit Hr

def Val (ts : List Tup) : Prop := ∃ n : Int, n ≤ 128 ∧ Good n ts ts.length
theorem Val.of {ts : List Tup} {n : Int} (h : checkV ts n = 0) : Val ts := ⟨n, (checkV_good h).2.1, (checkV_good h).2.2.2⟩
theorem Val.prop {ts : List Tup} (h : Val ts) {k : Nat} (hk : k < ts.length) : TupOk (nth ts k) ∧ 1 ≤ (nth ts k).actual ∧ (nth ts k).actual ≤ 32 ∧ 1 ≤ (nth ts k).normal ∧ (nth ts k).normal ≤ 32 := by
  obtain ⟨n, hn, hg⟩ := h
  have hp := (errT_zero (hg k hk)).1
  refine ⟨propT_ok hp hn, ?_⟩
  unfold propT at hp; omega
/-- How many of the first k tuplets hold event e. -/
def cnI (ts : List Tup) (e : Int) (k : Nat) : Nat := ((ts.take k).filter fun u => inB u e).length
theorem cnI_in {ts : List Tup} {e : Int} {k : Nat} (hk : k < ts.length) (h : inB (nth ts k) e = true) : cnI ts e (k + 1) = cnI ts e k + 1 := by
  rw [cnI, take_nth hk, List.filter_append]; simp [cnI, h]
theorem cnI_out {ts : List Tup} {e : Int} {k : Nat} (hk : k < ts.length) (h : inB (nth ts k) e = false) : cnI ts e (k + 1) = cnI ts e k := by
  rw [cnI, take_nth hk, List.filter_append]; simp [cnI, h]
theorem cnI_le {ts : List Tup} (hv : Val ts) (e : Int) : ∀ k, k ≤ ts.length → cnI ts e k ≤ 3
  | 0, _ => by simp [cnI]
  | k + 1, hk => by
    cases h : inB (nth ts k) e with
    | false => rw [cnI_out (by omega) h]; exact cnI_le hv e k (by omega)
    | true =>
      rw [cnI_in (by omega) h]
      obtain ⟨n, hn, hg⟩ := hv
      have hb := (errT_zero (hg k (by omega))).2.2
      have h2 : cnI ts e k ≤ (opnS ts k (nth ts k).first).length := by
        refine filter_len_le fun u _ hu => ?_
        rw [inB_iff] at hu h
        simp; omega
      by_cases h3 : 3 ≤ (opnS ts k (nth ts k).first).length
      · exact absurd (.inl h3) hb
      · omega
/-- The products of the numbers of those of the first k that hold e. -/
def NN (ts : List Tup) (e : Int) : Nat → Nat
  | 0 => 1
  | k + 1 => if inB (nth ts k) e then NN ts e k * (nth ts k).normal.toNat else NN ts e k
def DD (ts : List Tup) (e : Int) : Nat → Nat
  | 0 => 1
  | k + 1 => if inB (nth ts k) e then DD ts e k * (nth ts k).actual.toNat else DD ts e k
theorem prod_bd {ts : List Tup} (hv : Val ts) (e : Int) : ∀ k, k ≤ ts.length → 1 ≤ NN ts e k ∧ NN ts e k ≤ 32 ^ cnI ts e k ∧ 1 ≤ DD ts e k ∧ DD ts e k ≤ 32 ^ cnI ts e k
  | 0, _ => by simp [NN, DD, cnI]
  | k + 1, hk => by
    obtain ⟨h1, h2, h3, h4⟩ := prod_bd hv e k (by omega)
    obtain ⟨_, p1, p2, p3, p4⟩ := hv.prop (show k < ts.length by omega)
    cases h : inB (nth ts k) e with
    | false => rw [cnI_out (by omega) h, NN, DD, if_neg (by simp [h]), if_neg (by simp [h])]; exact ⟨h1, h2, h3, h4⟩
    | true =>
      rw [cnI_in (by omega) h, NN, DD, if_pos h, if_pos h, Nat.pow_succ]
      exact ⟨Nat.mul_pos h1 (by omega), Nat.mul_le_mul h2 (by omega), Nat.mul_pos h3 (by omega), Nat.mul_le_mul h4 (by omega)⟩
theorem pow3 {k : Nat} (h : k ≤ 3) : 32 ^ k ≤ 32768 := by
  have : 32 ^ k ≤ 32 ^ 3 := Nat.pow_le_pow_right (by omega) h
  exact this
theorem NN_le {ts : List Tup} (hv : Val ts) (e : Int) {k : Nat} (hk : k ≤ ts.length) : 1 ≤ NN ts e k ∧ NN ts e k ≤ 32768 := ⟨(prod_bd hv e k hk).1, Nat.le_trans (prod_bd hv e k hk).2.1 (pow3 (cnI_le hv e k hk))⟩
theorem DD_le {ts : List Tup} (hv : Val ts) (e : Int) {k : Nat} (hk : k ≤ ts.length) : 1 ≤ DD ts e k ∧ DD ts e k ≤ 32768 := ⟨(prod_bd hv e k hk).2.2.1, Nat.le_trans (prod_bd hv e k hk).2.2.2 (pow3 (cnI_le hv e k hk))⟩
theorem NN_in {ts : List Tup} {e : Int} {k : Nat} (h : inB (nth ts k) e = true) (hn : 1 ≤ (nth ts k).normal) : (NN ts e (k + 1) : Int) = NN ts e k * (nth ts k).normal := by
  rw [NN, if_pos h, Int.natCast_mul, Int.toNat_of_nonneg (by omega)]
theorem DD_in {ts : List Tup} {e : Int} {k : Nat} (h : inB (nth ts k) e = true) (hn : 1 ≤ (nth ts k).actual) : (DD ts e (k + 1) : Int) = DD ts e k * (nth ts k).actual := by
  rw [DD, if_pos h, Int.natCast_mul, Int.toNat_of_nonneg (by omega)]
theorem NN_out {ts : List Tup} {e : Int} {k : Nat} (h : inB (nth ts k) e = false) : NN ts e (k + 1) = NN ts e k := by rw [NN, if_neg (by simp [h])]
theorem DD_out {ts : List Tup} {e : Int} {k : Nat} (h : inB (nth ts k) e = false) : DD ts e (k + 1) = DD ts e k := by rw [DD, if_neg (by simp [h])]

/-- The same, in lowest terms all along. -/
def prodR (ts : List Tup) (e : Int) : Nat → Nat × Nat
  | 0 => (1, 1)
  | k + 1 => if inB (nth ts k) e then
      let a := (prodR ts e k).1 * (nth ts k).normal.toNat
      let b := (prodR ts e k).2 * (nth ts k).actual.toNat
      (a / Nat.gcd a b, b / Nat.gcd a b) else prodR ts e k
theorem prodR_out {ts : List Tup} {e : Int} {k : Nat} (h : inB (nth ts k) e = false) : prodR ts e (k + 1) = prodR ts e k := by rw [prodR, if_neg (by simp [h])]
theorem prodR_in {ts : List Tup} {e : Int} {k : Nat} (h : inB (nth ts k) e = true) : prodR ts e (k + 1) =
    ((prodR ts e k).1 * (nth ts k).normal.toNat / Nat.gcd ((prodR ts e k).1 * (nth ts k).normal.toNat) ((prodR ts e k).2 * (nth ts k).actual.toNat),
     (prodR ts e k).2 * (nth ts k).actual.toNat / Nat.gcd ((prodR ts e k).1 * (nth ts k).normal.toNat) ((prodR ts e k).2 * (nth ts k).actual.toNat)) := by rw [prodR, if_pos h]
theorem prodR_red {ts : List Tup} (hv : Val ts) (e : Int) : ∀ k, k ≤ ts.length → ∃ g, 1 ≤ g ∧ NN ts e k = g * (prodR ts e k).1 ∧ DD ts e k = g * (prodR ts e k).2 ∧ Nat.gcd (prodR ts e k).1 (prodR ts e k).2 = 1
  | 0, _ => ⟨1, by omega, rfl, rfl, by simp [prodR]⟩
  | k + 1, hk => by
    obtain ⟨g, h1, h2, h3, h4⟩ := prodR_red hv e k (by omega)
    cases h : inB (nth ts k) e with
    | false => rw [NN_out h, DD_out h, prodR_out h]; exact ⟨g, h1, h2, h3, h4⟩
    | true =>
      have b1 := (NN_le hv e (show k + 1 ≤ ts.length from hk)).1
      have b2 := (DD_le hv e (show k + 1 ≤ ts.length from hk)).1
      rw [NN, if_pos h, h2] at b1
      rw [DD, if_pos h, h3] at b2
      rw [prodR_in h, NN, if_pos h, DD, if_pos h, h2, h3]
      generalize hA : (prodR ts e k).1 * (nth ts k).normal.toNat = a
      generalize hB : (prodR ts e k).2 * (nth ts k).actual.toNat = b
      rw [Nat.mul_assoc, hA] at b1
      have ha : 0 < a := by
        rcases Nat.eq_zero_or_pos a with h0 | h0
        · rw [h0] at b1; omega
        · exact h0
      have hd : 0 < Nat.gcd a b := Nat.gcd_pos_of_pos_left b ha
      refine ⟨g * Nat.gcd a b, Nat.mul_pos h1 hd, ?_, ?_, ?_⟩
      · rw [Nat.mul_assoc g, hA, Nat.mul_assoc, Nat.mul_div_cancel' (Nat.gcd_dvd_left a b)]
      · rw [Nat.mul_assoc g, hB, Nat.mul_assoc, Nat.mul_div_cancel' (Nat.gcd_dvd_right a b)]
      · exact Nat.gcd_div_gcd_div_gcd_of_pos_left ha
theorem prodR_le {ts : List Tup} (hv : Val ts) (e : Int) {k : Nat} (hk : k ≤ ts.length) : 1 ≤ (prodR ts e k).1 ∧ (prodR ts e k).1 ≤ 32768 ∧ 1 ≤ (prodR ts e k).2 ∧ (prodR ts e k).2 ≤ 32768 := by
  obtain ⟨g, h1, h2, h3, -⟩ := prodR_red hv e k hk
  have n1 := NN_le hv e hk
  have n2 := DD_le hv e hk
  rw [h2] at n1
  rw [h3] at n2
  have key : ∀ p : Nat, 1 ≤ g * p ∧ g * p ≤ 32768 → 1 ≤ p ∧ p ≤ 32768 := by
    intro p hp
    have : p ≤ g * p := Nat.le_mul_of_pos_left p h1
    refine ⟨?_, by omega⟩
    rcases Nat.eq_zero_or_pos p with h0 | h0
    · rw [h0] at hp; omega
    · exact h0
  exact ⟨(key _ n1).1, (key _ n1).2, (key _ n2).1, (key _ n2).2⟩
theorem mulB {p : Nat} {x : Int} (hp : p ≤ 32768) (hx : 1 ≤ x ∧ x ≤ 32) : 0 ≤ (p : Int) * x ∧ (p : Int) * x ≤ 1048576 := by
  refine ⟨Int.mul_nonneg (by omega) (by omega), ?_⟩
  have h1 : (p : Int) * x ≤ 32768 * x := Int.mul_le_mul_of_nonneg_right (by omega) (by omega)
  omega
theorem mulL {x : Int} {p : Nat} (hx : 0 ≤ x ∧ x ≤ 7741440) (hp : p ≤ 32768) : 0 ≤ x * (p : Int) ∧ x * (p : Int) ≤ 253671505920 := by
  refine ⟨Int.mul_nonneg (by omega) (by omega), ?_⟩
  have h1 : x * (p : Int) ≤ 7741440 * (p : Int) := Int.mul_le_mul_of_nonneg_right (by omega) (by omega)
  omega

/-- What the tuplets make of length x at event e; the error. -/
def scaleV (ts : List Tup) (e x : Int) : Int × Int := if x < 0 ∨ 7741440 < x then (0, 2) else if x * NN ts e ts.length % DD ts e ts.length ≠ 0 then (0, 16) else (x * NN ts e ts.length / DD ts e ts.length, 0)
theorem scale_mod {ts : List Tup} (hv : Val ts) (e x : Int) : (x * NN ts e ts.length % DD ts e ts.length = 0 ↔ x * ((prodR ts e ts.length).1 : Int) % ((prodR ts e ts.length).2 : Int) = 0) ∧
    x * NN ts e ts.length / DD ts e ts.length = x * ((prodR ts e ts.length).1 : Int) / ((prodR ts e ts.length).2 : Int) := by
  obtain ⟨g, h1, h2, h3, -⟩ := prodR_red hv e ts.length (Nat.le_refl _)
  rw [h2, h3, Int.natCast_mul, Int.natCast_mul, show x * ((g : Int) * ((prodR ts e ts.length).1 : Int)) = (g : Int) * (x * ((prodR ts e ts.length).1 : Int)) from by rw [← Int.mul_assoc, Int.mul_comm x, Int.mul_assoc]]
  rw [Int.mul_emod_mul_of_pos _ _ (by omega), Int.mul_ediv_mul_of_pos _ _ (by omega)]
  refine ⟨⟨fun h => ?_, fun h => by rw [h]; simp⟩, rfl⟩
  rcases Int.mul_eq_zero.1 h with h | h
  · omega
  · exact h
theorem scaleV_2 {ts : List Tup} {e x : Int} (h : x < 0 ∨ 7741440 < x) : scaleV ts e x = (0, 2) := if_pos h
theorem scaleV_16 {ts : List Tup} {e x : Int} (h : 0 ≤ x ∧ x ≤ 7741440) (hm : x * NN ts e ts.length % DD ts e ts.length ≠ 0) : scaleV ts e x = (0, 16) := by rw [scaleV, if_neg (by omega), if_pos hm]
theorem scaleV_0 {ts : List Tup} {e x : Int} (h : 0 ≤ x ∧ x ≤ 7741440) (hm : x * NN ts e ts.length % DD ts e ts.length = 0) : scaleV ts e x = (x * NN ts e ts.length / DD ts e ts.length, 0) := by rw [scaleV, if_neg (by omega), if_neg (by simp [hm])]
theorem scaleV_bd {ts : List Tup} (hv : Val ts) (e x : Int) : 0 ≤ (scaleV ts e x).1 ∧ (scaleV ts e x).1 ≤ 253671505920 := by
  unfold scaleV
  by_cases h : x < 0 ∨ 7741440 < x
  · rw [if_pos h]; simp
  · rw [if_neg h]
    by_cases h2 : x * NN ts e ts.length % DD ts e ts.length ≠ 0
    · rw [if_pos h2]; simp
    · rw [if_neg h2]
      have h3 := mulL (x := x) (p := NN ts e ts.length) (by omega) (NN_le hv e (Nat.le_refl _)).2
      have h4 := (DD_le hv e (Nat.le_refl ts.length)).1
      dsimp only
      refine ⟨Int.ediv_nonneg h3.1 (by omega), Int.le_trans (Int.ediv_le_self _ h3.1) h3.2⟩
theorem scaleV_cases {ts : List Tup} {e x : Int} : ((scaleV ts e x).2 = 0 ∧ 0 ≤ x ∧ x ≤ 7741440 ∧ x * NN ts e ts.length % DD ts e ts.length = 0) ∨ ((scaleV ts e x).1 = 0 ∧ ((scaleV ts e x).2 = 2 ∨ (scaleV ts e x).2 = 16)) := by
  unfold scaleV
  by_cases h : x < 0 ∨ 7741440 < x
  · rw [if_pos h]; simp
  · rw [if_neg h]
    by_cases h2 : x * NN ts e ts.length % DD ts e ts.length ≠ 0
    · rw [if_pos h2]; simp
    · rw [if_neg h2]; left; exact ⟨rfl, by omega, by omega, Decidable.not_not.1 h2⟩
/-- The lengths that sound, and the error. -/
def lensK (ts : List Tup) (w : List Int) (k : Nat) : List Int := (List.range k).map fun i : Nat => (scaleV ts (i : Int) (nth w i)).1
def lensE (ts : List Tup) (w : List Int) : Int := firstErr (fun i : Nat => (scaleV ts (i : Int) (nth w i)).2) w.length 0
def lenV (ts : List Tup) (w : List Int) : List Int × Int := if checkV ts w.length ≠ 0 then ([], checkV ts w.length) else if lensE ts w ≠ 0 then ([], lensE ts w) else (lensK ts w w.length, 0)
theorem lenV_err {ts : List Tup} {w : List Int} (h : checkV ts w.length ≠ 0) : lenV ts w = ([], checkV ts w.length) := if_pos h
theorem firstErr_at {f : Nat → Int} {n k : Nat} (hk : k < n) (h : ∀ j, j < k → f j = 0) (h0 : f k ≠ 0) : firstErr f n 0 = f k := by
  have key : ∀ i, i ≤ k → firstErr f n 0 = firstErr f (n - i) i := by
    intro i
    induction i with
    | zero => intro _; rfl
    | succ i ih => intro hi; rw [ih (by omega), firstErr_step (by omega) (h i (by omega))]
  rw [key k (Nat.le_refl _), firstErr_hit hk h0]
theorem lenV_at {ts : List Tup} {w : List Int} {k : Nat} (hc : checkV ts w.length = 0) (hk : k < w.length) (h : ∀ j, j < k → (scaleV ts (j : Int) (nth w j)).2 = 0) (h0 : (scaleV ts (k : Int) (nth w k)).2 ≠ 0) : lenV ts w = ([], (scaleV ts (k : Int) (nth w k)).2) := by
  have e : lensE ts w = (scaleV ts (k : Int) (nth w k)).2 := firstErr_at hk h h0
  rw [lenV, if_neg (by simp [hc]), e, if_pos h0]
theorem lenV_ok {ts : List Tup} {w : List Int} (hc : checkV ts w.length = 0) (h : ∀ j, j < w.length → (scaleV ts (j : Int) (nth w j)).2 = 0) : lenV ts w = (lensK ts w w.length, 0) := by
  have e : lensE ts w = 0 := firstErr_of fun j _ hj => h j (by omega)
  rw [lenV, if_neg (by simp [hc]), if_neg (by simp [e])]
theorem lensK_succ (ts : List Tup) (w : List Int) (k : Nat) : lensK ts w (k + 1) = lensK ts w k ++ [(scaleV ts (k : Int) (nth w k)).1] := by simp [lensK, List.range_succ]
theorem lensK_len (ts : List Tup) (w : List Int) (k : Nat) : (lensK ts w k).length = k := by simp [lensK]
theorem lenV_len (ts : List Tup) (w : List Int) : (lenV ts w).1.length ≤ w.length := by
  unfold lenV
  split
  · simp
  · split
    · simp
    · simp [lensK]
theorem lenV_bd {ts : List Tup} {w : List Int} : ∀ x ∈ (lenV ts w).1, 0 ≤ x ∧ x ≤ 253671505920 := by
  intro x hx
  unfold lenV at hx
  by_cases h : checkV ts w.length ≠ 0
  · rw [if_pos h] at hx; simp at hx
  · rw [if_neg h] at hx
    by_cases h2 : lensE ts w ≠ 0
    · rw [if_pos h2] at hx; simp at hx
    · rw [if_neg h2] at hx
      obtain ⟨i, _, rfl⟩ := List.mem_map.1 hx
      exact scaleV_bd (Val.of (Decidable.not_not.1 h)) _ _
theorem upto_succ {P : Nat → Prop} {k : Nat} (h : ∀ j, j < k → P j) (h0 : P k) : ∀ j, j < k + 1 → P j := fun j hj => by
  by_cases e : j = k
  · subst e; exact h0
  · exact h j (by omega)
def sumI : List Int → Int
  | [] => 0
  | x :: l => x + sumI l
theorem sumI_append : ∀ (l l' : List Int), sumI (l ++ l') = sumI l + sumI l'
  | [], l' => by simp [sumI]
  | x :: l, l' => by rw [List.cons_append, sumI, sumI, sumI_append l l']; omega
theorem sumI_take {l : List Int} {k : Nat} (h : k < l.length) : sumI (l.take (k + 1)) = sumI (l.take k) + nth l k := by
  rw [take_nth h, sumI_append]; simp [sumI]
theorem sumI_bd {l : List Int} (hb : ∀ x ∈ l, 0 ≤ x ∧ x ≤ 253671505920) : ∀ k, k ≤ l.length → 0 ≤ sumI (l.take k) ∧ sumI (l.take k) ≤ (k : Int) * 253671505920
  | 0, _ => by simp [sumI]
  | k + 1, h => by
    rw [sumI_take (by omega)]
    have h1 := sumI_bd hb k (by omega)
    have h2 := hb _ (nth_mem (show k < l.length by omega))
    omega
theorem lenV_len2 (ts : List Tup) (w : List Int) : (lenV ts w).1.length ≤ 128 := by
  by_cases h : checkV ts w.length = 0
  · have h1 := lenV_len ts w
    have h2 := checkV_good h
    omega
  · rw [lenV_err h]; simp
def lengthV (ts : List Tup) (e x : Int) : Int × Int := if checkV ts 128 ≠ 0 then (0, checkV ts 128) else if e < 0 ∨ 128 ≤ e then (0, 2) else scaleV ts e x
/-! ### Which tuplet holds which -/
def parK (ts : List Tup) (t : Tup) : Nat → Int
  | 0 => -1
  | j + 1 => if inB (nth ts j) t.first then (j : Int) else parK ts t j
theorem parK_in {ts : List Tup} {t : Tup} {j : Nat} (h : inB (nth ts j) t.first = true) : parK ts t (j + 1) = (j : Int) := by rw [parK, if_pos h]
theorem parK_out {ts : List Tup} {t : Tup} {j : Nat} (h : inB (nth ts j) t.first = false) : parK ts t (j + 1) = parK ts t j := by rw [parK, if_neg (by simp [h])]
theorem parK_bd (ts : List Tup) (t : Tup) : ∀ j, -1 ≤ parK ts t j ∧ parK ts t j < j
  | 0 => by simp [parK]
  | j + 1 => by
    have := parK_bd ts t j
    rw [parK]; split <;> omega
def treeL (ts : List Tup) (k : Nat) : List Int := (List.range k).map fun i : Nat => parK ts (nth ts i) i
theorem treeL_len (ts : List Tup) (k : Nat) : (treeL ts k).length = k := by simp [treeL]
theorem treeL_succ (ts : List Tup) (k : Nat) : treeL ts (k + 1) = treeL ts k ++ [parK ts (nth ts k) k] := by simp [treeL, List.range_succ]
theorem treeL_nth {ts : List Tup} {k i : Nat} (h : i < k) : nth (treeL ts k) i = parK ts (nth ts i) i := by simp [treeL, nth, h]
def treeV (ts : List Tup) (n : Int) : List Int × Int := if checkV ts n ≠ 0 then ([], checkV ts n) else (treeL ts ts.length, 0)
theorem treeV_err {ts : List Tup} {n : Int} (h : checkV ts n ≠ 0) : treeV ts n = ([], checkV ts n) := if_pos h
theorem treeV_ok {ts : List Tup} {n : Int} (h : checkV ts n = 0) : treeV ts n = (treeL ts ts.length, 0) := if_neg (by simp [h])
theorem within_in {ts : List Tup} (hv : Val ts) {i j : Nat} (hi : i < ts.length) (hj : j < i) : withinB (nth ts i) (nth ts j) = inB (nth ts j) (nth ts i).first := by
  obtain ⟨n, hn, hg⟩ := hv
  have h1 := hg.first_le (show j ≤ i by omega) hi
  have hp := (errT_zero (hg i hi)).1
  have hb := (errT_zero (hg i hi)).2.2
  unfold propT at hp
  rw [Bool.eq_iff_iff, withinB_iff, inB_iff]
  constructor
  · rintro ⟨_, h2⟩
    refine ⟨h1, ?_⟩
    unfold tend at h2 ⊢; omega
  · rintro ⟨_, h2⟩
    refine ⟨h1, ?_⟩
    by_cases h3 : tend (nth ts j) < tend (nth ts i)
    · exact absurd (.inr ⟨nth ts j, mem_opnS.2 ⟨nth_mem_take hj (by omega), h2⟩, h3⟩) hb
    · omega
theorem mulN {a b : Nat} (ha : a ≤ 32768) (hb : b ≤ 32768) : (0 : Int) ≤ (a : Int) * (b : Int) ∧ (a : Int) * (b : Int) ≤ 1073741824 := by
  refine ⟨Int.mul_nonneg (by omega) (by omega), ?_⟩
  have h := Nat.mul_le_mul ha hb
  rw [← Int.natCast_mul]
  omega
theorem red_eq {ts : List Tup} (hv : Val ts) (e : Int) : ((prodR ts e ts.length).1 : Int) * (DD ts e ts.length : Int) = ((prodR ts e ts.length).2 : Int) * (NN ts e ts.length : Int) := by
  obtain ⟨g, _, h2, h3, _⟩ := prodR_red hv e ts.length (Nat.le_refl _)
  rw [h2, h3, Int.natCast_mul, Int.natCast_mul, Int.mul_left_comm, Int.mul_left_comm _ (g : Int), Int.mul_comm ((prodR ts e ts.length).1 : Int)]
def kT : List Tup := [⟨0, 5, 3, 2⟩, ⟨1, 3, 3, 2⟩]
def kW : List Int := [241920, 120960, 120960, 120960, 241920]
theorem known_len : lenV kT kW = ([161280, 53760, 53760, 53760, 161280], 0) := by decide
theorem lengthV_c {ts : List Tup} {e x : Int} (h : checkV ts 128 ≠ 0) : lengthV ts e x = (0, checkV ts 128) := if_pos h
theorem lengthV_2 {ts : List Tup} {e x : Int} (hc : checkV ts 128 = 0) (h : e < 0 ∨ 128 ≤ e ∨ x < 0 ∨ 7741440 < x) : lengthV ts e x = (0, 2) := by
  rw [lengthV, if_neg (by simp [hc])]
  by_cases he : e < 0 ∨ 128 ≤ e
  · rw [if_pos he]
  · rw [if_neg he, scaleV_2 (by omega)]
theorem lengthV_s {ts : List Tup} {e x : Int} (hc : checkV ts 128 = 0) (h : 0 ≤ e ∧ e < 128) : lengthV ts e x = scaleV ts e x := by
  rw [lengthV, if_neg (by simp [hc]), if_neg (by omega)]

theorem scaleV_nn {ts : List Tup} {e x : Int} (h : (scaleV ts e x).2 = 0) : 0 ≤ x ∧ x ≤ 7741440 := by
  rcases scaleV_cases (ts := ts) (e := e) (x := x) with ⟨_, h1, h2, _⟩ | ⟨_, h1⟩
  · exact ⟨h1, h2⟩
  · omega
theorem mulM {x m : Int} (hx : 0 ≤ x ∧ x ≤ 253671505920) (hm : 1 ≤ m ∧ m ≤ 16) : 0 ≤ x * m ∧ x * m ≤ 4058744094720 := by
  refine ⟨Int.mul_nonneg hx.1 (by omega), ?_⟩
  have h1 : x * m ≤ 253671505920 * m := Int.mul_le_mul_of_nonneg_right hx.2 (by omega)
  omega
/-! ### Those that hold an event, by themselves -/
theorem nth_pre {l r : List Tup} {j : Nat} (h : j < l.length) : nth (l ++ r) j = nth l j := by
  simp [nth, List.getElem?_append_left h]
theorem nth_last {l : List Tup} {t : Tup} : nth (l ++ [t]) l.length = t := by simp [nth]
theorem badN_pre {l r : List Tup} {j : Nat} (h : j < l.length) : badN (l ++ r) j ↔ badN l j := by
  unfold badN opnS
  rw [nth_pre h, List.take_append_of_le_length (by omega)]
theorem errT_pre {n : Int} {l r : List Tup} {j : Nat} (h : j < l.length) (h0 : errT n l j = 0) : errT n (l ++ r) j = 0 := by
  obtain ⟨p1, p2, p3⟩ := errT_zero h0
  exact errT_of (by rw [nth_pre h]; exact p1) (fun h1 => by rw [nth_pre h, nth_pre (show j - 1 < l.length by omega)]; exact p2 h1) (fun hx => p3 ((badN_pre h).1 hx))
theorem not_aft {n : Int} {ts : List Tup} {i : Nat} (hg : Good n ts i) : ∀ {j k : Nat}, j < k → k < i → ¬ aftT (nth ts k) (nth ts j) := by
  intro j k hjk hk
  induction k with
  | zero => omega
  | succ k ih =>
    have h2 := (errT_zero (hg (k + 1) hk)).2.1 (by omega)
    rw [Nat.add_sub_cancel] at h2
    by_cases e : j = k
    · subst e; exact h2
    · have h1 := ih (by omega) (by omega)
      unfold aftT at h1 h2 ⊢
      omega
def flt (ts : List Tup) (e : Int) (k : Nat) : List Tup := (ts.take k).filter fun u => inB u e
theorem flt_in {ts : List Tup} {e : Int} {k : Nat} (hk : k < ts.length) (h : inB (nth ts k) e = true) : flt ts e (k + 1) = flt ts e k ++ [nth ts k] := by
  rw [flt, take_nth hk, List.filter_append]; simp [flt, h]
theorem flt_out {ts : List Tup} {e : Int} {k : Nat} (hk : k < ts.length) (h : inB (nth ts k) e = false) : flt ts e (k + 1) = flt ts e k := by
  rw [flt, take_nth hk, List.filter_append]; simp [flt, h]
theorem flt_len (ts : List Tup) (e : Int) (k : Nat) : (flt ts e k).length ≤ k := by
  rw [flt]; exact Nat.le_trans (List.length_filter_le _ _) (by simp; omega)
theorem flt_good {n : Int} {ts : List Tup} (hg : Good n ts ts.length) (e : Int) : ∀ k, k ≤ ts.length → Good n (flt ts e k) (flt ts e k).length
  | 0, _ => by simp [flt]; exact Good.zero
  | k + 1, hk => by
    have ih := flt_good hg e k (by omega)
    cases h : inB (nth ts k) e with
    | false => rw [flt_out (by omega) h]; exact ih
    | true =>
      rw [flt_in (by omega) h, List.length_append, List.length_singleton]
      refine Good.succ (fun j hj => errT_pre hj (ih j hj)) ?_
      obtain ⟨p1, p2, p3⟩ := errT_zero (hg k (by omega))
      have mem_of : ∀ u, u ∈ flt ts e k → ∃ j, j < k ∧ u = nth ts j := by
        intro u hu
        obtain ⟨j, hj, _, rfl⟩ := mem_take_nth (List.mem_filter.1 hu).1
        exact ⟨j, hj, rfl⟩
      refine errT_of (by rw [nth_last]; exact p1) (fun h0 => ?_) ?_
      · rw [nth_last, nth_pre (show (flt ts e k).length - 1 < (flt ts e k).length by omega)]
        obtain ⟨j, hj, e1⟩ := mem_of _ (nth_mem (show (flt ts e k).length - 1 < (flt ts e k).length by omega))
        rw [e1]
        exact not_aft hg hj (by omega)
      · unfold badN opnS
        rw [nth_last, List.take_append_of_le_length (Nat.le_refl _), List.take_length]
        intro hb
        apply p3
        have e2 : ((flt ts e k).filter fun u => decide ((nth ts k).first < tend u)).length ≤ (opnS ts k (nth ts k).first).length := by
          unfold flt opnS
          rw [List.filter_filter]
          exact filter_len_le fun u _ hu => by simp at hu; simp [hu]
        rcases hb with hb | ⟨u, hu, hlt⟩
        · exact .inl (Nat.le_trans hb e2)
        · refine .inr ⟨u, ?_, hlt⟩
          rw [List.mem_filter] at hu
          exact mem_opnS.2 ⟨(List.mem_filter.1 hu.1).1, by simpa using hu.2⟩
theorem flt_check {ts : List Tup} (hc : checkV ts 128 = 0) (e : Int) : checkV (flt ts e ts.length) 128 = 0 := by
  obtain ⟨_, _, h3, h4⟩ := checkV_good hc
  have := flt_len ts e ts.length
  exact checkV_of (by omega) (by omega) (by omega) (flt_good h4 e _ (Nat.le_refl _))
theorem NN_pre {l r : List Tup} {e : Int} : ∀ {k : Nat}, k ≤ l.length → NN (l ++ r) e k = NN l e k ∧ DD (l ++ r) e k = DD l e k
  | 0, _ => ⟨rfl, rfl⟩
  | k + 1, h => by
    obtain ⟨h1, h2⟩ := NN_pre (l := l) (r := r) (e := e) (k := k) (by omega)
    rw [NN, DD, NN, DD, nth_pre (by omega), h1, h2]
    exact ⟨rfl, rfl⟩
theorem flt_NN {ts : List Tup} (e : Int) : ∀ k, k ≤ ts.length → NN (flt ts e k) e (flt ts e k).length = NN ts e k ∧ DD (flt ts e k) e (flt ts e k).length = DD ts e k
  | 0, _ => ⟨rfl, rfl⟩
  | k + 1, hk => by
    obtain ⟨h1, h2⟩ := flt_NN (ts := ts) e k (by omega)
    cases h : inB (nth ts k) e with
    | false => rw [flt_out (by omega) h, NN_out h, DD_out h]; exact ⟨h1, h2⟩
    | true =>
      rw [flt_in (by omega) h, List.length_append, List.length_singleton, NN, DD, nth_last, if_pos h, if_pos h, (NN_pre (Nat.le_refl _)).1, (NN_pre (Nat.le_refl _)).2, h1, h2, NN, DD, if_pos h, if_pos h]
      exact ⟨rfl, rfl⟩
theorem flt_length {ts : List Tup} (hc : checkV ts 128 = 0) (e x : Int) (he : 0 ≤ e ∧ e < 128) : lengthV (flt ts e ts.length) e x = lengthV ts e x := by
  rw [lengthV_s hc he, lengthV_s (flt_check hc e) he]
  unfold scaleV
  rw [(flt_NN (ts := ts) e _ (Nat.le_refl _)).1, (flt_NN (ts := ts) e _ (Nat.le_refl _)).2]

/-! ### Lengths multiplied -/
def mulW (ws : List Int) (m : Int) (k : Nat) : List Int := (List.range k).map fun i : Nat => nth ws i * m
theorem mulW_len (ws : List Int) (m : Int) (k : Nat) : (mulW ws m k).length = k := by simp [mulW]
theorem mulW_succ (ws : List Int) (m : Int) (k : Nat) : mulW ws m (k + 1) = mulW ws m k ++ [nth ws k * m] := by simp [mulW, List.range_succ]
theorem mulW_nth {ws : List Int} {m : Int} {k j : Nat} (h : j < k) : nth (mulW ws m k) j = nth ws j * m := by simp [mulW, nth, h]
theorem lenV_zero {ts : List Tup} {ws : List Int} (h : (lenV ts ws).2 = 0) : checkV ts ws.length = 0 ∧ (∀ j, j < ws.length → (scaleV ts (j : Int) (nth ws j)).2 = 0) ∧ lenV ts ws = (lensK ts ws ws.length, 0) := by
  unfold lenV at h
  by_cases h1 : checkV ts ws.length ≠ 0
  · rw [if_pos h1] at h; exact absurd h h1
  rw [if_neg h1] at h
  by_cases h2 : lensE ts ws ≠ 0
  · rw [if_pos h2] at h; exact absurd h h2
  have hc : checkV ts ws.length = 0 := Decidable.not_not.1 h1
  have hz : ∀ j, j < ws.length → (scaleV ts (j : Int) (nth ws j)).2 = 0 := fun j hj => by
    have h3 : lensE ts ws = 0 := Decidable.not_not.1 h2
    have := firstErr_zero h3 j hj
    rwa [Nat.zero_add] at this
  exact ⟨hc, hz, lenV_ok hc hz⟩
theorem scale_mul {ts : List Tup} (hv : Val ts) {e x m : Int} (h : (scaleV ts e x).2 = 0) (hm : 1 ≤ m) (hx : x * m ≤ 7741440) : scaleV ts e (x * m) = ((scaleV ts e x).1 * m, 0) := by
  rcases scaleV_cases (ts := ts) (e := e) (x := x) with ⟨_, h1, h2, h3⟩ | ⟨_, h1⟩
  · have hD := (DD_le hv e (Nat.le_refl ts.length)).1
    have hz := scaleV_0 ⟨h1, h2⟩ h3
    have e1 : x * m * (NN ts e ts.length : Int) = x * (NN ts e ts.length : Int) * m := by rw [Int.mul_assoc, Int.mul_comm m, Int.mul_assoc]
    obtain ⟨q, hq⟩ := Int.dvd_of_emod_eq_zero h3
    have e2 : x * m * (NN ts e ts.length : Int) = (DD ts e ts.length : Int) * (q * m) := by rw [e1, hq, Int.mul_assoc]
    have hx0 : 0 ≤ x * m := Int.mul_nonneg h1 (by omega)
    rw [scaleV_0 ⟨hx0, hx⟩ (by rw [e2]; exact Int.mul_emod_right _ _), hz, e2, hq]
    rw [Int.mul_ediv_cancel_left _ (by omega), Int.mul_ediv_cancel_left _ (by omega)]
  · omega
theorem lens_mul {ts : List Tup} {ws : List Int} {m : Int} (h : (lenV ts ws).2 = 0) (hm : 1 ≤ m) (hx : ∀ j, j < ws.length → nth ws j * m ≤ 7741440) :
    lenV ts (mulW ws m ws.length) = (mulW (lensK ts ws ws.length) m ws.length, 0) := by
  obtain ⟨hc, hz, _⟩ := lenV_zero h
  have hv := Val.of hc
  have hs : ∀ j, j < ws.length → scaleV ts (j : Int) (nth (mulW ws m ws.length) j) = ((scaleV ts (j : Int) (nth ws j)).1 * m, 0) := fun j hj => by
    rw [mulW_nth hj, scale_mul hv (hz j hj) hm (hx j hj)]
  have hl : (mulW ws m ws.length).length = ws.length := mulW_len _ _ _
  rw [lenV_ok (by rw [hl]; exact hc) (fun j hj => by rw [hl] at hj; rw [hs j hj])]
  congr 1
  rw [hl]
  unfold lensK mulW
  apply List.map_congr_left
  intro j hj
  rw [List.mem_range] at hj
  have := hs j hj
  unfold mulW at this
  rw [this]
  simp [nth, hj]
end Go.Proofs.Yticofkkkafhpiaa
