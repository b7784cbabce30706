/- The heights of a ground. Nothing of the program. -/
import Derived.Test.YtgphmbipakdggaaRPlc
set_option linter.unusedSimpArgs false
set_option linter.unusedVariables false
namespace Go.Proofs.YtgphmbipakdggaaR
open Go Go.RowKit Hr

def encW (n : Int) : List Value := [.int .u16 n]
def negL (l : List Int) : List Int := l.map fun x => -x
theorem negL_len {l : List Int} : (negL l).length = l.length := by simp [negL]
theorem negL_nth {l : List Int} {i : Nat} : nth (negL l) i = -(nth l i) := by
  by_cases h : i < l.length
  · simp [nth, negL, h]
  · simp [nth, negL, List.getElem?_eq_none (Nat.le_of_not_lt h)]
def gN (la lb : List Int) : Nat := max 1 (min (min la.length lb.length) 12)
def gV (la lb x : List Int) (i : Nat) : Int := if i < la.length ∧ i < lb.length then nth x i % 600 else 0
def gs (la lb x : List Int) (n : Nat) : List Int := (List.range n).map (gV la lb x)
theorem gV_yes {la lb x : List Int} {i : Nat} (h : i < la.length) (h2 : i < lb.length) : gV la lb x i = nth x i % 600 := by rw [gV, if_pos ⟨h, h2⟩]
theorem gV_no {la lb x : List Int} {i : Nat} (h : ¬ (i < la.length ∧ i < lb.length)) : gV la lb x i = 0 := by rw [gV, if_neg h]
theorem gs_succ {la lb x : List Int} {n : Nat} : gs la lb x (n + 1) = gs la lb x n ++ [gV la lb x n] := by simp [gs, List.range_succ]
theorem gs_len {la lb x : List Int} {n : Nat} : (gs la lb x n).length = n := by simp [gs]
theorem gV_bd {la lb x : List Int} {i : Nat} : 0 ≤ gV la lb x i ∧ gV la lb x i ≤ 599 := by
  unfold gV; split <;> omega
theorem gs_bd {la lb x : List Int} {n i : Nat} : 0 ≤ nth (gs la lb x n) i ∧ nth (gs la lb x n) i ≤ 599 := by
  by_cases h : i < n
  · have e : nth (gs la lb x n) i = gV la lb x i := by simp [nth, gs, h]
    rw [e]; exact gV_bd
  · have e : nth (gs la lb x n) i = 0 := by simp [nth, gs, h]
    rw [e]; decide
theorem negL_app {l : List Int} {x : Int} : negL (l ++ [x]) = negL l ++ [-x] := by simp [negL]
/-- A row of n places of which the first i are h's. -/
def mixG (h : List Int) (n i : Nat) : List Int := (List.range n).map fun j => if j < i then nth h j else 0
theorem mixG_len {h : List Int} {n i : Nat} : (mixG h n i).length = n := by simp [mixG]
theorem mixG_at {h : List Int} {n i j : Nat} (hj : j < n) : nth (mixG h n i) j = if j < i then nth h j else 0 := by simp [mixG, nth, hj]
theorem mixG_zero {h : List Int} {n : Nat} {x : Int} (hx : x = 0) : List.replicate n x = mixG h n 0 := by
  refine list_ext_nth (by simp [mixG]) fun i hi => ?_
  have hi' : i < n := by simpa using hi
  rw [mixG_at hi', if_neg (by omega), rep_nth hi', hx]
theorem mixG_step {h : List Int} {n i : Nat} {v : Int} (hi : i < n) (h0 : 0 ≤ nth h i) (hv : v = nth h i) : raiseN (mixG h n i) ((i : Int)).toNat (((i : Int)).toNat + 1) v = mixG h n (i + 1) := by
  rw [Int.toNat_natCast]
  refine list_ext_nth (by rw [raiseN_len, mixG_len, mixG_len]) fun j hj => ?_
  rw [raiseN_len, mixG_len] at hj
  rw [raiseN_at (by rw [mixG_len]; exact hj), mixG_at hj, mixG_at hj]
  by_cases e : j = i
  · subst e
    rw [if_pos ⟨Nat.le_refl _, by omega⟩, if_neg (by omega), if_pos (by omega), hv]; omega
  · rw [if_neg (by omega)]
    by_cases e2 : j < i
    · rw [if_pos e2, if_pos (by omega)]
    · rw [if_neg e2, if_neg (by omega)]
theorem mixG_all {h : List Int} {n i : Nat} (hl : h.length = n) (hi : n ≤ i) : mixG h n i = h := by
  refine list_ext_nth (by rw [mixG_len, hl]) fun j hj => ?_
  rw [mixG_len] at hj
  rw [mixG_at hj, if_pos (by omega)]
theorem bd_of {h : List Int} (hb : ∀ i, 0 ≤ nth h i ∧ nth h i ≤ 599) : Bd h := fun i _ => by have := hb i; omega
theorem mixG_bd {h : List Int} {n i : Nat} (hb : ∀ i, 0 ≤ nth h i ∧ nth h i ≤ 599) : Bd (mixG h n i) := fun j hj => by
  rw [mixG_len] at hj
  rw [mixG_at hj]
  have := hb j
  split <;> omega
/-- A skyline's row as its heights. -/
def sgL (t : Int) (o : List Int) : List Int := o.map fun x => t * x
theorem sgL_len {t : Int} {o : List Int} : (sgL t o).length = o.length := by simp [sgL]
theorem sgL_nth {t : Int} {o : List Int} {i : Nat} : nth (sgL t o) i = t * nth o i := by
  by_cases h : i < o.length
  · simp [nth, sgL, h]
  · simp [nth, sgL, List.getElem?_eq_none (Nat.le_of_not_lt h)]
/-- The edge after k of the places. -/
def edK (t : Int) (o : List Int) (f : Nat) (near : Int) : Nat → Int
  | 0 => t * near
  | k + 1 => max (edK t o f near k) (nth o (f + k) + 16)
theorem edK_next {t : Int} {o : List Int} {f : Nat} {near : Int} {k : Nat} : edK t o f near (k + 1) = max (edK t o f near k) (nth o (f + k) + 16) := rfl
theorem edK_max {t : Int} {o : List Int} {f : Nat} {near : Int} : ∀ m : Nat, edK t o f near (m + 1) = max (t * near) (maxN (fun i => nth o (f + i)) m + 16)
  | 0 => rfl
  | m + 1 => by
    rw [edK_next, edK_max m, maxN]; omega
theorem edK_all {t : Int} {o : List Int} {f l k : Nat} {near : Int} (h : f ≤ l) (hk : k = l + 1 - f) : edK t o f near k = edgeO t o f l near := by
  rw [hk, show l + 1 - f = (l - f) + 1 from by omega, edK_max]; rfl
theorem edK_bd {t : Int} {o : List Int} {f : Nat} {near : Int} (ht : -1048576 ≤ t * near ∧ t * near ≤ 1048576) (h : Bd o) : ∀ {k : Nat}, f + k ≤ o.length → -1048576 ≤ edK t o f near k ∧ edK t o f near k ≤ 1048592
  | 0, _ => ⟨ht.1, by have := ht.2; show t * near ≤ _; omega⟩
  | k + 1, hk => by
    have h1 := edK_bd (near := near) (f := f) ht h (k := k) (by omega)
    have h2 := h (f + k) (by omega)
    rw [edK_next]; omega
theorem setA {o : List Int} {f k : Nat} {v : Int} (hk : f + k < o.length) : ((raiseN o f (f + k) v).map encI).set (f + k) [.int .i64 (1 * max (1 * nth (raiseN o f (f + k) v) (f + k)) v)] = (raiseN o f (f + (k + 1)) v).map encI := by
  rw [raiseN_nth hk, Int.one_mul, Int.one_mul, ← Nat.add_assoc, ← raiseN_step (by omega) hk, List.map_set]; rfl
theorem setB {o : List Int} {f k : Nat} {v : Int} (hk : f + k < o.length) : ((negL (raiseN o f (f + k) v)).map encI).set (f + k) [.int .i64 ((-1) * max ((-1) * nth (negL (raiseN o f (f + k) v)) (f + k)) v)] = (negL (raiseN o f (f + (k + 1)) v)).map encI := by
  have e1 : (-1) * nth (negL (raiseN o f (f + k) v)) (f + k) = nth o (f + k) := by rw [negL_nth, raiseN_nth hk]; omega
  have e2 : (-1) * max (nth o (f + k)) v = -(max (nth o (f + k)) v) := by omega
  rw [e1, e2, ← Nat.add_assoc, ← raiseN_step (by omega) hk, negL, negL, List.map_set, List.map_set]; rfl
theorem plO_ok {t : Int} {o : List Int} {f l : Nat} {near high : Int} (h : ¬ 1048576 < edgeO t o f l near + high) : plO t o f l near high = raiseN o f (l + 1) (edgeO t o f l near + high) := if_neg h
theorem plV_ok {t : Int} {o : List Int} {f l : Nat} {near high : Int} (h : ¬ 1048576 < edgeO t o f l near + high) : plV t o f l near high = t * edgeO t o f l near := if_neg h
theorem plEs_zero {xs : List Req} {a b : List Int} : ∀ {n : Nat}, plEs xs a b n = 0 → ∀ i, i < n → plE1 xs a b i = 0
  | n + 1, h, i, hi => by
    have h0 : plEs xs a b n = 0 := by
      rw [plEs] at h
      by_cases e : plEs xs a b n = 0
      · exact e
      · rw [if_neg e] at h; exact absurd h e
    by_cases e : i = n
    · subst e; rw [plEs, if_pos h0] at h; exact h
    · exact plEs_zero h0 i (by omega)
theorem plE_zero {t : Int} {o : List Int} {f l : Nat} {near high : Int} : plE t o f l near high = 0 ↔ ¬ 1048576 < edgeO t o f l near + high := by
  unfold plE; split <;> simp_all
theorem plE_nine {t : Int} {o : List Int} {f l : Nat} {near high : Int} (h : 1048576 < edgeO t o f l near + high) : plE t o f l near high = 9 := if_pos h
theorem sgL_one {o : List Int} : sgL 1 o = o := by simp [sgL]
theorem sgL_neg {o : List Int} : sgL (-1) o = negL o := by
  rw [sgL, negL]; congr 1; funext x; omega
theorem gN_bd {la lb : List Int} : 1 ≤ gN la lb ∧ gN la lb ≤ 12 := by unfold gN; omega
end Go.Proofs.YtgphmbipakdggaaR
