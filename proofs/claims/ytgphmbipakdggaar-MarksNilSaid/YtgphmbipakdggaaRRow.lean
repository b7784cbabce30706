/- Requests on a common line. Nothing of the program. -/
import Derived.Test.YtgphmbipakdggaaRGnd
set_option linter.unusedSimpArgs false
set_option linter.unusedVariables false
namespace Go.Proofs.YtgphmbipakdggaaR
open Go Go.RowKit Hr

/-- The error of a request on a line below. -/
def reqR (n : Int) (x : Req) : Int := if reqE x n ≠ 0 then reqE x n else if x.side ≠ -1 then 11 else 0
def reqsR (n : Int) : List Req → Int
  | [] => 0
  | x :: r => if reqR n x = 0 then reqsR n r else reqR n x
theorem reqsR_step {n : Int} {xs : List Req} {i : Nat} (h : i < xs.length) : reqsR n (xs.drop i) = if reqR n (nth xs i) = 0 then reqsR n (xs.drop (i + 1)) else reqR n (nth xs i) := by
  rw [List.drop_eq_getElem_cons h, reqsR]
  simp [nth, h]
theorem reqsR_ok {n : Int} : ∀ {xs : List Req} {i : Nat}, reqsR n xs = 0 → i < xs.length → reqR n (nth xs i) = 0
  | x :: r, 0, h, hi => by
    rw [reqsR] at h
    split at h
    · simpa [nth] using ‹reqR n x = 0›
    · exact absurd h ‹_›
  | x :: r, i + 1, h, hi => by
    rw [reqsR] at h
    split at h
    · have := reqsR_ok (xs := r) (i := i) h (by simpa using hi)
      simpa [nth] using this
    · exact absurd h ‹_›
theorem reqR_ok {n : Int} {x : Req} (h : reqR n x = 0) : reqE x n = 0 ∧ x.side = -1 := by
  unfold reqR at h
  split at h
  · exact absurd h ‹_›
  · split at h
    · cases h
    · omega
theorem reqR_1 {n : Int} {x : Req} (h : reqE x n ≠ 0) : reqR n x = reqE x n := by rw [reqR, if_pos h]
theorem reqR_2 {n : Int} {x : Req} (h : reqE x n = 0) (hs : x.side ≠ -1) : reqR n x = 11 := by rw [reqR, if_neg (by omega), if_pos hs]
theorem reqR_3 {n : Int} {x : Req} (h : reqE x n = 0) (hs : x.side = -1) : reqR n x = 0 := by rw [reqR, if_neg (by omega), if_neg (by omega)]
/-- The edge of the line after k requests. -/
def rowEd (xs : List Req) (o : List Int) : Nat → Int
  | 0 => 2097152
  | k + 1 => min (rowEd xs o k) (min (nth xs k).near (-(maxR o (nth xs k).fst.toNat (nth xs k).lst.toNat) - 16))
theorem rowEd_next {xs : List Req} {o : List Int} {k : Nat} : rowEd xs o (k + 1) = min (rowEd xs o k) (min (nth xs k).near (-(maxR o (nth xs k).fst.toNat (nth xs k).lst.toNat) - 16)) := rfl
theorem rowEd_bd {xs : List Req} {o : List Int} (h : reqsR o.length xs = 0) (hb : Bd o) : ∀ {k : Nat}, k ≤ xs.length → -1048592 ≤ rowEd xs o k ∧ rowEd xs o k ≤ 2097152 ∧ (0 < k → rowEd xs o k ≤ 1048576)
  | 0, _ => by refine ⟨?_, ?_, fun h => absurd h (by decide)⟩ <;> rw [rowEd] <;> decide
  | k + 1, hk => by
    have h1 := rowEd_bd h hb (k := k) (by omega)
    have hq := reqE_ok (reqR_ok (reqsR_ok h (show k < xs.length by omega))).1
    have hm := maxR_bd hb (show (nth xs k).fst.toNat ≤ (nth xs k).lst.toNat by omega) (by omega)
    rw [rowEd_next]; omega
/-- The edge after k places of a request, from e on, as the reference counts it. -/
def edR (o : List Int) (e : Int) (f : Nat) : Nat → Int
  | 0 => e
  | k + 1 => min (edR o e f k) (-(nth o (f + k)) - 16)
theorem edR_next {o : List Int} {e : Int} {f k : Nat} : edR o e f (k + 1) = min (edR o e f k) (-(nth o (f + k)) - 16) := rfl
theorem edR_max {o : List Int} {e : Int} {f : Nat} : ∀ m : Nat, edR o e f (m + 1) = min e (-(maxN (fun i => nth o (f + i)) m) - 16)
  | 0 => rfl
  | m + 1 => by rw [edR_next, edR_max m, maxN]; omega
theorem edR_all {xs : List Req} {o : List Int} {i k : Nat} (h : (nth xs i).fst.toNat ≤ (nth xs i).lst.toNat) (hk : k = (nth xs i).lst.toNat + 1 - (nth xs i).fst.toNat) : edR o (min (rowEd xs o i) (nth xs i).near) (nth xs i).fst.toNat k = rowEd xs o (i + 1) := by
  rw [hk, show (nth xs i).lst.toNat + 1 - (nth xs i).fst.toNat = ((nth xs i).lst.toNat - (nth xs i).fst.toNat) + 1 from by omega, edR_max, rowEd_next, maxR]; omega
theorem edR_bd {o : List Int} {e : Int} {f : Nat} (he : -1048592 ≤ e ∧ e ≤ 2097152) (h : Bd o) : ∀ {k : Nat}, f + k ≤ o.length → -1048592 ≤ edR o e f k ∧ edR o e f k ≤ 2097152
  | 0, _ => he
  | k + 1, hk => by
    have h1 := edR_bd (f := f) he h (k := k) (by omega)
    have h2 := h (f + k) (by omega)
    rw [edR_next]; omega
/-- The row, the marks and the error after i requests on a line at e. -/
def rw_ (xs : List Req) (o : List Int) (e : Int) : Nat → List Int
  | 0 => o
  | i + 1 => raiseN (rw_ xs o e i) (nth xs i).fst.toNat ((nth xs i).lst.toNat + 1) (-(e - (nth xs i).hgt))
theorem rw_next {xs : List Req} {o : List Int} {e : Int} {i : Nat} : rw_ xs o e (i + 1) = raiseN (rw_ xs o e i) (nth xs i).fst.toNat ((nth xs i).lst.toNat + 1) (-(e - (nth xs i).hgt)) := rfl
theorem rw_len {xs : List Req} {o : List Int} {e : Int} : ∀ {i : Nat}, (rw_ xs o e i).length = o.length
  | 0 => rfl
  | i + 1 => by rw [rw_next, raiseN_len]; exact rw_len
def rwM (xs : List Req) (e : Int) (i : Nat) : List Mk := (List.range i).map fun k => mkV (nth xs k) e
theorem rwM_len {xs : List Req} {e : Int} {i : Nat} : (rwM xs e i).length = i := by simp [rwM]
theorem rwM_next {xs : List Req} {e : Int} {i : Nat} : rwM xs e (i + 1) = rwM xs e i ++ [mkV (nth xs i) e] := by simp [rwM, List.range_succ]
def rwE (xs : List Req) (e : Int) : Nat → Int
  | 0 => 0
  | i + 1 => if rwE xs e i = 0 then (if e - (nth xs i).hgt < -1048576 then 2 else 0) else rwE xs e i
theorem rwE_next {xs : List Req} {e : Int} {i : Nat} (h : rwE xs e i = 0) (h1 : ¬ e - (nth xs i).hgt < -1048576) : rwE xs e (i + 1) = 0 := by rw [rwE, if_pos h, if_neg h1]
theorem rwE_stay {xs : List Req} {e : Int} {i : Nat} (h : rwE xs e i = 0) (h1 : e - (nth xs i).hgt < -1048576) : ∀ {n : Nat}, i < n → rwE xs e n = 2
  | n + 1, hn => by
    by_cases e' : n = i
    · rw [e', rwE, if_pos h, if_pos h1]
    · have := rwE_stay h h1 (n := n) (by omega)
      rw [rwE, if_neg (by rw [this]; decide), this]
theorem rwE_zero {xs : List Req} {e : Int} : ∀ {n : Nat}, rwE xs e n = 0 → ∀ i, i < n → ¬ e - (nth xs i).hgt < -1048576
  | n + 1, h, i, hi => by
    have h0 : rwE xs e n = 0 := by
      rw [rwE] at h
      by_cases e' : rwE xs e n = 0
      · exact e'
      · rw [if_neg e'] at h; exact absurd h e'
    by_cases e' : i = n
    · subst e'
      rw [rwE, if_pos h0] at h
      split at h
      · cases h
      · assumption
    · exact rwE_zero h0 i (by omega)
/-- What PlaceRow answers. -/
def rEd (xs : List Req) (o : List Int) : Int := rowEd xs o xs.length
def rowE (xs : List Req) (o : List Int) : Int := if reqsR o.length xs = 0 then rwE xs (rEd xs o) xs.length else reqsR o.length xs
def rowO (xs : List Req) (o : List Int) : List Int := if rowE xs o = 0 then rw_ xs o (rEd xs o) xs.length else o
def rowM (xs : List Req) (o : List Int) : List Mk := if rowE xs o = 0 then rwM xs (rEd xs o) xs.length else []
theorem row_err {xs : List Req} {o : List Int} (h : rowE xs o ≠ 0) : rowO xs o = o ∧ rowM xs o = [] := by
  simp only [rowO, rowM, h, if_false, and_self]
theorem row_ok {xs : List Req} {o : List Int} (h : rowE xs o = 0) : rowO xs o = rw_ xs o (rEd xs o) xs.length ∧ rowM xs o = rwM xs (rEd xs o) xs.length := by
  simp only [rowO, rowM, h, if_true, and_self]
theorem rowE_1 {xs : List Req} {o : List Int} (h : reqsR o.length xs ≠ 0) : rowE xs o = reqsR o.length xs := by rw [rowE, if_neg h]
theorem rowE_2 {xs : List Req} {o : List Int} (h : reqsR o.length xs = 0) : rowE xs o = rwE xs (rEd xs o) xs.length := by rw [rowE, if_pos h]
theorem row_len {xs : List Req} {o : List Int} : (rowO xs o).length = o.length := by
  by_cases h : rowE xs o = 0
  · rw [(row_ok h).1]; exact rw_len
  · rw [(row_err h).1]
theorem rw_bd {xs : List Req} {o : List Int} {e : Int} (hb : Bd o) : ∀ {i : Nat}, (∀ k, k < i → ¬ e - (nth xs k).hgt < -1048576) → Bd (rw_ xs o e i)
  | 0, _ => hb
  | i + 1, h => by
    have h1 := rw_bd (xs := xs) (e := e) hb (i := i) fun k hk => h k (by omega)
    have h2 := h i (by omega)
    rw [rw_next]; exact raiseN_bd h1 (by omega)
theorem row_bd {xs : List Req} {o : List Int} (hb : Bd o) : Bd (rowO xs o) := by
  by_cases h : rowE xs o = 0
  · rw [(row_ok h).1]
    have h0 : reqsR o.length xs = 0 := by
      by_cases h1 : reqsR o.length xs = 0
      · exact h1
      · rw [rowE_1 h1] at h; exact absurd h h1
    rw [rowE_2 h0] at h
    exact rw_bd hb (rwE_zero h)
  · rw [(row_err h).1]; exact hb
theorem setR {o : List Int} {f k : Nat} {v : Int} (hk : f + k < o.length) : ((negL (raiseN o f (f + k) (-v))).map encI).set (f + k) [.int .i64 (min (nth (negL (raiseN o f (f + k) (-v))) (f + k)) v)] = (negL (raiseN o f (f + (k + 1)) (-v))).map encI := by
  have e1 : min (nth (negL (raiseN o f (f + k) (-v))) (f + k)) v = -(max (nth o (f + k)) (-v)) := by rw [negL_nth, raiseN_nth hk]; omega
  rw [e1, ← Nat.add_assoc, ← raiseN_step (by omega) hk, negL, negL, List.map_set, List.map_set]; rfl
/-- The edge as PlaceRow keeps it. -/
def rowE0 (xs : List Req) (o : List Int) (i : Nat) : Int := if i = 0 then 0 else rowEd xs o i
theorem rowE0_first {xs : List Req} {o : List Int} {i : Nat} (hi : i = 0) (hn : (nth xs i).near ≤ 1048576) : min (nth xs i).near ((-1) * maxR o (nth xs i).fst.toNat (nth xs i).lst.toNat - 16) = rowE0 xs o (i + 1) := by
  subst hi
  rw [rowE0, if_neg (by omega), rowEd_next, rowEd]; omega
theorem rowE0_less {xs : List Req} {o : List Int} {i : Nat} (hi : i ≠ 0) (h : min (nth xs i).near ((-1) * maxR o (nth xs i).fst.toNat (nth xs i).lst.toNat - 16) < rowE0 xs o i) : min (nth xs i).near ((-1) * maxR o (nth xs i).fst.toNat (nth xs i).lst.toNat - 16) = rowE0 xs o (i + 1) := by
  rw [rowE0, if_neg hi] at h
  rw [rowE0, if_neg (by omega), rowEd_next]; omega
theorem rowE0_keep {xs : List Req} {o : List Int} {i : Nat} (hi : i ≠ 0) (h : ¬ min (nth xs i).near ((-1) * maxR o (nth xs i).fst.toNat (nth xs i).lst.toNat - 16) < rowE0 xs o i) : rowE0 xs o i = rowE0 xs o (i + 1) := by
  rw [rowE0, if_neg hi] at h
  rw [rowE0, if_neg hi, rowE0, if_neg (by omega), rowEd_next]; omega
theorem row_same {xs : List Req} {o : List Int} : rw_ xs o (rowE0 xs o xs.length) xs.length = rw_ xs o (rEd xs o) xs.length ∧ rwM xs (rowE0 xs o xs.length) xs.length = rwM xs (rEd xs o) xs.length ∧ rwE xs (rowE0 xs o xs.length) xs.length = rwE xs (rEd xs o) xs.length := by
  by_cases h : xs.length = 0
  · rw [h]; exact ⟨rfl, rfl, rfl⟩
  · rw [rEd, rowE0, if_neg h]; exact ⟨rfl, rfl, rfl⟩
theorem rowE0_bd {xs : List Req} {o : List Int} (h : reqsR o.length xs = 0) (hb : Bd o) : -1048592 ≤ rowE0 xs o xs.length ∧ rowE0 xs o xs.length ≤ 1048576 := by
  unfold rowE0; split
  · decide
  · have := rowEd_bd h hb (Nat.le_refl xs.length); omega
end Go.Proofs.YtgphmbipakdggaaR
