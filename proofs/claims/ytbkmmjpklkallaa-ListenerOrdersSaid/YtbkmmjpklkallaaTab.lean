/- The least cost of aligning two lists, the alignment itself, and the table of least costs as it lies in memory. Nothing of the program. -/
import Derived.Test.YtbkmmjpklkallaaPlain
set_option linter.unusedSimpArgs false
set_option linter.unusedVariables false
namespace Go.Proofs.Ytbkmmjpklkallaa
open Go Go.RowKit Hr

def joinV (c : Cost) (a b : Note) : Int := c.time * min c.late (max (a.on - b.on) (b.on - a.on)) / 1000 + (if a.num = b.num then 0 else c.wrong)
def kindV (a b : Note) : Int := if a.num = b.num then 1 else 2

/-- The least cost of aligning two lists. -/
def best (c : Cost) : List Note → List Note → Int
  | [], b => (b.length : Int) * c.extra
  | x :: a, [] => ((x :: a).length : Int) * c.missing
  | x :: a, y :: b => min (min (joinV c x y + best c a b) (c.missing + best c a (y :: b))) (c.extra + best c (x :: a) b)
termination_by a b => a.length + b.length

/-- The alignment that is preferred among those with the least cost. -/
def path (c : Cost) : List Note → List Note → Nat → Nat → List Pair
  | [], [], _, _ => []
  | [], _ :: b, i, k => ⟨4, -1, k⟩ :: path c [] b i (k + 1)
  | _ :: a, [], i, k => ⟨3, i, -1⟩ :: path c a [] (i + 1) k
  | x :: a, y :: b, i, k =>
    if best c (x :: a) (y :: b) = joinV c x y + best c a b then ⟨kindV x y, i, k⟩ :: path c a b (i + 1) (k + 1)
    else if best c (x :: a) (y :: b) = c.missing + best c a (y :: b) then ⟨3, i, -1⟩ :: path c a (y :: b) (i + 1) k
    else ⟨4, -1, k⟩ :: path c (x :: a) b i (k + 1)
termination_by a b => a.length + b.length

structure CostOk (c : Cost) : Prop where
  w : 0 ≤ c.wrong ∧ c.wrong ≤ 1000000
  m : 0 ≤ c.missing ∧ c.missing ≤ 1000000
  e : 0 ≤ c.extra ∧ c.extra ≤ 1000000
  t : 0 ≤ c.time ∧ c.time ≤ 1000000
  l : 0 ≤ c.late ∧ c.late ≤ 1000000
def NoteOk (p : Note) : Prop := 0 ≤ p.on ∧ p.on ≤ 1125899906842624

theorem mul_bd {x y : Int} (hx : 0 ≤ x ∧ x ≤ 1000000) (hy : 0 ≤ y ∧ y ≤ 1000000) : 0 ≤ x * y ∧ x * y ≤ 1000000000000 := by
  refine ⟨Int.mul_nonneg hx.1 hy.1, ?_⟩
  have h1 : x * y ≤ 1000000 * y := Int.mul_le_mul_of_nonneg_right hx.2 hy.1
  omega
theorem mul_len {n : Nat} {y : Int} (hn : n ≤ 2048) (hy : 0 ≤ y ∧ y ≤ 1000000) : 0 ≤ (n : Int) * y ∧ (n : Int) * y ≤ (n : Int) * 1000000 := by
  refine ⟨Int.mul_nonneg (by omega) hy.1, Int.mul_le_mul_of_nonneg_left hy.2 (by omega)⟩
theorem joinV_bd {c : Cost} (hc : CostOk c) (a b : Note) : 0 ≤ joinV c a b ∧ joinV c a b ≤ 1001000000 := by
  have h1 := mul_bd hc.t (y := min c.late (max (a.on - b.on) (b.on - a.on))) (by have := hc.l; omega)
  have h2 := hc.w
  unfold joinV
  split <;> omega
theorem best_nil_right (c : Cost) (x : Note) (a : List Note) : best c (x :: a) [] = c.missing + best c a [] := by
  cases a with
  | nil => simp [best]
  | cons y a => simp only [best, List.length_cons]; rw [Int.natCast_add, Int.add_mul]; omega
theorem best_nil_left (c : Cost) (y : Note) (b : List Note) : best c [] (y :: b) = c.extra + best c [] b := by
  simp only [best, List.length_cons]; rw [Int.natCast_add, Int.add_mul]; omega
theorem best_bd {c : Cost} (hc : CostOk c) : ∀ (a b : List Note), 0 ≤ best c a b ∧ best c a b ≤ ((a.length + b.length : Nat) : Int) * 1000000
  | [], b => by
    induction b with
    | nil => simp [best]
    | cons y b ih => rw [best_nil_left]; simp only [List.length_cons, List.length_nil] at *; have := hc.e; omega
  | x :: a, [] => by
    rw [best_nil_right]
    have ih := best_bd hc a []
    simp only [List.length_cons, List.length_nil] at *; have := hc.m; omega
  | x :: a, y :: b => by
    have h1 := best_bd hc a b
    have h2 := best_bd hc a (y :: b)
    have h3 := best_bd hc (x :: a) b
    have hj := joinV_bd hc x y
    have := hc.m; have := hc.e
    rw [best]
    simp only [List.length_cons] at *
    omega
termination_by a b => a.length + b.length

/-- One row of the table: the least costs from place k of the second list on. -/
def rowV (c : Cost) (a b : List Note) : List Int := (List.range (b.length + 1)).map fun k => best c a (b.drop k)
theorem rowV_get {c : Cost} {a b : List Note} {k : Nat} (h : k ≤ b.length) : ((rowV c a b).map encI)[k]? = some [.int .i64 (best c a (b.drop k))] := by
  simp [rowV, encI, show k < b.length + 1 from by omega]
/-- A row of which the last s numbers are there. -/
def rowPart (c : Cost) (a b : List Note) (s : Nat) : List Int := (List.range (b.length + 1)).map fun k => if b.length + 1 ≤ k + s then best c a (b.drop k) else 0
theorem rowPart_zero (c : Cost) (a b : List Note) : (rowPart c a b 0).map encI = List.replicate (b.length + 1) [.int .i64 0] := by
  apply List.ext_getElem?
  intro k
  by_cases h : k < b.length + 1
  · have : ¬ b.length + 1 ≤ k := by omega
    simp [rowPart, encI, h, this]
  · simp [rowPart, h]
theorem rowPart_all (c : Cost) (a b : List Note) : rowPart c a b (b.length + 1) = rowV c a b := by simp [rowPart, rowV]
theorem rowPart_get {c : Cost} {a b : List Note} {s k : Nat} (h : k ≤ b.length) (hs : b.length + 1 ≤ k + s) : ((rowPart c a b s).map encI)[k]? = some [.int .i64 (best c a (b.drop k))] := by
  simp [rowPart, encI, show k < b.length + 1 from by omega, hs]
theorem rowPart_set {c : Cost} {a b : List Note} {s k : Nat} {v : Int} (h : k ≤ b.length) (hs : k + s = b.length) (hv : v = best c a (b.drop k)) : ((rowPart c a b s).map encI).set k [.int .i64 v] = (rowPart c a b (s + 1)).map encI := by
  apply List.ext_getElem?
  intro j
  rw [List.getElem?_set]
  by_cases hj : k = j
  · subst hj
    rw [if_pos rfl, rowPart_get h (by omega), if_pos (by simp [rowPart]; omega), hv]
  · rw [if_neg hj]
    by_cases hjb : j < b.length + 1
    · have e : (b.length ≤ j + s) = (b.length + 1 ≤ j + s) := by rw [eq_iff_iff]; omega
      have e2 : (b.length + 1 ≤ j + (s + 1)) = (b.length + 1 ≤ j + s) := by rw [eq_iff_iff]; omega
      simp only [rowPart, List.getElem?_map, List.getElem?_range hjb, Option.map_some, e2]
    · simp [rowPart, hjb]

/-- A row's slice value. -/
def rowS (m g : Nat) : Value := .slice (some ⟨g, 0, none⟩) (m + 1) (m + 1)
/-- The outer slice: the last rows are there. -/
def outerL (n m : Nat) (gs : List Nat) : List (List Value) := List.replicate (n + 1 - gs.length) [.slice none 0 0] ++ gs.map fun g => [rowS m g]
theorem outerL_nil (n m : Nat) : outerL n m [] = List.replicate (n + 1) [.slice none 0 0] := by simp [outerL]
theorem outerL_set {n m g i : Nat} {gs : List Nat} (h : gs.length + (i + 1) = n + 1) : (outerL n m gs).set i [rowS m g] = outerL n m (g :: gs) := by
  have h1 : n + 1 - gs.length = i + 1 := by omega
  have h2 : n + 1 - (g :: gs).length = i := by simp; omega
  rw [outerL, outerL, h1, h2, List.replicate_succ', List.append_assoc, List.set_append_right _ _ (by simp)]
  simp
theorem outerL_len {n m : Nat} {gs : List Nat} (h : gs.length ≤ n + 1) : (outerL n m gs).length = n + 1 := by simp [outerL]; omega
theorem outerL_get {n m t : Nat} {gs : List Nat} (h : t < gs.length) (hl : gs.length ≤ n + 1) : (outerL n m gs)[n + 1 - gs.length + t]? = some [rowS m (nth gs t)] := by
  rw [outerL, List.getElem?_append_right (by simp)]
  simp [nth, h]
def rowsR (c : Cost) (a b : List Note) : List Nat → List Res
  | [] => []
  | g :: gs => .own 3 1 (some ⟨g, 0, none⟩) (b.length + 1) (b.length + 1) ((rowV c (a.drop (a.length - gs.length)) b).map encI) :: rowsR c a b gs
theorem rowsR_mem {c : Cost} {a b : List Note} : ∀ {gs : List Nat} {t : Nat}, t < gs.length → gs.length ≤ a.length + 1 →
    Res.own 3 1 (some ⟨nth gs t, 0, none⟩) (b.length + 1) (b.length + 1) ((rowV c (a.drop (a.length + 1 - gs.length + t)) b).map encI) ∈ rowsR c a b gs
  | [], t, h, _ => by simp at h
  | g :: gs, 0, h, hl => by
    simp only [List.length_cons] at hl
    simp only [rowsR, List.length_cons, Nat.add_zero]
    rw [show a.length + 1 - (gs.length + 1) = a.length - gs.length from by omega]
    exact List.mem_cons_self
  | g :: gs, t + 1, h, hl => by
    simp only [List.length_cons] at hl h
    have := rowsR_mem (c := c) (a := a) (b := b) (gs := gs) (t := t) (by omega) (by omega)
    rw [show a.length + 1 - (g :: gs).length + (t + 1) = a.length + 1 - gs.length + t from by simp; omega]
    exact List.mem_cons_of_mem _ this
theorem outerL_cur {n m g i : Nat} {gs : List Nat} (h : gs.length + (i + 1) = n + 1) : (outerL n m (g :: gs))[i]? = some [rowS m g] := by
  have := outerL_get (n := n) (m := m) (t := 0) (gs := g :: gs) (by simp) (by simp; omega)
  rw [show n + 1 - (g :: gs).length + 0 = i from by simp; omega] at this
  exact this
theorem outerL_bel {n m g i : Nat} {gs : List Nat} (h : gs.length + (i + 1) = n + 1) (hi : i < n) : (outerL n m (g :: gs))[i + 1]? = some [rowS m (nth gs 0)] := by
  have := outerL_get (n := n) (m := m) (t := 1) (gs := g :: gs) (by simp; omega) (by simp; omega)
  rw [show n + 1 - (g :: gs).length + 1 = i + 1 from by simp; omega] at this
  exact this
theorem rowsR_bel {c : Cost} {a b : List Note} {gs : List Nat} {i : Nat} (h : gs.length + (i + 1) = a.length + 1) (hi : i < a.length) :
    Res.own 3 1 (some ⟨nth gs 0, 0, none⟩) (b.length + 1) (b.length + 1) ((rowV c (a.drop (i + 1)) b).map encI) ∈ rowsR c a b gs := by
  have := rowsR_mem (c := c) (a := a) (b := b) (gs := gs) (t := 0) (by omega) (by omega)
  rw [show a.length + 1 - gs.length + 0 = i + 1 from by omega] at this
  exact this
theorem outerL_all {n m t : Nat} {gs : List Nat} (h : gs.length = n + 1) (ht : t ≤ n) : (outerL n m gs)[t]? = some [rowS m (nth gs t)] := by
  have := outerL_get (n := n) (m := m) (t := t) (gs := gs) (by omega) (by omega)
  rwa [show n + 1 - gs.length + t = t from by omega] at this
theorem rowsR_all {c : Cost} {a b : List Note} {gs : List Nat} {t : Nat} (h : gs.length = a.length + 1) (ht : t ≤ a.length) :
    Res.own 3 1 (some ⟨nth gs t, 0, none⟩) (b.length + 1) (b.length + 1) ((rowV c (a.drop t) b).map encI) ∈ rowsR c a b gs := by
  have := rowsR_mem (c := c) (a := a) (b := b) (gs := gs) (t := t) (by omega) (by omega)
  rwa [show a.length + 1 - gs.length + t = t from by omega] at this
theorem rowsR_into {c : Cost} {a b : List Note} {g i s : Nat} {gs : List Nat} (h : gs.length + (i + 1) = a.length + 1) (hs : s = b.length + 1) :
    ResSub (.sep (.own 3 1 (some ⟨g, 0, none⟩) (b.length + 1) (b.length + 1) ((rowPart c (a.drop i) b s).map encI) :: rowsR c a b gs)) (.sep (rowsR c a b (g :: gs))) := by
  subst hs
  rw [rowPart_all, rowsR, show a.length - gs.length = i from by omega]
  exact .refl
theorem best_rightS {c : Cost} {a b : List Note} {i k : Nat} (hi : a.length ≤ i) (hk : k < b.length) : best c (a.drop i) (b.drop k) = c.extra + best c (a.drop i) (b.drop (k + 1)) := by
  rw [List.drop_eq_nil_of_le hi, drop_nth hk, best_nil_left]
theorem best_end {c : Cost} {a b : List Note} {i k : Nat} (hi : a.length ≤ i) (hk : b.length ≤ k) : best c (a.drop i) (b.drop k) = 0 := by
  rw [List.drop_eq_nil_of_le hi, List.drop_eq_nil_of_le hk]; simp [best]

theorem firstErr_zero {f : Nat → Int} : ∀ {n i : Nat}, firstErr f n i = 0 → ∀ j, j < n → f (i + j) = 0
  | n + 1, i, h, j, hj => by
    simp only [firstErr] at h
    by_cases h0 : f i = 0
    · rw [if_neg (by simp [h0])] at h
      cases j with
      | zero => simpa using h0
      | succ j =>
        have := firstErr_zero h j (by omega)
        rwa [show i + (j + 1) = i + 1 + j from by omega]
    · rw [if_pos h0] at h; exact absurd h h0
theorem inB_iff {n lo hi : Int} : inB n lo hi = true ↔ lo ≤ n ∧ n ≤ hi := by simp [inB]
theorem wrongL_ok {l : List Note} (h : wrongL l = 0) : (∀ p ∈ l, NoteOk p) ∧ l.length ≤ 1024 := by
  unfold wrongL at h
  split at h
  · cases h
  · refine ⟨fun p hp => ?_, by omega⟩
    obtain ⟨j, hj, rfl⟩ := List.getElem_of_mem hp
    have h1 := firstErr_zero h j hj
    rw [Nat.zero_add] at h1
    unfold wrongAt at h1
    split at h1
    · cases h1
    · rename_i hb
      have e : nth l j = l[j] := by simp [nth, hj]
      rw [e] at hb
      have hb' : properB l[j] = true := by simpa using hb
      simp only [properB, Bool.and_eq_true, inB_iff] at hb'
      exact hb'.1.1.1.1
theorem costB_ok {c : Cost} (h : costB c = 0) : CostOk c := by
  have h1 := firstErr_zero h
  have k0 := h1 0 (by omega); have k1 := h1 1 (by omega); have k2 := h1 2 (by omega); have k3 := h1 3 (by omega); have k4 := h1 4 (by omega)
  have key : ∀ n : Int, (if inB n 0 1000000 = true then (0 : Int) else 2) = 0 → 0 ≤ n ∧ n ≤ 1000000 := by
    intro n hn
    split at hn
    · rename_i hb; exact inB_iff.1 hb
    · cases hn
  exact ⟨key _ k0, key _ k1, key _ k2, key _ k3, key _ k4⟩

/-! ### The example of the document -/
def kA : List Note := [⟨0, 1000, 60, 64, 0, 0, 0⟩, ⟨500000, 501000, 62, 64, 0, 0, 0⟩, ⟨1000000, 1001000, 64, 64, 0, 0, 0⟩]
def kB : List Note := [⟨10000, 11000, 60, 64, 0, 0, 0⟩, ⟨1000000, 1001000, 64, 64, 0, 0, 0⟩]
def kC : Cost := ⟨80, 50, 50, 1, 40000⟩
def kP : List Pair := [⟨1, 0, 0⟩, ⟨3, 1, -1⟩, ⟨1, 2, 1⟩]
theorem known_best : best kC kA kB = 60 := by simp [kA, kB, kC, best, joinV]; decide
theorem known_path : path kC kA kB 0 0 = kP := by simp [kA, kB, kC, kP, path, best, joinV, kindV]; rfl

theorem mul_sm {x y : Int} (hx : 0 ≤ x ∧ x ≤ 2048) (hy : 0 ≤ y ∧ y ≤ 1000000) : 0 ≤ x * y ∧ x * y ≤ 2048000000 := by
  refine ⟨Int.mul_nonneg hx.1 hy.1, ?_⟩
  have h1 : x * y ≤ 2048 * y := Int.mul_le_mul_of_nonneg_right hx.2 hy.1
  omega
theorem noteOk_nth {a : List Note} (h : ∀ p ∈ a, NoteOk p) {i : Nat} (hi : i < a.length) : NoteOk (nth a i) := by
  apply h; rw [nth, List.getD_eq_getElem?_getD, List.getElem?_eq_getElem hi]; exact List.getElem_mem hi

theorem path_both {c : Cost} {a b : List Note} {i k : Nat} (hi : i < a.length) (hk : k < b.length) : path c (a.drop i) (b.drop k) i k =
    if best c (a.drop i) (b.drop k) = joinV c (nth a i) (nth b k) + best c (a.drop (i + 1)) (b.drop (k + 1)) then ⟨kindV (nth a i) (nth b k), i, k⟩ :: path c (a.drop (i + 1)) (b.drop (k + 1)) (i + 1) (k + 1)
    else if best c (a.drop i) (b.drop k) = c.missing + best c (a.drop (i + 1)) (b.drop k) then ⟨3, i, -1⟩ :: path c (a.drop (i + 1)) (b.drop k) (i + 1) k
    else ⟨4, -1, k⟩ :: path c (a.drop i) (b.drop (k + 1)) i (k + 1) := by
  rw [drop_nth hi, drop_nth hk, path]
theorem path_left {c : Cost} {a b : List Note} {i k : Nat} (hi : i < a.length) (hk : b.length ≤ k) : path c (a.drop i) (b.drop k) i k = ⟨3, i, -1⟩ :: path c (a.drop (i + 1)) (b.drop k) (i + 1) k := by
  rw [drop_nth hi, List.drop_eq_nil_of_le hk, path]
theorem path_right {c : Cost} {a b : List Note} {i k : Nat} (hi : a.length ≤ i) (hk : k < b.length) : path c (a.drop i) (b.drop k) i k = ⟨4, -1, k⟩ :: path c (a.drop i) (b.drop (k + 1)) i (k + 1) := by
  rw [drop_nth hk, List.drop_eq_nil_of_le hi, path]
theorem path_none {c : Cost} {a b : List Note} {i k : Nat} (hi : a.length ≤ i) (hk : b.length ≤ k) : path c (a.drop i) (b.drop k) i k = [] := by
  rw [List.drop_eq_nil_of_le hk, List.drop_eq_nil_of_le hi, path]
theorem best_both {c : Cost} {a b : List Note} {i k : Nat} (hi : i < a.length) (hk : k < b.length) : best c (a.drop i) (b.drop k) =
    min (min (joinV c (nth a i) (nth b k) + best c (a.drop (i + 1)) (b.drop (k + 1))) (c.missing + best c (a.drop (i + 1)) (b.drop k))) (c.extra + best c (a.drop i) (b.drop (k + 1))) := by
  rw [drop_nth hi, drop_nth hk, best]
theorem best_left {c : Cost} {a b : List Note} {i k : Nat} (hi : i < a.length) (hk : b.length ≤ k) : best c (a.drop i) (b.drop k) = c.missing + best c (a.drop (i + 1)) (b.drop k) := by
  rw [drop_nth hi, List.drop_eq_nil_of_le hk, best_nil_right]
theorem best_right {c : Cost} {a b : List Note} {i k : Nat} (hi : a.length ≤ i) (hk : k ≤ b.length) : best c (a.drop i) (b.drop k) = ((b.length : Int) - k) * c.extra := by
  rw [List.drop_eq_nil_of_le hi, best, List.length_drop]; congr 1; omega
theorem best_down {c : Cost} {a b : List Note} {i k : Nat} (hi : i ≤ a.length) (hk : b.length ≤ k) : best c (a.drop i) (b.drop k) = ((a.length : Int) - i) * c.missing := by
  rw [List.drop_eq_nil_of_le hk]
  have e : ((a.length : Int) - i) = ((a.drop i).length : Int) := by simp; omega
  rw [e]
  cases a.drop i with
  | nil => simp [best]
  | cons x l => rw [best]
theorem best_drop_bd {c : Cost} (hc : CostOk c) {a b : List Note} (ha : a.length ≤ 1024) (hb : b.length ≤ 1024) (i k : Nat) : 0 ≤ best c (a.drop i) (b.drop k) ∧ best c (a.drop i) (b.drop k) ≤ 2048000000 := by
  have := best_bd hc (a.drop i) (b.drop k)
  simp only [List.length_drop] at this
  omega
end Go.Proofs.Ytbkmmjpklkallaa
