/- Plain facts on alignments: a list with itself, a list with one note left out. Nothing of the program. -/
import Derived.Test.YtbkmmjpklkallaaTab
set_option linter.unusedSimpArgs false
set_option linter.unusedVariables false
namespace Go.Proofs.Ytbkmmjpklkallaa
open Go Go.RowKit Hr

theorem joinV_self {c : Cost} (hc : CostOk c) (x : Note) : joinV c x x = 0 := by
  have h := hc.l
  have e : min c.late (max (x.on - x.on) (x.on - x.on)) = 0 := by omega
  rw [joinV, e, if_pos rfl]; simp
theorem best_self {c : Cost} (hc : CostOk c) : ∀ (a : List Note), best c a a = 0
  | [] => by simp [best]
  | x :: a => by
    have h1 := best_self hc a
    have h2 := (best_bd hc a (x :: a)).1
    have h3 := (best_bd hc (x :: a) a).1
    have hm := hc.m; have he := hc.e
    rw [best, joinV_self hc, h1]
    omega
def selfP (n : Nat) : Nat → List Pair := fun i => (List.range n).map fun j => ⟨1, ((i + j : Nat) : Int), ((i + j : Nat) : Int)⟩
theorem selfP_succ (n i : Nat) : selfP (n + 1) i = ⟨1, (i : Int), (i : Int)⟩ :: selfP n (i + 1) := by
  simp only [selfP, List.range_succ_eq_map, List.map_cons, List.map_map, Nat.add_zero]
  congr 1
  apply List.map_congr_left
  intro j _
  simp [Function.comp, Nat.add_assoc, Nat.add_comm 1 j]
theorem path_self {c : Cost} (hc : CostOk c) : ∀ (a : List Note) (i : Nat), path c a a i i = selfP a.length i
  | [], i => by simp [path, selfP]
  | x :: a, i => by
    rw [path, if_pos (by rw [best_self hc, best_self hc, joinV_self hc]; rfl), path_self hc a (i + 1), List.length_cons, selfP_succ]
    simp [kindV]
theorem selfP_len (n i : Nat) : (selfP n i).length = n := by simp [selfP]
theorem selfP_nth {n k : Nat} (h : k < n) : nth (selfP n 0) k = ⟨1, (k : Int), (k : Int)⟩ := by
  simp [selfP, nth, h]

/-- The list without the note at place i. -/
def rm (a : List Note) (i : Nat) : List Note := a.take i ++ a.drop (i + 1)
theorem rm_zero (x : Note) (a : List Note) : rm (x :: a) 0 = a := by simp [rm]
theorem rm_succ (x : Note) (a : List Note) (i : Nat) : rm (x :: a) (i + 1) = x :: rm a i := by simp [rm]
theorem best_head {c : Cost} (x : Note) (a b : List Note) : best c (x :: a) b ≤ c.missing + best c a b := by
  cases b with
  | nil => rw [best_nil_right]; omega
  | cons y b => rw [best]; omega
theorem best_rm {c : Cost} : ∀ (a b : List Note) (i : Nat), i < a.length → best c a b ≤ best c (rm a i) b + c.missing
  | [], _, _, h => by simp at h
  | x :: a, b, 0, _ => by rw [rm_zero]; have := best_head (c := c) x a b; omega
  | x :: a, [], i + 1, h => by
    simp only [List.length_cons] at h
    have := best_rm (c := c) a [] i (by omega)
    rw [rm_succ, best_nil_right, best_nil_right]; omega
  | x :: a, y :: b, i + 1, h => by
    simp only [List.length_cons] at h
    have h1 := best_rm (c := c) a b i (by omega)
    have h2 := best_rm (c := c) a (y :: b) i (by omega)
    have h3 := best_rm (c := c) (x :: a) b (i + 1) (by simp; omega)
    rw [rm_succ] at h3 ⊢
    rw [best, best]; omega
termination_by a b => a.length + b.length

theorem path_len_le {c : Cost} : ∀ (a b : List Note) (i k : Nat), (path c a b i k).length ≤ a.length + b.length
  | [], [], i, k => by simp [path]
  | [], y :: b, i, k => by rw [path]; have := path_len_le (c := c) [] b i (k + 1); simp at *; omega
  | x :: a, [], i, k => by rw [path]; have := path_len_le (c := c) a [] (i + 1) k; simp at *; omega
  | x :: a, y :: b, i, k => by
    have h1 := path_len_le (c := c) a b (i + 1) (k + 1)
    have h2 := path_len_le (c := c) a (y :: b) (i + 1) k
    have h3 := path_len_le (c := c) (x :: a) b i (k + 1)
    rw [path]
    simp only [List.length_cons] at *
    split
    · simp; omega
    · split <;> simp <;> omega
termination_by a b => a.length + b.length
theorem path_len {c : Cost} {a b : List Note} (ha : a.length ≤ 1024) (hb : b.length ≤ 1024) : (path c a b 0 0).length ≤ 1000000000000 := by
  have := path_len_le (c := c) a b 0 0
  omega
theorem firstNZ3 {x y z : Int} (h : firstNZ [x, y, z] = 0) : x = 0 ∧ y = 0 ∧ z = 0 := by
  simp only [firstNZ] at h
  by_cases h1 : x = 0
  · by_cases h2 : y = 0
    · by_cases h3 : z = 0
      · exact ⟨h1, h2, h3⟩
      · rw [if_neg (by simp [h1]), if_neg (by simp [h2]), if_pos h3] at h; exact absurd h h3
    · rw [if_neg (by simp [h1]), if_pos h2] at h; exact absurd h h2
  · rw [if_pos h1] at h; exact absurd h h1
theorem firstErr_of {f : Nat → Int} : ∀ {n i : Nat}, (∀ j, i ≤ j → j < i + n → f j = 0) → firstErr f n i = 0
  | 0, _, _ => rfl
  | n + 1, i, h => by
    rw [firstErr, if_neg (by simp [h i (by omega) (by omega)])]
    exact firstErr_of fun j h1 h2 => h j (by omega) (by omega)
/-- Proper notes in order, few enough. -/
theorem wrongL_zero {l : List Note} : wrongL l = 0 ↔ l.length ≤ 1024 ∧ ∀ j, j < l.length → properB (nth l j) = true ∧ (0 < j → (nth l (j - 1)).on ≤ (nth l j).on) := by
  unfold wrongL
  constructor
  · intro h
    split at h
    · cases h
    · refine ⟨by omega, fun j hj => ?_⟩
      have h1 := firstErr_zero h j hj
      rw [Nat.zero_add] at h1
      unfold wrongAt at h1
      split at h1
      · cases h1
      · rename_i hb
        refine ⟨by simpa using hb, fun h0 => ?_⟩
        split at h1
        · cases h1
        · omega
  · rintro ⟨hl, h⟩
    rw [if_neg (by omega)]
    refine firstErr_of fun j _ hj => ?_
    obtain ⟨h1, h2⟩ := h j (by omega)
    rw [wrongAt, if_neg (by simp [h1]), if_neg (by have := h2; omega)]
theorem wrongL_take {l : List Note} (h : wrongL l = 0) (m : Nat) : wrongL (l.take m) = 0 := by
  rw [wrongL_zero] at h ⊢
  refine ⟨by simp; omega, fun j hj => ?_⟩
  simp only [List.length_take] at hj
  have e : ∀ j, j < m → nth (l.take m) j = nth l j := fun j hj => by simp [nth, hj]
  rw [e j (by omega), e (j - 1) (by omega)]
  exact h.2 j (by omega)
theorem nth_rm_lt {a : List Note} {i j : Nat} (hi : i < a.length) (h : j < i) : nth (rm a i) j = nth a j := by
  simp only [nth, rm, List.getD_eq_getElem?_getD]
  rw [List.getElem?_append_left (by simp; omega), List.getElem?_take_of_lt h]
theorem nth_rm_ge {a : List Note} {i j : Nat} (hi : i < a.length) (h : i ≤ j) : nth (rm a i) j = nth a (j + 1) := by
  simp only [nth, rm, List.getD_eq_getElem?_getD]
  rw [List.getElem?_append_right (by simp; omega), List.length_take, List.getElem?_drop]
  congr 2; omega
theorem rm_length {a : List Note} {i : Nat} (hi : i < a.length) : (rm a i).length = a.length - 1 := by simp [rm]; omega
theorem wrongL_rm {a : List Note} (h : wrongL a = 0) {i : Nat} (hi : i < a.length) : wrongL (rm a i) = 0 := by
  rw [wrongL_zero] at h ⊢
  rw [rm_length hi]
  refine ⟨by omega, fun j hj => ?_⟩
  by_cases h1 : j < i
  · rw [nth_rm_lt hi h1]
    refine ⟨(h.2 j (by omega)).1, fun h0 => ?_⟩
    rw [nth_rm_lt hi (by omega)]
    exact (h.2 j (by omega)).2 h0
  · rw [nth_rm_ge hi (by omega)]
    refine ⟨(h.2 (j + 1) (by omega)).1, fun h0 => ?_⟩
    have k1 := (h.2 (j + 1) (by omega)).2 (by omega)
    rw [Nat.add_sub_cancel] at k1
    by_cases h2 : j - 1 < i
    · rw [nth_rm_lt hi h2]
      have k2 := (h.2 j (by omega)).2 h0
      omega
    · rw [nth_rm_ge hi (by omega), show j - 1 + 1 = j from by omega]
      exact k1
theorem enc_len {l : List Note} {z : List Value} (h : z ∈ l.map Note.enc) : z.length = 7 := by
  obtain ⟨p, _, rfl⟩ := List.mem_map.1 h; rfl
theorem enc_all {l : List Note} {z : List Value} (h : z ∈ l.map Note.enc) : allCells z = true := by
  obtain ⟨p, _, rfl⟩ := List.mem_map.1 h; rfl
theorem rd_take {w : World} {A : Option Addr} {l l' : List Note} {m : Nat} (h : Rd w A 7 (l.map Note.enc)) (e : l' = l.take m) : Rd w A 7 (l'.map Note.enc) := by
  rw [e, List.map_take]; exact h.take m
end Go.Proofs.Ytbkmmjpklkallaa
