/- The least costs when one note more was played; where the least one stands. Nothing of the program. -/
import Derived.Test.YtbkmmjpklkallaaLaws
import Derived.Test.YtbkmmjpklkallaaMore
set_option linter.unusedSimpArgs false
set_option linter.unusedVariables false
namespace Go.Proofs.Ytbkmmjpklkallaa
open Go Go.RowKit Hr

/-- A way to align two lists, and what it costs. -/
inductive Al (c : Cost) : List Note → List Note → Int → Prop where
  | nil : Al c [] [] 0
  | join {a b : List Note} {n : Int} (x y : Note) (h : Al c a b n) : Al c (x :: a) (y :: b) (joinV c x y + n)
  | miss {a b : List Note} {n : Int} (x : Note) (h : Al c a b n) : Al c (x :: a) b (c.missing + n)
  | more {a b : List Note} {n : Int} (y : Note) (h : Al c a b n) : Al c a (y :: b) (c.extra + n)
theorem Al.append {c : Cost} {a b a' b' : List Note} {n n' : Int} (h : Al c a b n) (h' : Al c a' b' n') : Al c (a ++ a') (b ++ b') (n + n') := by
  induction h with
  | nil => simpa using h'
  | join x y _ ih => rw [Int.add_assoc]; exact .join x y ih
  | miss x _ ih => rw [Int.add_assoc]; exact .miss x ih
  | more y _ ih => rw [Int.add_assoc]; exact .more y ih
theorem Al.cast {c : Cost} {a b : List Note} {n m : Int} (h : Al c a b n) (e : n = m) : Al c a b m := e ▸ h
theorem Al.rev {c : Cost} {a b : List Note} {n : Int} (h : Al c a b n) : Al c a.reverse b.reverse n := by
  induction h with
  | nil => exact .nil
  | join x y _ ih => rw [List.reverse_cons, List.reverse_cons]; exact (ih.append (.join x y .nil)).cast (by omega)
  | @miss a b n x _ ih =>
    have := (ih.append (.miss x .nil)).cast (m := c.missing + n) (by omega)
    rw [List.append_nil] at this
    rw [List.reverse_cons]; exact this
  | @more a b n y _ ih =>
    have := (ih.append (.more y .nil)).cast (m := c.extra + n) (by omega)
    rw [List.append_nil] at this
    rw [List.reverse_cons]; exact this
theorem Al.opt (c : Cost) : ∀ (a b : List Note), Al c a b (best c a b)
  | [], [] => by simpa [best] using Al.nil (c := c)
  | [], y :: b => by rw [best_nil_left]; exact .more y (Al.opt c [] b)
  | x :: a, [] => by rw [best_nil_right]; exact .miss x (Al.opt c a [])
  | x :: a, y :: b => by
    rw [best]
    have h1 := Al.join x y (Al.opt c a b)
    have h2 := Al.miss x (Al.opt c a (y :: b))
    have h3 := Al.more y (Al.opt c (x :: a) b)
    generalize joinV c x y + best c a b = p at h1 ⊢
    generalize c.missing + best c a (y :: b) = q at h2 ⊢
    generalize c.extra + best c (x :: a) b = r at h3 ⊢
    rcases (by omega : min (min p q) r = p ∨ min (min p q) r = q ∨ min (min p q) r = r) with e | e | e
    · rw [e]; exact h1
    · rw [e]; exact h2
    · rw [e]; exact h3
termination_by a b => a.length + b.length
theorem Al.least {c : Cost} {a b : List Note} {n : Int} (h : Al c a b n) : best c a b ≤ n := by
  induction h with
  | nil => simp [best]
  | join x y _ ih => rw [best]; omega
  | @miss a b n x _ ih =>
    cases b with
    | nil => rw [best_nil_right]; omega
    | cons y b => rw [best]; omega
  | @more a b n y _ ih =>
    cases a with
    | nil => rw [best_nil_left]; omega
    | cons x a => rw [best]; omega
theorem Al.snoc {c : Cost} {a b : List Note} {x y : Note} {n : Int} (h : Al c (a ++ [x]) (b ++ [y]) n) :
    best c a b + joinV c x y ≤ n ∨ best c a (b ++ [y]) + c.missing ≤ n ∨ best c (a ++ [x]) b + c.extra ≤ n := by
  have h' := h.rev
  rw [List.reverse_append, List.reverse_append, List.reverse_singleton, List.reverse_singleton, List.singleton_append, List.singleton_append] at h'
  generalize hra : a.reverse = ra at h'
  generalize hrb : b.reverse = rb at h'
  have ea : a = ra.reverse := by rw [← hra, List.reverse_reverse]
  have eb : b = rb.reverse := by rw [← hrb, List.reverse_reverse]
  clear h
  cases h'
  · rename_i n h
    left; have := h.rev.least; rw [← ea, ← eb] at this; omega
  · rename_i n h
    right; left; have := h.rev.least; rw [← ea, List.reverse_cons, ← eb] at this; omega
  · rename_i n h
    right; right; have := h.rev.least; rw [← eb, List.reverse_cons, ← ea] at this; omega
theorem best_snoc (c : Cost) (a b : List Note) (x y : Note) : best c (a ++ [x]) (b ++ [y]) = min (min (best c a b + joinV c x y) (best c a (b ++ [y]) + c.missing)) (best c (a ++ [x]) b + c.extra) := by
  have h1 := ((Al.opt c a b).append (.join x y .nil)).least
  have h2 := ((Al.opt c a (b ++ [y])).append (.miss x .nil)).least
  have h3 := ((Al.opt c (a ++ [x]) b).append (.more y .nil)).least
  rw [List.append_nil] at h2 h3
  have h4 := (Al.opt c (a ++ [x]) (b ++ [y])).snoc
  omega
theorem best_snoc_nil (c : Cost) (b : List Note) (y : Note) : best c [] (b ++ [y]) = best c [] b + c.extra := by
  simp only [best, List.length_append, List.length_singleton]; rw [Int.natCast_add, Int.add_mul]; omega
theorem best_take_nil (c : Cost) (a : List Note) {k : Nat} (h : k ≤ a.length) : best c (a.take k) [] = (k : Int) * c.missing := by
  have e : (a.take k).length = k := by rw [List.length_take]; omega
  cases hk : a.take k with
  | nil => rw [hk] at e; simp at e; subst e; simp [best]
  | cons x r => rw [hk] at e; rw [best, e]

/-- The least costs of the first notes of the score with all that was played. -/
def colF (c : Cost) (a h : List Note) (k : Nat) : Int := best c (a.take k) h
def colV (c : Cost) (a h : List Note) : List Int := (List.range (a.length + 1)).map (colF c a h)
theorem colV_len (c : Cost) (a h : List Note) : (colV c a h).length = a.length + 1 := by simp [colV]
theorem colV_nth {c : Cost} {a h : List Note} {k : Nat} (hk : k < a.length + 1) : nth (colV c a h) k = colF c a h k := by simp [colV, nth, hk]
theorem colF_zero (c : Cost) (a h : List Note) (p : Note) : colF c a (h ++ [p]) 0 = colF c a h 0 + c.extra := by simp [colF, best_snoc_nil]
theorem colF_succ {c : Cost} {a h : List Note} {p : Note} {i : Nat} (hi : i < a.length) :
    colF c a (h ++ [p]) (i + 1) = min (min (colF c a h i + joinV c (nth a i) p) (colF c a (h ++ [p]) i + c.missing)) (colF c a h (i + 1) + c.extra) := by
  rw [colF, colF, colF, colF, take_nth hi, best_snoc]
theorem colF_bd {c : Cost} (hc : CostOk c) {a h : List Note} (k : Nat) : 0 ≤ colF c a h k ∧ colF c a h k ≤ ((a.length + h.length : Nat) : Int) * 1000000 := by
  have h1 := best_bd hc (a.take k) h
  have h2 : (a.take k).length ≤ a.length := by simp; omega
  unfold colF
  omega
/-- The first of 0 .. n at which f is least. -/
def amin (f : Nat → Int) : Nat → Nat
  | 0 => 0
  | n + 1 => if f (n + 1) < f (amin f n) then n + 1 else amin f n
theorem amin_le (f : Nat → Int) : ∀ n, amin f n ≤ n
  | 0 => Nat.le_refl _
  | n + 1 => by rw [amin]; split; exact Nat.le_refl _; exact Nat.le_succ_of_le (amin_le f n)
theorem amin_min (f : Nat → Int) : ∀ n, min (f (amin f n)) (f (n + 1)) = f (amin f (n + 1)) := fun n => by
  rw [amin]; split <;> omega
theorem amin_least (f : Nat → Int) : ∀ n j, j ≤ n → f (amin f n) ≤ f j
  | 0, j, h => by rw [show j = 0 from by omega]; exact Int.le_refl _
  | n + 1, j, h => by
    rw [← amin_min f n]
    by_cases e : j = n + 1
    · rw [e]; omega
    · have := amin_least f n j (by omega); omega
theorem amin_first (f : Nat → Int) : ∀ n j, j < amin f n → f (amin f n) < f j
  | 0, j, h => by simp [amin] at h
  | n + 1, j, h => by
    rw [amin] at h ⊢
    split at h
    · rename_i hx
      rw [if_pos hx]
      have := amin_least f n j (by omega); omega
    · rename_i hx
      rw [if_neg hx]
      exact amin_first f n j h
/-- How many notes of the score have probably been passed. -/
def passV (c : Cost) (a h : List Note) : Nat := amin (colF c a h) a.length
theorem passV_le (c : Cost) (a h : List Note) : passV c a h ≤ a.length := amin_le _ _
/-- The new row, halfway. -/
def colK (c : Cost) (a h : List Note) (p : Note) (k : Nat) : List Int := (List.range (a.length + 1)).map fun i => if i ≤ k then colF c a (h ++ [p]) i else 0
theorem colK_get {c : Cost} {a h : List Note} {p : Note} {k i : Nat} (h1 : i ≤ k) (h2 : i < a.length + 1) : ((colK c a h p k).map encI)[i]? = some [.int .i64 (colF c a (h ++ [p]) i)] := by simp [colK, encI, h1, h2]
theorem colV_get {c : Cost} {a h : List Note} {i : Nat} (h2 : i < a.length + 1) : ((colV c a h).map encI)[i]? = some [.int .i64 (colF c a h i)] := by simp [colV, encI, h2]
theorem colK_zero {c : Cost} {a h : List Note} {p : Note} {v : Int} (hv : v = colF c a (h ++ [p]) 0) : (List.replicate (a.length + 1) [Value.int .i64 0]).set 0 [.int .i64 v] = (colK c a h p 0).map encI := by
  subst hv
  apply List.ext_getElem?
  intro j
  rw [List.getElem?_set]
  by_cases hj : 0 = j
  · subst hj; simp [colK, encI]
  · rw [if_neg hj]
    by_cases hjn : j < a.length + 1
    · have : ¬ j ≤ 0 := by omega
      simp only [colK, List.getElem?_map, List.getElem?_range hjn, Option.map_some, if_neg this, encI]
      simp [hjn]
    · simp [colK, hjn]
theorem colK_set {c : Cost} {a h : List Note} {p : Note} {k : Nat} {v : Int} (hk : k + 1 < a.length + 1) (hv : v = colF c a (h ++ [p]) (k + 1)) : ((colK c a h p k).map encI).set (k + 1) [.int .i64 v] = (colK c a h p (k + 1)).map encI := by
  subst hv
  apply List.ext_getElem?
  intro j
  rw [List.getElem?_set]
  by_cases hj : k + 1 = j
  · subst hj
    rw [if_pos rfl, if_pos (by simp [colK]; omega), colK_get (by omega) hk]
  · rw [if_neg hj]
    by_cases hjn : j < a.length + 1
    · have e : (j ≤ k) = (j ≤ k + 1) := by rw [eq_iff_iff]; omega
      simp only [colK, List.getElem?_map, List.getElem?_range hjn, Option.map_some, e]
    · simp [colK, hjn]
theorem colK_all {c : Cost} {a h : List Note} {p : Note} {k : Nat} (hk : a.length ≤ k) : colK c a h p k = colV c a (h ++ [p]) := by
  simp only [colK, colV]
  apply List.map_congr_left
  intro i hi
  rw [List.mem_range] at hi
  rw [if_pos (by omega)]
/-- The row before anything is played. -/
def rowM (c : Cost) (k : Nat) : List Int := (List.range k).map fun i : Nat => (i : Int) * c.missing
theorem rowM_len {c : Cost} {k : Nat} : (rowM c k).length = k := by simp [rowM]
theorem rowM_succ {c : Cost} {k : Nat} : rowM c (k + 1) = rowM c k ++ [(k : Int) * c.missing] := by simp [rowM, List.range_succ]
theorem rowM_col {c : Cost} {a : List Note} : rowM c (a.length + 1) = colV c a [] := by
  simp only [rowM, colV]
  apply List.map_congr_left
  intro i hi
  rw [List.mem_range] at hi
  rw [colF, best_take_nil c a (by omega)]
/-- What a listener says to a note. -/
def lisE (h : List Note) (x : Note) : Int := if properB x = false then 2 else if 0 < h.length ∧ x.on < (nth h (h.length - 1)).on then 25 else 0
def hearL (h : List Note) (x : Note) : List Note := if lisE h x = 0 then h ++ [x] else h
def lisN (c : Cost) (a h : List Note) (x : Note) : Int := if lisE h x = 0 then (passV c a (h ++ [x]) : Int) else 0
theorem hearL_no {h : List Note} {x : Note} (he : lisE h x ≠ 0) : hearL h x = h := by rw [hearL, if_neg he]
theorem hearL_yes {h : List Note} {x : Note} (he : lisE h x = 0) : hearL h x = h ++ [x] := by rw [hearL, if_pos he]
theorem lisN_no {c : Cost} {a h : List Note} {x : Note} (he : lisE h x ≠ 0) : lisN c a h x = 0 := by rw [lisN, if_neg he]
theorem lisN_yes {c : Cost} {a h : List Note} {x : Note} (he : lisE h x = 0) : lisN c a h x = (passV c a (h ++ [x]) : Int) := by rw [lisN, if_pos he]
theorem proper_ok {p : Note} (h : properB p = true) : NoteOk p := by
  simp only [properB, Bool.and_eq_true, inB_iff] at h
  exact h.1.1.1.1
theorem take_of_take {α : Type} {l : List α} {n : Nat} : (l.take n).length ≤ n := by simp; omega
theorem rd_lis {w : World} {p : Nat} {t : TypeId} {v0 v1 v2 v3 v4 v5 v6 v7 : Value} (h : (Res.blk p t [(0, v0), (1, v1), (2, v2), (3, v3), (4, v4), (5, v5), (6, v6), (7, v7)]).holds w) : Rd w (some ⟨p, 0, none⟩) 8 [[v0, v1, v2, v3, v4, v5, v6, v7]] :=
  rd_blk h fun i u hu => by
    match i, hu with
    | 0, hu => simpa [fnd] using hu
    | 1, hu => simpa [fnd] using hu
    | 2, hu => simpa [fnd] using hu
    | 3, hu => simpa [fnd] using hu
    | 4, hu => simpa [fnd] using hu
    | 5, hu => simpa [fnd] using hu
    | 6, hu => simpa [fnd] using hu
    | 7, hu => simpa [fnd] using hu
    | i + 8, hu => simp at hu
/-- The least of the first k costs, and where it stands. -/
def bk (f : Nat → Int) : Nat → Nat
  | 0 => 0
  | k + 1 => amin f k
def lk (f : Nat → Int) : Nat → Int
  | 0 => -1
  | k + 1 => f (amin f k)
theorem bk_yes {f : Nat → Int} {k : Nat} (h : lk f k < 0 ∨ f k < lk f k) (h0 : ∀ j, 0 ≤ f j) : bk f (k + 1) = k ∧ lk f (k + 1) = f k := by
  cases k with
  | zero => exact ⟨rfl, rfl⟩
  | succ k =>
    have h1 := h0 (amin f k)
    simp only [lk] at h
    have e : amin f (k + 1) = k + 1 := by rw [amin, if_pos (by omega)]
    exact ⟨by rw [bk, e], by rw [lk, e]⟩
theorem bk_no {f : Nat → Int} {k : Nat} (h1 : 0 ≤ lk f k) (h2 : lk f k ≤ f k) : bk f (k + 1) = bk f k ∧ lk f (k + 1) = lk f k := by
  cases k with
  | zero => simp [lk] at h1
  | succ k =>
    simp only [lk] at h2
    have e : amin f (k + 1) = amin f k := by rw [amin, if_neg (by omega)]
    exact ⟨by rw [bk, bk, e], by rw [lk, lk, e]⟩
theorem amin_zero {f : Nat → Int} (h : ∀ j, f 0 ≤ f j) : ∀ n, amin f n = 0
  | 0 => rfl
  | n + 1 => by rw [amin, amin_zero h n, if_neg (by have := h (n + 1); omega)]
theorem passV_nil {c : Cost} (hc : CostOk c) (a : List Note) : passV c a [] = 0 := by
  refine amin_zero (fun j => ?_) _
  have h1 := colF_bd hc (a := a) (h := []) j
  have h2 : colF c a [] 0 = 0 := by simp [colF, best]
  rw [h2]; exact h1.1
theorem path_nil (c : Cost) (a : List Note) : path c (a.take 0) [] 0 0 = [] := by rw [List.take_zero, path]
/-- What was heard of the first i notes. -/
def hK (b : List Note) : Nat → List Note
  | 0 => []
  | i + 1 => hearL (hK b i) (nth b i)
theorem hK_ok {b : List Note} : ∀ i, ∀ p ∈ hK b i, NoteOk p
  | 0, p, h => by simp [hK] at h
  | i + 1, p, h => by
    rw [hK] at h
    by_cases he : lisE (hK b i) (nth b i) = 0
    · rw [hearL_yes he] at h
      rcases List.mem_append.1 h with h | h
      · exact hK_ok i p h
      · simp only [List.mem_singleton] at h
        subst h
        unfold lisE at he
        split at he
        · cases he
        · rename_i hp
          exact proper_ok (by simpa using hp)
    · rw [hearL_no he] at h
      exact hK_ok i p h
theorem hK_len {b : List Note} : ∀ i, (hK b i).length ≤ i
  | 0 => by simp [hK]
  | i + 1 => by
    have := hK_len (b := b) i
    rw [hK]
    by_cases he : lisE (hK b i) (nth b i) = 0
    · rw [hearL_yes he]; simp; omega
    · rw [hearL_no he]; omega
theorem hK_yes {b : List Note} {i : Nat} (he : lisE (hK b i) (nth b i) = 0) : hK b (i + 1) = hK b i ++ [nth b i] := by rw [hK, hearL_yes he]
theorem hK_no {b : List Note} {i : Nat} (he : lisE (hK b i) (nth b i) ≠ 0) : hK b (i + 1) = hK b i := by rw [hK, hearL_no he]
/-- Notes one after another, the first k of n. -/
def noteN (i : Nat) : Note := ⟨(i : Int), (i : Int) + 1000, 60, 64, 0, 0, 0⟩
def noteL (n k : Nat) : List Note := (List.range k).map noteN ++ List.replicate (n - k) default
theorem noteL_len {n k : Nat} (h : k ≤ n) : (noteL n k).length = n := by simp [noteL]; omega
theorem noteL_zero {n : Nat} : List.replicate n [Value.int .i64 0, .int .i64 0, .int .i64 0, .int .i64 0, .int .i64 0, .int .i64 0, .int .i64 0] = (noteL n 0).map Note.enc := by
  simp [noteL, List.map_replicate]; exact Or.inr rfl
theorem noteL_set {n k : Nat} (h : k < n) : (noteL n k).set k (noteN k) = noteL n (k + 1) := by
  have e : n - k = (n - (k + 1)) + 1 := by omega
  rw [noteL, e, List.replicate_succ, List.set_append_right _ _ (by simp)]
  simp [noteL, List.range_succ]
theorem firstNZ_left {x : Int} : firstNZ [x, 0] = x := by
  by_cases h : x = 0 <;> simp [firstNZ, h]
end Go.Proofs.Ytbkmmjpklkallaa
