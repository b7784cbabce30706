/- Requests placed one after another. Nothing of the program. -/
import Derived.Test.YtgphmbipakdggaaRPlain
set_option linter.unusedSimpArgs false
set_option linter.unusedVariables false
namespace Go.Proofs.YtgphmbipakdggaaR
open Go Go.RowKit Hr

/-- The first error of the requests. -/
def reqsE (n : Int) : List Req → Int
  | [] => 0
  | x :: r => if reqE x n = 0 then reqsE n r else reqE x n
theorem reqsE_step {n : Int} {xs : List Req} {i : Nat} (h : i < xs.length) : reqsE n (xs.drop i) = if reqE (nth xs i) n = 0 then reqsE n (xs.drop (i + 1)) else reqE (nth xs i) n := by
  rw [List.drop_eq_getElem_cons h, reqsE]
  simp [nth, h]
theorem reqsE_ok {n : Int} : ∀ {xs : List Req} {i : Nat}, reqsE n xs = 0 → i < xs.length → reqE (nth xs i) n = 0
  | x :: r, 0, h, hi => by
    rw [reqsE] at h
    split at h
    · simpa [nth] using ‹reqE x n = 0›
    · exact absurd h ‹_›
  | x :: r, i + 1, h, hi => by
    rw [reqsE] at h
    split at h
    · have := reqsE_ok (xs := r) (i := i) h (by simpa using hi)
      simpa [nth] using this
    · exact absurd h ‹_›
/-- The rows after the first i requests. -/
def pl (xs : List Req) (a b : List Int) : Nat → List Int × List Int
  | 0 => (a, b)
  | i + 1 =>
    let x := nth xs i
    if x.side = -1 then ((pl xs a b i).1, plO (-1) (pl xs a b i).2 x.fst.toNat x.lst.toNat x.near x.hgt)
    else (plO 1 (pl xs a b i).1 x.fst.toNat x.lst.toNat x.near x.hgt, (pl xs a b i).2)
def plM1 (xs : List Req) (a b : List Int) (i : Nat) : Mk :=
  let x := nth xs i
  if x.side = -1 then mkV x (plV (-1) (pl xs a b i).2 x.fst.toNat x.lst.toNat x.near x.hgt) else mkV x (plV 1 (pl xs a b i).1 x.fst.toNat x.lst.toNat x.near x.hgt)
def plE1 (xs : List Req) (a b : List Int) (i : Nat) : Int :=
  let x := nth xs i
  if x.side = -1 then plE (-1) (pl xs a b i).2 x.fst.toNat x.lst.toNat x.near x.hgt else plE 1 (pl xs a b i).1 x.fst.toNat x.lst.toNat x.near x.hgt
def plMs (xs : List Req) (a b : List Int) (i : Nat) : List Mk := (List.range i).map (plM1 xs a b)
def plEs (xs : List Req) (a b : List Int) : Nat → Int
  | 0 => 0
  | i + 1 => if plEs xs a b i = 0 then plE1 xs a b i else plEs xs a b i
theorem pl_b {xs : List Req} {a b : List Int} {i : Nat} (h : (nth xs i).side = -1) : pl xs a b (i + 1) = ((pl xs a b i).1, plO (-1) (pl xs a b i).2 (nth xs i).fst.toNat (nth xs i).lst.toNat (nth xs i).near (nth xs i).hgt) := by
  rw [pl]; simp only [h, if_true]
theorem pl_a {xs : List Req} {a b : List Int} {i : Nat} (h : ¬ (nth xs i).side = -1) : pl xs a b (i + 1) = (plO 1 (pl xs a b i).1 (nth xs i).fst.toNat (nth xs i).lst.toNat (nth xs i).near (nth xs i).hgt, (pl xs a b i).2) := by
  rw [pl]; simp only [h, if_false]
theorem plMs_len {xs : List Req} {a b : List Int} {i : Nat} : (plMs xs a b i).length = i := by simp [plMs]
theorem plMs_b {xs : List Req} {a b : List Int} {i : Nat} (h : (nth xs i).side = -1) : plMs xs a b (i + 1) = plMs xs a b i ++ [mkV (nth xs i) (plV (-1) (pl xs a b i).2 (nth xs i).fst.toNat (nth xs i).lst.toNat (nth xs i).near (nth xs i).hgt)] := by
  rw [plMs, List.range_succ, List.map_append]
  simp only [List.map, plM1, h, if_true, plMs]
theorem plMs_a {xs : List Req} {a b : List Int} {i : Nat} (h : ¬ (nth xs i).side = -1) : plMs xs a b (i + 1) = plMs xs a b i ++ [mkV (nth xs i) (plV 1 (pl xs a b i).1 (nth xs i).fst.toNat (nth xs i).lst.toNat (nth xs i).near (nth xs i).hgt)] := by
  rw [plMs, List.range_succ, List.map_append]
  simp only [List.map, plM1, h, if_false, plMs]
theorem plE1_b {xs : List Req} {a b : List Int} {i : Nat} (h : (nth xs i).side = -1) : plE1 xs a b i = plE (-1) (pl xs a b i).2 (nth xs i).fst.toNat (nth xs i).lst.toNat (nth xs i).near (nth xs i).hgt := by
  rw [plE1]; simp only [h, if_true]
theorem plE1_a {xs : List Req} {a b : List Int} {i : Nat} (h : ¬ (nth xs i).side = -1) : plE1 xs a b i = plE 1 (pl xs a b i).1 (nth xs i).fst.toNat (nth xs i).lst.toNat (nth xs i).near (nth xs i).hgt := by
  rw [plE1]; simp only [h, if_false]
theorem plEs_next {xs : List Req} {a b : List Int} {i : Nat} (h : plEs xs a b i = 0) (h1 : plE1 xs a b i = 0) : plEs xs a b (i + 1) = 0 := by
  rw [plEs, if_pos h, h1]
theorem plEs_stay {xs : List Req} {a b : List Int} {i : Nat} (h : plEs xs a b i = 0) (h1 : plE1 xs a b i ≠ 0) : ∀ {n : Nat}, i < n → plEs xs a b n = plE1 xs a b i
  | n + 1, hn => by
    by_cases e : n = i
    · rw [e, plEs, if_pos h]
    · have := plEs_stay h h1 (n := n) (by omega)
      rw [plEs, if_neg (by rw [this]; exact h1), this]
theorem pl_len {xs : List Req} {a b : List Int} : ∀ {i : Nat}, (pl xs a b i).1.length = a.length ∧ (pl xs a b i).2.length = b.length
  | 0 => ⟨rfl, rfl⟩
  | i + 1 => by
    have ⟨h1, h2⟩ := pl_len (xs := xs) (a := a) (b := b) (i := i)
    by_cases h : (nth xs i).side = -1
    · rw [pl_b h]; exact ⟨h1, by rw [plO_len]; exact h2⟩
    · rw [pl_a h]; exact ⟨by rw [plO_len]; exact h1, h2⟩
theorem pl_bd {xs : List Req} {a b : List Int} (ha : Bd a) (hb : Bd b) : ∀ {i : Nat}, Bd (pl xs a b i).1 ∧ Bd (pl xs a b i).2
  | 0 => ⟨ha, hb⟩
  | i + 1 => by
    have ⟨h1, h2⟩ := pl_bd (xs := xs) ha hb (i := i)
    by_cases h : (nth xs i).side = -1
    · rw [pl_b h]; exact ⟨h1, plO_bd h2⟩
    · rw [pl_a h]; exact ⟨plO_bd h1, h2⟩
theorem plV_bd {t : Int} {o : List Int} {f l : Nat} {near high : Int} (ht : t = 1 ∨ t = -1) (h : Bd o) (hf : f ≤ l) (hl : l < o.length) (hn : -1048576 ≤ near ∧ near ≤ 1048576) : -1000000000 ≤ plV t o f l near high ∧ plV t o f l near high ≤ 1000000000 := by
  have h1 := edgeO_bd (near := near) ht h hf hl hn
  have h2 := sgn_bd (b := 1048592) ht (x := edgeO t o f l near) (by omega)
  unfold plV; split <;> omega
/-- What Place answers. -/
def placeE (xs : List Req) (a b : List Int) : Int := if reqsE a.length xs = 0 then plEs xs a b xs.length else reqsE a.length xs
def placeA (xs : List Req) (a b : List Int) : List Int := if placeE xs a b = 0 then (pl xs a b xs.length).1 else a
def placeB (xs : List Req) (a b : List Int) : List Int := if placeE xs a b = 0 then (pl xs a b xs.length).2 else b
def placeM (xs : List Req) (a b : List Int) : List Mk := if placeE xs a b = 0 then plMs xs a b xs.length else []
theorem place_err {xs : List Req} {a b : List Int} (h : placeE xs a b ≠ 0) : placeA xs a b = a ∧ placeB xs a b = b ∧ placeM xs a b = [] := by
  simp only [placeA, placeB, placeM, h, if_false, and_self]
theorem place_ok {xs : List Req} {a b : List Int} (h : placeE xs a b = 0) : placeA xs a b = (pl xs a b xs.length).1 ∧ placeB xs a b = (pl xs a b xs.length).2 ∧ placeM xs a b = plMs xs a b xs.length := by
  simp only [placeA, placeB, placeM, h, if_true, and_self]
theorem placeE_1 {xs : List Req} {a b : List Int} (h : reqsE a.length xs ≠ 0) : placeE xs a b = reqsE a.length xs := by rw [placeE, if_neg h]
theorem placeE_2 {xs : List Req} {a b : List Int} (h : reqsE a.length xs = 0) : placeE xs a b = plEs xs a b xs.length := by rw [placeE, if_pos h]
theorem place_len {xs : List Req} {a b : List Int} : (placeA xs a b).length = a.length ∧ (placeB xs a b).length = b.length := by
  by_cases h : placeE xs a b = 0
  · rw [(place_ok h).1, (place_ok h).2.1]; exact pl_len
  · rw [(place_err h).1, (place_err h).2.1]; exact ⟨rfl, rfl⟩
theorem place_bd {xs : List Req} {a b : List Int} (ha : Bd a) (hb : Bd b) : Bd (placeA xs a b) ∧ Bd (placeB xs a b) := by
  by_cases h : placeE xs a b = 0
  · rw [(place_ok h).1, (place_ok h).2.1]; exact pl_bd ha hb
  · rw [(place_err h).1, (place_err h).2.1]; exact ⟨ha, hb⟩
theorem Mk_len {l : List Mk} {z : List Value} (h : z ∈ l.map Mk.enc) : z.length = 12 := by
  obtain ⟨p, _, rfl⟩ := List.mem_map.1 h; rfl
theorem Mk_all {l : List Mk} {z : List Value} (h : z ∈ l.map Mk.enc) : allCells z = true := by
  obtain ⟨p, _, rfl⟩ := List.mem_map.1 h; rfl
/-- How far the requests at column c reach to the left and to the right. -/
def exL (c : Int) (xs : List Req) : Nat → Int
  | 0 => 0
  | k + 1 => if (nth xs k).fst = c then max (exL c xs k) (nth xs k).left else exL c xs k
def exR (c : Int) (xs : List Req) : Nat → Int
  | 0 => 0
  | k + 1 => if (nth xs k).lst = c then max (exR c xs k) (nth xs k).right else exR c xs k
theorem exL_yes {c : Int} {xs : List Req} {k : Nat} (h : (nth xs k).fst = c) : max (exL c xs k) (nth xs k).left = exL c xs (k + 1) := by rw [exL, if_pos h]
theorem exL_no {c : Int} {xs : List Req} {k : Nat} (h : ¬ (nth xs k).fst = c) : exL c xs k = exL c xs (k + 1) := by
  show _ = (if (nth xs k).fst = c then max (exL c xs k) (nth xs k).left else exL c xs k)
  rw [if_neg h]
theorem exR_yes {c : Int} {xs : List Req} {k : Nat} (h : (nth xs k).lst = c) : max (exR c xs k) (nth xs k).right = exR c xs (k + 1) := by rw [exR, if_pos h]
theorem exR_no {c : Int} {xs : List Req} {k : Nat} (h : ¬ (nth xs k).lst = c) : exR c xs k = exR c xs (k + 1) := by
  show _ = (if (nth xs k).lst = c then max (exR c xs k) (nth xs k).right else exR c xs k)
  rw [if_neg h]
end Go.Proofs.YtgphmbipakdggaaR
