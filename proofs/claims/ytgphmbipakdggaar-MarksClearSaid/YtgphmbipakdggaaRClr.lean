/- What is placed later lies farther out. Nothing of the program. -/
import Derived.Test.YtgphmbipakdggaaRGnd
set_option linter.unusedSimpArgs false
set_option linter.unusedVariables false
namespace Go.Proofs.YtgphmbipakdggaaR
open Go Go.RowKit Hr

theorem maxR_ge {o : List Int} {f l j : Nat} (h1 : f ≤ j) (h2 : j ≤ l) : nth o j ≤ maxR o f l := by
  have := maxN_ge (g := fun i => nth o (f + i)) (n := l - f) (i := j - f) (by omega)
  simp only [show f + (j - f) = j from by omega] at this
  exact this
theorem edgeO_ge {t : Int} {o : List Int} {f l j : Nat} {near : Int} (h1 : f ≤ j) (h2 : j ≤ l) : nth o j + 16 ≤ edgeO t o f l near := by
  have := maxR_ge (o := o) h1 h2
  unfold edgeO; omega
theorem plO_ge {t : Int} {o : List Int} {f l j : Nat} {near high : Int} (hj : j < o.length) : nth o j ≤ nth (plO t o f l near high) j := by
  unfold plO; split
  · exact Int.le_refl _
  · rw [raiseN_at hj]; split <;> omega
theorem plO_in {t : Int} {o : List Int} {f l j : Nat} {near high : Int} (hl : ¬ 1048576 < edgeO t o f l near + high) (h1 : f ≤ j) (h2 : j ≤ l) (hj : j < o.length) : edgeO t o f l near + high ≤ nth (plO t o f l near high) j := by
  rw [plO_ok hl, raiseN_at hj, if_pos ⟨h1, by omega⟩]; omega
theorem pl_up1 {xs : List Req} {a b : List Int} {i j : Nat} : (j < a.length → nth (pl xs a b i).1 j ≤ nth (pl xs a b (i + 1)).1 j) ∧ (j < b.length → nth (pl xs a b i).2 j ≤ nth (pl xs a b (i + 1)).2 j) := by
  have hl := pl_len (xs := xs) (a := a) (b := b) (i := i)
  by_cases h : (nth xs i).side = -1
  · rw [pl_b h]; exact ⟨fun _ => Int.le_refl _, fun hj => plO_ge (by omega)⟩
  · rw [pl_a h]; exact ⟨fun hj => plO_ge (by omega), fun _ => Int.le_refl _⟩
theorem pl_up {xs : List Req} {a b : List Int} {j k : Nat} : ∀ {i : Nat}, k ≤ i → (j < a.length → nth (pl xs a b k).1 j ≤ nth (pl xs a b i).1 j) ∧ (j < b.length → nth (pl xs a b k).2 j ≤ nth (pl xs a b i).2 j)
  | 0, h => by rw [show k = 0 from by omega]; exact ⟨fun _ => Int.le_refl _, fun _ => Int.le_refl _⟩
  | i + 1, h => by
    by_cases e : k = i + 1
    · rw [e]; exact ⟨fun _ => Int.le_refl _, fun _ => Int.le_refl _⟩
    · have h1 := pl_up (xs := xs) (a := a) (b := b) (j := j) (k := k) (i := i) (by omega)
      have h2 := pl_up1 (xs := xs) (a := a) (b := b) (i := i) (j := j)
      exact ⟨fun hj => Int.le_trans (h1.1 hj) (h2.1 hj), fun hj => Int.le_trans (h1.2 hj) (h2.2 hj)⟩
theorem plMs_nth {xs : List Req} {a b : List Int} {n i : Nat} (h : i < n) : nth (plMs xs a b n) i = plM1 xs a b i := by simp [nth, plMs, h]
/-- The edges of the i-th mark, all being well. -/
theorem mk_b {xs : List Req} {a b : List Int} {i : Nat} (hs : (nth xs i).side = -1) (h0 : plE1 xs a b i = 0) : ¬ 1048576 < edgeO (-1) (pl xs a b i).2 (nth xs i).fst.toNat (nth xs i).lst.toNat (nth xs i).near + (nth xs i).hgt ∧
    (plM1 xs a b i).bt = -(edgeO (-1) (pl xs a b i).2 (nth xs i).fst.toNat (nth xs i).lst.toNat (nth xs i).near) ∧ (plM1 xs a b i).bb = -(edgeO (-1) (pl xs a b i).2 (nth xs i).fst.toNat (nth xs i).lst.toNat (nth xs i).near) - (nth xs i).hgt := by
  rw [plE1_b hs] at h0
  have hl := plE_zero.1 h0
  have e : plM1 xs a b i = mkV (nth xs i) (plV (-1) (pl xs a b i).2 (nth xs i).fst.toNat (nth xs i).lst.toNat (nth xs i).near (nth xs i).hgt) := by rw [plM1]; simp only [hs, if_true]
  refine ⟨hl, ?_, ?_⟩ <;> rw [e, mkV, if_pos hs, plV_ok hl] <;> simp only [] <;> omega
theorem mk_a {xs : List Req} {a b : List Int} {i : Nat} (hs : ¬ (nth xs i).side = -1) (h0 : plE1 xs a b i = 0) : ¬ 1048576 < edgeO 1 (pl xs a b i).1 (nth xs i).fst.toNat (nth xs i).lst.toNat (nth xs i).near + (nth xs i).hgt ∧
    (plM1 xs a b i).bb = edgeO 1 (pl xs a b i).1 (nth xs i).fst.toNat (nth xs i).lst.toNat (nth xs i).near ∧ (plM1 xs a b i).bt = edgeO 1 (pl xs a b i).1 (nth xs i).fst.toNat (nth xs i).lst.toNat (nth xs i).near + (nth xs i).hgt := by
  rw [plE1_a hs] at h0
  have hl := plE_zero.1 h0
  have e : plM1 xs a b i = mkV (nth xs i) (plV 1 (pl xs a b i).1 (nth xs i).fst.toNat (nth xs i).lst.toNat (nth xs i).near (nth xs i).hgt) := by rw [plM1]; simp only [hs, if_false]
  refine ⟨hl, ?_, ?_⟩ <;> rw [e, mkV, if_neg hs, plV_ok hl] <;> simp only [] <;> omega
/-- Beyond the ground. -/
theorem clr_b {xs : List Req} {a b : List Int} {i j : Nat} (hs : (nth xs i).side = -1) (h0 : plE1 xs a b i = 0) (h1 : (nth xs i).fst.toNat ≤ j) (h2 : j ≤ (nth xs i).lst.toNat) (hj : j < b.length) : (plM1 xs a b i).bt ≤ -(nth b j) - 16 := by
  have h := edgeO_ge (t := -1) (o := (pl xs a b i).2) (near := (nth xs i).near) h1 h2
  have hu := (pl_up (xs := xs) (a := a) (b := b) (j := j) (Nat.zero_le i)).2 hj
  rw [(mk_b hs h0).2.1]
  have hu' : nth b j ≤ nth (pl xs a b i).2 j := hu
  omega
theorem clr_a {xs : List Req} {a b : List Int} {i j : Nat} (hs : ¬ (nth xs i).side = -1) (h0 : plE1 xs a b i = 0) (h1 : (nth xs i).fst.toNat ≤ j) (h2 : j ≤ (nth xs i).lst.toNat) (hj : j < a.length) : nth a j + 16 ≤ (plM1 xs a b i).bb := by
  have h := edgeO_ge (t := 1) (o := (pl xs a b i).1) (near := (nth xs i).near) h1 h2
  have hu := (pl_up (xs := xs) (a := a) (b := b) (j := j) (Nat.zero_le i)).1 hj
  rw [(mk_a hs h0).2.1]
  have hu' : nth a j ≤ nth (pl xs a b i).1 j := hu
  omega
/-- Beyond what was placed before in a common column. -/
theorem clr2_b {xs : List Req} {a b : List Int} {i k j : Nat} (hki : k < i) (hs : (nth xs i).side = -1) (hs' : (nth xs k).side = -1) (h0 : plE1 xs a b i = 0) (h0' : plE1 xs a b k = 0) (h1 : (nth xs i).fst.toNat ≤ j) (h2 : j ≤ (nth xs i).lst.toNat) (h1' : (nth xs k).fst.toNat ≤ j) (h2' : j ≤ (nth xs k).lst.toNat) (hj : j < b.length) :
    (plM1 xs a b i).bt ≤ (plM1 xs a b k).bb - 16 := by
  have h := edgeO_ge (t := -1) (o := (pl xs a b i).2) (near := (nth xs i).near) h1 h2
  have hu := (pl_up (xs := xs) (a := a) (b := b) (j := j) (k := k + 1) (i := i) (by omega)).2 hj
  obtain ⟨hl, -, e⟩ := mk_b hs' h0'
  have hin := plO_in hl h1' h2' (by rw [(pl_len (xs := xs) (a := a) (b := b) (i := k)).2]; exact hj)
  rw [pl_b hs'] at hu
  rw [(mk_b hs h0).2.1, e]
  simp only [] at hu
  omega
theorem clr2_a {xs : List Req} {a b : List Int} {i k j : Nat} (hki : k < i) (hs : ¬ (nth xs i).side = -1) (hs' : ¬ (nth xs k).side = -1) (h0 : plE1 xs a b i = 0) (h0' : plE1 xs a b k = 0) (h1 : (nth xs i).fst.toNat ≤ j) (h2 : j ≤ (nth xs i).lst.toNat) (h1' : (nth xs k).fst.toNat ≤ j) (h2' : j ≤ (nth xs k).lst.toNat) (hj : j < a.length) :
    (plM1 xs a b k).bt + 16 ≤ (plM1 xs a b i).bb := by
  have h := edgeO_ge (t := 1) (o := (pl xs a b i).1) (near := (nth xs i).near) h1 h2
  have hu := (pl_up (xs := xs) (a := a) (b := b) (j := j) (k := k + 1) (i := i) (by omega)).1 hj
  obtain ⟨hl, -, e⟩ := mk_a hs' h0'
  have hin := plO_in hl h1' h2' (by rw [(pl_len (xs := xs) (a := a) (b := b) (i := k)).1]; exact hj)
  rw [pl_a hs'] at hu
  rw [(mk_a hs h0).2.1, e]
  simp only [] at hu
  omega
theorem mk_bd {xs : List Req} {a b : List Int} {i : Nat} (hs : (nth xs i).side = 1 ∨ (nth xs i).side = -1) (h0 : plE1 xs a b i = 0) (ha : Bd a) (hb : Bd b) (hf : (nth xs i).fst.toNat ≤ (nth xs i).lst.toNat) (hl1 : (nth xs i).lst.toNat < a.length) (hl2 : (nth xs i).lst.toNat < b.length)
    (hn : -1048576 ≤ (nth xs i).near ∧ (nth xs i).near ≤ 1048576) (hh : 0 ≤ (nth xs i).hgt ∧ (nth xs i).hgt ≤ 65536) : -2000000 ≤ (plM1 xs a b i).bb ∧ (plM1 xs a b i).bb ≤ 2000000 ∧ -2000000 ≤ (plM1 xs a b i).bt ∧ (plM1 xs a b i).bt ≤ 2000000 := by
  have hl := pl_len (xs := xs) (a := a) (b := b) (i := i)
  have hbd := pl_bd (xs := xs) ha hb (i := i)
  by_cases h : (nth xs i).side = -1
  · obtain ⟨h1, h2, h3⟩ := mk_b h h0
    have := edgeO_bd (s := -1) (near := (nth xs i).near) (by decide) hbd.2 hf (by omega) hn
    rw [h2, h3]; omega
  · obtain ⟨h1, h2, h3⟩ := mk_a h h0
    have := edgeO_bd (s := 1) (near := (nth xs i).near) (by decide) hbd.1 hf (by omega) hn
    rw [h2, h3]; omega
end Go.Proofs.YtgphmbipakdggaaR
