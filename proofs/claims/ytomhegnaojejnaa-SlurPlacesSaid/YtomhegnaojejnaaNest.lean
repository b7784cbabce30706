/- Spans that are placed later lie farther out. Nothing of the program. -/
import Derived.Test.YtomhegnaojejnaaLay
import Derived.Test.YtomhegnaojejnaaOrd
set_option linter.unusedSimpArgs false
set_option linter.unusedVariables false
namespace Go.Proofs.Ytomhegnaojejnaa
open Go Go.RowKit Hr

theorem maxR_ge {o : List Int} {f l c : Nat} (h1 : f ≤ c) (h2 : c ≤ l) : nth o c ≤ maxR o f l := by
  have := maxN_ge (g := fun i => nth o (f + i)) (n := l - f) (i := c - f) (by omega)
  simp only [show f + (c - f) = c from by omega] at this
  exact this
theorem spO_ge {x : Spn} {o : List Int} {c : Nat} (h : c < o.length) : nth o c ≤ nth (spO x o) c := by
  unfold spO; split
  · exact Int.le_refl _
  · rw [raiseN_at h]; split <;> omega
theorem sl_mono {ys : List Spn} {a b : List Int} {j c : Nat} : ∀ {i : Nat}, j ≤ i → (c < a.length → nth (sl ys a b j).1 c ≤ nth (sl ys a b i).1 c) ∧ (c < b.length → nth (sl ys a b j).2 c ≤ nth (sl ys a b i).2 c)
  | 0, h => by rw [show j = 0 from by omega]; exact ⟨fun _ => Int.le_refl _, fun _ => Int.le_refl _⟩
  | i + 1, h => by
    by_cases e : j = i + 1
    · rw [e]; exact ⟨fun _ => Int.le_refl _, fun _ => Int.le_refl _⟩
    · obtain ⟨h1, h2⟩ := sl_mono (ys := ys) (a := a) (b := b) (j := j) (c := c) (i := i) (by omega)
      have ⟨l1, l2⟩ := sl_len (ys := ys) (a := a) (b := b) (i := i)
      by_cases hs : (nth ys i).side = 1
      · rw [sl_a hs]
        exact ⟨fun hc => Int.le_trans (h1 hc) (spO_ge (by rw [l1]; exact hc)), h2⟩
      · rw [sl_b hs]
        exact ⟨h1, fun hc => Int.le_trans (h2 hc) (spO_ge (by rw [l2]; exact hc))⟩
/-- A span placed leaves its columns at its outer edge at least. -/
theorem spO_in {x : Spn} {o : List Int} {c : Nat} (h : c < o.length) (h0 : spB x o = 0) (h1 : x.fst.toNat ≤ c) (h2 : c ≤ x.lst.toNat) : atS x o + hS x ≤ nth (spO x o) c := by
  rw [spO_ok (spB_zero.1 h0), raiseN_at h, if_pos ⟨h1, by omega⟩]; omega
theorem nest_at {ys : List Spn} {a b : List Int} {n i j : Nat} {N : Int} (hab : a.length = b.length) (hN : N = (a.length : Int)) (hji : j < i) (hin : i < n) (hE : slEs ys a b n = 0) (hc : (nth ys i).cls = 41) (hs : (nth ys j).side = (nth ys i).side) (hi0 : spE (nth ys i) N = 0) (hj0 : spE (nth ys j) N = 0)
    (o1 : (nth ys i).fst ≤ (nth ys j).lst) (o2 : (nth ys j).fst ≤ (nth ys i).lst) : atS (nth ys j) (rowS ys a b j) + hS (nth ys j) + 12 ≤ atS (nth ys i) (rowS ys a b i) := by
  have ki := spE_ok hi0
  have kj := spE_ok hj0
  have hz := slEs_zero hE j (by omega)
  obtain ⟨c, hc1, hc2, hc3, hc4, hc5⟩ : ∃ c : Nat, (nth ys i).fst.toNat ≤ c ∧ c ≤ (nth ys i).lst.toNat ∧ (nth ys j).fst.toNat ≤ c ∧ c ≤ (nth ys j).lst.toNat ∧ c < a.length :=
    ⟨max (nth ys i).fst.toNat (nth ys j).fst.toNat, by omega, by omega, by omega, by omega, by omega⟩
  have ⟨lj1, lj2⟩ := sl_len (ys := ys) (a := a) (b := b) (i := j)
  have hm := sl_mono (ys := ys) (a := a) (b := b) (j := j + 1) (c := c) (i := i) (by omega)
  have e : atS (nth ys i) (rowS ys a b i) = max (outS (nth ys i)) (maxR (rowS ys a b i) (nth ys i).fst.toNat (nth ys i).lst.toNat + 12) := by rw [atS, if_pos hc]
  have g := maxR_ge (o := rowS ys a b i) hc1 hc2
  by_cases h1 : (nth ys i).side = 1
  · have h1j : (nth ys j).side = 1 := by omega
    rw [rowS_a h1j] at hz ⊢
    rw [rowS_a h1] at e g ⊢
    have q1 := hm.1 hc5
    rw [sl_a h1j] at q1
    have q2 := spO_in (x := nth ys j) (o := (sl ys a b j).1) (c := c) (by omega) hz hc3 hc4
    simp only at q1
    omega
  · have h1j : ¬ (nth ys j).side = 1 := by omega
    rw [rowS_b h1j] at hz ⊢
    rw [rowS_b h1] at e g ⊢
    have q1 := hm.2 (by omega)
    rw [sl_b h1j] at q1
    have q2 := spO_in (x := nth ys j) (o := (sl ys a b j).2) (c := c) (by omega) hz hc3 hc4
    simp only at q1
    omega
theorem mk_up {x : Spn} {e : Int} (h : x.side = 1) : (mkS x e).bb = e ∧ (mkS x e).bt = e + hS x := by unfold mkS; rw [if_pos h]; exact ⟨rfl, rfl⟩
theorem mk_dn {x : Spn} {e : Int} (h : ¬ x.side = 1) : (mkS x e).bb = e - hS x ∧ (mkS x e).bt = e := by unfold mkS; rw [if_neg h]; exact ⟨rfl, rfl⟩
theorem nest_mk {ys : List Spn} {a b : List Int} {n i j : Nat} {N : Int} (hab : a.length = b.length) (hN : N = (a.length : Int)) (hji : j < i) (hin : i < n) (hE : slEs ys a b n = 0) (hc : (nth ys i).cls = 41) (hs : (nth ys j).side = (nth ys i).side) (hi0 : spE (nth ys i) N = 0) (hj0 : spE (nth ys j) N = 0)
    (o1 : (nth ys i).fst ≤ (nth ys j).lst) (o2 : (nth ys j).fst ≤ (nth ys i).lst) : (0 < (nth ys j).side → (slM1 ys a b j).bt + 12 ≤ (slM1 ys a b i).bb) ∧ ((nth ys j).side < 0 → (slM1 ys a b i).bt ≤ (slM1 ys a b j).bb - 12) := by
  have h := nest_at hab hN hji hin hE hc hs hi0 hj0 o1 o2
  have ki := (spE_ok hi0).2.1
  have kj := (spE_ok hj0).2.1
  refine ⟨fun h0 => ?_, fun h0 => ?_⟩
  · have e1 : (nth ys j).side = 1 := by omega
    have e2 : (nth ys i).side = 1 := by omega
    rw [slM1, slM1, (mk_up e1).2, (mk_up e2).1, e1, e2]; omega
  · have e1 : (nth ys j).side = -1 := by omega
    have e2 : (nth ys i).side = -1 := by omega
    rw [slM1, slM1, (mk_dn (by omega)).1, (mk_dn (by omega)).2, e1, e2]; omega
theorem at_mk {ys : List Spn} {a b : List Int} {n i : Nat} (h : i < n) : ((slMs ys a b n).map Mk.enc)[i]? = some (Mk.enc (slM1 ys a b i)) := by
  rw [getmap (by rw [slMs_len]; exact h), slMs_nth h]
theorem mk_bd {ys : List Spn} {a b : List Int} {i : Nat} {N : Int} (hab : a.length = b.length) (hN : N = (a.length : Int)) (hn : N ≤ 65536) (h : spE (nth ys i) N = 0) (ha : Bd a) (hb : Bd b) : -3000000 ≤ (slM1 ys a b i).bb ∧ (slM1 ys a b i).bb ≤ 3000000 ∧ -3000000 ≤ (slM1 ys a b i).bt ∧ (slM1 ys a b i).bt ≤ 3000000 := by
  have k := spE_ok h
  have hh := hgtS_bd (f := (nth ys i).fst) (l := (nth ys i).lst)
  have hl := sl_len (ys := ys) (a := a) (b := b) (i := i)
  have hbd := sl_bd (ys := ys) ha hb (i := i)
  have e0 : hS (nth ys i) = hgtS (nth ys i).fst (nth ys i).lst := rfl
  have a1 := atS_bd (x := nth ys i) (o := (sl ys a b i).1) (by rw [hl.1, ← hN]; exact h) hbd.1
  have a2 := atS_bd (x := nth ys i) (o := (sl ys a b i).2) (by rw [hl.2, ← hab, ← hN]; exact h) hbd.2
  by_cases hs : (nth ys i).side = 1
  · rw [slM1, (mk_up hs).1, (mk_up hs).2, rowS_a hs, hs]; omega
  · rw [slM1, (mk_dn hs).1, (mk_dn hs).2, rowS_b hs, show (nth ys i).side = -1 from by omega]; omega
end Go.Proofs.Ytomhegnaojejnaa
