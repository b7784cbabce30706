/- A single slur over a ground. Nothing of the program. -/
import Derived.Test.YtomhegnaojejnaaNest
set_option linter.unusedSimpArgs false
set_option linter.unusedVariables false
namespace Go.Proofs.Ytomhegnaojejnaa
open Go Go.RowKit Hr

def c41 (x : Spn) : Spn := ⟨41, x.idx, x.stf, x.side, x.site, x.num, x.fst, x.lst, x.frm, x.til, x.ol, x.or_⟩
theorem ord1 (x : Spn) : ordS [x] = [x] := by rfl
theorem spsE1 (x : Spn) (n : Int) : spsE n [x] = spE x n := by
  rw [spsE]; split
  · rename_i h; rw [h]; rfl
  · rfl
def row1 (x : Spn) (a b : List Int) : List Int := if x.side = 1 then a else b
theorem slE1 (x : Spn) (a b : List Int) : slEs [x] a b 1 = spB x (row1 x a b) := by
  show (if (0 : Int) = 0 then spB (nth [x] 0) (rowS [x] a b 0) else 0) = _
  rw [if_pos rfl]; rfl
theorem place1 {x : Spn} {a b : List Int} (h : spE x (a.length : Int) = 0) (hb : ¬ 1048576 < atS x (row1 x a b) + hS x) : slpE [x] a b = 0 ∧ slpM [x] a b = [mkS x (x.side * atS x (row1 x a b))] := by
  have h1 : spsE (a.length : Int) [x] = 0 := by rw [spsE1]; exact h
  have h2 : slpE [x] a b = 0 := by
    rw [slpE_2 h1, ord1]
    show slEs [x] a b 1 = 0
    rw [slE1]; exact spB_zero.2 hb
  refine ⟨h2, ?_⟩
  rw [(slp_ok h2).2.2, ord1]; rfl
theorem row_up {x : Spn} {o : List Int} (hc : x.cls = 41) : atS x o = max (outS x) (maxR o x.fst.toNat x.lst.toNat + 12) := by rw [atS, if_pos hc]
theorem maxN_le {g : Nat → Int} {m : Int} : ∀ {n : Nat}, (∀ i, i ≤ n → g i ≤ m) → maxN g n ≤ m
  | 0, h => h 0 (Nat.le_refl _)
  | n + 1, h => by
    rw [maxN]
    have h1 := maxN_le (g := g) (m := m) (n := n) fun i hi => h i (by omega)
    have h2 := h (n + 1) (Nat.le_refl _)
    omega
theorem maxR_le {o : List Int} {f l : Nat} {m : Int} (h : ∀ i, nth o i ≤ m) : maxR o f l ≤ m := maxN_le fun i _ => h (f + i)
theorem hgt_pos {f l : Int} (h : 0 ≤ f ∧ f ≤ l) : 24 ≤ hgtS f l := by unfold hgtS; rw [if_neg (by omega)]; omega
/-- All that the law asks. -/
theorem clear_facts {x : Spn} {a b : List Int} {N : Int} (hN : N = (a.length : Int)) (hab : a.length = b.length) (h : spE (c41 x) N = 0) (ha : ∀ i, nth a i ≤ 40000) (hb : ∀ i, nth b i ≤ 40000) (l1 : x.frm ≤ 262144) (l2 : x.til ≤ 262144) (l3 : -262144 ≤ x.frm) (l4 : -262144 ≤ x.til) :
    slpE [c41 x] a b = 0 ∧ slpM [c41 x] a b = [mkS (c41 x) (x.side * atS (c41 x) (row1 x a b))] ∧ atS (c41 x) (row1 x a b) = max (max (x.side * x.frm) (x.side * x.til)) (maxR (row1 x a b) x.fst.toNat x.lst.toNat + 12) ∧ atS (c41 x) (row1 x a b) ≤ 262144 := by
  have k := spE_ok h
  have e := row_up (x := c41 x) (o := row1 x a b) rfl
  have hm : maxR (row1 x a b) x.fst.toNat x.lst.toNat ≤ 40000 := maxR_le fun i => by unfold row1; split; exact ha i; exact hb i
  have hs : (c41 x).side = x.side := rfl
  have b1 := sgn_bd (b := 262144) (s := x.side) k.2.1 (x := x.frm) ⟨by omega, by omega⟩
  have b2 := sgn_bd (b := 262144) (s := x.side) k.2.1 (x := x.til) ⟨by omega, by omega⟩
  have e2 : atS (c41 x) (row1 x a b) = max (max (x.side * x.frm) (x.side * x.til)) (maxR (row1 x a b) x.fst.toNat x.lst.toNat + 12) := e
  have hle : atS (c41 x) (row1 x a b) ≤ 262144 := by omega
  have hh := hgtS_bd (f := x.fst) (l := x.lst)
  have e0 : hS (c41 x) = hgtS x.fst x.lst := rfl
  obtain ⟨p1, p2⟩ := place1 (x := c41 x) (a := a) (b := b) (by rw [← hN]; exact h) (by show ¬ 1048576 < atS (c41 x) (row1 x a b) + hS (c41 x); omega)
  exact ⟨p1, p2, e2, hle⟩
end Go.Proofs.Ytomhegnaojejnaa
