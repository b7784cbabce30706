/- What the reference's rows of heights hold. Nothing of the program. -/
import Derived.Test.YtomhegnaojejnaaClear
set_option linter.unusedSimpArgs false
set_option linter.unusedVariables false
namespace Go.Proofs.Ytomhegnaojejnaa
open Go Go.RowKit Hr

def sgL (t : Int) (o : List Int) : List Int := o.map fun x => t * x
theorem sgL_len {t : Int} {o : List Int} : (sgL t o).length = o.length := by simp [sgL]
theorem sgL_nth {t : Int} {o : List Int} {i : Nat} : nth (sgL t o) i = t * nth o i := by
  by_cases h : i < o.length
  · simp [nth, sgL, h]
  · simp [nth, sgL, List.getElem?_eq_none (Nat.le_of_not_lt h)]
theorem sgL_one {o : List Int} : sgL 1 o = o := by simp [sgL]
theorem sgL_neg {o : List Int} : sgL (-1) (negL o) = o := by
  refine list_ext_nth (by rw [sgL_len, negL_len]) fun i hi => ?_
  rw [sgL_nth, negL_nth]; omega
/-- The edge of a slur after k of its columns. -/
def edK (x : Spn) (o : List Int) : Nat → Int
  | 0 => outS x
  | k + 1 => max (edK x o k) (nth o (x.fst.toNat + k) + 12)
theorem edK_next {x : Spn} {o : List Int} {k : Nat} : edK x o (k + 1) = max (edK x o k) (nth o (x.fst.toNat + k) + 12) := rfl
theorem edK_max {x : Spn} {o : List Int} : ∀ m : Nat, edK x o (m + 1) = max (outS x) (maxN (fun i => nth o (x.fst.toNat + i)) m + 12)
  | 0 => rfl
  | m + 1 => by rw [edK_next, edK_max m, maxN]; omega
theorem edK_all {x : Spn} {o : List Int} {k : Nat} (hc : x.cls = 41) (h : x.fst.toNat ≤ x.lst.toNat) (hk : k = x.lst.toNat + 1 - x.fst.toNat) : edK x o k = atS x o := by
  rw [atS, if_pos hc, hk, show x.lst.toNat + 1 - x.fst.toNat = (x.lst.toNat - x.fst.toNat) + 1 from by omega, edK_max]; rfl
theorem edK_bd {x : Spn} {o : List Int} (hx : -524288 ≤ outS x ∧ outS x ≤ 524288) (h : Bd o) : ∀ {k : Nat}, x.fst.toNat + k ≤ o.length → -524288 ≤ edK x o k ∧ edK x o k ≤ 1048588
  | 0, _ => ⟨hx.1, by have := hx.2; show outS x ≤ _; omega⟩
  | k + 1, hk => by
    have h1 := edK_bd hx h (k := k) (by omega)
    have h2 := h (x.fst.toNat + k) (by omega)
    rw [edK_next]; omega
/-- One place of a row of heights raised. -/
theorem sgL_set {t : Int} (ht : t = 1 ∨ t = -1) {o : List Int} {f k : Nat} {v : Int} (hk : f + k < o.length) : ((sgL t (raiseN o f (f + k) v)).map encI).set (f + k) [.int .i64 (t * max (t * nth (sgL t (raiseN o f (f + k) v)) (f + k)) v)] = (sgL t (raiseN o f (f + (k + 1)) v)).map encI := by
  have e1 : t * nth (sgL t (raiseN o f (f + k) v)) (f + k) = nth o (f + k) := by rw [sgL_nth, raiseN_nth hk, sgn_sgn ht]
  rw [e1, ← Nat.add_assoc, ← raiseN_step (by omega) hk, sgL, sgL, List.map_set, List.map_set]; rfl
theorem mark_val {x : Spn} {e : Int} (ht : x.side = 1 ∨ x.side = -1) : Value.agg #[.int .i64 x.cls, .int .i64 x.idx, .int .i64 x.stf, .int .i64 x.fst, .int .i64 x.lst, .int .i64 0, .int .i64 x.site, .int .i64 x.num, .int .i64 0, .int .i64 (min e (e + x.side * hgtS x.fst x.lst)), .int .i64 0, .int .i64 (max e (e + x.side * hgtS x.fst x.lst))] = (mkS x e).val := by
  have hb := hgtS_bd (f := x.fst) (l := x.lst)
  have hh : hS x = hgtS x.fst x.lst := rfl
  rcases ht with h | h
  · rw [mkS_1 h, hh, h, show min e (e + 1 * hgtS x.fst x.lst) = e from by omega, show max e (e + 1 * hgtS x.fst x.lst) = e + hgtS x.fst x.lst from by omega]; rfl
  · rw [mkS_m (by omega), hh, h, show min e (e + (-1) * hgtS x.fst x.lst) = e - hgtS x.fst x.lst from by omega, show max e (e + (-1) * hgtS x.fst x.lst) = e from by omega]; rfl
end Go.Proofs.Ytomhegnaojejnaa
