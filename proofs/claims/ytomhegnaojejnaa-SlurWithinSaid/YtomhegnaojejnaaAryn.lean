/- Arrays of structs, by value and in blocks, at any place. Nothing here speaks of one program. -/
import Derived.Test.YtomhegnaojejnaaAry
import Derived.Test.YtomhegnaojejnaaEqs
import Derived.Test.YtomhegnaojejnaaXtra
set_option linter.unusedSimpArgs false
set_option linter.unusedVariables false
namespace Go.Proofs.Ytomhegnaojejnaa
namespace Hr
open Go Go.RowKit

section
variable {P : Program} {X : Nat → Prop} {W : World} {n : Nat} {S : St} {o : Oper} {t e : TypeId} {x y : Operand}
/-- An element of an array by value, elements of more cells. -/
theorem q_indexAN {k : IntKind} {i : Int} {len q s : Nat} {cs ys : Array Value} (ho : o.op = .index t x y) (ht : P.underlying t = some (.array len e)) (he : Agg P e s) (hx : ev S.env x = some (.agg cs)) (hy : ev S.env y = some (.int k i))
    (hi : i = (q : Int)) (hq : q < len) (hv : cs.extract (q * s) (q * s + s) = ys) : Q1 P X W n S o (.agg ys) :=
  fun a w hs => .inl (by
    subst hi
    have h1 : (0 : Int) ≤ (q : Int) ∧ (q : Int) < (len : Int) := by omega
    simp [execOp, ho, hs.eval hx, hs.eval hy, Instr.index, asIntOf, run_underlying ht, h1.2, he.2.run, part, he.1, hv, Nat.not_le.2 hq])
theorem q_indexBDN {len b q s : Nat} {k : IntKind} {i : Int} (ho : o.op = .indexAddr t x y) (ht : P.underlying t = some (.array len e)) (hsz : Sz P e s) (hx : ev S.env x = some (.pointer (some ⟨b, 0, none⟩))) (hy : ev S.env y = some (.int k i)) (hi : i = (q : Int)) (hq : q < len) :
    Q1 P X W n S o (.pointer (some ((adr (some ⟨b, 0, none⟩)).add (q * s)))) := by
  have h := q_indexB (P := P) (X := X) (W := W) (n := n) (S := S) (o := o) (q := q) (d := 0 + q * s) ho ht hsz hx hy hi hq rfl
  have e1 : (adr (some ⟨b, 0, none⟩)).add (q * s) = ⟨b, 0 + q * s, none⟩ := by rw [adr, Option.getD_some, Addr.add_lit]
  rw [e1]; exact h
theorem flat_get {s : Nat} : ∀ {rows : List (List Value)} {i j : Nat} {c : List Value} {v : Value}, (∀ r ∈ rows, r.length = s) → rows[i]? = some c → c[j]? = some v → rows.flatten[i * s + j]? = some v
  | [], i, j, c, v, _, hi, _ => by simp at hi
  | r :: rs, 0, j, c, v, hl, hi, hj => by
    simp only [List.getElem?_cons_zero, Option.some.injEq] at hi
    subst hi
    have hjl : j < r.length := by
      rcases Nat.lt_or_ge j r.length with h | h
      · exact h
      · rw [List.getElem?_eq_none h] at hj; cases hj
    rw [List.flatten_cons, Nat.zero_mul, Nat.zero_add, List.getElem?_append_left hjl]; exact hj
  | r :: rs, i + 1, j, c, v, hl, hi, hj => by
    have hr := hl r (by simp)
    rw [List.getElem?_cons_succ] at hi
    rw [List.flatten_cons, List.getElem?_append_right (by rw [hr, Nat.succ_mul]; omega), hr, show (i + 1) * s + j - s = i * s + j from by rw [Nat.succ_mul]; omega]
    exact flat_get (fun x hx => hl x (by simp [hx])) hi hj
theorem RdS.blkRows {b s : Nat} {tb : TypeId} {cs : List (Nat × Value)} {rows : List (List Value)} {l : List Res} (h : Sel S.mem (.blk b tb cs) l) (hc : CellsAt cs 0 rows.flatten) (hl : ∀ r ∈ rows, r.length = s) : RdS X W S (Option.some ⟨b, 0, none⟩) s rows := fun w hk hm =>
  .inr ⟨⟨b, 0, none⟩, rfl, fun i c hi j v hj => by
    have h1 := hc.get (i * s + j) v (flat_get hl hi hj)
    rw [Addr.add_lit]
    have h2 := blk_cell (h.holds hm) h1
    simpa using h2⟩
end
end Hr
end Go.Proofs.Ytomhegnaojejnaa
