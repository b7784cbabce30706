/- Arrays in blocks, at any place. Nothing here speaks of one program. -/
import Derived.Test.YtomhegnaojejnaaArr
set_option linter.unusedSimpArgs false
set_option linter.unusedVariables false
namespace Go.Proofs.Ytomhegnaojejnaa
namespace Hr
open Go Go.RowKit

section
variable {P : Program} {X : Nat → Prop} {W : World} {n : Nat} {S : St} {o : Oper} {t e : TypeId} {x y : Operand}
theorem q_indexBD {len b q : Nat} {k : IntKind} {i : Int} (ho : o.op = .indexAddr t x y) (ht : P.underlying t = some (.array len e)) (hsz : Sz P e 1) (hx : ev S.env x = some (.pointer (some ⟨b, 0, none⟩))) (hy : ev S.env y = some (.int k i)) (hi : i = (q : Int)) (hq : q < len) :
    Q1 P X W n S o (.pointer (some ((adr (some ⟨b, 0, none⟩)).add (q * 1)))) := by
  have h := q_indexB (P := P) (X := X) (W := W) (n := n) (S := S) (o := o) (q := q) (d := 0 + q * 1) ho ht hsz hx hy hi hq rfl
  have e1 : (adr (some ⟨b, 0, none⟩)).add (q * 1) = ⟨b, 0 + q * 1, none⟩ := by rw [adr, Option.getD_some, Addr.add_lit]
  rw [e1]; exact h
theorem RdS.blkRow {b : Nat} {tb : TypeId} {cs : List (Nat × Value)} {vs : List Value} {l : List Res} (h : Sel S.mem (.blk b tb cs) l) (hc : CellsAt cs 0 vs) : RdS X W S (Option.some ⟨b, 0, none⟩) 1 (vs.map fun v => [v]) := fun w hk hm =>
  .inr ⟨⟨b, 0, none⟩, rfl, fun i c hi j v hj => by
    rw [List.getElem?_map] at hi
    cases hv : vs[i]? with
    | none => rw [hv] at hi; cases hi
    | some u =>
      rw [hv] at hi
      simp only [Option.map_some, Option.some.injEq] at hi
      subst hi
      match j, hj with
      | 0, hj =>
        simp only [List.getElem?_cons_zero, Option.some.injEq] at hj
        subst hj
        have h1 := hc.get i u hv
        rw [Addr.add_lit]
        have h2 := blk_cell (h.holds hm) h1
        simpa using h2⟩
end
end Hr
end Go.Proofs.Ytomhegnaojejnaa
