/- An element of an array that lies in a block. -/
import Derived.Test.YtgphmbipakdggaaRPure
import Derived.ProofKit
import Derived.OpenShut
set_option linter.unusedSimpArgs false
namespace Go.Proofs.YtgphmbipakdggaaR
namespace Hr
open Go Go.RowKit
section
variable {P : Program} {X : Nat → Prop} {W : World} {n : Nat} {S : St} {o : Oper} {t e : TypeId} {x y : Operand}
theorem q_indexB {len b off size q d : Nat} {k : IntKind} {i : Int} (ho : o.op = .indexAddr t x y) (ht : P.underlying t = some (.array len e)) (hsz : Sz P e size) (hx : ev S.env x = some (.pointer (some ⟨b, off, none⟩))) (hy : ev S.env y = some (.int k i))
    (hi : i = (q : Int)) (hq : q < len) (hd : off + q * size = d) : Q1 P X W n S o (.pointer (some ⟨b, d, none⟩)) :=
  fun _ w hs => .inl (by
    subst hi; subst hd
    have h1 : (0 : Int) ≤ (q : Int) ∧ (q : Int) < (len : Int) := by omega
    have e2 : (Addr.add ⟨b, off, none⟩ (q * size)) = ⟨b, off + q * size, none⟩ := by
      unfold Addr.add
      by_cases hj0 : q * size = 0
      · simp [hj0]
      · simp [hj0]
    simp [execOp, ho, hs.eval hx, hs.eval hy, Instr.indexAt, Instr.sureAddr, run_underlying ht, asIntOf, hsz.run, h1.2, hq, e2])
end
theorem okWide_array {P : Program} {w : World} {r : Reach} {base n : Nat} {t e : TypeId} {v : Value} (ht : P.underlying t = some (.array n e)) (h : Value.okWide P w r base t v) : ∃ cs, v = .agg cs ∧ cs.size = P.cellsOf t := by
  simp only [Value.okWide, ht] at h
  obtain ⟨cs, h1, h2, _⟩ := h
  exact ⟨cs, h1, h2⟩
end Hr
end Go.Proofs.YtgphmbipakdggaaR
