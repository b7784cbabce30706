/- Equality of structs, field by field. -/
import Derived.Test.YtgphmbipakdggaaRMore
set_option linter.unusedSimpArgs false
set_option linter.unusedVariables false
namespace Go.Proofs.YtgphmbipakdggaaR
namespace Hr
open Go Go.RowKit

section
variable {P : Program} {w : World} {t : TypeId} {cs : Array Value} {off s d : Nat} {v : Value}
theorem part_one (h : One P t) (hx : cs[off]? = some v) : (part t cs off).run P w = .ok v w := by simp [part, h.1, hx]
theorem part_agg {ys : Array Value} (h : Agg P t s) (hy : cs.extract off (off + s) = ys) : (part t cs off).run P w = .ok (.agg ys) w := by simp [part, h.1, h.2.run, hy]
theorem eqF_nil {xs ys : Array Value} : (Op.eqFields d xs ys []).run P w = .ok true w := by simp [Op.eqFields]
theorem eqF_cons {xs ys : Array Value} {f : Field} {fs : List Field} {a b : Value} {r r' : Bool} (hn : f.name ≠ "_") (ha : (part f.type xs f.offset).run P w = .ok a w) (hb : (part f.type ys f.offset).run P w = .ok b w) (he : (Op.equalIn d f.type a b).run P w = .ok r w)
    (hr : (Op.eqFields d xs ys fs).run P w = .ok r' w) : (Op.eqFields d xs ys (f :: fs)).run P w = .ok (r && r') w := by
  simp only [Op.eqFields, hn, ne_eq, not_false_eq_true, if_true, Sem.run_bind, ha, hb, he, Result.andThen_ok]
  cases r
  · simp
  · simpa using hr
end
section
variable {P : Program} {fn : Func} {X : Nat → Prop} {W : World} {n : Nat} {S : St}
theorem end4 {Φ : Value → List Res → Prop} {t u x y : Tmp} {v v' v'' v3 : Value} (hr : fn.results = #[.tmp t, .tmp u, .tmp x, .tmp y]) (hv : fnd S.env t = some v) (hv' : fnd S.env u = some v') (hv'' : fnd S.env x = some v'') (hv3 : fnd S.env y = some v3)
    (hΦ : Φ (.tuple #[v, v', v'', v3]) S.mem) : Run P fn (Ret W X Φ) X W n [] S := by
  intro a w hs
  refine ⟨hs.defers, .tuple #[v, v', v'', v3], ?_, _, S.mem, hΦ, rfl, hs.kept, hs.mem⟩
  simp [results, hr, hs.env t v hv, hs.env u v' hv', hs.env x v'' hv'', hs.env y v3 hv3]
end
end Hr
end Go.Proofs.YtgphmbipakdggaaR
