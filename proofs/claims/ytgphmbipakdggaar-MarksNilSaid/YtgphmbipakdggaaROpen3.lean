/- hemiolalaw29.(a byte's reading, opened) answers true at every input, and each argument reads afterwards as it read before. No condition is laid on the input. -/
import Derived.Test.YtgphmbipakdggaaROpen2
set_option linter.unusedSimpArgs false
set_option linter.unusedVariables false
namespace Go.Proofs.YtgphmbipakdggaaR
open Go Go.RowKit Go.ChangeShapes Go.WideShapes Hr

set_option maxRecDepth 100000 in
theorem open5 {H : Type} {enc : TypeId × Value → H} {w : World} {base fuel : Nat} {held : Bool} {cs : List Value} {x : DataW H × List MemPlace} (h : DataW.trod enc Try.prog w base (fun _ => true) held fuel 5 cs = some x) : ∃ (a : Int), cs = [.int .u8 a] ∧ (Lit.int .u8 a).wf = true := by
  obtain ⟨a, ha, -, hw⟩ := DataW.trod_int Try.underlying5 h
  exact ⟨a, ha, hw⟩

end Go.Proofs.YtgphmbipakdggaaR
