/- The readings of further arguments, opened. -/
import Derived.Test.YtbkmmjpklkallaaOpen
set_option linter.unusedSimpArgs false
set_option linter.unusedVariables false
namespace Go.Proofs.Ytbkmmjpklkallaa
open Go Go.RowKit Go.ChangeShapes Go.WideShapes Hr

theorem open4 {H : Type} {enc : TypeId × Value → H} {w : World} {base fuel : Nat} {held : Bool} {cs : List Value} {x : DataW H × List MemPlace} (h : DataW.trod enc Try.prog w base (fun _ => true) held fuel 4 cs = some x) : ∃ (a : Bool), cs = [.bool a] := by
  obtain ⟨a, ha, -⟩ := DataW.trod_bool Try.underlying4 h
  exact ⟨a, ha⟩

end Go.Proofs.Ytbkmmjpklkallaa
