/- Open2 -/
import Derived.Test.YticofkkkafhpiaaOpen
import Derived.Test.YticofkkkafhpiaaArr
set_option linter.unusedSimpArgs false
set_option linter.unusedVariables false
namespace Go.Proofs.Yticofkkkafhpiaa
open Go Go.RowKit Go.ChangeShapes Go.WideShapes Hr

theorem cel53 : Try.prog.cellsOf 53 = 2 := by kernel_rfl
theorem open53 {H : Type} {enc : TypeId × Value → H} {w : World} {base fuel : Nat} {held : Bool} {cs : List Value} {x : DataW H × List MemPlace} (h : DataW.trod enc Try.prog w base (fun _ => true) held fuel 53 cs = some x) : ∃ (a0 : Int) (a1 : Int), cs = [.int .i64 a0, .int .i64 a1] ∧ (Lit.int .i64 a0).wf = true ∧ (Lit.int .i64 a1).wf = true := by
  obtain ⟨xs, n', -, -, hl, hlen, hf⟩ := DataW.trod_array Try.underlying53 h
  rw [cel53] at hl
  obtain ⟨c0, c1, rfl⟩ : ∃ c0 c1, cs = [c0, c1] := by match cs, hl with | [c0, c1], _ => exact ⟨_, _, rfl⟩
  obtain ⟨y0, y1, rfl⟩ : ∃ y0 y1, xs = [y0, y1] := by match xs, hlen with | [y0, y1], _ => exact ⟨_, _, rfl⟩
  have k0 : DataW.trod enc Try.prog w base (fun _ => true) held n' 3 [c0] = some y0 := by simpa [cel3] using hf 0 (by decide)
  obtain ⟨a0, e0, w0_0⟩ := open3 k0
  simp only [List.cons.injEq, and_true] at e0
  subst e0
  have k1 : DataW.trod enc Try.prog w base (fun _ => true) held n' 3 [c1] = some y1 := by simpa [cel3] using hf 1 (by decide)
  obtain ⟨a1, e1, w1_0⟩ := open3 k1
  simp only [List.cons.injEq, and_true] at e1
  subst e1
  exact ⟨a0, a1, rfl, w0_0, w1_0⟩

end Go.Proofs.Yticofkkkafhpiaa
