/- Open -/
import Derived.Test.YticofkkkafhpiaaRows
import Derived.Test.YticofkkkafhpiaaClose
import Derived.Test.YticofkkkafhpiaaPlain
set_option linter.unusedSimpArgs false
set_option linter.unusedVariables false
namespace Go.Proofs.Yticofkkkafhpiaa
open Go Go.RowKit Go.ChangeShapes Go.WideShapes Hr

theorem own : ownKnob Try.prog.godebug = none := by kernel_rfl
theorem laidOut : laidOutB Try.prog = true := by kernel_rfl
theorem open3 {H : Type} {enc : TypeId × Value → H} {w : World} {base fuel : Nat} {held : Bool} {cs : List Value} {x : DataW H × List MemPlace} (h : DataW.trod enc Try.prog w base (fun _ => true) held fuel 3 cs = some x) : ∃ (a : Int), cs = [.int .i64 a] ∧ (Lit.int .i64 a).wf = true := by
  obtain ⟨a, ha, -, hw⟩ := DataW.trod_int Try.underlying3 h
  exact ⟨a, ha, hw⟩
theorem open5 {H : Type} {enc : TypeId × Value → H} {w : World} {base fuel : Nat} {held : Bool} {cs : List Value} {x : DataW H × List MemPlace} (h : DataW.trod enc Try.prog w base (fun _ => true) held fuel 5 cs = some x) : ∃ (a : Int), cs = [.int .u8 a] ∧ (Lit.int .u8 a).wf = true := by
  obtain ⟨a, ha, -, hw⟩ := DataW.trod_int Try.underlying5 h
  exact ⟨a, ha, hw⟩
theorem cel46 : Try.prog.cellsOf 46 = 4 := by kernel_rfl
theorem cel3 : Try.prog.cellsOf 3 = 1 := by kernel_rfl
theorem open46 {H : Type} {enc : TypeId × Value → H} {w : World} {base fuel : Nat} {held : Bool} {cs : List Value} {x : DataW H × List MemPlace} (h : DataW.trod enc Try.prog w base (fun _ => true) held fuel 46 cs = some x) : ∃ (a0 : Int) (a1 : Int) (a2 : Int) (a3 : Int), cs = [.int .i64 a0, .int .i64 a1, .int .i64 a2, .int .i64 a3] ∧ (Lit.int .i64 a0).wf = true ∧ (Lit.int .i64 a1).wf = true ∧ (Lit.int .i64 a2).wf = true ∧ (Lit.int .i64 a3).wf = true := by
  obtain ⟨xs, n', -, -, hl, hlen, hf⟩ := DataW.trod_struct Try.underlying46 h
  rw [cel46] at hl
  obtain ⟨c0, c1, c2, c3, rfl⟩ : ∃ c0 c1 c2 c3, cs = [c0, c1, c2, c3] := by match cs, hl with | [c0, c1, c2, c3], _ => exact ⟨_, _, _, _, rfl⟩
  obtain ⟨y0, y1, y2, y3, rfl⟩ : ∃ y0 y1 y2 y3, xs = [y0, y1, y2, y3] := by match xs, hlen with | [y0, y1, y2, y3], _ => exact ⟨_, _, _, _, rfl⟩
  have k0 : DataW.trod enc Try.prog w base (fun _ => true) held n' 3 [c0] = some y0 := by simpa [cel3] using hf 0 _ rfl
  obtain ⟨a0, e0, w0_0⟩ := open3 k0
  simp only [List.cons.injEq, and_true] at e0
  subst e0
  have k1 : DataW.trod enc Try.prog w base (fun _ => true) held n' 3 [c1] = some y1 := by simpa [cel3] using hf 1 _ rfl
  obtain ⟨a1, e1, w1_0⟩ := open3 k1
  simp only [List.cons.injEq, and_true] at e1
  subst e1
  have k2 : DataW.trod enc Try.prog w base (fun _ => true) held n' 3 [c2] = some y2 := by simpa [cel3] using hf 2 _ rfl
  obtain ⟨a2, e2, w2_0⟩ := open3 k2
  simp only [List.cons.injEq, and_true] at e2
  subst e2
  have k3 : DataW.trod enc Try.prog w base (fun _ => true) held n' 3 [c3] = some y3 := by simpa [cel3] using hf 3 _ rfl
  obtain ⟨a3, e3, w3_0⟩ := open3 k3
  simp only [List.cons.injEq, and_true] at e3
  subst e3
  exact ⟨a0, a1, a2, a3, rfl, w0_0, w1_0, w2_0, w3_0⟩
theorem elem46 {H : Type} {enc : TypeId × Value → H} {w : World} {base fuel : Nat} {held : Bool} {cs : List Value} {x : DataW H × List MemPlace} (h : DataW.trod enc Try.prog w base (fun _ => true) held fuel 46 cs = some x) : ∃ p : Tup, cs = Tup.enc p ∧ (fun _ : Tup => True) p := by
  obtain ⟨a0, a1, a2, a3, rfl, w0, w1, w2, w3⟩ := open46 h
  exact ⟨⟨a0, a1, a2, a3⟩, rfl, trivial⟩
theorem open22 {H : Type} {enc : TypeId × Value → H} {w : World} {base fuel : Nat} {held : Bool} {cs : List Value} {x : DataW H × List MemPlace} (h : DataW.trod enc Try.prog w base (fun _ => true) held fuel 22 cs = some x) : ∃ (aA : Option Addr) (al : List Tup) (ac : Nat), cs = [.slice aA al.length ac] ∧ al.length ≤ ac ∧ ac ≤ maxLen ∧ Rd w aA 4 (al.map Tup.enc) ∧ (∀ p ∈ al, (fun _ : Tup => True) p) := by
  exact open_rd Try.underlying22 cel46 (fun _ _ _ h => elem46 h) h
def enc_i64 (n : Int) : List Value := [.int .i64 n]
def wf_i64 (n : Int) : Prop := (Lit.int .i64 n).wf = true
theorem elem3 {H : Type} {enc : TypeId × Value → H} {w : World} {base fuel : Nat} {held : Bool} {cs : List Value} {x : DataW H × List MemPlace} (h : DataW.trod enc Try.prog w base (fun _ => true) held fuel 3 cs = some x) : ∃ p : Int, cs = enc_i64 p ∧ wf_i64 p := by
  obtain ⟨a, ha, -, hw⟩ := DataW.trod_int Try.underlying3 h
  exact ⟨a, ha, hw⟩
theorem open30 {H : Type} {enc : TypeId × Value → H} {w : World} {base fuel : Nat} {held : Bool} {cs : List Value} {x : DataW H × List MemPlace} (h : DataW.trod enc Try.prog w base (fun _ => true) held fuel 30 cs = some x) : ∃ (aA : Option Addr) (al : List Int) (ac : Nat), cs = [.slice aA al.length ac] ∧ al.length ≤ ac ∧ ac ≤ maxLen ∧ Rd w aA 1 (al.map enc_i64) ∧ (∀ p ∈ al, wf_i64 p) := by
  exact open_rd Try.underlying30 cel3 (fun _ _ _ h => elem3 h) h

end Go.Proofs.Yticofkkkafhpiaa
