/- The arguments' readings, opened. -/
import Derived.Test.YtbkmmjpklkallaaRows
import Derived.Test.YtbkmmjpklkallaaClose
import Derived.Test.YtbkmmjpklkallaaPlain
set_option linter.unusedSimpArgs false
set_option linter.unusedVariables false
namespace Go.Proofs.Ytbkmmjpklkallaa
open Go Go.RowKit Go.ChangeShapes Go.WideShapes Hr

theorem own : ownKnob Try.prog.godebug = none := by kernel_rfl
theorem laidOut : laidOutB Try.prog = true := by kernel_rfl
theorem open5 {H : Type} {enc : TypeId × Value → H} {w : World} {base fuel : Nat} {held : Bool} {cs : List Value} {x : DataW H × List MemPlace} (h : DataW.trod enc Try.prog w base (fun _ => true) held fuel 5 cs = some x) : ∃ (a : Int), cs = [.int .u8 a] ∧ (Lit.int .u8 a).wf = true := by
  obtain ⟨a, ha, -, hw⟩ := DataW.trod_int Try.underlying5 h
  exact ⟨a, ha, hw⟩
theorem cel47 : Try.prog.cellsOf 47 = 7 := by kernel_rfl
theorem open3 {H : Type} {enc : TypeId × Value → H} {w : World} {base fuel : Nat} {held : Bool} {cs : List Value} {x : DataW H × List MemPlace} (h : DataW.trod enc Try.prog w base (fun _ => true) held fuel 3 cs = some x) : ∃ (a : Int), cs = [.int .i64 a] ∧ (Lit.int .i64 a).wf = true := by
  obtain ⟨a, ha, -, hw⟩ := DataW.trod_int Try.underlying3 h
  exact ⟨a, ha, hw⟩
theorem cel3 : Try.prog.cellsOf 3 = 1 := by kernel_rfl
theorem cel45 : Try.prog.cellsOf 45 = 2 := by kernel_rfl
theorem open45 {H : Type} {enc : TypeId × Value → H} {w : World} {base fuel : Nat} {held : Bool} {cs : List Value} {x : DataW H × List MemPlace} (h : DataW.trod enc Try.prog w base (fun _ => true) held fuel 45 cs = some x) : ∃ (a0 : Int) (a1 : Int), cs = [.int .i64 a0, .int .i64 a1] ∧ (Lit.int .i64 a0).wf = true ∧ (Lit.int .i64 a1).wf = true := by
  obtain ⟨xs, n', -, -, hl, hlen, hf⟩ := DataW.trod_struct Try.underlying45 h
  rw [cel45] at hl
  obtain ⟨c0, c1, rfl⟩ : ∃ c0 c1, cs = [c0, c1] := by match cs, hl with | [c0, c1], _ => exact ⟨_, _, rfl⟩
  obtain ⟨y0, y1, rfl⟩ : ∃ y0 y1, xs = [y0, y1] := by match xs, hlen with | [y0, y1], _ => exact ⟨_, _, rfl⟩
  have k0 : DataW.trod enc Try.prog w base (fun _ => true) held n' 3 [c0] = some y0 := by simpa [cel3] using hf 0 _ rfl
  obtain ⟨a0, e0, w0_0⟩ := open3 k0
  simp only [List.cons.injEq, and_true] at e0
  subst e0
  have k1 : DataW.trod enc Try.prog w base (fun _ => true) held n' 3 [c1] = some y1 := by simpa [cel3] using hf 1 _ rfl
  obtain ⟨a1, e1, w1_0⟩ := open3 k1
  simp only [List.cons.injEq, and_true] at e1
  subst e1
  exact ⟨a0, a1, rfl, w0_0, w1_0⟩
theorem open47 {H : Type} {enc : TypeId × Value → H} {w : World} {base fuel : Nat} {held : Bool} {cs : List Value} {x : DataW H × List MemPlace} (h : DataW.trod enc Try.prog w base (fun _ => true) held fuel 47 cs = some x) : ∃ (a0 : Int) (a1 : Int) (a2 : Int) (a3 : Int) (a4 : Int) (a50 : Int) (a51 : Int), cs = [.int .i64 a0, .int .i64 a1, .int .i64 a2, .int .i64 a3, .int .i64 a4, .int .i64 a50, .int .i64 a51] ∧ (Lit.int .i64 a0).wf = true ∧ (Lit.int .i64 a1).wf = true ∧ (Lit.int .i64 a2).wf = true ∧ (Lit.int .i64 a3).wf = true ∧ (Lit.int .i64 a4).wf = true ∧ (Lit.int .i64 a50).wf = true ∧ (Lit.int .i64 a51).wf = true := by
  obtain ⟨xs, n', -, -, hl, hlen, hf⟩ := DataW.trod_struct Try.underlying47 h
  rw [cel47] at hl
  obtain ⟨c0, c1, c2, c3, c4, c5, c6, rfl⟩ : ∃ c0 c1 c2 c3 c4 c5 c6, cs = [c0, c1, c2, c3, c4, c5, c6] := by match cs, hl with | [c0, c1, c2, c3, c4, c5, c6], _ => exact ⟨_, _, _, _, _, _, _, rfl⟩
  obtain ⟨y0, y1, y2, y3, y4, y5, rfl⟩ : ∃ y0 y1 y2 y3 y4 y5, xs = [y0, y1, y2, y3, y4, y5] := by match xs, hlen with | [y0, y1, y2, y3, y4, y5], _ => exact ⟨_, _, _, _, _, _, rfl⟩
  have k0 : DataW.trod enc Try.prog w base (fun _ => true) held n' 3 [c0] = some y0 := by simpa [cel3] using hf 0 _ rfl
  obtain ⟨a0, e0, w0_0⟩ := open3 k0
  simp only [List.cons.injEq, and_true] at e0
  subst e0
  have k1 : DataW.trod enc Try.prog w base (fun _ => true) held n' 3 [c1] = some y1 := by simpa [cel3] using hf 1 _ rfl
  obtain ⟨a1, e1, w1_0⟩ := open3 k1
  simp only [List.cons.injEq, and_true] at e1
  subst e1
  have k2 : DataW.trod enc Try.prog w base (fun _ => true) held n' 3 [c2] = some y2 := by simpa [cel3] using hf 2 _ rfl
  obtain ⟨a2, e2, w2_0⟩ := open3 k2
  simp only [List.cons.injEq, and_true] at e2
  subst e2
  have k3 : DataW.trod enc Try.prog w base (fun _ => true) held n' 3 [c3] = some y3 := by simpa [cel3] using hf 3 _ rfl
  obtain ⟨a3, e3, w3_0⟩ := open3 k3
  simp only [List.cons.injEq, and_true] at e3
  subst e3
  have k4 : DataW.trod enc Try.prog w base (fun _ => true) held n' 3 [c4] = some y4 := by simpa [cel3] using hf 4 _ rfl
  obtain ⟨a4, e4, w4_0⟩ := open3 k4
  simp only [List.cons.injEq, and_true] at e4
  subst e4
  have k5 : DataW.trod enc Try.prog w base (fun _ => true) held n' 45 [c5, c6] = some y5 := by simpa [cel45] using hf 5 _ rfl
  obtain ⟨a50, a51, e5, w5_0, w5_1⟩ := open45 k5
  simp only [List.cons.injEq, and_true] at e5
  obtain ⟨rfl, rfl⟩ := e5
  exact ⟨a0, a1, a2, a3, a4, a50, a51, rfl, w0_0, w1_0, w2_0, w3_0, w4_0, w5_0, w5_1⟩
theorem elem47 {H : Type} {enc : TypeId × Value → H} {w : World} {base fuel : Nat} {held : Bool} {cs : List Value} {x : DataW H × List MemPlace} (h : DataW.trod enc Try.prog w base (fun _ => true) held fuel 47 cs = some x) : ∃ p : Note, cs = Note.enc p ∧ (fun _ : Note => True) p := by
  obtain ⟨a0, a1, a2, a3, a4, a50, a51, rfl, w0, w1, w2, w3, w4, w5, w6⟩ := open47 h
  exact ⟨⟨a0, a1, a2, a3, a4, a50, a51⟩, rfl, trivial⟩
theorem open22 {H : Type} {enc : TypeId × Value → H} {w : World} {base fuel : Nat} {held : Bool} {cs : List Value} {x : DataW H × List MemPlace} (h : DataW.trod enc Try.prog w base (fun _ => true) held fuel 22 cs = some x) : ∃ (aA : Option Addr) (al : List Note) (ac : Nat), cs = [.slice aA al.length ac] ∧ al.length ≤ ac ∧ ac ≤ maxLen ∧ Rd w aA 7 (al.map Note.enc) ∧ (∀ p ∈ al, (fun _ : Note => True) p) := by
  exact open_rd Try.underlying22 cel47 (fun _ _ _ h => elem47 h) h
theorem cel24 : Try.prog.cellsOf 24 = 2 := by kernel_rfl
theorem cel22 : Try.prog.cellsOf 22 = 1 := by kernel_rfl
theorem open24 {H : Type} {enc : TypeId × Value → H} {w : World} {base fuel : Nat} {held : Bool} {cs : List Value} {x : DataW H × List MemPlace} (h : DataW.trod enc Try.prog w base (fun _ => true) held fuel 24 cs = some x) : ∃ (a0A : Option Addr) (a0l : List Note) (a0c : Nat) (a1A : Option Addr) (a1l : List Note) (a1c : Nat), cs = [.slice a0A a0l.length a0c, .slice a1A a1l.length a1c] ∧ a0l.length ≤ a0c ∧ a0c ≤ maxLen ∧ Rd w a0A 7 (a0l.map Note.enc) ∧ (∀ p ∈ a0l, (fun _ : Note => True) p) ∧ a1l.length ≤ a1c ∧ a1c ≤ maxLen ∧ Rd w a1A 7 (a1l.map Note.enc) ∧ (∀ p ∈ a1l, (fun _ : Note => True) p) := by
  obtain ⟨xs, n', -, -, hl, hlen, hf⟩ := DataW.trod_struct Try.underlying24 h
  rw [cel24] at hl
  obtain ⟨c0, c1, rfl⟩ : ∃ c0 c1, cs = [c0, c1] := by match cs, hl with | [c0, c1], _ => exact ⟨_, _, rfl⟩
  obtain ⟨y0, y1, rfl⟩ : ∃ y0 y1, xs = [y0, y1] := by match xs, hlen with | [y0, y1], _ => exact ⟨_, _, rfl⟩
  have k0 : DataW.trod enc Try.prog w base (fun _ => true) held n' 22 [c0] = some y0 := by simpa [cel22] using hf 0 _ rfl
  obtain ⟨a0A, a0l, a0c, e0, w0_0, w0_1, w0_2, w0_3⟩ := open22 k0
  simp only [List.cons.injEq, and_true] at e0
  subst e0
  have k1 : DataW.trod enc Try.prog w base (fun _ => true) held n' 22 [c1] = some y1 := by simpa [cel22] using hf 1 _ rfl
  obtain ⟨a1A, a1l, a1c, e1, w1_0, w1_1, w1_2, w1_3⟩ := open22 k1
  simp only [List.cons.injEq, and_true] at e1
  subst e1
  exact ⟨a0A, a0l, a0c, a1A, a1l, a1c, rfl, w0_0, w0_1, w0_2, w0_3, w1_0, w1_1, w1_2, w1_3⟩
theorem cel26 : Try.prog.cellsOf 26 = 5 := by kernel_rfl
theorem open26 {H : Type} {enc : TypeId × Value → H} {w : World} {base fuel : Nat} {held : Bool} {cs : List Value} {x : DataW H × List MemPlace} (h : DataW.trod enc Try.prog w base (fun _ => true) held fuel 26 cs = some x) : ∃ (a0 : Int) (a1 : Int) (a2 : Int) (a3 : Int) (a4 : Int), cs = [.int .i64 a0, .int .i64 a1, .int .i64 a2, .int .i64 a3, .int .i64 a4] ∧ (Lit.int .i64 a0).wf = true ∧ (Lit.int .i64 a1).wf = true ∧ (Lit.int .i64 a2).wf = true ∧ (Lit.int .i64 a3).wf = true ∧ (Lit.int .i64 a4).wf = true := by
  obtain ⟨xs, n', -, -, hl, hlen, hf⟩ := DataW.trod_struct Try.underlying26 h
  rw [cel26] at hl
  obtain ⟨c0, c1, c2, c3, c4, rfl⟩ : ∃ c0 c1 c2 c3 c4, cs = [c0, c1, c2, c3, c4] := by match cs, hl with | [c0, c1, c2, c3, c4], _ => exact ⟨_, _, _, _, _, rfl⟩
  obtain ⟨y0, y1, y2, y3, y4, rfl⟩ : ∃ y0 y1 y2 y3 y4, xs = [y0, y1, y2, y3, y4] := by match xs, hlen with | [y0, y1, y2, y3, y4], _ => exact ⟨_, _, _, _, _, rfl⟩
  have k0 : DataW.trod enc Try.prog w base (fun _ => true) held n' 3 [c0] = some y0 := by simpa [cel3] using hf 0 _ rfl
  obtain ⟨a0, e0, w0_0⟩ := open3 k0
  simp only [List.cons.injEq, and_true] at e0
  subst e0
  have k1 : DataW.trod enc Try.prog w base (fun _ => true) held n' 3 [c1] = some y1 := by simpa [cel3] using hf 1 _ rfl
  obtain ⟨a1, e1, w1_0⟩ := open3 k1
  simp only [List.cons.injEq, and_true] at e1
  subst e1
  have k2 : DataW.trod enc Try.prog w base (fun _ => true) held n' 3 [c2] = some y2 := by simpa [cel3] using hf 2 _ rfl
  obtain ⟨a2, e2, w2_0⟩ := open3 k2
  simp only [List.cons.injEq, and_true] at e2
  subst e2
  have k3 : DataW.trod enc Try.prog w base (fun _ => true) held n' 3 [c3] = some y3 := by simpa [cel3] using hf 3 _ rfl
  obtain ⟨a3, e3, w3_0⟩ := open3 k3
  simp only [List.cons.injEq, and_true] at e3
  subst e3
  have k4 : DataW.trod enc Try.prog w base (fun _ => true) held n' 3 [c4] = some y4 := by simpa [cel3] using hf 4 _ rfl
  obtain ⟨a4, e4, w4_0⟩ := open3 k4
  simp only [List.cons.injEq, and_true] at e4
  subst e4
  exact ⟨a0, a1, a2, a3, a4, rfl, w0_0, w1_0, w2_0, w3_0, w4_0⟩
theorem cel40 : Try.prog.cellsOf 40 = 3 := by kernel_rfl
theorem open40 {H : Type} {enc : TypeId × Value → H} {w : World} {base fuel : Nat} {held : Bool} {cs : List Value} {x : DataW H × List MemPlace} (h : DataW.trod enc Try.prog w base (fun _ => true) held fuel 40 cs = some x) : ∃ (a0 : Int) (a1 : Int) (a2 : Int), cs = [.int .i64 a0, .int .i64 a1, .int .i64 a2] ∧ (Lit.int .i64 a0).wf = true ∧ (Lit.int .i64 a1).wf = true ∧ (Lit.int .i64 a2).wf = true := by
  obtain ⟨xs, n', -, -, hl, hlen, hf⟩ := DataW.trod_struct Try.underlying40 h
  rw [cel40] at hl
  obtain ⟨c0, c1, c2, rfl⟩ : ∃ c0 c1 c2, cs = [c0, c1, c2] := by match cs, hl with | [c0, c1, c2], _ => exact ⟨_, _, _, rfl⟩
  obtain ⟨y0, y1, y2, rfl⟩ : ∃ y0 y1 y2, xs = [y0, y1, y2] := by match xs, hlen with | [y0, y1, y2], _ => exact ⟨_, _, _, rfl⟩
  have k0 : DataW.trod enc Try.prog w base (fun _ => true) held n' 3 [c0] = some y0 := by simpa [cel3] using hf 0 _ rfl
  obtain ⟨a0, e0, w0_0⟩ := open3 k0
  simp only [List.cons.injEq, and_true] at e0
  subst e0
  have k1 : DataW.trod enc Try.prog w base (fun _ => true) held n' 3 [c1] = some y1 := by simpa [cel3] using hf 1 _ rfl
  obtain ⟨a1, e1, w1_0⟩ := open3 k1
  simp only [List.cons.injEq, and_true] at e1
  subst e1
  have k2 : DataW.trod enc Try.prog w base (fun _ => true) held n' 3 [c2] = some y2 := by simpa [cel3] using hf 2 _ rfl
  obtain ⟨a2, e2, w2_0⟩ := open3 k2
  simp only [List.cons.injEq, and_true] at e2
  subst e2
  exact ⟨a0, a1, a2, rfl, w0_0, w1_0, w2_0⟩
theorem elem40 {H : Type} {enc : TypeId × Value → H} {w : World} {base fuel : Nat} {held : Bool} {cs : List Value} {x : DataW H × List MemPlace} (h : DataW.trod enc Try.prog w base (fun _ => true) held fuel 40 cs = some x) : ∃ p : Pair, cs = Pair.enc p ∧ (fun _ : Pair => True) p := by
  obtain ⟨a0, a1, a2, rfl, w0, w1, w2⟩ := open40 h
  exact ⟨⟨a0, a1, a2⟩, rfl, trivial⟩
theorem open28 {H : Type} {enc : TypeId × Value → H} {w : World} {base fuel : Nat} {held : Bool} {cs : List Value} {x : DataW H × List MemPlace} (h : DataW.trod enc Try.prog w base (fun _ => true) held fuel 28 cs = some x) : ∃ (aA : Option Addr) (al : List Pair) (ac : Nat), cs = [.slice aA al.length ac] ∧ al.length ≤ ac ∧ ac ≤ maxLen ∧ Rd w aA 3 (al.map Pair.enc) ∧ (∀ p ∈ al, (fun _ : Pair => True) p) := by
  exact open_rd Try.underlying28 cel40 (fun _ _ _ h => elem40 h) h
def enc_u8 (n : Int) : List Value := [.int .u8 n]
def wf_u8 (n : Int) : Prop := (Lit.int .u8 n).wf = true
theorem elem5 {H : Type} {enc : TypeId × Value → H} {w : World} {base fuel : Nat} {held : Bool} {cs : List Value} {x : DataW H × List MemPlace} (h : DataW.trod enc Try.prog w base (fun _ => true) held fuel 5 cs = some x) : ∃ p : Int, cs = enc_u8 p ∧ wf_u8 p := by
  obtain ⟨a, ha, -, hw⟩ := DataW.trod_int Try.underlying5 h
  exact ⟨a, ha, hw⟩
theorem cel5 : Try.prog.cellsOf 5 = 1 := by kernel_rfl
theorem open43 {H : Type} {enc : TypeId × Value → H} {w : World} {base fuel : Nat} {held : Bool} {cs : List Value} {x : DataW H × List MemPlace} (h : DataW.trod enc Try.prog w base (fun _ => true) held fuel 43 cs = some x) : ∃ (aA : Option Addr) (al : List Int) (ac : Nat), cs = [.slice aA al.length ac] ∧ al.length ≤ ac ∧ ac ≤ maxLen ∧ Rd w aA 1 (al.map enc_u8) ∧ (∀ p ∈ al, wf_u8 p) := by
  exact open_rd Try.underlying43 cel5 (fun _ _ _ h => elem5 h) h

end Go.Proofs.Ytbkmmjpklkallaa
