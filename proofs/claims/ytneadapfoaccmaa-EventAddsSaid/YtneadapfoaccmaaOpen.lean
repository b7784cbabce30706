/- hemiolalaw11.(the arguments' readings, opened) answers true at every input, and each argument reads afterwards as it read before. No condition is laid on the input. -/
import Derived.Test.YtneadapfoaccmaaRows
import Derived.Test.YtneadapfoaccmaaClose
import Derived.Test.YtneadapfoaccmaaPlain
set_option linter.unusedSimpArgs false
set_option linter.unusedVariables false
namespace Go.Proofs.Ytneadapfoaccmaa
open Go Go.RowKit Go.ChangeShapes Go.WideShapes Hr

theorem own : ownKnob Try.prog.godebug = none := by kernel_rfl
theorem laidOut : laidOutB Try.prog = true := by kernel_rfl
set_option maxRecDepth 100000 in
theorem cel53 : Try.prog.cellsOf 53 = 5 := by kernel_rfl
set_option maxRecDepth 100000 in
theorem cel51 : Try.prog.cellsOf 51 = 3 := by kernel_rfl
set_option maxRecDepth 100000 in
theorem open3 {H : Type} {enc : TypeId × Value → H} {w : World} {base fuel : Nat} {held : Bool} {cs : List Value} {x : DataW H × List MemPlace} (h : DataW.trod enc Try.prog w base (fun _ => true) held fuel 3 cs = some x) : ∃ (a : Int), cs = [.int .i64 a] ∧ (Lit.int .i64 a).wf = true := by
  obtain ⟨a, ha, -, hw⟩ := DataW.trod_int Try.underlying3 h
  exact ⟨a, ha, hw⟩
set_option maxRecDepth 100000 in
theorem cel3 : Try.prog.cellsOf 3 = 1 := by kernel_rfl
set_option maxRecDepth 100000 in
theorem open51 {H : Type} {enc : TypeId × Value → H} {w : World} {base fuel : Nat} {held : Bool} {cs : List Value} {x : DataW H × List MemPlace} (h : DataW.trod enc Try.prog w base (fun _ => true) held fuel 51 cs = some x) : ∃ (a0 : Int) (a1 : Int) (a2 : Int), cs = [.int .i64 a0, .int .i64 a1, .int .i64 a2] ∧ (Lit.int .i64 a0).wf = true ∧ (Lit.int .i64 a1).wf = true ∧ (Lit.int .i64 a2).wf = true := by
  obtain ⟨xs, n', -, -, hl, hlen, hf⟩ := DataW.trod_struct Try.underlying51 h
  rw [cel51] at hl
  obtain ⟨c0, c1, c2, rfl⟩ : ∃ c0 c1 c2, cs = [c0, c1, c2] := by match cs, hl with | [c0, c1, c2], _ => exact ⟨_, _, _, rfl⟩
  obtain ⟨y0, y1, y2, rfl⟩ : ∃ y0 y1 y2, xs = [y0, y1, y2] := by match xs, hlen with | [y0, y1, y2], _ => exact ⟨_, _, _, rfl⟩
  have k0 : DataW.trod enc Try.prog w base (fun _ => true) held n' 3 [c0] = some y0 := by simpa [cel3] using hf 0 _ rfl
  obtain ⟨a0, e0, w0_0⟩ := open3 k0
  simp only [List.cons.injEq, and_true] at e0
  subst e0
  have k1 : DataW.trod enc Try.prog w base (fun _ => true) held n' 3 [c1] = some y1 := by simpa [cel3] using hf 1 _ rfl
  obtain ⟨a1, e1, w1_0⟩ := open3 k1
  simp only [List.cons.injEq, and_true] at e1
  subst e1
  have k2 : DataW.trod enc Try.prog w base (fun _ => true) held n' 3 [c2] = some y2 := by simpa [cel3] using hf 2 _ rfl
  obtain ⟨a2, e2, w2_0⟩ := open3 k2
  simp only [List.cons.injEq, and_true] at e2
  subst e2
  exact ⟨a0, a1, a2, rfl, w0_0, w1_0, w2_0⟩
set_option maxRecDepth 100000 in
theorem open4 {H : Type} {enc : TypeId × Value → H} {w : World} {base fuel : Nat} {held : Bool} {cs : List Value} {x : DataW H × List MemPlace} (h : DataW.trod enc Try.prog w base (fun _ => true) held fuel 4 cs = some x) : ∃ (a : Bool), cs = [.bool a] := by
  obtain ⟨a, ha, -⟩ := DataW.trod_bool Try.underlying4 h
  exact ⟨a, ha⟩
set_option maxRecDepth 100000 in
theorem cel4 : Try.prog.cellsOf 4 = 1 := by kernel_rfl
set_option maxRecDepth 100000 in
theorem open53 {H : Type} {enc : TypeId × Value → H} {w : World} {base fuel : Nat} {held : Bool} {cs : List Value} {x : DataW H × List MemPlace} (h : DataW.trod enc Try.prog w base (fun _ => true) held fuel 53 cs = some x) : ∃ (a00 : Int) (a01 : Int) (a02 : Int) (a1 : Bool) (a2 : Int), cs = [.int .i64 a00, .int .i64 a01, .int .i64 a02, .bool a1, .int .i64 a2] ∧ (Lit.int .i64 a00).wf = true ∧ (Lit.int .i64 a01).wf = true ∧ (Lit.int .i64 a02).wf = true ∧ (Lit.int .i64 a2).wf = true := by
  obtain ⟨xs, n', -, -, hl, hlen, hf⟩ := DataW.trod_struct Try.underlying53 h
  rw [cel53] at hl
  obtain ⟨c0, c1, c2, c3, c4, rfl⟩ : ∃ c0 c1 c2 c3 c4, cs = [c0, c1, c2, c3, c4] := by match cs, hl with | [c0, c1, c2, c3, c4], _ => exact ⟨_, _, _, _, _, rfl⟩
  obtain ⟨y0, y1, y2, rfl⟩ : ∃ y0 y1 y2, xs = [y0, y1, y2] := by match xs, hlen with | [y0, y1, y2], _ => exact ⟨_, _, _, rfl⟩
  have k0 : DataW.trod enc Try.prog w base (fun _ => true) held n' 51 [c0, c1, c2] = some y0 := by simpa [cel51] using hf 0 _ rfl
  obtain ⟨a00, a01, a02, e0, w0_0, w0_1, w0_2⟩ := open51 k0
  simp only [List.cons.injEq, and_true] at e0
  obtain ⟨rfl, rfl, rfl⟩ := e0
  have k1 : DataW.trod enc Try.prog w base (fun _ => true) held n' 4 [c3] = some y1 := by simpa [cel4] using hf 1 _ rfl
  obtain ⟨a1, e1⟩ := open4 k1
  simp only [List.cons.injEq, and_true] at e1
  subst e1
  have k2 : DataW.trod enc Try.prog w base (fun _ => true) held n' 3 [c4] = some y2 := by simpa [cel3] using hf 2 _ rfl
  obtain ⟨a2, e2, w2_0⟩ := open3 k2
  simp only [List.cons.injEq, and_true] at e2
  subst e2
  exact ⟨a00, a01, a02, a1, a2, rfl, w0_0, w0_1, w0_2, w2_0⟩
set_option maxRecDepth 100000 in
theorem elem53 {H : Type} {enc : TypeId × Value → H} {w : World} {base fuel : Nat} {held : Bool} {cs : List Value} {x : DataW H × List MemPlace} (h : DataW.trod enc Try.prog w base (fun _ => true) held fuel 53 cs = some x) : ∃ p : Hd, cs = Hd.enc p ∧ (fun _ : Hd => True) p := by
  obtain ⟨a00, a01, a02, a1, a2, rfl, w0, w1, w2, w3⟩ := open53 h
  exact ⟨⟨a00, a01, a02, a1, a2⟩, rfl, trivial⟩
set_option maxRecDepth 100000 in
theorem cel55 : Try.prog.cellsOf 55 = 5 := by kernel_rfl
set_option maxRecDepth 100000 in
theorem open55 {H : Type} {enc : TypeId × Value → H} {w : World} {base fuel : Nat} {held : Bool} {cs : List Value} {x : DataW H × List MemPlace} (h : DataW.trod enc Try.prog w base (fun _ => true) held fuel 55 cs = some x) : ∃ (a00 : Int) (a01 : Int) (a02 : Int) (a1 : Int) (a2 : Bool), cs = [.int .i64 a00, .int .i64 a01, .int .i64 a02, .int .i64 a1, .bool a2] ∧ (Lit.int .i64 a00).wf = true ∧ (Lit.int .i64 a01).wf = true ∧ (Lit.int .i64 a02).wf = true ∧ (Lit.int .i64 a1).wf = true := by
  obtain ⟨xs, n', -, -, hl, hlen, hf⟩ := DataW.trod_struct Try.underlying55 h
  rw [cel55] at hl
  obtain ⟨c0, c1, c2, c3, c4, rfl⟩ : ∃ c0 c1 c2 c3 c4, cs = [c0, c1, c2, c3, c4] := by match cs, hl with | [c0, c1, c2, c3, c4], _ => exact ⟨_, _, _, _, _, rfl⟩
  obtain ⟨y0, y1, y2, rfl⟩ : ∃ y0 y1 y2, xs = [y0, y1, y2] := by match xs, hlen with | [y0, y1, y2], _ => exact ⟨_, _, _, rfl⟩
  have k0 : DataW.trod enc Try.prog w base (fun _ => true) held n' 51 [c0, c1, c2] = some y0 := by simpa [cel51] using hf 0 _ rfl
  obtain ⟨a00, a01, a02, e0, w0_0, w0_1, w0_2⟩ := open51 k0
  simp only [List.cons.injEq, and_true] at e0
  obtain ⟨rfl, rfl, rfl⟩ := e0
  have k1 : DataW.trod enc Try.prog w base (fun _ => true) held n' 3 [c3] = some y1 := by simpa [cel3] using hf 1 _ rfl
  obtain ⟨a1, e1, w1_0⟩ := open3 k1
  simp only [List.cons.injEq, and_true] at e1
  subst e1
  have k2 : DataW.trod enc Try.prog w base (fun _ => true) held n' 4 [c4] = some y2 := by simpa [cel4] using hf 2 _ rfl
  obtain ⟨a2, e2⟩ := open4 k2
  simp only [List.cons.injEq, and_true] at e2
  subst e2
  exact ⟨a00, a01, a02, a1, a2, rfl, w0_0, w0_1, w0_2, w1_0⟩
set_option maxRecDepth 100000 in
theorem elem55 {H : Type} {enc : TypeId × Value → H} {w : World} {base fuel : Nat} {held : Bool} {cs : List Value} {x : DataW H × List MemPlace} (h : DataW.trod enc Try.prog w base (fun _ => true) held fuel 55 cs = some x) : ∃ p : Gr, cs = Gr.enc p ∧ (fun _ : Gr => True) p := by
  obtain ⟨a00, a01, a02, a1, a2, rfl, w0, w1, w2, w3⟩ := open55 h
  exact ⟨⟨a00, a01, a02, a1, a2⟩, rfl, trivial⟩
set_option maxRecDepth 100000 in
theorem cel57 : Try.prog.cellsOf 57 = 2 := by kernel_rfl
set_option maxRecDepth 100000 in
theorem open9 {H : Type} {enc : TypeId × Value → H} {w : World} {base fuel : Nat} {held : Bool} {cs : List Value} {x : DataW H × List MemPlace} (h : DataW.trod enc Try.prog w base (fun _ => true) held fuel 9 cs = some x) : ∃ (a : ByteArray), cs = [.string a] ∧ a.size ≤ maxLen := by
  obtain ⟨a, ha, -, hw⟩ := DataW.trod_string Try.underlying9 h
  exact ⟨a, ha, hw⟩
set_option maxRecDepth 100000 in
theorem cel9 : Try.prog.cellsOf 9 = 1 := by kernel_rfl
set_option maxRecDepth 100000 in
theorem open57 {H : Type} {enc : TypeId × Value → H} {w : World} {base fuel : Nat} {held : Bool} {cs : List Value} {x : DataW H × List MemPlace} (h : DataW.trod enc Try.prog w base (fun _ => true) held fuel 57 cs = some x) : ∃ (a0 : ByteArray) (a1 : Int), cs = [.string a0, .int .i64 a1] ∧ a0.size ≤ maxLen ∧ (Lit.int .i64 a1).wf = true := by
  obtain ⟨xs, n', -, -, hl, hlen, hf⟩ := DataW.trod_struct Try.underlying57 h
  rw [cel57] at hl
  obtain ⟨c0, c1, rfl⟩ : ∃ c0 c1, cs = [c0, c1] := by match cs, hl with | [c0, c1], _ => exact ⟨_, _, rfl⟩
  obtain ⟨y0, y1, rfl⟩ : ∃ y0 y1, xs = [y0, y1] := by match xs, hlen with | [y0, y1], _ => exact ⟨_, _, rfl⟩
  have k0 : DataW.trod enc Try.prog w base (fun _ => true) held n' 9 [c0] = some y0 := by simpa [cel9] using hf 0 _ rfl
  obtain ⟨a0, e0, w0_0⟩ := open9 k0
  simp only [List.cons.injEq, and_true] at e0
  subst e0
  have k1 : DataW.trod enc Try.prog w base (fun _ => true) held n' 3 [c1] = some y1 := by simpa [cel3] using hf 1 _ rfl
  obtain ⟨a1, e1, w1_0⟩ := open3 k1
  simp only [List.cons.injEq, and_true] at e1
  subst e1
  exact ⟨a0, a1, rfl, w0_0, w1_0⟩
set_option maxRecDepth 100000 in
theorem elem57 {H : Type} {enc : TypeId × Value → H} {w : World} {base fuel : Nat} {held : Bool} {cs : List Value} {x : DataW H × List MemPlace} (h : DataW.trod enc Try.prog w base (fun _ => true) held fuel 57 cs = some x) : ∃ p : Syl, cs = Syl.enc p ∧ (fun _ : Syl => True) p := by
  obtain ⟨a0, a1, rfl, w0, w1⟩ := open57 h
  exact ⟨⟨a0, a1⟩, rfl, trivial⟩
set_option maxRecDepth 100000 in
theorem cel30 : Try.prog.cellsOf 30 = 13 := by kernel_rfl
set_option maxRecDepth 100000 in
theorem cel23 : Try.prog.cellsOf 23 = 2 := by kernel_rfl
set_option maxRecDepth 100000 in
theorem open23 {H : Type} {enc : TypeId × Value → H} {w : World} {base fuel : Nat} {held : Bool} {cs : List Value} {x : DataW H × List MemPlace} (h : DataW.trod enc Try.prog w base (fun _ => true) held fuel 23 cs = some x) : ∃ (a0 : Int) (a1 : Int), cs = [.int .i64 a0, .int .i64 a1] ∧ (Lit.int .i64 a0).wf = true ∧ (Lit.int .i64 a1).wf = true := by
  obtain ⟨xs, n', -, -, hl, hlen, hf⟩ := DataW.trod_struct Try.underlying23 h
  rw [cel23] at hl
  obtain ⟨c0, c1, rfl⟩ : ∃ c0 c1, cs = [c0, c1] := by match cs, hl with | [c0, c1], _ => exact ⟨_, _, rfl⟩
  obtain ⟨y0, y1, rfl⟩ : ∃ y0 y1, xs = [y0, y1] := by match xs, hlen with | [y0, y1], _ => exact ⟨_, _, rfl⟩
  have k0 : DataW.trod enc Try.prog w base (fun _ => true) held n' 3 [c0] = some y0 := by simpa [cel3] using hf 0 _ rfl
  obtain ⟨a0, e0, w0_0⟩ := open3 k0
  simp only [List.cons.injEq, and_true] at e0
  subst e0
  have k1 : DataW.trod enc Try.prog w base (fun _ => true) held n' 3 [c1] = some y1 := by simpa [cel3] using hf 1 _ rfl
  obtain ⟨a1, e1, w1_0⟩ := open3 k1
  simp only [List.cons.injEq, and_true] at e1
  subst e1
  exact ⟨a0, a1, rfl, w0_0, w1_0⟩
set_option maxRecDepth 100000 in
theorem cel25 : Try.prog.cellsOf 25 = 2 := by kernel_rfl
set_option maxRecDepth 100000 in
theorem open25 {H : Type} {enc : TypeId × Value → H} {w : World} {base fuel : Nat} {held : Bool} {cs : List Value} {x : DataW H × List MemPlace} (h : DataW.trod enc Try.prog w base (fun _ => true) held fuel 25 cs = some x) : ∃ (a0 : Int) (a1 : Int), cs = [.int .i64 a0, .int .i64 a1] ∧ (Lit.int .i64 a0).wf = true ∧ (Lit.int .i64 a1).wf = true := by
  obtain ⟨xs, n', -, -, hl, hlen, hf⟩ := DataW.trod_struct Try.underlying25 h
  rw [cel25] at hl
  obtain ⟨c0, c1, rfl⟩ : ∃ c0 c1, cs = [c0, c1] := by match cs, hl with | [c0, c1], _ => exact ⟨_, _, rfl⟩
  obtain ⟨y0, y1, rfl⟩ : ∃ y0 y1, xs = [y0, y1] := by match xs, hlen with | [y0, y1], _ => exact ⟨_, _, rfl⟩
  have k0 : DataW.trod enc Try.prog w base (fun _ => true) held n' 3 [c0] = some y0 := by simpa [cel3] using hf 0 _ rfl
  obtain ⟨a0, e0, w0_0⟩ := open3 k0
  simp only [List.cons.injEq, and_true] at e0
  subst e0
  have k1 : DataW.trod enc Try.prog w base (fun _ => true) held n' 3 [c1] = some y1 := by simpa [cel3] using hf 1 _ rfl
  obtain ⟨a1, e1, w1_0⟩ := open3 k1
  simp only [List.cons.injEq, and_true] at e1
  subst e1
  exact ⟨a0, a1, rfl, w0_0, w1_0⟩
set_option maxRecDepth 100000 in
theorem open26 {H : Type} {enc : TypeId × Value → H} {w : World} {base fuel : Nat} {held : Bool} {cs : List Value} {x : DataW H × List MemPlace} (h : DataW.trod enc Try.prog w base (fun _ => true) held fuel 26 cs = some x) : ∃ (aA : Option Addr) (al : List Hd) (ac : Nat), cs = [.slice aA al.length ac] ∧ al.length ≤ ac ∧ ac ≤ maxLen ∧ Rd w aA 5 (al.map Hd.enc) ∧ (∀ p ∈ al, (fun _ : Hd => True) p) := by
  exact open_rd Try.underlying26 cel53 (fun _ _ _ h => elem53 h) h
set_option maxRecDepth 100000 in
theorem cel26 : Try.prog.cellsOf 26 = 1 := by kernel_rfl
set_option maxRecDepth 100000 in
theorem open27 {H : Type} {enc : TypeId × Value → H} {w : World} {base fuel : Nat} {held : Bool} {cs : List Value} {x : DataW H × List MemPlace} (h : DataW.trod enc Try.prog w base (fun _ => true) held fuel 27 cs = some x) : ∃ (aA : Option Addr) (al : List Gr) (ac : Nat), cs = [.slice aA al.length ac] ∧ al.length ≤ ac ∧ ac ≤ maxLen ∧ Rd w aA 5 (al.map Gr.enc) ∧ (∀ p ∈ al, (fun _ : Gr => True) p) := by
  exact open_rd Try.underlying27 cel55 (fun _ _ _ h => elem55 h) h
set_option maxRecDepth 100000 in
theorem cel27 : Try.prog.cellsOf 27 = 1 := by kernel_rfl
set_option maxRecDepth 100000 in
theorem open28 {H : Type} {enc : TypeId × Value → H} {w : World} {base fuel : Nat} {held : Bool} {cs : List Value} {x : DataW H × List MemPlace} (h : DataW.trod enc Try.prog w base (fun _ => true) held fuel 28 cs = some x) : ∃ (aA : Option Addr) (al : List Syl) (ac : Nat), cs = [.slice aA al.length ac] ∧ al.length ≤ ac ∧ ac ≤ maxLen ∧ Rd w aA 2 (al.map Syl.enc) ∧ (∀ p ∈ al, (fun _ : Syl => True) p) := by
  exact open_rd Try.underlying28 cel57 (fun _ _ _ h => elem57 h) h
set_option maxRecDepth 100000 in
theorem cel28 : Try.prog.cellsOf 28 = 1 := by kernel_rfl
set_option maxRecDepth 100000 in
theorem open30 {H : Type} {enc : TypeId × Value → H} {w : World} {base fuel : Nat} {held : Bool} {cs : List Value} {x : DataW H × List MemPlace} (h : DataW.trod enc Try.prog w base (fun _ => true) held fuel 30 cs = some x) : ∃ (a00 : Int) (a01 : Int) (a1 : Int) (a20 : Int) (a21 : Int) (a3A : Option Addr) (a3l : List Hd) (a3c : Nat) (a4A : Option Addr) (a4l : List Gr) (a4c : Nat) (a5 : Int) (a6 : Int) (a7 : Int) (a8A : Option Addr) (a8l : List Syl) (a8c : Nat) (a9 : Int) (a10 : Int), cs = [.int .i64 a00, .int .i64 a01, .int .i64 a1, .int .i64 a20, .int .i64 a21, .slice a3A a3l.length a3c, .slice a4A a4l.length a4c, .int .i64 a5, .int .i64 a6, .int .i64 a7, .slice a8A a8l.length a8c, .int .i64 a9, .int .i64 a10] ∧ (Lit.int .i64 a00).wf = true ∧ (Lit.int .i64 a01).wf = true ∧ (Lit.int .i64 a1).wf = true ∧ (Lit.int .i64 a20).wf = true ∧ (Lit.int .i64 a21).wf = true ∧ a3l.length ≤ a3c ∧ a3c ≤ maxLen ∧ Rd w a3A 5 (a3l.map Hd.enc) ∧ (∀ p ∈ a3l, (fun _ : Hd => True) p) ∧ a4l.length ≤ a4c ∧ a4c ≤ maxLen ∧ Rd w a4A 5 (a4l.map Gr.enc) ∧ (∀ p ∈ a4l, (fun _ : Gr => True) p) ∧ (Lit.int .i64 a5).wf = true ∧ (Lit.int .i64 a6).wf = true ∧ (Lit.int .i64 a7).wf = true ∧ a8l.length ≤ a8c ∧ a8c ≤ maxLen ∧ Rd w a8A 2 (a8l.map Syl.enc) ∧ (∀ p ∈ a8l, (fun _ : Syl => True) p) ∧ (Lit.int .i64 a9).wf = true ∧ (Lit.int .i64 a10).wf = true := by
  obtain ⟨xs, n', -, -, hl, hlen, hf⟩ := DataW.trod_struct Try.underlying30 h
  rw [cel30] at hl
  obtain ⟨c0, c1, c2, c3, c4, c5, c6, c7, c8, c9, c10, c11, c12, rfl⟩ : ∃ c0 c1 c2 c3 c4 c5 c6 c7 c8 c9 c10 c11 c12, cs = [c0, c1, c2, c3, c4, c5, c6, c7, c8, c9, c10, c11, c12] := by match cs, hl with | [c0, c1, c2, c3, c4, c5, c6, c7, c8, c9, c10, c11, c12], _ => exact ⟨_, _, _, _, _, _, _, _, _, _, _, _, _, rfl⟩
  obtain ⟨y0, y1, y2, y3, y4, y5, y6, y7, y8, y9, y10, rfl⟩ : ∃ y0 y1 y2 y3 y4 y5 y6 y7 y8 y9 y10, xs = [y0, y1, y2, y3, y4, y5, y6, y7, y8, y9, y10] := by match xs, hlen with | [y0, y1, y2, y3, y4, y5, y6, y7, y8, y9, y10], _ => exact ⟨_, _, _, _, _, _, _, _, _, _, _, rfl⟩
  have k0 : DataW.trod enc Try.prog w base (fun _ => true) held n' 23 [c0, c1] = some y0 := by simpa [cel23] using hf 0 _ rfl
  obtain ⟨a00, a01, e0, w0_0, w0_1⟩ := open23 k0
  simp only [List.cons.injEq, and_true] at e0
  obtain ⟨rfl, rfl⟩ := e0
  have k1 : DataW.trod enc Try.prog w base (fun _ => true) held n' 3 [c2] = some y1 := by simpa [cel3] using hf 1 _ rfl
  obtain ⟨a1, e1, w1_0⟩ := open3 k1
  simp only [List.cons.injEq, and_true] at e1
  subst e1
  have k2 : DataW.trod enc Try.prog w base (fun _ => true) held n' 25 [c3, c4] = some y2 := by simpa [cel25] using hf 2 _ rfl
  obtain ⟨a20, a21, e2, w2_0, w2_1⟩ := open25 k2
  simp only [List.cons.injEq, and_true] at e2
  obtain ⟨rfl, rfl⟩ := e2
  have k3 : DataW.trod enc Try.prog w base (fun _ => true) held n' 26 [c5] = some y3 := by simpa [cel26] using hf 3 _ rfl
  obtain ⟨a3A, a3l, a3c, e3, w3_0, w3_1, w3_2, w3_3⟩ := open26 k3
  simp only [List.cons.injEq, and_true] at e3
  subst e3
  have k4 : DataW.trod enc Try.prog w base (fun _ => true) held n' 27 [c6] = some y4 := by simpa [cel27] using hf 4 _ rfl
  obtain ⟨a4A, a4l, a4c, e4, w4_0, w4_1, w4_2, w4_3⟩ := open27 k4
  simp only [List.cons.injEq, and_true] at e4
  subst e4
  have k5 : DataW.trod enc Try.prog w base (fun _ => true) held n' 3 [c7] = some y5 := by simpa [cel3] using hf 5 _ rfl
  obtain ⟨a5, e5, w5_0⟩ := open3 k5
  simp only [List.cons.injEq, and_true] at e5
  subst e5
  have k6 : DataW.trod enc Try.prog w base (fun _ => true) held n' 3 [c8] = some y6 := by simpa [cel3] using hf 6 _ rfl
  obtain ⟨a6, e6, w6_0⟩ := open3 k6
  simp only [List.cons.injEq, and_true] at e6
  subst e6
  have k7 : DataW.trod enc Try.prog w base (fun _ => true) held n' 3 [c9] = some y7 := by simpa [cel3] using hf 7 _ rfl
  obtain ⟨a7, e7, w7_0⟩ := open3 k7
  simp only [List.cons.injEq, and_true] at e7
  subst e7
  have k8 : DataW.trod enc Try.prog w base (fun _ => true) held n' 28 [c10] = some y8 := by simpa [cel28] using hf 8 _ rfl
  obtain ⟨a8A, a8l, a8c, e8, w8_0, w8_1, w8_2, w8_3⟩ := open28 k8
  simp only [List.cons.injEq, and_true] at e8
  subst e8
  have k9 : DataW.trod enc Try.prog w base (fun _ => true) held n' 3 [c11] = some y9 := by simpa [cel3] using hf 9 _ rfl
  obtain ⟨a9, e9, w9_0⟩ := open3 k9
  simp only [List.cons.injEq, and_true] at e9
  subst e9
  have k10 : DataW.trod enc Try.prog w base (fun _ => true) held n' 3 [c12] = some y10 := by simpa [cel3] using hf 10 _ rfl
  obtain ⟨a10, e10, w10_0⟩ := open3 k10
  simp only [List.cons.injEq, and_true] at e10
  subst e10
  exact ⟨a00, a01, a1, a20, a21, a3A, a3l, a3c, a4A, a4l, a4c, a5, a6, a7, a8A, a8l, a8c, a9, a10, rfl, w0_0, w0_1, w1_0, w2_0, w2_1, w3_0, w3_1, w3_2, w3_3, w4_0, w4_1, w4_2, w4_3, w5_0, w6_0, w7_0, w8_0, w8_1, w8_2, w8_3, w9_0, w10_0⟩
set_option maxRecDepth 100000 in
theorem elem51 {H : Type} {enc : TypeId × Value → H} {w : World} {base fuel : Nat} {held : Bool} {cs : List Value} {x : DataW H × List MemPlace} (h : DataW.trod enc Try.prog w base (fun _ => true) held fuel 51 cs = some x) : ∃ p : Pit, cs = Pit.enc p ∧ (fun _ : Pit => True) p := by
  obtain ⟨a0, a1, a2, rfl, w0, w1, w2⟩ := open51 h
  exact ⟨⟨a0, a1, a2⟩, rfl, trivial⟩
set_option maxRecDepth 100000 in
theorem open58 {H : Type} {enc : TypeId × Value → H} {w : World} {base fuel : Nat} {held : Bool} {cs : List Value} {x : DataW H × List MemPlace} (h : DataW.trod enc Try.prog w base (fun _ => true) held fuel 58 cs = some x) : ∃ (aA : Option Addr) (al : List Pit) (ac : Nat), cs = [.slice aA al.length ac] ∧ al.length ≤ ac ∧ ac ≤ maxLen ∧ Rd w aA 3 (al.map Pit.enc) ∧ (∀ p ∈ al, (fun _ : Pit => True) p) := by
  exact open_rd Try.underlying58 cel51 (fun _ _ _ h => elem51 h) h

end Go.Proofs.Ytneadapfoaccmaa
