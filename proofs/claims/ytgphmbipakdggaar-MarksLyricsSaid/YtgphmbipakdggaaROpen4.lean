/- hemiolalaw29.(an event's reading, opened) answers true at every input, and each argument reads afterwards as it read before. No condition is laid on the input. -/
import Derived.Test.YtgphmbipakdggaaROpen2
import Derived.Test.YtgphmbipakdggaaREPlain
set_option linter.unusedSimpArgs false
set_option linter.unusedVariables false
namespace Go.Proofs.YtgphmbipakdggaaR
open Go Go.RowKit Go.ChangeShapes Go.WideShapes Hr

set_option maxRecDepth 100000 in
theorem cel152 : Try.prog.cellsOf 152 = 5 := by kernel_rfl
set_option maxRecDepth 100000 in
theorem cel150 : Try.prog.cellsOf 150 = 3 := by kernel_rfl
set_option maxRecDepth 100000 in
theorem open150 {H : Type} {enc : TypeId × Value → H} {w : World} {base fuel : Nat} {held : Bool} {cs : List Value} {x : DataW H × List MemPlace} (h : DataW.trod enc Try.prog w base (fun _ => true) held fuel 150 cs = some x) : ∃ (a0 : Int) (a1 : Int) (a2 : Int), cs = [.int .i64 a0, .int .i64 a1, .int .i64 a2] ∧ (Lit.int .i64 a0).wf = true ∧ (Lit.int .i64 a1).wf = true ∧ (Lit.int .i64 a2).wf = true := by
  obtain ⟨xs, n', -, -, hl, hlen, hf⟩ := DataW.trod_struct Try.underlying150 h
  rw [cel150] at hl
  obtain ⟨c0, c1, c2, rfl⟩ : ∃ c0 c1 c2, cs = [c0, c1, c2] := by match cs, hl with | [c0, c1, c2], _ => exact ⟨_, _, _, rfl⟩
  obtain ⟨y0, y1, y2, rfl⟩ : ∃ y0 y1 y2, xs = [y0, y1, y2] := by match xs, hlen with | [y0, y1, y2], _ => exact ⟨_, _, _, rfl⟩
  have k0 : DataW.trod enc Try.prog w base (fun _ => true) held n' 3 [c0] = some y0 := by simpa [cel3] using hf 0 _ rfl
  obtain ⟨a0, e0, w0_0⟩ := open3 k0
  simp only [List.cons.injEq, and_true] at e0
  subst e0
  have k1 : DataW.trod enc Try.prog w base (fun _ => true) held n' 3 [c1] = some y1 := by simpa [cel3] using hf 1 _ rfl
  obtain ⟨a1, e1, w1_0⟩ := open3 k1
  simp only [List.cons.injEq, and_true] at e1
  subst e1
  have k2 : DataW.trod enc Try.prog w base (fun _ => true) held n' 3 [c2] = some y2 := by simpa [cel3] using hf 2 _ rfl
  obtain ⟨a2, e2, w2_0⟩ := open3 k2
  simp only [List.cons.injEq, and_true] at e2
  subst e2
  exact ⟨a0, a1, a2, rfl, w0_0, w1_0, w2_0⟩
set_option maxRecDepth 100000 in
theorem open4 {H : Type} {enc : TypeId × Value → H} {w : World} {base fuel : Nat} {held : Bool} {cs : List Value} {x : DataW H × List MemPlace} (h : DataW.trod enc Try.prog w base (fun _ => true) held fuel 4 cs = some x) : ∃ (a : Bool), cs = [.bool a] := by
  obtain ⟨a, ha, -⟩ := DataW.trod_bool Try.underlying4 h
  exact ⟨a, ha⟩
set_option maxRecDepth 100000 in
theorem cel4 : Try.prog.cellsOf 4 = 1 := by kernel_rfl
set_option maxRecDepth 100000 in
theorem open152 {H : Type} {enc : TypeId × Value → H} {w : World} {base fuel : Nat} {held : Bool} {cs : List Value} {x : DataW H × List MemPlace} (h : DataW.trod enc Try.prog w base (fun _ => true) held fuel 152 cs = some x) : ∃ (a00 : Int) (a01 : Int) (a02 : Int) (a1 : Bool) (a2 : Int), cs = [.int .i64 a00, .int .i64 a01, .int .i64 a02, .bool a1, .int .i64 a2] ∧ (Lit.int .i64 a00).wf = true ∧ (Lit.int .i64 a01).wf = true ∧ (Lit.int .i64 a02).wf = true ∧ (Lit.int .i64 a2).wf = true := by
  obtain ⟨xs, n', -, -, hl, hlen, hf⟩ := DataW.trod_struct Try.underlying152 h
  rw [cel152] at hl
  obtain ⟨c0, c1, c2, c3, c4, rfl⟩ : ∃ c0 c1 c2 c3 c4, cs = [c0, c1, c2, c3, c4] := by match cs, hl with | [c0, c1, c2, c3, c4], _ => exact ⟨_, _, _, _, _, rfl⟩
  obtain ⟨y0, y1, y2, rfl⟩ : ∃ y0 y1 y2, xs = [y0, y1, y2] := by match xs, hlen with | [y0, y1, y2], _ => exact ⟨_, _, _, rfl⟩
  have k0 : DataW.trod enc Try.prog w base (fun _ => true) held n' 150 [c0, c1, c2] = some y0 := by simpa [cel150] using hf 0 _ rfl
  obtain ⟨a00, a01, a02, e0, w0_0, w0_1, w0_2⟩ := open150 k0
  simp only [List.cons.injEq, and_true] at e0
  obtain ⟨rfl, rfl, rfl⟩ := e0
  have k1 : DataW.trod enc Try.prog w base (fun _ => true) held n' 4 [c3] = some y1 := by simpa [cel4] using hf 1 _ rfl
  obtain ⟨a1, e1⟩ := open4 k1
  simp only [List.cons.injEq, and_true] at e1
  subst e1
  have k2 : DataW.trod enc Try.prog w base (fun _ => true) held n' 3 [c4] = some y2 := by simpa [cel3] using hf 2 _ rfl
  obtain ⟨a2, e2, w2_0⟩ := open3 k2
  simp only [List.cons.injEq, and_true] at e2
  subst e2
  exact ⟨a00, a01, a02, a1, a2, rfl, w0_0, w0_1, w0_2, w2_0⟩
set_option maxRecDepth 100000 in
theorem elem152 {H : Type} {enc : TypeId × Value → H} {w : World} {base fuel : Nat} {held : Bool} {cs : List Value} {x : DataW H × List MemPlace} (h : DataW.trod enc Try.prog w base (fun _ => true) held fuel 152 cs = some x) : ∃ p : Ev.Hd, cs = Ev.Hd.enc p ∧ (fun _ : Ev.Hd => True) p := by
  obtain ⟨a00, a01, a02, a1, a2, rfl, w0, w1, w2, w3⟩ := open152 h
  exact ⟨⟨a00, a01, a02, a1, a2⟩, rfl, trivial⟩
set_option maxRecDepth 100000 in
theorem cel155 : Try.prog.cellsOf 155 = 5 := by kernel_rfl
set_option maxRecDepth 100000 in
theorem open155 {H : Type} {enc : TypeId × Value → H} {w : World} {base fuel : Nat} {held : Bool} {cs : List Value} {x : DataW H × List MemPlace} (h : DataW.trod enc Try.prog w base (fun _ => true) held fuel 155 cs = some x) : ∃ (a00 : Int) (a01 : Int) (a02 : Int) (a1 : Int) (a2 : Bool), cs = [.int .i64 a00, .int .i64 a01, .int .i64 a02, .int .i64 a1, .bool a2] ∧ (Lit.int .i64 a00).wf = true ∧ (Lit.int .i64 a01).wf = true ∧ (Lit.int .i64 a02).wf = true ∧ (Lit.int .i64 a1).wf = true := by
  obtain ⟨xs, n', -, -, hl, hlen, hf⟩ := DataW.trod_struct Try.underlying155 h
  rw [cel155] at hl
  obtain ⟨c0, c1, c2, c3, c4, rfl⟩ : ∃ c0 c1 c2 c3 c4, cs = [c0, c1, c2, c3, c4] := by match cs, hl with | [c0, c1, c2, c3, c4], _ => exact ⟨_, _, _, _, _, rfl⟩
  obtain ⟨y0, y1, y2, rfl⟩ : ∃ y0 y1 y2, xs = [y0, y1, y2] := by match xs, hlen with | [y0, y1, y2], _ => exact ⟨_, _, _, rfl⟩
  have k0 : DataW.trod enc Try.prog w base (fun _ => true) held n' 150 [c0, c1, c2] = some y0 := by simpa [cel150] using hf 0 _ rfl
  obtain ⟨a00, a01, a02, e0, w0_0, w0_1, w0_2⟩ := open150 k0
  simp only [List.cons.injEq, and_true] at e0
  obtain ⟨rfl, rfl, rfl⟩ := e0
  have k1 : DataW.trod enc Try.prog w base (fun _ => true) held n' 3 [c3] = some y1 := by simpa [cel3] using hf 1 _ rfl
  obtain ⟨a1, e1, w1_0⟩ := open3 k1
  simp only [List.cons.injEq, and_true] at e1
  subst e1
  have k2 : DataW.trod enc Try.prog w base (fun _ => true) held n' 4 [c4] = some y2 := by simpa [cel4] using hf 2 _ rfl
  obtain ⟨a2, e2⟩ := open4 k2
  simp only [List.cons.injEq, and_true] at e2
  subst e2
  exact ⟨a00, a01, a02, a1, a2, rfl, w0_0, w0_1, w0_2, w1_0⟩
set_option maxRecDepth 100000 in
theorem elem155 {H : Type} {enc : TypeId × Value → H} {w : World} {base fuel : Nat} {held : Bool} {cs : List Value} {x : DataW H × List MemPlace} (h : DataW.trod enc Try.prog w base (fun _ => true) held fuel 155 cs = some x) : ∃ p : Ev.Gr, cs = Ev.Gr.enc p ∧ (fun _ : Ev.Gr => True) p := by
  obtain ⟨a00, a01, a02, a1, a2, rfl, w0, w1, w2, w3⟩ := open155 h
  exact ⟨⟨a00, a01, a02, a1, a2⟩, rfl, trivial⟩
set_option maxRecDepth 100000 in
theorem cel86 : Try.prog.cellsOf 86 = 2 := by kernel_rfl
set_option maxRecDepth 100000 in
theorem cel9 : Try.prog.cellsOf 9 = 1 := by kernel_rfl
set_option maxRecDepth 100000 in
theorem open86 {H : Type} {enc : TypeId × Value → H} {w : World} {base fuel : Nat} {held : Bool} {cs : List Value} {x : DataW H × List MemPlace} (h : DataW.trod enc Try.prog w base (fun _ => true) held fuel 86 cs = some x) : ∃ (a0 : ByteArray) (a1 : Int), cs = [.string a0, .int .i64 a1] ∧ a0.size ≤ maxLen ∧ (Lit.int .i64 a1).wf = true := by
  obtain ⟨xs, n', -, -, hl, hlen, hf⟩ := DataW.trod_struct Try.underlying86 h
  rw [cel86] at hl
  obtain ⟨c0, c1, rfl⟩ : ∃ c0 c1, cs = [c0, c1] := by match cs, hl with | [c0, c1], _ => exact ⟨_, _, rfl⟩
  obtain ⟨y0, y1, rfl⟩ : ∃ y0 y1, xs = [y0, y1] := by match xs, hlen with | [y0, y1], _ => exact ⟨_, _, rfl⟩
  have k0 : DataW.trod enc Try.prog w base (fun _ => true) held n' 9 [c0] = some y0 := by simpa [cel9] using hf 0 _ rfl
  obtain ⟨a0, e0, w0_0⟩ := open9 k0
  simp only [List.cons.injEq, and_true] at e0
  subst e0
  have k1 : DataW.trod enc Try.prog w base (fun _ => true) held n' 3 [c1] = some y1 := by simpa [cel3] using hf 1 _ rfl
  obtain ⟨a1, e1, w1_0⟩ := open3 k1
  simp only [List.cons.injEq, and_true] at e1
  subst e1
  exact ⟨a0, a1, rfl, w0_0, w1_0⟩
set_option maxRecDepth 100000 in
theorem elem86 {H : Type} {enc : TypeId × Value → H} {w : World} {base fuel : Nat} {held : Bool} {cs : List Value} {x : DataW H × List MemPlace} (h : DataW.trod enc Try.prog w base (fun _ => true) held fuel 86 cs = some x) : ∃ p : Ev.Syl, cs = Ev.Syl.enc p ∧ (fun _ : Ev.Syl => True) p := by
  obtain ⟨a0, a1, rfl, w0, w1⟩ := open86 h
  exact ⟨⟨a0, a1⟩, rfl, trivial⟩
set_option maxRecDepth 100000 in
theorem cel78 : Try.prog.cellsOf 78 = 13 := by kernel_rfl
set_option maxRecDepth 100000 in
theorem cel73 : Try.prog.cellsOf 73 = 2 := by kernel_rfl
set_option maxRecDepth 100000 in
theorem open73 {H : Type} {enc : TypeId × Value → H} {w : World} {base fuel : Nat} {held : Bool} {cs : List Value} {x : DataW H × List MemPlace} (h : DataW.trod enc Try.prog w base (fun _ => true) held fuel 73 cs = some x) : ∃ (a0 : Int) (a1 : Int), cs = [.int .i64 a0, .int .i64 a1] ∧ (Lit.int .i64 a0).wf = true ∧ (Lit.int .i64 a1).wf = true := by
  obtain ⟨xs, n', -, -, hl, hlen, hf⟩ := DataW.trod_struct Try.underlying73 h
  rw [cel73] at hl
  obtain ⟨c0, c1, rfl⟩ : ∃ c0 c1, cs = [c0, c1] := by match cs, hl with | [c0, c1], _ => exact ⟨_, _, rfl⟩
  obtain ⟨y0, y1, rfl⟩ : ∃ y0 y1, xs = [y0, y1] := by match xs, hlen with | [y0, y1], _ => exact ⟨_, _, rfl⟩
  have k0 : DataW.trod enc Try.prog w base (fun _ => true) held n' 3 [c0] = some y0 := by simpa [cel3] using hf 0 _ rfl
  obtain ⟨a0, e0, w0_0⟩ := open3 k0
  simp only [List.cons.injEq, and_true] at e0
  subst e0
  have k1 : DataW.trod enc Try.prog w base (fun _ => true) held n' 3 [c1] = some y1 := by simpa [cel3] using hf 1 _ rfl
  obtain ⟨a1, e1, w1_0⟩ := open3 k1
  simp only [List.cons.injEq, and_true] at e1
  subst e1
  exact ⟨a0, a1, rfl, w0_0, w1_0⟩
set_option maxRecDepth 100000 in
theorem open74 {H : Type} {enc : TypeId × Value → H} {w : World} {base fuel : Nat} {held : Bool} {cs : List Value} {x : DataW H × List MemPlace} (h : DataW.trod enc Try.prog w base (fun _ => true) held fuel 74 cs = some x) : ∃ (aA : Option Addr) (al : List Ev.Hd) (ac : Nat), cs = [.slice aA al.length ac] ∧ al.length ≤ ac ∧ ac ≤ maxLen ∧ Rd w aA 5 (al.map Ev.Hd.enc) ∧ (∀ p ∈ al, (fun _ : Ev.Hd => True) p) := by
  exact open_rd Try.underlying74 cel152 (fun _ _ _ h => elem152 h) h
set_option maxRecDepth 100000 in
theorem cel74 : Try.prog.cellsOf 74 = 1 := by kernel_rfl
set_option maxRecDepth 100000 in
theorem open75 {H : Type} {enc : TypeId × Value → H} {w : World} {base fuel : Nat} {held : Bool} {cs : List Value} {x : DataW H × List MemPlace} (h : DataW.trod enc Try.prog w base (fun _ => true) held fuel 75 cs = some x) : ∃ (aA : Option Addr) (al : List Ev.Gr) (ac : Nat), cs = [.slice aA al.length ac] ∧ al.length ≤ ac ∧ ac ≤ maxLen ∧ Rd w aA 5 (al.map Ev.Gr.enc) ∧ (∀ p ∈ al, (fun _ : Ev.Gr => True) p) := by
  exact open_rd Try.underlying75 cel155 (fun _ _ _ h => elem155 h) h
set_option maxRecDepth 100000 in
theorem cel75 : Try.prog.cellsOf 75 = 1 := by kernel_rfl
set_option maxRecDepth 100000 in
theorem open76 {H : Type} {enc : TypeId × Value → H} {w : World} {base fuel : Nat} {held : Bool} {cs : List Value} {x : DataW H × List MemPlace} (h : DataW.trod enc Try.prog w base (fun _ => true) held fuel 76 cs = some x) : ∃ (aA : Option Addr) (al : List Ev.Syl) (ac : Nat), cs = [.slice aA al.length ac] ∧ al.length ≤ ac ∧ ac ≤ maxLen ∧ Rd w aA 2 (al.map Ev.Syl.enc) ∧ (∀ p ∈ al, (fun _ : Ev.Syl => True) p) := by
  exact open_rd Try.underlying76 cel86 (fun _ _ _ h => elem86 h) h
set_option maxRecDepth 100000 in
theorem cel76 : Try.prog.cellsOf 76 = 1 := by kernel_rfl
set_option maxRecDepth 100000 in
theorem open78 {H : Type} {enc : TypeId × Value → H} {w : World} {base fuel : Nat} {held : Bool} {cs : List Value} {x : DataW H × List MemPlace} (h : DataW.trod enc Try.prog w base (fun _ => true) held fuel 78 cs = some x) : ∃ (a00 : Int) (a01 : Int) (a1 : Int) (a20 : Int) (a21 : Int) (a3A : Option Addr) (a3l : List Ev.Hd) (a3c : Nat) (a4A : Option Addr) (a4l : List Ev.Gr) (a4c : Nat) (a5 : Int) (a6 : Int) (a7 : Int) (a8A : Option Addr) (a8l : List Ev.Syl) (a8c : Nat) (a9 : Int) (a10 : Int), cs = [.int .i64 a00, .int .i64 a01, .int .i64 a1, .int .i64 a20, .int .i64 a21, .slice a3A a3l.length a3c, .slice a4A a4l.length a4c, .int .i64 a5, .int .i64 a6, .int .i64 a7, .slice a8A a8l.length a8c, .int .i64 a9, .int .i64 a10] ∧ (Lit.int .i64 a00).wf = true ∧ (Lit.int .i64 a01).wf = true ∧ (Lit.int .i64 a1).wf = true ∧ (Lit.int .i64 a20).wf = true ∧ (Lit.int .i64 a21).wf = true ∧ a3l.length ≤ a3c ∧ a3c ≤ maxLen ∧ Rd w a3A 5 (a3l.map Ev.Hd.enc) ∧ (∀ p ∈ a3l, (fun _ : Ev.Hd => True) p) ∧ a4l.length ≤ a4c ∧ a4c ≤ maxLen ∧ Rd w a4A 5 (a4l.map Ev.Gr.enc) ∧ (∀ p ∈ a4l, (fun _ : Ev.Gr => True) p) ∧ (Lit.int .i64 a5).wf = true ∧ (Lit.int .i64 a6).wf = true ∧ (Lit.int .i64 a7).wf = true ∧ a8l.length ≤ a8c ∧ a8c ≤ maxLen ∧ Rd w a8A 2 (a8l.map Ev.Syl.enc) ∧ (∀ p ∈ a8l, (fun _ : Ev.Syl => True) p) ∧ (Lit.int .i64 a9).wf = true ∧ (Lit.int .i64 a10).wf = true := by
  obtain ⟨xs, n', -, -, hl, hlen, hf⟩ := DataW.trod_struct Try.underlying78 h
  rw [cel78] at hl
  obtain ⟨c0, c1, c2, c3, c4, c5, c6, c7, c8, c9, c10, c11, c12, rfl⟩ : ∃ c0 c1 c2 c3 c4 c5 c6 c7 c8 c9 c10 c11 c12, cs = [c0, c1, c2, c3, c4, c5, c6, c7, c8, c9, c10, c11, c12] := by match cs, hl with | [c0, c1, c2, c3, c4, c5, c6, c7, c8, c9, c10, c11, c12], _ => exact ⟨_, _, _, _, _, _, _, _, _, _, _, _, _, rfl⟩
  obtain ⟨y0, y1, y2, y3, y4, y5, y6, y7, y8, y9, y10, rfl⟩ : ∃ y0 y1 y2 y3 y4 y5 y6 y7 y8 y9 y10, xs = [y0, y1, y2, y3, y4, y5, y6, y7, y8, y9, y10] := by match xs, hlen with | [y0, y1, y2, y3, y4, y5, y6, y7, y8, y9, y10], _ => exact ⟨_, _, _, _, _, _, _, _, _, _, _, rfl⟩
  have k0 : DataW.trod enc Try.prog w base (fun _ => true) held n' 23 [c0, c1] = some y0 := by simpa [cel23] using hf 0 _ rfl
  obtain ⟨a00, a01, e0, w0_0, w0_1⟩ := open23 k0
  simp only [List.cons.injEq, and_true] at e0
  obtain ⟨rfl, rfl⟩ := e0
  have k1 : DataW.trod enc Try.prog w base (fun _ => true) held n' 3 [c2] = some y1 := by simpa [cel3] using hf 1 _ rfl
  obtain ⟨a1, e1, w1_0⟩ := open3 k1
  simp only [List.cons.injEq, and_true] at e1
  subst e1
  have k2 : DataW.trod enc Try.prog w base (fun _ => true) held n' 73 [c3, c4] = some y2 := by simpa [cel73] using hf 2 _ rfl
  obtain ⟨a20, a21, e2, w2_0, w2_1⟩ := open73 k2
  simp only [List.cons.injEq, and_true] at e2
  obtain ⟨rfl, rfl⟩ := e2
  have k3 : DataW.trod enc Try.prog w base (fun _ => true) held n' 74 [c5] = some y3 := by simpa [cel74] using hf 3 _ rfl
  obtain ⟨a3A, a3l, a3c, e3, w3_0, w3_1, w3_2, w3_3⟩ := open74 k3
  simp only [List.cons.injEq, and_true] at e3
  subst e3
  have k4 : DataW.trod enc Try.prog w base (fun _ => true) held n' 75 [c6] = some y4 := by simpa [cel75] using hf 4 _ rfl
  obtain ⟨a4A, a4l, a4c, e4, w4_0, w4_1, w4_2, w4_3⟩ := open75 k4
  simp only [List.cons.injEq, and_true] at e4
  subst e4
  have k5 : DataW.trod enc Try.prog w base (fun _ => true) held n' 3 [c7] = some y5 := by simpa [cel3] using hf 5 _ rfl
  obtain ⟨a5, e5, w5_0⟩ := open3 k5
  simp only [List.cons.injEq, and_true] at e5
  subst e5
  have k6 : DataW.trod enc Try.prog w base (fun _ => true) held n' 3 [c8] = some y6 := by simpa [cel3] using hf 6 _ rfl
  obtain ⟨a6, e6, w6_0⟩ := open3 k6
  simp only [List.cons.injEq, and_true] at e6
  subst e6
  have k7 : DataW.trod enc Try.prog w base (fun _ => true) held n' 3 [c9] = some y7 := by simpa [cel3] using hf 7 _ rfl
  obtain ⟨a7, e7, w7_0⟩ := open3 k7
  simp only [List.cons.injEq, and_true] at e7
  subst e7
  have k8 : DataW.trod enc Try.prog w base (fun _ => true) held n' 76 [c10] = some y8 := by simpa [cel76] using hf 8 _ rfl
  obtain ⟨a8A, a8l, a8c, e8, w8_0, w8_1, w8_2, w8_3⟩ := open76 k8
  simp only [List.cons.injEq, and_true] at e8
  subst e8
  have k9 : DataW.trod enc Try.prog w base (fun _ => true) held n' 3 [c11] = some y9 := by simpa [cel3] using hf 9 _ rfl
  obtain ⟨a9, e9, w9_0⟩ := open3 k9
  simp only [List.cons.injEq, and_true] at e9
  subst e9
  have k10 : DataW.trod enc Try.prog w base (fun _ => true) held n' 3 [c12] = some y10 := by simpa [cel3] using hf 10 _ rfl
  obtain ⟨a10, e10, w10_0⟩ := open3 k10
  simp only [List.cons.injEq, and_true] at e10
  subst e10
  exact ⟨a00, a01, a1, a20, a21, a3A, a3l, a3c, a4A, a4l, a4c, a5, a6, a7, a8A, a8l, a8c, a9, a10, rfl, w0_0, w0_1, w1_0, w2_0, w2_1, w3_0, w3_1, w3_2, w3_3, w4_0, w4_1, w4_2, w4_3, w5_0, w6_0, w7_0, w8_0, w8_1, w8_2, w8_3, w9_0, w10_0⟩
set_option maxRecDepth 100000 in
theorem cel80 : Try.prog.cellsOf 80 = 4 := by kernel_rfl
set_option maxRecDepth 100000 in
theorem open80 {H : Type} {enc : TypeId × Value → H} {w : World} {base fuel : Nat} {held : Bool} {cs : List Value} {x : DataW H × List MemPlace} (h : DataW.trod enc Try.prog w base (fun _ => true) held fuel 80 cs = some x) : ∃ (a0 : Int) (a1 : Int) (a2 : Int) (a3 : Int), cs = [.int .i64 a0, .int .i64 a1, .int .i64 a2, .int .i64 a3] ∧ (Lit.int .i64 a0).wf = true ∧ (Lit.int .i64 a1).wf = true ∧ (Lit.int .i64 a2).wf = true ∧ (Lit.int .i64 a3).wf = true := by
  obtain ⟨xs, n', -, -, hl, hlen, hf⟩ := DataW.trod_struct Try.underlying80 h
  rw [cel80] at hl
  obtain ⟨c0, c1, c2, c3, rfl⟩ : ∃ c0 c1 c2 c3, cs = [c0, c1, c2, c3] := by match cs, hl with | [c0, c1, c2, c3], _ => exact ⟨_, _, _, _, rfl⟩
  obtain ⟨y0, y1, y2, y3, rfl⟩ : ∃ y0 y1 y2 y3, xs = [y0, y1, y2, y3] := by match xs, hlen with | [y0, y1, y2, y3], _ => exact ⟨_, _, _, _, rfl⟩
  have k0 : DataW.trod enc Try.prog w base (fun _ => true) held n' 3 [c0] = some y0 := by simpa [cel3] using hf 0 _ rfl
  obtain ⟨a0, e0, w0_0⟩ := open3 k0
  simp only [List.cons.injEq, and_true] at e0
  subst e0
  have k1 : DataW.trod enc Try.prog w base (fun _ => true) held n' 3 [c1] = some y1 := by simpa [cel3] using hf 1 _ rfl
  obtain ⟨a1, e1, w1_0⟩ := open3 k1
  simp only [List.cons.injEq, and_true] at e1
  subst e1
  have k2 : DataW.trod enc Try.prog w base (fun _ => true) held n' 3 [c2] = some y2 := by simpa [cel3] using hf 2 _ rfl
  obtain ⟨a2, e2, w2_0⟩ := open3 k2
  simp only [List.cons.injEq, and_true] at e2
  subst e2
  have k3 : DataW.trod enc Try.prog w base (fun _ => true) held n' 3 [c3] = some y3 := by simpa [cel3] using hf 3 _ rfl
  obtain ⟨a3, e3, w3_0⟩ := open3 k3
  simp only [List.cons.injEq, and_true] at e3
  subst e3
  exact ⟨a0, a1, a2, a3, rfl, w0_0, w1_0, w2_0, w3_0⟩
theorem slice_weight {H : Type} {enc : TypeId × Value → H} {w : World} {base fuel n c : Nat} {held : Bool} {sp : Nat → Bool} {A : Option Addr} {x : DataW H × List MemPlace} {P : Program} {t e : TypeId} {L : Nat} (ht : P.underlying t = some (.slice e)) (h : DataW.trod enc P w base sp held fuel t [.slice A n c] = some x) (hw : ∀ k ∈ x.1.weights P t, k ≤ L) : n * P.bytesOf e ≤ L := by
  rcases DataW.trod_slice ht h with ⟨hcs, rfl⟩ | ⟨a, len, cap, elems, rest, n', -, hcs, rfl, -, -, -, hlen, -, -, -⟩
  · simp only [List.cons.injEq, Value.slice.injEq, and_true] at hcs
    rw [hcs.2.1]; simp
  · simp only [List.cons.injEq, Value.slice.injEq, and_true] at hcs
    have h1 := hw (((elems.map (·.1)).length + (rest.map (·.1)).length) * P.bytesOf e) (by simp [DataW.weights, ht])
    rw [List.length_map, hlen] at h1
    rw [hcs.2.1]
    exact Nat.le_trans (Nat.mul_le_mul_right _ (Nat.le_add_right _ _)) h1
theorem wgt78 {H : Type} {enc : TypeId × Value → H} {w : World} {base fuel n m l a b c : Nat} {held : Bool} {A B C : Option Addr} {c0 c1 c2 c3 c4 c7 c8 c9 c11 c12 : Value} {x : DataW H × List MemPlace} (h : DataW.trod enc Try.prog w base (fun _ => true) held fuel 78 [c0, c1, c2, c3, c4, .slice A n a, .slice B m b, c7, c8, c9, .slice C l c, c11, c12] = some x) (hw : ∀ k ∈ x.1.weights Try.prog 78, k ≤ reachBytes) :
    n * 40 ≤ 140737488355328 ∧ m * 40 ≤ 140737488355328 ∧ l * 24 ≤ 140737488355328 := by
  have hr : reachBytes ≤ 140737488355328 := by decide
  obtain ⟨xs, n', -, rfl, -, hlen, hf⟩ := DataW.trod_struct Try.underlying78 h
  have hlen' : xs.length = 11 := hlen
  have mem : ∀ (j : Nat) (hj : j < xs.length) (t : TypeId), (([23, 3, 73, 74, 75, 3, 3, 3, 76, 3, 3] : List TypeId))[j]? = some t → ∀ k ∈ (xs[j].1).weights Try.prog t, k ≤ reachBytes := fun j hj t ht k hk => hw k (by
    simp only [DataW.weights, Try.underlying78]
    exact DataW.weights_mem_each (j := j) (t := t) ht (by simp [hj]) k hk)
  have b1 : Try.prog.bytesOf 152 = 40 := by kernel_rfl
  have b2 : Try.prog.bytesOf 155 = 40 := by kernel_rfl
  have b3 : Try.prog.bytesOf 86 = 24 := by kernel_rfl
  have k3 := hf 3 _ rfl
  have k4 := hf 4 _ rfl
  have k8 := hf 8 _ rfl
  rw [List.getElem?_eq_getElem (by omega)] at k3 k4 k8
  have w3 := slice_weight (A := A) (n := n) (c := a) Try.underlying74 (by simpa [cel74] using k3) (mem 3 _ 74 rfl)
  have w4 := slice_weight (A := B) (n := m) (c := b) Try.underlying75 (by simpa [cel75] using k4) (mem 4 _ 75 rfl)
  have w8 := slice_weight (A := C) (n := l) (c := c) Try.underlying76 (by simpa [cel76] using k8) (mem 8 _ 76 rfl)
  rw [b1] at w3
  rw [b2] at w4
  rw [b3] at w8
  omega

end Go.Proofs.YtgphmbipakdggaaR
