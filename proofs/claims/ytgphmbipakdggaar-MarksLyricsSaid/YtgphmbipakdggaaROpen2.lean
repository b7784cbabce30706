/- hemiolalaw29.(the arguments' readings, opened) answers true at every input, and each argument reads afterwards as it read before. No condition is laid on the input. -/
import Derived.Test.YtgphmbipakdggaaRRows
import Derived.Test.YtgphmbipakdggaaRClose
import Derived.Test.YtgphmbipakdggaaRPlain
set_option linter.unusedSimpArgs false
set_option linter.unusedVariables false
namespace Go.Proofs.YtgphmbipakdggaaR
open Go Go.RowKit Go.ChangeShapes Go.WideShapes Hr

theorem own : ownKnob Try.prog.godebug = none := by kernel_rfl
theorem laidOut : laidOutB Try.prog = true := by kernel_rfl
set_option maxRecDepth 100000 in
theorem open3 {H : Type} {enc : TypeId × Value → H} {w : World} {base fuel : Nat} {held : Bool} {cs : List Value} {x : DataW H × List MemPlace} (h : DataW.trod enc Try.prog w base (fun _ => true) held fuel 3 cs = some x) : ∃ (a : Int), cs = [.int .i64 a] ∧ (Lit.int .i64 a).wf = true := by
  obtain ⟨a, ha, -, hw⟩ := DataW.trod_int Try.underlying3 h
  exact ⟨a, ha, hw⟩
set_option maxRecDepth 100000 in
theorem cel25 : Try.prog.cellsOf 25 = 13 := by kernel_rfl
set_option maxRecDepth 100000 in
theorem cel3 : Try.prog.cellsOf 3 = 1 := by kernel_rfl
set_option maxRecDepth 100000 in
theorem cel23 : Try.prog.cellsOf 23 = 2 := by kernel_rfl
set_option maxRecDepth 100000 in
theorem open23 {H : Type} {enc : TypeId × Value → H} {w : World} {base fuel : Nat} {held : Bool} {cs : List Value} {x : DataW H × List MemPlace} (h : DataW.trod enc Try.prog w base (fun _ => true) held fuel 23 cs = some x) : ∃ (a0 : Int) (a1 : Int), cs = [.int .i64 a0, .int .i64 a1] ∧ (Lit.int .i64 a0).wf = true ∧ (Lit.int .i64 a1).wf = true := by
  obtain ⟨xs, n', -, -, hl, hlen, hf⟩ := DataW.trod_struct Try.underlying23 h
  rw [cel23] at hl
  obtain ⟨c0, c1, rfl⟩ : ∃ c0 c1, cs = [c0, c1] := by match cs, hl with | [c0, c1], _ => exact ⟨_, _, rfl⟩
  obtain ⟨y0, y1, rfl⟩ : ∃ y0 y1, xs = [y0, y1] := by match xs, hlen with | [y0, y1], _ => exact ⟨_, _, rfl⟩
  have k0 : DataW.trod enc Try.prog w base (fun _ => true) held n' 3 [c0] = some y0 := by simpa [cel3] using hf 0 _ rfl
  obtain ⟨a0, e0, w0_0⟩ := open3 k0
  simp only [List.cons.injEq, and_true] at e0
  subst e0
  have k1 : DataW.trod enc Try.prog w base (fun _ => true) held n' 3 [c1] = some y1 := by simpa [cel3] using hf 1 _ rfl
  obtain ⟨a1, e1, w1_0⟩ := open3 k1
  simp only [List.cons.injEq, and_true] at e1
  subst e1
  exact ⟨a0, a1, rfl, w0_0, w1_0⟩
set_option maxRecDepth 100000 in
theorem open25 {H : Type} {enc : TypeId × Value → H} {w : World} {base fuel : Nat} {held : Bool} {cs : List Value} {x : DataW H × List MemPlace} (h : DataW.trod enc Try.prog w base (fun _ => true) held fuel 25 cs = some x) : ∃ (a0 : Int) (a1 : Int) (a2 : Int) (a3 : Int) (a4 : Int) (a5 : Int) (a6 : Int) (a7 : Int) (a80 : Int) (a81 : Int) (a9 : Int) (a10 : Int) (a11 : Int), cs = [.int .i64 a0, .int .i64 a1, .int .i64 a2, .int .i64 a3, .int .i64 a4, .int .i64 a5, .int .i64 a6, .int .i64 a7, .int .i64 a80, .int .i64 a81, .int .i64 a9, .int .i64 a10, .int .i64 a11] ∧ (Lit.int .i64 a0).wf = true ∧ (Lit.int .i64 a1).wf = true ∧ (Lit.int .i64 a2).wf = true ∧ (Lit.int .i64 a3).wf = true ∧ (Lit.int .i64 a4).wf = true ∧ (Lit.int .i64 a5).wf = true ∧ (Lit.int .i64 a6).wf = true ∧ (Lit.int .i64 a7).wf = true ∧ (Lit.int .i64 a80).wf = true ∧ (Lit.int .i64 a81).wf = true ∧ (Lit.int .i64 a9).wf = true ∧ (Lit.int .i64 a10).wf = true ∧ (Lit.int .i64 a11).wf = true := by
  obtain ⟨xs, n', -, -, hl, hlen, hf⟩ := DataW.trod_struct Try.underlying25 h
  rw [cel25] at hl
  obtain ⟨c0, c1, c2, c3, c4, c5, c6, c7, c8, c9, c10, c11, c12, rfl⟩ : ∃ c0 c1 c2 c3 c4 c5 c6 c7 c8 c9 c10 c11 c12, cs = [c0, c1, c2, c3, c4, c5, c6, c7, c8, c9, c10, c11, c12] := by match cs, hl with | [c0, c1, c2, c3, c4, c5, c6, c7, c8, c9, c10, c11, c12], _ => exact ⟨_, _, _, _, _, _, _, _, _, _, _, _, _, rfl⟩
  obtain ⟨y0, y1, y2, y3, y4, y5, y6, y7, y8, y9, y10, y11, rfl⟩ : ∃ y0 y1 y2 y3 y4 y5 y6 y7 y8 y9 y10 y11, xs = [y0, y1, y2, y3, y4, y5, y6, y7, y8, y9, y10, y11] := by match xs, hlen with | [y0, y1, y2, y3, y4, y5, y6, y7, y8, y9, y10, y11], _ => exact ⟨_, _, _, _, _, _, _, _, _, _, _, _, rfl⟩
  have k0 : DataW.trod enc Try.prog w base (fun _ => true) held n' 3 [c0] = some y0 := by simpa [cel3] using hf 0 _ rfl
  obtain ⟨a0, e0, w0_0⟩ := open3 k0
  simp only [List.cons.injEq, and_true] at e0
  subst e0
  have k1 : DataW.trod enc Try.prog w base (fun _ => true) held n' 3 [c1] = some y1 := by simpa [cel3] using hf 1 _ rfl
  obtain ⟨a1, e1, w1_0⟩ := open3 k1
  simp only [List.cons.injEq, and_true] at e1
  subst e1
  have k2 : DataW.trod enc Try.prog w base (fun _ => true) held n' 3 [c2] = some y2 := by simpa [cel3] using hf 2 _ rfl
  obtain ⟨a2, e2, w2_0⟩ := open3 k2
  simp only [List.cons.injEq, and_true] at e2
  subst e2
  have k3 : DataW.trod enc Try.prog w base (fun _ => true) held n' 3 [c3] = some y3 := by simpa [cel3] using hf 3 _ rfl
  obtain ⟨a3, e3, w3_0⟩ := open3 k3
  simp only [List.cons.injEq, and_true] at e3
  subst e3
  have k4 : DataW.trod enc Try.prog w base (fun _ => true) held n' 3 [c4] = some y4 := by simpa [cel3] using hf 4 _ rfl
  obtain ⟨a4, e4, w4_0⟩ := open3 k4
  simp only [List.cons.injEq, and_true] at e4
  subst e4
  have k5 : DataW.trod enc Try.prog w base (fun _ => true) held n' 3 [c5] = some y5 := by simpa [cel3] using hf 5 _ rfl
  obtain ⟨a5, e5, w5_0⟩ := open3 k5
  simp only [List.cons.injEq, and_true] at e5
  subst e5
  have k6 : DataW.trod enc Try.prog w base (fun _ => true) held n' 3 [c6] = some y6 := by simpa [cel3] using hf 6 _ rfl
  obtain ⟨a6, e6, w6_0⟩ := open3 k6
  simp only [List.cons.injEq, and_true] at e6
  subst e6
  have k7 : DataW.trod enc Try.prog w base (fun _ => true) held n' 3 [c7] = some y7 := by simpa [cel3] using hf 7 _ rfl
  obtain ⟨a7, e7, w7_0⟩ := open3 k7
  simp only [List.cons.injEq, and_true] at e7
  subst e7
  have k8 : DataW.trod enc Try.prog w base (fun _ => true) held n' 23 [c8, c9] = some y8 := by simpa [cel23] using hf 8 _ rfl
  obtain ⟨a80, a81, e8, w8_0, w8_1⟩ := open23 k8
  simp only [List.cons.injEq, and_true] at e8
  obtain ⟨rfl, rfl⟩ := e8
  have k9 : DataW.trod enc Try.prog w base (fun _ => true) held n' 3 [c10] = some y9 := by simpa [cel3] using hf 9 _ rfl
  obtain ⟨a9, e9, w9_0⟩ := open3 k9
  simp only [List.cons.injEq, and_true] at e9
  subst e9
  have k10 : DataW.trod enc Try.prog w base (fun _ => true) held n' 3 [c11] = some y10 := by simpa [cel3] using hf 10 _ rfl
  obtain ⟨a10, e10, w10_0⟩ := open3 k10
  simp only [List.cons.injEq, and_true] at e10
  subst e10
  have k11 : DataW.trod enc Try.prog w base (fun _ => true) held n' 3 [c12] = some y11 := by simpa [cel3] using hf 11 _ rfl
  obtain ⟨a11, e11, w11_0⟩ := open3 k11
  simp only [List.cons.injEq, and_true] at e11
  subst e11
  exact ⟨a0, a1, a2, a3, a4, a5, a6, a7, a80, a81, a9, a10, a11, rfl, w0_0, w1_0, w2_0, w3_0, w4_0, w5_0, w6_0, w7_0, w8_0, w8_1, w9_0, w10_0, w11_0⟩
set_option maxRecDepth 100000 in
theorem elem25 {H : Type} {enc : TypeId × Value → H} {w : World} {base fuel : Nat} {held : Bool} {cs : List Value} {x : DataW H × List MemPlace} (h : DataW.trod enc Try.prog w base (fun _ => true) held fuel 25 cs = some x) : ∃ p : Req, cs = Req.enc p ∧ (fun _ : Req => True) p := by
  obtain ⟨a0, a1, a2, a3, a4, a5, a6, a7, a80, a81, a9, a10, a11, rfl, w0, w1, w2, w3, w4, w5, w6, w7, w8, w9, w10, w11, w12⟩ := open25 h
  exact ⟨⟨a0, a1, a2, a3, a4, a5, a6, a7, a80, a81, a9, a10, a11⟩, rfl, trivial⟩
set_option maxRecDepth 100000 in
theorem open37 {H : Type} {enc : TypeId × Value → H} {w : World} {base fuel : Nat} {held : Bool} {cs : List Value} {x : DataW H × List MemPlace} (h : DataW.trod enc Try.prog w base (fun _ => true) held fuel 37 cs = some x) : ∃ (aA : Option Addr) (al : List Req) (ac : Nat), cs = [.slice aA al.length ac] ∧ al.length ≤ ac ∧ ac ≤ maxLen ∧ Rd w aA 13 (al.map Req.enc) ∧ (∀ p ∈ al, (fun _ : Req => True) p) := by
  exact open_rd Try.underlying37 cel25 (fun _ _ _ h => elem25 h) h
set_option maxRecDepth 100000 in
theorem cel30 : Try.prog.cellsOf 30 = 4 := by kernel_rfl
set_option maxRecDepth 100000 in
theorem open30 {H : Type} {enc : TypeId × Value → H} {w : World} {base fuel : Nat} {held : Bool} {cs : List Value} {x : DataW H × List MemPlace} (h : DataW.trod enc Try.prog w base (fun _ => true) held fuel 30 cs = some x) : ∃ (a0 : Int) (a1 : Int) (a2 : Int) (a3 : Int), cs = [.int .i64 a0, .int .i64 a1, .int .i64 a2, .int .i64 a3] ∧ (Lit.int .i64 a0).wf = true ∧ (Lit.int .i64 a1).wf = true ∧ (Lit.int .i64 a2).wf = true ∧ (Lit.int .i64 a3).wf = true := by
  obtain ⟨xs, n', -, -, hl, hlen, hf⟩ := DataW.trod_array Try.underlying30 h
  rw [cel30] at hl
  obtain ⟨c0, c1, c2, c3, rfl⟩ : ∃ c0 c1 c2 c3, cs = [c0, c1, c2, c3] := by match cs, hl with | [c0, c1, c2, c3], _ => exact ⟨_, _, _, _, rfl⟩
  obtain ⟨y0, y1, y2, y3, rfl⟩ : ∃ y0 y1 y2 y3, xs = [y0, y1, y2, y3] := by match xs, hlen with | [y0, y1, y2, y3], _ => exact ⟨_, _, _, _, rfl⟩
  have k0 : DataW.trod enc Try.prog w base (fun _ => true) held n' 3 [c0] = some y0 := by simpa [cel3] using hf 0 (by decide)
  obtain ⟨a0, e0, w0_0⟩ := open3 k0
  simp only [List.cons.injEq, and_true] at e0
  subst e0
  have k1 : DataW.trod enc Try.prog w base (fun _ => true) held n' 3 [c1] = some y1 := by simpa [cel3] using hf 1 (by decide)
  obtain ⟨a1, e1, w1_0⟩ := open3 k1
  simp only [List.cons.injEq, and_true] at e1
  subst e1
  have k2 : DataW.trod enc Try.prog w base (fun _ => true) held n' 3 [c2] = some y2 := by simpa [cel3] using hf 2 (by decide)
  obtain ⟨a2, e2, w2_0⟩ := open3 k2
  simp only [List.cons.injEq, and_true] at e2
  subst e2
  have k3 : DataW.trod enc Try.prog w base (fun _ => true) held n' 3 [c3] = some y3 := by simpa [cel3] using hf 3 (by decide)
  obtain ⟨a3, e3, w3_0⟩ := open3 k3
  simp only [List.cons.injEq, and_true] at e3
  subst e3
  exact ⟨a0, a1, a2, a3, rfl, w0_0, w1_0, w2_0, w3_0⟩
def enc_u16 (n : Int) : List Value := [.int .u16 n]
def wf_u16 (n : Int) : Prop := (Lit.int .u16 n).wf = true
set_option maxRecDepth 100000 in
theorem elem90 {H : Type} {enc : TypeId × Value → H} {w : World} {base fuel : Nat} {held : Bool} {cs : List Value} {x : DataW H × List MemPlace} (h : DataW.trod enc Try.prog w base (fun _ => true) held fuel 90 cs = some x) : ∃ p : Int, cs = enc_u16 p ∧ wf_u16 p := by
  obtain ⟨a, ha, -, hw⟩ := DataW.trod_int Try.underlying90 h
  exact ⟨a, ha, hw⟩
set_option maxRecDepth 100000 in
theorem cel36 : Try.prog.cellsOf 36 = 2 := by kernel_rfl
set_option maxRecDepth 100000 in
theorem cel90 : Try.prog.cellsOf 90 = 1 := by kernel_rfl
set_option maxRecDepth 100000 in
theorem open34 {H : Type} {enc : TypeId × Value → H} {w : World} {base fuel : Nat} {held : Bool} {cs : List Value} {x : DataW H × List MemPlace} (h : DataW.trod enc Try.prog w base (fun _ => true) held fuel 34 cs = some x) : ∃ (aA : Option Addr) (al : List Int) (ac : Nat), cs = [.slice aA al.length ac] ∧ al.length ≤ ac ∧ ac ≤ maxLen ∧ Rd w aA 1 (al.map enc_u16) ∧ (∀ p ∈ al, wf_u16 p) := by
  exact open_rd Try.underlying34 cel90 (fun _ _ _ h => elem90 h) h
set_option maxRecDepth 100000 in
theorem cel34 : Try.prog.cellsOf 34 = 1 := by kernel_rfl
set_option maxRecDepth 100000 in
theorem open36 {H : Type} {enc : TypeId × Value → H} {w : World} {base fuel : Nat} {held : Bool} {cs : List Value} {x : DataW H × List MemPlace} (h : DataW.trod enc Try.prog w base (fun _ => true) held fuel 36 cs = some x) : ∃ (a0A : Option Addr) (a0l : List Int) (a0c : Nat) (a1A : Option Addr) (a1l : List Int) (a1c : Nat), cs = [.slice a0A a0l.length a0c, .slice a1A a1l.length a1c] ∧ a0l.length ≤ a0c ∧ a0c ≤ maxLen ∧ Rd w a0A 1 (a0l.map enc_u16) ∧ (∀ p ∈ a0l, wf_u16 p) ∧ a1l.length ≤ a1c ∧ a1c ≤ maxLen ∧ Rd w a1A 1 (a1l.map enc_u16) ∧ (∀ p ∈ a1l, wf_u16 p) := by
  obtain ⟨xs, n', -, -, hl, hlen, hf⟩ := DataW.trod_struct Try.underlying36 h
  rw [cel36] at hl
  obtain ⟨c0, c1, rfl⟩ : ∃ c0 c1, cs = [c0, c1] := by match cs, hl with | [c0, c1], _ => exact ⟨_, _, rfl⟩
  obtain ⟨y0, y1, rfl⟩ : ∃ y0 y1, xs = [y0, y1] := by match xs, hlen with | [y0, y1], _ => exact ⟨_, _, rfl⟩
  have k0 : DataW.trod enc Try.prog w base (fun _ => true) held n' 34 [c0] = some y0 := by simpa [cel34] using hf 0 _ rfl
  obtain ⟨a0A, a0l, a0c, e0, w0_0, w0_1, w0_2, w0_3⟩ := open34 k0
  simp only [List.cons.injEq, and_true] at e0
  subst e0
  have k1 : DataW.trod enc Try.prog w base (fun _ => true) held n' 34 [c1] = some y1 := by simpa [cel34] using hf 1 _ rfl
  obtain ⟨a1A, a1l, a1c, e1, w1_0, w1_1, w1_2, w1_3⟩ := open34 k1
  simp only [List.cons.injEq, and_true] at e1
  subst e1
  exact ⟨a0A, a0l, a0c, a1A, a1l, a1c, rfl, w0_0, w0_1, w0_2, w0_3, w1_0, w1_1, w1_2, w1_3⟩
set_option maxRecDepth 100000 in
theorem cel59 : Try.prog.cellsOf 59 = 3 := by kernel_rfl
set_option maxRecDepth 100000 in
theorem open59 {H : Type} {enc : TypeId × Value → H} {w : World} {base fuel : Nat} {held : Bool} {cs : List Value} {x : DataW H × List MemPlace} (h : DataW.trod enc Try.prog w base (fun _ => true) held fuel 59 cs = some x) : ∃ (a0 : Int) (a1 : Int) (a2 : Int), cs = [.int .i64 a0, .int .i64 a1, .int .i64 a2] ∧ (Lit.int .i64 a0).wf = true ∧ (Lit.int .i64 a1).wf = true ∧ (Lit.int .i64 a2).wf = true := by
  obtain ⟨xs, n', -, -, hl, hlen, hf⟩ := DataW.trod_array Try.underlying59 h
  rw [cel59] at hl
  obtain ⟨c0, c1, c2, rfl⟩ : ∃ c0 c1 c2, cs = [c0, c1, c2] := by match cs, hl with | [c0, c1, c2], _ => exact ⟨_, _, _, rfl⟩
  obtain ⟨y0, y1, y2, rfl⟩ : ∃ y0 y1 y2, xs = [y0, y1, y2] := by match xs, hlen with | [y0, y1, y2], _ => exact ⟨_, _, _, rfl⟩
  have k0 : DataW.trod enc Try.prog w base (fun _ => true) held n' 3 [c0] = some y0 := by simpa [cel3] using hf 0 (by decide)
  obtain ⟨a0, e0, w0_0⟩ := open3 k0
  simp only [List.cons.injEq, and_true] at e0
  subst e0
  have k1 : DataW.trod enc Try.prog w base (fun _ => true) held n' 3 [c1] = some y1 := by simpa [cel3] using hf 1 (by decide)
  obtain ⟨a1, e1, w1_0⟩ := open3 k1
  simp only [List.cons.injEq, and_true] at e1
  subst e1
  have k2 : DataW.trod enc Try.prog w base (fun _ => true) held n' 3 [c2] = some y2 := by simpa [cel3] using hf 2 (by decide)
  obtain ⟨a2, e2, w2_0⟩ := open3 k2
  simp only [List.cons.injEq, and_true] at e2
  subst e2
  exact ⟨a0, a1, a2, rfl, w0_0, w1_0, w2_0⟩
set_option maxRecDepth 100000 in
theorem open9 {H : Type} {enc : TypeId × Value → H} {w : World} {base fuel : Nat} {held : Bool} {cs : List Value} {x : DataW H × List MemPlace} (h : DataW.trod enc Try.prog w base (fun _ => true) held fuel 9 cs = some x) : ∃ (a : ByteArray), cs = [.string a] ∧ a.size ≤ maxLen := by
  obtain ⟨a, ha, -, hw⟩ := DataW.trod_string Try.underlying9 h
  exact ⟨a, ha, hw⟩

end Go.Proofs.YtgphmbipakdggaaR
