/- hemiolalaw28.(the arguments' readings, opened) answers true at every input, and each argument reads afterwards as it read before. No condition is laid on the input. -/
import Derived.Test.YtomhegnaojejnaaRows
import Derived.Test.YtomhegnaojejnaaClose
import Derived.Test.YtomhegnaojejnaaOrd
set_option linter.unusedSimpArgs false
set_option linter.unusedVariables false
namespace Go.Proofs.Ytomhegnaojejnaa
open Go Go.RowKit Go.ChangeShapes Go.WideShapes Hr

theorem own : ownKnob Try.prog.godebug = none := by kernel_rfl
theorem laidOut : laidOutB Try.prog = true := by kernel_rfl
set_option maxRecDepth 100000 in
theorem cel25 : Try.prog.cellsOf 25 = 12 := by kernel_rfl
set_option maxRecDepth 100000 in
theorem open3 {H : Type} {enc : TypeId × Value → H} {w : World} {base fuel : Nat} {held : Bool} {cs : List Value} {x : DataW H × List MemPlace} (h : DataW.trod enc Try.prog w base (fun _ => true) held fuel 3 cs = some x) : ∃ (a : Int), cs = [.int .i64 a] ∧ (Lit.int .i64 a).wf = true := by
  obtain ⟨a, ha, -, hw⟩ := DataW.trod_int Try.underlying3 h
  exact ⟨a, ha, hw⟩
set_option maxRecDepth 100000 in
theorem cel3 : Try.prog.cellsOf 3 = 1 := by kernel_rfl
set_option maxRecDepth 100000 in
theorem cel23 : Try.prog.cellsOf 23 = 2 := by kernel_rfl
set_option maxRecDepth 100000 in
theorem open23 {H : Type} {enc : TypeId × Value → H} {w : World} {base fuel : Nat} {held : Bool} {cs : List Value} {x : DataW H × List MemPlace} (h : DataW.trod enc Try.prog w base (fun _ => true) held fuel 23 cs = some x) : ∃ (a0 : Int) (a1 : Int), cs = [.int .i64 a0, .int .i64 a1] ∧ (Lit.int .i64 a0).wf = true ∧ (Lit.int .i64 a1).wf = true := by
  obtain ⟨xs, n', -, -, hl, hlen, hf⟩ := DataW.trod_struct Try.underlying23 h
  rw [cel23] at hl
  obtain ⟨c0, c1, rfl⟩ : ∃ c0 c1, cs = [c0, c1] := by match cs, hl with | [c0, c1], _ => exact ⟨_, _, rfl⟩
  obtain ⟨y0, y1, rfl⟩ : ∃ y0 y1, xs = [y0, y1] := by match xs, hlen with | [y0, y1], _ => exact ⟨_, _, rfl⟩
  have k0 : DataW.trod enc Try.prog w base (fun _ => true) held n' 3 [c0] = some y0 := by simpa [cel3] using hf 0 _ rfl
  obtain ⟨a0, e0, w0_0⟩ := open3 k0
  simp only [List.cons.injEq, and_true] at e0
  subst e0
  have k1 : DataW.trod enc Try.prog w base (fun _ => true) held n' 3 [c1] = some y1 := by simpa [cel3] using hf 1 _ rfl
  obtain ⟨a1, e1, w1_0⟩ := open3 k1
  simp only [List.cons.injEq, and_true] at e1
  subst e1
  exact ⟨a0, a1, rfl, w0_0, w1_0⟩
set_option maxRecDepth 100000 in
theorem open4 {H : Type} {enc : TypeId × Value → H} {w : World} {base fuel : Nat} {held : Bool} {cs : List Value} {x : DataW H × List MemPlace} (h : DataW.trod enc Try.prog w base (fun _ => true) held fuel 4 cs = some x) : ∃ (a : Bool), cs = [.bool a] := by
  obtain ⟨a, ha, -⟩ := DataW.trod_bool Try.underlying4 h
  exact ⟨a, ha⟩
set_option maxRecDepth 100000 in
theorem cel4 : Try.prog.cellsOf 4 = 1 := by kernel_rfl
set_option maxRecDepth 100000 in
theorem open25 {H : Type} {enc : TypeId × Value → H} {w : World} {base fuel : Nat} {held : Bool} {cs : List Value} {x : DataW H × List MemPlace} (h : DataW.trod enc Try.prog w base (fun _ => true) held fuel 25 cs = some x) : ∃ (a0 : Int) (a1 : Int) (a2 : Int) (a3 : Int) (a40 : Int) (a41 : Int) (a5 : Int) (a6 : Int) (a7 : Int) (a8 : Int) (a9 : Bool) (a10 : Bool), cs = [.int .i64 a0, .int .i64 a1, .int .i64 a2, .int .i64 a3, .int .i64 a40, .int .i64 a41, .int .i64 a5, .int .i64 a6, .int .i64 a7, .int .i64 a8, .bool a9, .bool a10] ∧ (Lit.int .i64 a0).wf = true ∧ (Lit.int .i64 a1).wf = true ∧ (Lit.int .i64 a2).wf = true ∧ (Lit.int .i64 a3).wf = true ∧ (Lit.int .i64 a40).wf = true ∧ (Lit.int .i64 a41).wf = true ∧ (Lit.int .i64 a5).wf = true ∧ (Lit.int .i64 a6).wf = true ∧ (Lit.int .i64 a7).wf = true ∧ (Lit.int .i64 a8).wf = true := by
  obtain ⟨xs, n', -, -, hl, hlen, hf⟩ := DataW.trod_struct Try.underlying25 h
  rw [cel25] at hl
  obtain ⟨c0, c1, c2, c3, c4, c5, c6, c7, c8, c9, c10, c11, rfl⟩ : ∃ c0 c1 c2 c3 c4 c5 c6 c7 c8 c9 c10 c11, cs = [c0, c1, c2, c3, c4, c5, c6, c7, c8, c9, c10, c11] := by match cs, hl with | [c0, c1, c2, c3, c4, c5, c6, c7, c8, c9, c10, c11], _ => exact ⟨_, _, _, _, _, _, _, _, _, _, _, _, rfl⟩
  obtain ⟨y0, y1, y2, y3, y4, y5, y6, y7, y8, y9, y10, rfl⟩ : ∃ y0 y1 y2 y3 y4 y5 y6 y7 y8 y9 y10, xs = [y0, y1, y2, y3, y4, y5, y6, y7, y8, y9, y10] := by match xs, hlen with | [y0, y1, y2, y3, y4, y5, y6, y7, y8, y9, y10], _ => exact ⟨_, _, _, _, _, _, _, _, _, _, _, rfl⟩
  have k0 : DataW.trod enc Try.prog w base (fun _ => true) held n' 3 [c0] = some y0 := by simpa [cel3] using hf 0 _ rfl
  obtain ⟨a0, e0, w0_0⟩ := open3 k0
  simp only [List.cons.injEq, and_true] at e0
  subst e0
  have k1 : DataW.trod enc Try.prog w base (fun _ => true) held n' 3 [c1] = some y1 := by simpa [cel3] using hf 1 _ rfl
  obtain ⟨a1, e1, w1_0⟩ := open3 k1
  simp only [List.cons.injEq, and_true] at e1
  subst e1
  have k2 : DataW.trod enc Try.prog w base (fun _ => true) held n' 3 [c2] = some y2 := by simpa [cel3] using hf 2 _ rfl
  obtain ⟨a2, e2, w2_0⟩ := open3 k2
  simp only [List.cons.injEq, and_true] at e2
  subst e2
  have k3 : DataW.trod enc Try.prog w base (fun _ => true) held n' 3 [c3] = some y3 := by simpa [cel3] using hf 3 _ rfl
  obtain ⟨a3, e3, w3_0⟩ := open3 k3
  simp only [List.cons.injEq, and_true] at e3
  subst e3
  have k4 : DataW.trod enc Try.prog w base (fun _ => true) held n' 23 [c4, c5] = some y4 := by simpa [cel23] using hf 4 _ rfl
  obtain ⟨a40, a41, e4, w4_0, w4_1⟩ := open23 k4
  simp only [List.cons.injEq, and_true] at e4
  obtain ⟨rfl, rfl⟩ := e4
  have k5 : DataW.trod enc Try.prog w base (fun _ => true) held n' 3 [c6] = some y5 := by simpa [cel3] using hf 5 _ rfl
  obtain ⟨a5, e5, w5_0⟩ := open3 k5
  simp only [List.cons.injEq, and_true] at e5
  subst e5
  have k6 : DataW.trod enc Try.prog w base (fun _ => true) held n' 3 [c7] = some y6 := by simpa [cel3] using hf 6 _ rfl
  obtain ⟨a6, e6, w6_0⟩ := open3 k6
  simp only [List.cons.injEq, and_true] at e6
  subst e6
  have k7 : DataW.trod enc Try.prog w base (fun _ => true) held n' 3 [c8] = some y7 := by simpa [cel3] using hf 7 _ rfl
  obtain ⟨a7, e7, w7_0⟩ := open3 k7
  simp only [List.cons.injEq, and_true] at e7
  subst e7
  have k8 : DataW.trod enc Try.prog w base (fun _ => true) held n' 3 [c9] = some y8 := by simpa [cel3] using hf 8 _ rfl
  obtain ⟨a8, e8, w8_0⟩ := open3 k8
  simp only [List.cons.injEq, and_true] at e8
  subst e8
  have k9 : DataW.trod enc Try.prog w base (fun _ => true) held n' 4 [c10] = some y9 := by simpa [cel4] using hf 9 _ rfl
  obtain ⟨a9, e9⟩ := open4 k9
  simp only [List.cons.injEq, and_true] at e9
  subst e9
  have k10 : DataW.trod enc Try.prog w base (fun _ => true) held n' 4 [c11] = some y10 := by simpa [cel4] using hf 10 _ rfl
  obtain ⟨a10, e10⟩ := open4 k10
  simp only [List.cons.injEq, and_true] at e10
  subst e10
  exact ⟨a0, a1, a2, a3, a40, a41, a5, a6, a7, a8, a9, a10, rfl, w0_0, w1_0, w2_0, w3_0, w4_0, w4_1, w5_0, w6_0, w7_0, w8_0⟩
set_option maxRecDepth 100000 in
theorem elem25 {H : Type} {enc : TypeId × Value → H} {w : World} {base fuel : Nat} {held : Bool} {cs : List Value} {x : DataW H × List MemPlace} (h : DataW.trod enc Try.prog w base (fun _ => true) held fuel 25 cs = some x) : ∃ p : Spn, cs = Spn.enc p ∧ okX p := by
  obtain ⟨a0, a1, a2, a3, a40, a41, a5, a6, a7, a8, a9, a10, rfl, w0, w1, w2, w3, w4, w5, w6, w7, w8, w9⟩ := open25 h
  exact ⟨⟨a0, a1, a2, a3, a40, a41, a5, a6, a7, a8, a9, a10⟩, rfl, ⟨(wf_bd w6 rfl rfl).2, (wf_bd w7 rfl rfl).2⟩⟩
set_option maxRecDepth 100000 in
theorem open30 {H : Type} {enc : TypeId × Value → H} {w : World} {base fuel : Nat} {held : Bool} {cs : List Value} {x : DataW H × List MemPlace} (h : DataW.trod enc Try.prog w base (fun _ => true) held fuel 30 cs = some x) : ∃ (aA : Option Addr) (al : List Spn) (ac : Nat), cs = [.slice aA al.length ac] ∧ al.length ≤ ac ∧ ac ≤ maxLen ∧ Rd w aA 12 (al.map Spn.enc) ∧ (∀ p ∈ al, okX p) := by
  exact open_rd Try.underlying30 cel25 (fun _ _ _ h => elem25 h) h
def enc_i16 (n : Int) : List Value := [.int .i16 n]
def wf_i16 (n : Int) : Prop := (Lit.int .i16 n).wf = true
set_option maxRecDepth 100000 in
theorem elem85 {H : Type} {enc : TypeId × Value → H} {w : World} {base fuel : Nat} {held : Bool} {cs : List Value} {x : DataW H × List MemPlace} (h : DataW.trod enc Try.prog w base (fun _ => true) held fuel 85 cs = some x) : ∃ p : Int, cs = enc_i16 p ∧ wf_i16 p := by
  obtain ⟨a, ha, -, hw⟩ := DataW.trod_int Try.underlying85 h
  exact ⟨a, ha, hw⟩
set_option maxRecDepth 100000 in
theorem cel36 : Try.prog.cellsOf 36 = 2 := by kernel_rfl
set_option maxRecDepth 100000 in
theorem cel85 : Try.prog.cellsOf 85 = 1 := by kernel_rfl
set_option maxRecDepth 100000 in
theorem open34 {H : Type} {enc : TypeId × Value → H} {w : World} {base fuel : Nat} {held : Bool} {cs : List Value} {x : DataW H × List MemPlace} (h : DataW.trod enc Try.prog w base (fun _ => true) held fuel 34 cs = some x) : ∃ (aA : Option Addr) (al : List Int) (ac : Nat), cs = [.slice aA al.length ac] ∧ al.length ≤ ac ∧ ac ≤ maxLen ∧ Rd w aA 1 (al.map enc_i16) ∧ (∀ p ∈ al, wf_i16 p) := by
  exact open_rd Try.underlying34 cel85 (fun _ _ _ h => elem85 h) h
set_option maxRecDepth 100000 in
theorem cel34 : Try.prog.cellsOf 34 = 1 := by kernel_rfl
set_option maxRecDepth 100000 in
theorem open36 {H : Type} {enc : TypeId × Value → H} {w : World} {base fuel : Nat} {held : Bool} {cs : List Value} {x : DataW H × List MemPlace} (h : DataW.trod enc Try.prog w base (fun _ => true) held fuel 36 cs = some x) : ∃ (a0A : Option Addr) (a0l : List Int) (a0c : Nat) (a1A : Option Addr) (a1l : List Int) (a1c : Nat), cs = [.slice a0A a0l.length a0c, .slice a1A a1l.length a1c] ∧ a0l.length ≤ a0c ∧ a0c ≤ maxLen ∧ Rd w a0A 1 (a0l.map enc_i16) ∧ (∀ p ∈ a0l, wf_i16 p) ∧ a1l.length ≤ a1c ∧ a1c ≤ maxLen ∧ Rd w a1A 1 (a1l.map enc_i16) ∧ (∀ p ∈ a1l, wf_i16 p) := by
  obtain ⟨xs, n', -, -, hl, hlen, hf⟩ := DataW.trod_struct Try.underlying36 h
  rw [cel36] at hl
  obtain ⟨c0, c1, rfl⟩ : ∃ c0 c1, cs = [c0, c1] := by match cs, hl with | [c0, c1], _ => exact ⟨_, _, rfl⟩
  obtain ⟨y0, y1, rfl⟩ : ∃ y0 y1, xs = [y0, y1] := by match xs, hlen with | [y0, y1], _ => exact ⟨_, _, rfl⟩
  have k0 : DataW.trod enc Try.prog w base (fun _ => true) held n' 34 [c0] = some y0 := by simpa [cel34] using hf 0 _ rfl
  obtain ⟨a0A, a0l, a0c, e0, w0_0, w0_1, w0_2, w0_3⟩ := open34 k0
  simp only [List.cons.injEq, and_true] at e0
  subst e0
  have k1 : DataW.trod enc Try.prog w base (fun _ => true) held n' 34 [c1] = some y1 := by simpa [cel34] using hf 1 _ rfl
  obtain ⟨a1A, a1l, a1c, e1, w1_0, w1_1, w1_2, w1_3⟩ := open34 k1
  simp only [List.cons.injEq, and_true] at e1
  subst e1
  exact ⟨a0A, a0l, a0c, a1A, a1l, a1c, rfl, w0_0, w0_1, w0_2, w0_3, w1_0, w1_1, w1_2, w1_3⟩
set_option maxRecDepth 100000 in
theorem cel51 : Try.prog.cellsOf 51 = 2 := by kernel_rfl
set_option maxRecDepth 100000 in
theorem open5 {H : Type} {enc : TypeId × Value → H} {w : World} {base fuel : Nat} {held : Bool} {cs : List Value} {x : DataW H × List MemPlace} (h : DataW.trod enc Try.prog w base (fun _ => true) held fuel 5 cs = some x) : ∃ (a : Int), cs = [.int .u8 a] ∧ (Lit.int .u8 a).wf = true := by
  obtain ⟨a, ha, -, hw⟩ := DataW.trod_int Try.underlying5 h
  exact ⟨a, ha, hw⟩
set_option maxRecDepth 100000 in
theorem cel5 : Try.prog.cellsOf 5 = 1 := by kernel_rfl
set_option maxRecDepth 100000 in
theorem open51 {H : Type} {enc : TypeId × Value → H} {w : World} {base fuel : Nat} {held : Bool} {cs : List Value} {x : DataW H × List MemPlace} (h : DataW.trod enc Try.prog w base (fun _ => true) held fuel 51 cs = some x) : ∃ (a0 : Int) (a1 : Int), cs = [.int .u8 a0, .int .u8 a1] ∧ (Lit.int .u8 a0).wf = true ∧ (Lit.int .u8 a1).wf = true := by
  obtain ⟨xs, n', -, -, hl, hlen, hf⟩ := DataW.trod_array Try.underlying51 h
  rw [cel51] at hl
  obtain ⟨c0, c1, rfl⟩ : ∃ c0 c1, cs = [c0, c1] := by match cs, hl with | [c0, c1], _ => exact ⟨_, _, rfl⟩
  obtain ⟨y0, y1, rfl⟩ : ∃ y0 y1, xs = [y0, y1] := by match xs, hlen with | [y0, y1], _ => exact ⟨_, _, rfl⟩
  have k0 : DataW.trod enc Try.prog w base (fun _ => true) held n' 5 [c0] = some y0 := by simpa [cel5] using hf 0 (by decide)
  obtain ⟨a0, e0, w0_0⟩ := open5 k0
  simp only [List.cons.injEq, and_true] at e0
  subst e0
  have k1 : DataW.trod enc Try.prog w base (fun _ => true) held n' 5 [c1] = some y1 := by simpa [cel5] using hf 1 (by decide)
  obtain ⟨a1, e1, w1_0⟩ := open5 k1
  simp only [List.cons.injEq, and_true] at e1
  subst e1
  exact ⟨a0, a1, rfl, w0_0, w1_0⟩
set_option maxRecDepth 100000 in
theorem cel64 : Try.prog.cellsOf 64 = 2 := by kernel_rfl
set_option maxRecDepth 100000 in
theorem open64 {H : Type} {enc : TypeId × Value → H} {w : World} {base fuel : Nat} {held : Bool} {cs : List Value} {x : DataW H × List MemPlace} (h : DataW.trod enc Try.prog w base (fun _ => true) held fuel 64 cs = some x) : ∃ (a0 : Int) (a1 : Int), cs = [.int .i64 a0, .int .i64 a1] ∧ (Lit.int .i64 a0).wf = true ∧ (Lit.int .i64 a1).wf = true := by
  obtain ⟨xs, n', -, -, hl, hlen, hf⟩ := DataW.trod_array Try.underlying64 h
  rw [cel64] at hl
  obtain ⟨c0, c1, rfl⟩ : ∃ c0 c1, cs = [c0, c1] := by match cs, hl with | [c0, c1], _ => exact ⟨_, _, rfl⟩
  obtain ⟨y0, y1, rfl⟩ : ∃ y0 y1, xs = [y0, y1] := by match xs, hlen with | [y0, y1], _ => exact ⟨_, _, rfl⟩
  have k0 : DataW.trod enc Try.prog w base (fun _ => true) held n' 3 [c0] = some y0 := by simpa [cel3] using hf 0 (by decide)
  obtain ⟨a0, e0, w0_0⟩ := open3 k0
  simp only [List.cons.injEq, and_true] at e0
  subst e0
  have k1 : DataW.trod enc Try.prog w base (fun _ => true) held n' 3 [c1] = some y1 := by simpa [cel3] using hf 1 (by decide)
  obtain ⟨a1, e1, w1_0⟩ := open3 k1
  simp only [List.cons.injEq, and_true] at e1
  subst e1
  exact ⟨a0, a1, rfl, w0_0, w1_0⟩
set_option maxRecDepth 100000 in
theorem cel70 : Try.prog.cellsOf 70 = 8 := by kernel_rfl
set_option maxRecDepth 100000 in
theorem cel69 : Try.prog.cellsOf 69 = 2 := by kernel_rfl
set_option maxRecDepth 100000 in
theorem open69 {H : Type} {enc : TypeId × Value → H} {w : World} {base fuel : Nat} {held : Bool} {cs : List Value} {x : DataW H × List MemPlace} (h : DataW.trod enc Try.prog w base (fun _ => true) held fuel 69 cs = some x) : ∃ (a0 : Int) (a1 : Int), cs = [.int .i64 a0, .int .i64 a1] ∧ (Lit.int .i64 a0).wf = true ∧ (Lit.int .i64 a1).wf = true := by
  obtain ⟨xs, n', -, -, hl, hlen, hf⟩ := DataW.trod_struct Try.underlying69 h
  rw [cel69] at hl
  obtain ⟨c0, c1, rfl⟩ : ∃ c0 c1, cs = [c0, c1] := by match cs, hl with | [c0, c1], _ => exact ⟨_, _, rfl⟩
  obtain ⟨y0, y1, rfl⟩ : ∃ y0 y1, xs = [y0, y1] := by match xs, hlen with | [y0, y1], _ => exact ⟨_, _, rfl⟩
  have k0 : DataW.trod enc Try.prog w base (fun _ => true) held n' 3 [c0] = some y0 := by simpa [cel3] using hf 0 _ rfl
  obtain ⟨a0, e0, w0_0⟩ := open3 k0
  simp only [List.cons.injEq, and_true] at e0
  subst e0
  have k1 : DataW.trod enc Try.prog w base (fun _ => true) held n' 3 [c1] = some y1 := by simpa [cel3] using hf 1 _ rfl
  obtain ⟨a1, e1, w1_0⟩ := open3 k1
  simp only [List.cons.injEq, and_true] at e1
  subst e1
  exact ⟨a0, a1, rfl, w0_0, w1_0⟩
set_option maxRecDepth 100000 in
theorem open70 {H : Type} {enc : TypeId × Value → H} {w : World} {base fuel : Nat} {held : Bool} {cs : List Value} {x : DataW H × List MemPlace} (h : DataW.trod enc Try.prog w base (fun _ => true) held fuel 70 cs = some x) : ∃ (a00 : Int) (a01 : Int) (a10 : Int) (a11 : Int) (a20 : Int) (a21 : Int) (a30 : Int) (a31 : Int), cs = [.int .i64 a00, .int .i64 a01, .int .i64 a10, .int .i64 a11, .int .i64 a20, .int .i64 a21, .int .i64 a30, .int .i64 a31] ∧ (Lit.int .i64 a00).wf = true ∧ (Lit.int .i64 a01).wf = true ∧ (Lit.int .i64 a10).wf = true ∧ (Lit.int .i64 a11).wf = true ∧ (Lit.int .i64 a20).wf = true ∧ (Lit.int .i64 a21).wf = true ∧ (Lit.int .i64 a30).wf = true ∧ (Lit.int .i64 a31).wf = true := by
  obtain ⟨xs, n', -, -, hl, hlen, hf⟩ := DataW.trod_array Try.underlying70 h
  rw [cel70] at hl
  obtain ⟨c0, c1, c2, c3, c4, c5, c6, c7, rfl⟩ : ∃ c0 c1 c2 c3 c4 c5 c6 c7, cs = [c0, c1, c2, c3, c4, c5, c6, c7] := by match cs, hl with | [c0, c1, c2, c3, c4, c5, c6, c7], _ => exact ⟨_, _, _, _, _, _, _, _, rfl⟩
  obtain ⟨y0, y1, y2, y3, rfl⟩ : ∃ y0 y1 y2 y3, xs = [y0, y1, y2, y3] := by match xs, hlen with | [y0, y1, y2, y3], _ => exact ⟨_, _, _, _, rfl⟩
  have k0 : DataW.trod enc Try.prog w base (fun _ => true) held n' 69 [c0, c1] = some y0 := by simpa [cel69] using hf 0 (by decide)
  obtain ⟨a00, a01, e0, w0_0, w0_1⟩ := open69 k0
  simp only [List.cons.injEq, and_true] at e0
  obtain ⟨rfl, rfl⟩ := e0
  have k1 : DataW.trod enc Try.prog w base (fun _ => true) held n' 69 [c2, c3] = some y1 := by simpa [cel69] using hf 1 (by decide)
  obtain ⟨a10, a11, e1, w1_0, w1_1⟩ := open69 k1
  simp only [List.cons.injEq, and_true] at e1
  obtain ⟨rfl, rfl⟩ := e1
  have k2 : DataW.trod enc Try.prog w base (fun _ => true) held n' 69 [c4, c5] = some y2 := by simpa [cel69] using hf 2 (by decide)
  obtain ⟨a20, a21, e2, w2_0, w2_1⟩ := open69 k2
  simp only [List.cons.injEq, and_true] at e2
  obtain ⟨rfl, rfl⟩ := e2
  have k3 : DataW.trod enc Try.prog w base (fun _ => true) held n' 69 [c6, c7] = some y3 := by simpa [cel69] using hf 3 (by decide)
  obtain ⟨a30, a31, e3, w3_0, w3_1⟩ := open69 k3
  simp only [List.cons.injEq, and_true] at e3
  obtain ⟨rfl, rfl⟩ := e3
  exact ⟨a00, a01, a10, a11, a20, a21, a30, a31, rfl, w0_0, w0_1, w1_0, w1_1, w2_0, w2_1, w3_0, w3_1⟩
set_option maxRecDepth 100000 in
theorem open76 {H : Type} {enc : TypeId × Value → H} {w : World} {base fuel : Nat} {held : Bool} {cs : List Value} {x : DataW H × List MemPlace} (h : DataW.trod enc Try.prog w base (fun _ => true) held fuel 76 cs = some x) : ∃ (a : Int), cs = [.int .u16 a] ∧ (Lit.int .u16 a).wf = true := by
  obtain ⟨a, ha, -, hw⟩ := DataW.trod_int Try.underlying76 h
  exact ⟨a, ha, hw⟩

end Go.Proofs.Ytomhegnaojejnaa
