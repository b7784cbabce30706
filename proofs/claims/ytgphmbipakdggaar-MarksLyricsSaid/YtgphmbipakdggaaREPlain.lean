/- Events as data: their parts, what is wrong with them, their canonical form. Nothing of the program. -/
import Derived.Test.YtgphmbipakdggaaRKey
import Derived.Test.YtgphmbipakdggaaRCopy
import Derived.Test.YtgphmbipakdggaaRLoops
import Derived.Test.YtgphmbipakdggaaRStr
set_option linter.unusedSimpArgs false
set_option linter.unusedVariables false
namespace Go.Proofs.YtgphmbipakdggaaR.Ev
open Go Go.RowKit Hr

structure Pit where
  step : Int
  alter : Int
  oct : Int
instance : Inhabited Pit := ⟨⟨0, 0, 0⟩⟩
def Pit.enc (p : Pit) : List Value := [.int .i64 p.step, .int .i64 p.alter, .int .i64 p.oct]
def Pit.val (p : Pit) : Value := .agg p.enc.toArray
structure Hd where
  step : Int
  alter : Int
  oct : Int
  tied : Bool
  shw : Int
instance : Inhabited Hd := ⟨⟨0, 0, 0, false, 0⟩⟩
def Hd.enc (p : Hd) : List Value := [.int .i64 p.step, .int .i64 p.alter, .int .i64 p.oct, .bool p.tied, .int .i64 p.shw]
def Hd.val (p : Hd) : Value := .agg p.enc.toArray
structure Gr where
  step : Int
  alter : Int
  oct : Int
  log : Int
  slash : Bool
instance : Inhabited Gr := ⟨⟨0, 0, 0, 0, false⟩⟩
def Gr.enc (p : Gr) : List Value := [.int .i64 p.step, .int .i64 p.alter, .int .i64 p.oct, .int .i64 p.log, .bool p.slash]
def Gr.val (p : Gr) : Value := .agg p.enc.toArray
structure Syl where
  text : ByteArray
  link : Int
instance : Inhabited Syl := ⟨⟨ByteArray.mk #[], 0⟩⟩
def Syl.enc (p : Syl) : List Value := [.string p.text, .int .i64 p.link]
def Syl.val (p : Syl) : Value := .agg p.enc.toArray

/-- The first of f 0, f 1, .. that is not 0; n of them from i on. -/
def firstErr (f : Nat → Int) : Nat → Nat → Int
  | 0, _ => 0
  | n + 1, i => if f i ≠ 0 then f i else firstErr f n (i + 1)
theorem firstErr_step {f : Nat → Int} {n i : Nat} (h : i < n) (h0 : f i = 0) : firstErr f (n - i) i = firstErr f (n - (i + 1)) (i + 1) := by
  rw [show n - i = n - (i + 1) + 1 from by omega, firstErr, if_neg (by simp [h0])]
theorem firstErr_hit {f : Nat → Int} {n i : Nat} (h : i < n) (h0 : f i ≠ 0) : firstErr f (n - i) i = f i := by
  rw [show n - i = n - (i + 1) + 1 from by omega, firstErr, if_pos h0]
theorem firstErr_zero {f : Nat → Int} : ∀ {n i : Nat}, firstErr f n i = 0 → ∀ j, j < n → f (i + j) = 0
  | n + 1, i, h, j, hj => by
    simp only [firstErr] at h
    by_cases h0 : f i = 0
    · rw [if_neg (by simp [h0])] at h
      cases j with
      | zero => simpa using h0
      | succ j =>
        have := firstErr_zero h j (by omega)
        rwa [show i + (j + 1) = i + 1 + j from by omega]
    · rw [if_pos h0] at h; exact absurd h h0
theorem firstErr_of {f : Nat → Int} : ∀ {n i : Nat}, (∀ j, i ≤ j → j < i + n → f j = 0) → firstErr f n i = 0
  | 0, _, _ => rfl
  | n + 1, i, h => by
    rw [firstErr, if_neg (by simp [h i (by omega) (by omega)])]
    exact firstErr_of fun j h1 h2 => h j (by omega) (by omega)
def bAt (s : ByteArray) (k : Nat) : Int := ((s[k]?.getD 0).toNat : Int)
theorem bAt_get {s : ByteArray} {k : Nat} (h : k < s.size) : s[k]? = some (s[k]?.getD 0) := by
  rw [getElem?_pos s k h]; rfl
def semi (s : Int) : Int := nth [0, 2, 4, 5, 7, 9, 11] s.toNat
def inP (s a o : Int) : Prop := 0 ≤ s ∧ s ≤ 6 ∧ -2 ≤ a ∧ a ≤ 2 ∧ -1 ≤ o ∧ o ≤ 9
instance (s a o : Int) : Decidable (inP s a o) := by unfold inP; infer_instance
/-- The number of a pitch, or -1. -/
def numP (s a o : Int) : Int := if inP s a o then (if semi s + a + 12 * (o + 1) < 0 ∨ 127 < semi s + a + 12 * (o + 1) then -1 else semi s + a + 12 * (o + 1)) else -1
theorem semi_bd {s : Int} (h : 0 ≤ s ∧ s ≤ 6) : 0 ≤ semi s ∧ semi s ≤ 11 := by
  have : s = 0 ∨ s = 1 ∨ s = 2 ∨ s = 3 ∨ s = 4 ∨ s = 5 ∨ s = 6 := by omega
  rcases this with rfl | rfl | rfl | rfl | rfl | rfl | rfl <;> decide
theorem numP_bd (s a o : Int) : -1 ≤ numP s a o ∧ numP s a o ≤ 127 := by
  unfold numP
  split
  · split <;> omega
  · omega
def Hd.num (h : Hd) : Int := numP h.step h.alter h.oct
def Gr.num (h : Gr) : Int := numP h.step h.alter h.oct
def Pit.num (h : Pit) : Int := numP h.step h.alter h.oct

theorem semi_get {s : Int} (h : 0 ≤ s ∧ s ≤ 6) : (#[Value.int .i64 0, .int .i64 2, .int .i64 4, .int .i64 5, .int .i64 7, .int .i64 9, .int .i64 11])[s.toNat]? = some (.int .i64 (semi s)) := by
  have : s = 0 ∨ s = 1 ∨ s = 2 ∨ s = 3 ∨ s = 4 ∨ s = 5 ∨ s = 6 := by omega
  rcases this with rfl | rfl | rfl | rfl | rfl | rfl | rfl <;> rfl
theorem semi_gets {s : Int} (h : 0 ≤ s ∧ s ≤ 6) : ([[Value.int .i64 0], [.int .i64 2], [.int .i64 4], [.int .i64 5], [.int .i64 7], [.int .i64 9], [.int .i64 11]] : List (List Value))[s.toNat]? = some [.int .i64 (semi s)] := by
  have : s = 0 ∨ s = 1 ∨ s = 2 ∨ s = 3 ∨ s = 4 ∨ s = 5 ∨ s = 6 := by omega
  rcases this with rfl | rfl | rfl | rfl | rfl | rfl | rfl <;> rfl
def encI (n : Int) : List Value := [.int .i64 n]
theorem numP_1 {s a o : Int} (h : ¬ inP s a o) : numP s a o = -1 := if_neg h
theorem numP_2 {s a o : Int} (h : inP s a o) (h1 : semi s + a + 12 * (o + 1) < 0 ∨ 127 < semi s + a + 12 * (o + 1)) : numP s a o = -1 := by rw [numP, if_pos h, if_pos h1]
theorem numP_3 {s a o : Int} (h : inP s a o) (h1 : ¬ (semi s + a + 12 * (o + 1) < 0 ∨ 127 < semi s + a + 12 * (o + 1))) : numP s a o = semi s + a + 12 * (o + 1) := by rw [numP, if_pos h, if_neg h1]
theorem numP_ok {s a o : Int} (h : 0 ≤ numP s a o) : inP s a o ∧ numP s a o = semi s + a + 12 * (o + 1) := by
  unfold numP at h ⊢
  split at h
  · rename_i hi
    split at h
    · omega
    · rename_i h1
      exact ⟨hi, by rw [if_pos hi, if_neg h1]⟩
  · omega
/-! What is wrong with parts -/
def headE (h : Hd) : Int := if h.num < 0 then 18 else if h.shw < 0 ∨ 2 < h.shw then 2 else 0
def hF (l : List Hd) (i : Nat) : Int := if headE (nth l i) ≠ 0 then headE (nth l i) else if 0 < i ∧ (nth l i).num ≤ (nth l (i - 1)).num then 25 else 0
def headsE (l : List Hd) : Int := if l.length = 0 then 4 else if 10 < l.length then 9 else firstErr (hF l) l.length 0
def graceE (g : Gr) : Int := if g.num < 0 then 18 else if g.log < 1 ∨ 6 < g.log then 2 else 0
def gF (l : List Gr) (i : Nat) : Int := graceE (nth l i)
def gracesE (l : List Gr) : Int := if 8 < l.length then 9 else firstErr (gF l) l.length 0
def byteF (s : ByteArray) (i : Nat) : Int := if bAt s i < 32 ∨ bAt s i = 127 then 6 else 0
def empS (s : ByteArray) : Bool := strEq s (ByteArray.mk #[])
def absS (x : Syl) : Prop := empS x.text = true ∧ x.link = 0
instance (x : Syl) : Decidable (absS x) := by unfold absS; infer_instance
def sylE (x : Syl) : Int :=
  if x.link < 0 ∨ 2 < x.link then 2 else if 256 < x.text.size then 5 else if firstErr (byteF x.text) x.text.size 0 ≠ 0 then 6 else if empS x.text = true ∧ x.link = 1 then 3 else 0
def sF (l : List Syl) (i : Nat) : Int := sylE (nth l i)
def lyricsE (l : List Syl) : Int :=
  if 4 < l.length then 9 else if firstErr (sF l) l.length 0 ≠ 0 then firstErr (sF l) l.length 0 else if 0 < l.length ∧ absS (nth l (l.length - 1)) then 3 else 0
theorem headE_1 {h : Hd} (h0 : h.num < 0) : headE h = 18 := by rw [headE, if_pos h0]
theorem headE_2 {h : Hd} (h0 : ¬ h.num < 0) (h1 : h.shw < 0 ∨ 2 < h.shw) : headE h = 2 := by rw [headE, if_neg h0, if_pos h1]
theorem headE_3 {h : Hd} (h0 : ¬ h.num < 0) (h1 : ¬ (h.shw < 0 ∨ 2 < h.shw)) : headE h = 0 := by rw [headE, if_neg h0, if_neg h1]
theorem graceE_1 {h : Gr} (h0 : h.num < 0) : graceE h = 18 := by rw [graceE, if_pos h0]
theorem graceE_2 {h : Gr} (h0 : ¬ h.num < 0) (h1 : h.log < 1 ∨ 6 < h.log) : graceE h = 2 := by rw [graceE, if_neg h0, if_pos h1]
theorem graceE_3 {h : Gr} (h0 : ¬ h.num < 0) (h1 : ¬ (h.log < 1 ∨ 6 < h.log)) : graceE h = 0 := by rw [graceE, if_neg h0, if_neg h1]
theorem byteF_1 {s : ByteArray} {i : Nat} (h : bAt s i < 32 ∨ bAt s i = 127) : byteF s i = 6 := if_pos h
theorem byteF_0 {s : ByteArray} {i : Nat} (h : ¬ (bAt s i < 32 ∨ bAt s i = 127)) : byteF s i = 0 := if_neg h
theorem sylE_1 {x : Syl} (h : x.link < 0 ∨ 2 < x.link) : sylE x = 2 := if_pos h
theorem sylE_2 {x : Syl} (h : ¬ (x.link < 0 ∨ 2 < x.link)) (h1 : 256 < x.text.size) : sylE x = 5 := by rw [sylE, if_neg h, if_pos h1]
theorem sylE_3 {x : Syl} (h : ¬ (x.link < 0 ∨ 2 < x.link)) (h1 : ¬ 256 < x.text.size) (h2 : firstErr (byteF x.text) x.text.size 0 ≠ 0) : sylE x = 6 := by rw [sylE, if_neg h, if_neg h1, if_pos h2]
theorem sylE_4 {x : Syl} (h : ¬ (x.link < 0 ∨ 2 < x.link)) (h1 : ¬ 256 < x.text.size) (h2 : firstErr (byteF x.text) x.text.size 0 = 0) (h3 : empS x.text = true ∧ x.link = 1) : sylE x = 3 := by rw [sylE, if_neg h, if_neg h1, if_neg (by omega), if_pos h3]
theorem sylE_5 {x : Syl} (h : ¬ (x.link < 0 ∨ 2 < x.link)) (h1 : ¬ 256 < x.text.size) (h2 : firstErr (byteF x.text) x.text.size 0 = 0) (h3 : ¬ (empS x.text = true ∧ x.link = 1)) : sylE x = 0 := by rw [sylE, if_neg h, if_neg h1, if_neg (by omega), if_neg h3]
theorem headsE_1 {l : List Hd} (h : l.length = 0) : headsE l = 4 := if_pos h
theorem headsE_2 {l : List Hd} (h : ¬ l.length = 0) (h1 : 10 < l.length) : headsE l = 9 := by rw [headsE, if_neg h, if_pos h1]
theorem headsE_3 {l : List Hd} (h : ¬ l.length = 0) (h1 : ¬ 10 < l.length) : headsE l = firstErr (hF l) l.length 0 := by rw [headsE, if_neg h, if_neg h1]
theorem gracesE_1 {l : List Gr} (h : 8 < l.length) : gracesE l = 9 := if_pos h
theorem gracesE_2 {l : List Gr} (h : ¬ 8 < l.length) : gracesE l = firstErr (gF l) l.length 0 := if_neg h
theorem lyricsE_1 {l : List Syl} (h : 4 < l.length) : lyricsE l = 9 := if_pos h
theorem lyricsE_2 {l : List Syl} (h : ¬ 4 < l.length) (h1 : firstErr (sF l) l.length 0 ≠ 0) : lyricsE l = firstErr (sF l) l.length 0 := by rw [lyricsE, if_neg h, if_pos h1]
theorem lyricsE_3 {l : List Syl} (h : ¬ 4 < l.length) (h1 : firstErr (sF l) l.length 0 = 0) (h2 : 0 < l.length ∧ absS (nth l (l.length - 1))) : lyricsE l = 3 := by rw [lyricsE, if_neg h, if_neg (by omega), if_pos h2]
theorem lyricsE_4 {l : List Syl} (h : ¬ 4 < l.length) (h1 : firstErr (sF l) l.length 0 = 0) (h2 : ¬ (0 < l.length ∧ absS (nth l (l.length - 1)))) : lyricsE l = 0 := by rw [lyricsE, if_neg h, if_neg (by omega), if_neg h2]
theorem e18_t {n : Int} (h : (if n < 0 then (18 : Int) else 0) ≠ 0) : n < 0 := by
  by_cases h0 : n < 0
  · exact h0
  · rw [if_neg h0] at h; exact absurd rfl h
theorem e18_f {n : Int} (h : (if n < 0 then (18 : Int) else 0) = 0) : ¬ n < 0 := by
  by_cases h0 : n < 0
  · rw [if_pos h0] at h; cases h
  · exact h0
theorem hd_hit {l : List Hd} {i : Nat} {v : Int} (h : ¬ l.length = 0) (h1 : ¬ 10 < l.length) (hE : firstErr (hF l) l.length 0 = firstErr (hF l) (l.length - i) i) (hi : i < l.length) (hv : hF l i = v) (h0 : v ≠ 0) : headsE l = v := by
  rw [headsE_3 h h1, hE, firstErr_hit hi (by rw [hv]; exact h0), hv]
theorem gr_hit {l : List Gr} {i : Nat} {v : Int} (h : ¬ 8 < l.length) (hE : firstErr (gF l) l.length 0 = firstErr (gF l) (l.length - i) i) (hi : i < l.length) (hv : graceE (nth l i) = v) (h0 : v ≠ 0) : gracesE l = v := by
  rw [gracesE_2 h, hE, firstErr_hit hi (by rw [gF, hv]; exact h0), gF, hv]
theorem lyr_hit {l : List Syl} {i : Nat} {v : Int} (h : ¬ 4 < l.length) (hE : firstErr (sF l) l.length 0 = firstErr (sF l) (l.length - i) i) (hi : i < l.length) (hv : sylE (nth l i) = v) (h0 : v ≠ 0) : lyricsE l = v := by
  have e : firstErr (sF l) l.length 0 = v := by rw [hE, firstErr_hit hi (by rw [sF, hv]; exact h0), sF, hv]
  rw [lyricsE_2 h (by rw [e]; exact h0), e]
theorem firstErr_end {f : Nat → Int} {n i : Nat} (h : n ≤ i) : firstErr f (n - i) i = 0 := by rw [Nat.sub_eq_zero_of_le h]; rfl
theorem fst0_one {e : Int} (f : Int) (h : e ≠ 0) : Ky.fst0 [e, f] = e := by rw [Ky.fst0, if_pos h]
theorem headE_ok {h : Hd} (h0 : headE h = 0) : 0 ≤ h.num ∧ h.num ≤ 127 ∧ 0 ≤ h.shw ∧ h.shw ≤ 2 := by
  have hb := numP_bd h.step h.alter h.oct
  unfold headE at h0
  rw [← Hd.num] at hb
  split at h0
  · cases h0
  · split at h0
    · cases h0
    · omega
theorem hF_1 {l : List Hd} {i : Nat} (h : headE (nth l i) ≠ 0) : hF l i = headE (nth l i) := by rw [hF, if_pos h]
theorem hF_2 {l : List Hd} {i : Nat} (h : headE (nth l i) = 0) (h1 : 0 < i ∧ (nth l i).num ≤ (nth l (i - 1)).num) : hF l i = 25 := by rw [hF, if_neg (by omega), if_pos h1]
theorem hF_3 {l : List Hd} {i : Nat} (h : headE (nth l i) = 0) (h1 : ¬ (0 < i ∧ (nth l i).num ≤ (nth l (i - 1)).num)) : hF l i = 0 := by rw [hF, if_neg (by omega), if_neg h1]
theorem hF_ok {l : List Hd} {i : Nat} (h : hF l i = 0) : headE (nth l i) = 0 ∧ (0 < i → (nth l (i - 1)).num < (nth l i).num) := by
  unfold hF at h
  split at h
  · exact absurd h ‹_›
  · split at h
    · cases h
    · exact ⟨by omega, fun h0 => by omega⟩
/-- The number of the head before, or -1. -/
def lastN (l : List Hd) (i : Nat) : Int := if i = 0 then -1 else (nth l (i - 1)).num

/-! Events -/
structure EvN where
  site : Int
  num : Int
  kind : Int
  log : Int
  dots : Int
  art : Int
  orn : Int
  dyn : Int
  stem : Int
  beam : Int
instance : Inhabited EvN := ⟨⟨0, 0, 0, 0, 0, 0, 0, 0, 0, 0⟩⟩
structure Evt where
  n : EvN
  hs : List Hd
  gs : List Gr
  ls : List Syl
def Evt.zero : Evt := ⟨default, [], [], []⟩
/-- Where an event's lists lie. -/
structure Lie where
  HA : Option Addr
  hc : Nat
  GA : Option Addr
  gc : Nat
  LA : Option Addr
  lc : Nat
def evC (x : Evt) (p : Lie) : List Value := [.int .i64 x.n.site, .int .i64 x.n.num, .int .i64 x.n.kind, .int .i64 x.n.log, .int .i64 x.n.dots, .slice p.HA x.hs.length p.hc, .slice p.GA x.gs.length p.gc, .int .i64 x.n.art, .int .i64 x.n.orn, .int .i64 x.n.dyn, .slice p.LA x.ls.length p.lc, .int .i64 x.n.stem, .int .i64 x.n.beam]
def evV (x : Evt) (p : Lie) : Value := .agg (evC x p).toArray
/-- The lists of an event can be read. -/
structure RdE (w : World) (x : Evt) (p : Lie) : Prop where
  h : Rd w p.HA 5 (x.hs.map Hd.enc)
  g : Rd w p.GA 5 (x.gs.map Gr.enc)
  l : Rd w p.LA 2 (x.ls.map Syl.enc)
theorem RdE.kept0 {w w' : World} {x : Evt} {p : Lie} (h : RdE w x p) (hk : Kept nX w w') : RdE w' x p := ⟨h.h.kept0 hk, h.g.kept0 hk, h.l.kept0 hk⟩
def Evt.few (x : Evt) : Prop := x.hs.length ≤ 100000 ∧ x.gs.length ≤ 100000 ∧ x.ls.length ≤ 100000 ∧ x.n.art ≤ 9223372036854775807

def fermV (a : Int) : Int := if 0 ≤ a ∧ a / 16 % 2 = 1 then 16 else 0
def bare (k : Int) : Prop := k = 2 ∨ k = 3 ∨ k = 4
instance (k : Int) : Decidable (bare k) := by unfold bare; infer_instance
def stripE (x : Evt) : Evt :=
  if bare x.n.kind then ⟨⟨x.n.site, x.n.num, x.n.kind, if x.n.kind = 3 then 0 else x.n.log, if x.n.kind = 3 then 0 else x.n.dots, if x.n.kind = 4 then 0 else fermV x.n.art, 0, x.n.dyn, 0, 0⟩, [], [], []⟩ else x
def stripP (x : Evt) (p : Lie) : Lie := if bare x.n.kind then ⟨none, 0, none, 0, none, 0⟩ else p
theorem strip_keep {x : Evt} (h : ¬ bare x.n.kind) : stripE x = x := if_neg h
theorem stripP_keep {x : Evt} {p : Lie} (h : ¬ bare x.n.kind) : stripP x p = p := if_neg h
theorem stripV_1 {x : Evt} {p : Lie} (h : ¬ bare x.n.kind) : evV (stripE x) (stripP x p) = evV x p := by rw [strip_keep h, stripP_keep h]
theorem stripV_2 {x : Evt} {p : Lie} (h : x.n.kind = 2) : evV (stripE x) (stripP x p) = .agg #[.int .i64 x.n.site, .int .i64 x.n.num, .int .i64 x.n.kind, .int .i64 x.n.log, .int .i64 x.n.dots, .slice none 0 0, .slice none 0 0, .int .i64 (fermV x.n.art), .int .i64 0, .int .i64 x.n.dyn, .slice none 0 0, .int .i64 0, .int .i64 0] := by
  have hb : bare x.n.kind := .inl h
  have h3 : ¬ x.n.kind = 3 := by omega
  have h4 : ¬ x.n.kind = 4 := by omega
  simp only [stripE, stripP, if_pos hb, if_neg h3, if_neg h4]; rfl
theorem stripV_3 {x : Evt} {p : Lie} (h : x.n.kind = 3) : evV (stripE x) (stripP x p) = .agg #[.int .i64 x.n.site, .int .i64 x.n.num, .int .i64 x.n.kind, .int .i64 0, .int .i64 0, .slice none 0 0, .slice none 0 0, .int .i64 (fermV x.n.art), .int .i64 0, .int .i64 x.n.dyn, .slice none 0 0, .int .i64 0, .int .i64 0] := by
  have hb : bare x.n.kind := .inr (.inl h)
  have h3 : x.n.kind = 3 := h
  have h4 : ¬ x.n.kind = 4 := by omega
  simp only [stripE, stripP, if_pos hb, if_pos h3, if_neg h4]; rfl
theorem stripV_4 {x : Evt} {p : Lie} (h : x.n.kind = 4) : evV (stripE x) (stripP x p) = .agg #[.int .i64 x.n.site, .int .i64 x.n.num, .int .i64 x.n.kind, .int .i64 x.n.log, .int .i64 x.n.dots, .slice none 0 0, .slice none 0 0, .int .i64 0, .int .i64 0, .int .i64 x.n.dyn, .slice none 0 0, .int .i64 0, .int .i64 0] := by
  have hb : bare x.n.kind := .inr (.inr h)
  have h3 : ¬ x.n.kind = 3 := by omega
  have h4 : x.n.kind = 4 := h
  simp only [stripE, stripP, if_pos hb, if_neg h3, if_pos h4]; rfl
theorem RdE.strip {w : World} {x : Evt} {p : Lie} (h : RdE w x p) : RdE w (stripE x) (stripP x p) := by
  by_cases hb : bare x.n.kind
  · rw [stripE, stripP, if_pos hb, if_pos hb]; exact ⟨.inl rfl, .inl rfl, .inl rfl⟩
  · rw [strip_keep hb, stripP_keep hb]; exact h
theorem ferm_1 {a : Int} (h : 0 ≤ a) (h1 : a / 16 % 2 = 1) : (16 : Int) = fermV a := by rw [fermV, if_pos ⟨h, h1⟩]
theorem ferm_0 {a : Int} (h : a < 0 ∨ ¬ a / 16 % 2 = 1) : (0 : Int) = fermV a := by rw [fermV, if_neg (by omega)]
theorem and16 {a : Int} (h : 0 ≤ a) (h1 : a ≤ 9223372036854775807) : andV .i64 a 16 = fermV a := by
  obtain ⟨n, rfl⟩ : ∃ n : Nat, a = (n : Int) := ⟨a.toNat, by omega⟩
  have hn : n < 2 ^ 63 := by omega
  have e : n &&& 16 = n / 16 % 2 * 16 := by
    apply Nat.eq_of_testBit_eq
    intro i
    rw [Nat.testBit_and, show (16 : Nat) = 2 ^ 4 from rfl, Nat.testBit_two_pow]
    by_cases hi : 4 = i
    · subst hi
      rcases Nat.mod_two_eq_zero_or_one (n / 2 ^ 4) with h2 | h2
      · rw [h2]; simp [Nat.testBit_eq_decide_div_mod_eq, h2]
      · rw [h2]; simp [Nat.testBit_eq_decide_div_mod_eq, h2]
    · rcases Nat.mod_two_eq_zero_or_one (n / 2 ^ 4) with h2 | h2
      · rw [h2]; simp [hi]
      · rw [h2, Nat.one_mul, Nat.testBit_two_pow]; simp [hi]
  have h2 : (BitVec.ofInt 64 (n : Int) &&& BitVec.ofInt 64 16 : BitVec 64).toNat = n / 16 % 2 * 16 := by
    rw [BitVec.toNat_and, BitVec.toNat_ofInt, BitVec.toNat_ofInt]
    have h3 : ((n : Int) % ((2 ^ 64 : Nat) : Int)).toNat = n := by omega
    have h4 : ((16 : Int) % ((2 ^ 64 : Nat) : Int)).toNat = 16 := by decide
    rw [h3, h4, e]
  show IntKind.wrap .i64 (((BitVec.ofInt 64 (n : Int) &&& BitVec.ofInt 64 16 : BitVec 64).toNat : Nat) : Int) = _
  rw [h2, IntKind.wrap_i64, fermV]
  split <;> omega
/-- Two lists are equal, element by element. -/
def eqL {α : Type} (r : α → α → Bool) : List α → List α → Bool
  | [], [] => true
  | a :: x, b :: y => r a b && eqL r x y
  | _, _ => false
theorem eqL_len {α : Type} {r : α → α → Bool} : ∀ {x y : List α}, eqL r x y = true → x.length = y.length
  | [], [], _ => rfl
  | a :: x, b :: y, h => by
    simp only [eqL, Bool.and_eq_true] at h
    simp [eqL_len h.2]
  | [], _ :: _, h => by cases h
  | _ :: _, [], h => by cases h
theorem eqL_ne {α : Type} {r : α → α → Bool} {x y : List α} (h : x.length ≠ y.length) : eqL r x y = false := by
  cases e : eqL r x y
  · rfl
  · exact absurd (eqL_len e) h
theorem eqL_refl {α : Type} {r : α → α → Bool} (hr : ∀ a, r a a = true) : ∀ x : List α, eqL r x x = true
  | [] => rfl
  | a :: x => by rw [eqL, hr a, eqL_refl hr x]; rfl
theorem eqL_step {α : Type} [Inhabited α] {r : α → α → Bool} {x y : List α} {k : Nat} (hk : k < x.length) (hl : x.length = y.length) (h : r (nth x k) (nth y k) = true) : eqL r (x.drop k) (y.drop k) = eqL r (x.drop (k + 1)) (y.drop (k + 1)) := by
  rw [drop_nth hk, drop_nth (show k < y.length by omega), eqL, h]; rfl
theorem eqL_stop {α : Type} [Inhabited α] {r : α → α → Bool} {x y : List α} {k : Nat} (hk : k < x.length) (hl : x.length = y.length) (h : r (nth x k) (nth y k) = false) : eqL r (x.drop k) (y.drop k) = false := by
  rw [drop_nth hk, drop_nth (show k < y.length by omega), eqL, h]; rfl
theorem eqL_end {α : Type} {r : α → α → Bool} {x y : List α} {k : Nat} (hk : x.length ≤ k) (hl : x.length = y.length) : eqL r (x.drop k) (y.drop k) = true := by
  rw [List.drop_eq_nil_of_le hk, List.drop_eq_nil_of_le (by omega)]; rfl
def hdEq (a b : Hd) : Bool := a.step == b.step && (a.alter == b.alter && (a.oct == b.oct && (a.tied == b.tied && (a.shw == b.shw))))
def grEq (a b : Gr) : Bool := a.step == b.step && (a.alter == b.alter && (a.oct == b.oct && (a.log == b.log && (a.slash == b.slash))))
def syEq (a b : Syl) : Bool := strEq a.text b.text && (a.link == b.link)
theorem hdEq_refl (a : Hd) : hdEq a a = true := by simp [hdEq]
theorem grEq_refl (a : Gr) : grEq a a = true := by simp [grEq]
theorem syEq_refl (a : Syl) : syEq a a = true := by simp [syEq, strEq]
theorem hdEq_eq {a b : Hd} (h : hdEq a b = true) : a = b := by
  cases a; cases b
  simp only [hdEq, Bool.and_eq_true, beq_iff_eq] at h
  simp [h]
/-- Two events are equal but for their ids. -/
def sameP (x y : Evt) : Prop := x.n.kind = y.n.kind ∧ (x.n.log = y.n.log ∧ x.n.dots = y.n.dots) ∧ x.n.art = y.n.art ∧ x.n.orn = y.n.orn ∧ x.n.dyn = y.n.dyn ∧ x.n.stem = y.n.stem ∧ x.n.beam = y.n.beam ∧
  eqL hdEq x.hs y.hs = true ∧ eqL grEq x.gs y.gs = true ∧ eqL syEq x.ls y.ls = true
instance (x y : Evt) : Decidable (sameP x y) := by unfold sameP; infer_instance
theorem sameP_refl (x : Evt) : sameP x x := ⟨rfl, ⟨rfl, rfl⟩, rfl, rfl, rfl, rfl, rfl, eqL_refl hdEq_refl _, eqL_refl grEq_refl _, eqL_refl syEq_refl _⟩
theorem not_t {b : Bool} (h : (!b) = true) : b = false := by simpa using h
theorem not_f {b : Bool} (h : (!b) = false) : b = true := by simpa using h
theorem bne_f {a b : Int} (h : (a != b) = false) : a = b := by simpa using h
theorem beq_t {a b : Int} (h : (a == b) = true) : a = b := by simpa using h
theorem and_t {a b c d : Int} (h : (!(a == b && (c == d))) = false) : a = b ∧ c = d := by simpa using h
theorem sameP_no0 {x y : Evt} (h : (x.n.kind == y.n.kind) = false) : ¬ sameP x y := fun g => by simp [g.1] at h
theorem sameP_no1 {x y : Evt} (h : (x.n.log == y.n.log && (x.n.dots == y.n.dots)) = false) : ¬ sameP x y := fun g => by simp [g.2.1] at h
theorem sameP_no2 {x y : Evt} (h : (x.n.art == y.n.art) = false) : ¬ sameP x y := fun g => by simp [g.2.2.1] at h
theorem sameP_no3 {x y : Evt} (h : (x.n.orn == y.n.orn) = false) : ¬ sameP x y := fun g => by simp [g.2.2.2.1] at h
theorem sameP_no4 {x y : Evt} (h : (x.n.dyn == y.n.dyn) = false) : ¬ sameP x y := fun g => by simp [g.2.2.2.2.1] at h
theorem sameP_no5 {x y : Evt} (h : (x.n.stem == y.n.stem) = false) : ¬ sameP x y := fun g => by simp [g.2.2.2.2.2.1] at h
theorem sameP_no6 {x y : Evt} (h : (x.n.beam == y.n.beam) = false) : ¬ sameP x y := fun g => by simp [g.2.2.2.2.2.2.1] at h
theorem sameP_no7 {x y : Evt} (h : eqL hdEq x.hs y.hs = false) : ¬ sameP x y := fun g => by rw [g.2.2.2.2.2.2.2.1] at h; cases h
theorem sameP_no8 {x y : Evt} (h : eqL grEq x.gs y.gs = false) : ¬ sameP x y := fun g => by rw [g.2.2.2.2.2.2.2.2.1] at h; cases h
theorem sameP_yes {x y : Evt} (h0 : (x.n.kind == y.n.kind) = true) (h1 : (x.n.log == y.n.log && (x.n.dots == y.n.dots)) = true) (h2 : (x.n.art == y.n.art) = true) (h3 : (x.n.orn == y.n.orn) = true) (h4 : (x.n.dyn == y.n.dyn) = true) (h5 : (x.n.stem == y.n.stem) = true) (h6 : (x.n.beam == y.n.beam) = true)
    (h7 : eqL hdEq x.hs y.hs = true) (h8 : eqL grEq x.gs y.gs = true) : decide (sameP x y) = eqL syEq x.ls y.ls := by
  rw [Bool.eq_iff_iff, decide_eq_true_eq]
  exact ⟨fun h => h.2.2.2.2.2.2.2.2.2, fun h => ⟨beq_t h0, by simpa using h1, beq_t h2, beq_t h3, beq_t h4, beq_t h5, beq_t h6, h7, h8, h⟩⟩
theorem sameQ_no0 {x y : Evt} (h : (x.n.kind != y.n.kind) = true) : ¬ sameP x y := fun g => by simp [g.1] at h
theorem sameQ_no1 {x y : Evt} (h : (!(x.n.log == y.n.log && (x.n.dots == y.n.dots))) = true) : ¬ sameP x y := fun g => by simp [g.2.1] at h
theorem sameQ_no2 {x y : Evt} (h : (x.n.art != y.n.art) = true) : ¬ sameP x y := fun g => by simp [g.2.2.1] at h
theorem sameQ_no3 {x y : Evt} (h : (x.n.orn != y.n.orn) = true) : ¬ sameP x y := fun g => by simp [g.2.2.2.1] at h
theorem sameQ_no4 {x y : Evt} (h : (x.n.dyn != y.n.dyn) = true) : ¬ sameP x y := fun g => by simp [g.2.2.2.2.1] at h
theorem sameQ_no5 {x y : Evt} (h : (x.n.stem != y.n.stem) = true) : ¬ sameP x y := fun g => by simp [g.2.2.2.2.2.1] at h
theorem sameQ_no6 {x y : Evt} (h : (x.n.beam != y.n.beam) = true) : ¬ sameP x y := fun g => by simp [g.2.2.2.2.2.2.1] at h
theorem sameQ_no7 {x y : Evt} (h : ((x.hs.length : Int) != (y.hs.length : Int)) = true) : ¬ sameP x y := fun g => by simp [eqL_len g.2.2.2.2.2.2.2.1] at h
theorem sameQ_no8 {x y : Evt} (h : ((x.gs.length : Int) != (y.gs.length : Int)) = true) : ¬ sameP x y := fun g => by simp [eqL_len g.2.2.2.2.2.2.2.2.1] at h
theorem sameQ_len2 {x y : Evt} (h : ((x.ls.length : Int) != (y.ls.length : Int)) = true) : ¬ sameP x y := fun g => by simp [eqL_len g.2.2.2.2.2.2.2.2.2] at h
def equalP (x y : Evt) : Prop := (x.n.site = y.n.site ∧ x.n.num = y.n.num) ∧ sameP x y
instance (x y : Evt) : Decidable (equalP x y) := by unfold equalP; infer_instance
theorem equalP_refl (x : Evt) : equalP x x := ⟨⟨rfl, rfl⟩, sameP_refl x⟩
def isVal (a b : Int) : Prop := -1 ≤ a ∧ a ≤ 8 ∧ 0 ≤ b ∧ b ≤ 3
instance (a b : Int) : Decidable (isVal a b) := by unfold isVal; infer_instance
def idOk (x : EvN) : Prop := 0 ≤ x.site ∧ x.site ≤ 99 ∧ 0 ≤ x.num ∧ x.num ≤ 1073741824
instance (x : EvN) : Decidable (idOk x) := by unfold idOk; infer_instance
def tailOk (x : EvN) : Prop := (0 ≤ x.art ∧ x.art ≤ 31) ∧ (0 ≤ x.orn ∧ x.orn ≤ 4) ∧ (0 ≤ x.dyn ∧ x.dyn ≤ 9) ∧ (0 ≤ x.stem ∧ x.stem ≤ 2) ∧ (0 ≤ x.beam ∧ x.beam ≤ 2)
instance (x : EvN) : Decidable (tailOk x) := by unfold tailOk; infer_instance
/-- The error of the lists of a chord. -/
def partsE (x : Evt) : Int := if headsE x.hs ≠ 0 then headsE x.hs else if gracesE x.gs ≠ 0 then gracesE x.gs else lyricsE x.ls
def tailE (x : EvN) : Int := if tailOk x then 0 else 2
/-- The first error of an event. -/
def evE (x : Evt) : Int :=
  if ¬ idOk x.n then 2 else if x.n.kind < 1 ∨ 4 < x.n.kind then 11 else if ¬ sameP x (stripE x) then 3 else if x.n.kind ≠ 3 ∧ ¬ isVal x.n.log x.n.dots then 17
  else if x.n.kind = 1 ∧ partsE x ≠ 0 then partsE x else tailE x.n
theorem evE_1 {x : Evt} (h : ¬ idOk x.n) : evE x = 2 := by rw [evE, if_pos h]
theorem evE_2 {x : Evt} (h : idOk x.n) (h1 : x.n.kind < 1 ∨ 4 < x.n.kind) : evE x = 11 := by rw [evE, if_neg (by simpa using h), if_pos h1]
theorem evE_3 {x : Evt} (h : idOk x.n) (h1 : ¬ (x.n.kind < 1 ∨ 4 < x.n.kind)) (h2 : ¬ sameP x (stripE x)) : evE x = 3 := by rw [evE, if_neg (by simpa using h), if_neg h1, if_pos h2]
theorem evE_4 {x : Evt} (h : idOk x.n) (h1 : ¬ (x.n.kind < 1 ∨ 4 < x.n.kind)) (h2 : sameP x (stripE x)) (h3 : x.n.kind ≠ 3 ∧ ¬ isVal x.n.log x.n.dots) : evE x = 17 := by rw [evE, if_neg (by simpa using h), if_neg h1, if_neg (by simpa using h2), if_pos h3]
theorem evE_5 {x : Evt} (h : idOk x.n) (h1 : ¬ (x.n.kind < 1 ∨ 4 < x.n.kind)) (h2 : sameP x (stripE x)) (h3 : ¬ (x.n.kind ≠ 3 ∧ ¬ isVal x.n.log x.n.dots)) (h4 : x.n.kind = 1 ∧ partsE x ≠ 0) : evE x = partsE x := by rw [evE, if_neg (by simpa using h), if_neg h1, if_neg (by simpa using h2), if_neg h3, if_pos h4]
theorem evE_6 {x : Evt} (h : idOk x.n) (h1 : ¬ (x.n.kind < 1 ∨ 4 < x.n.kind)) (h2 : sameP x (stripE x)) (h3 : ¬ (x.n.kind ≠ 3 ∧ ¬ isVal x.n.log x.n.dots)) (h4 : ¬ (x.n.kind = 1 ∧ partsE x ≠ 0)) : evE x = tailE x.n := by rw [evE, if_neg (by simpa using h), if_neg h1, if_neg (by simpa using h2), if_neg h3, if_neg h4]
theorem Evt.few.strip {x : Evt} (h : x.few) : (stripE x).few := by
  obtain ⟨h1, h2, h3, h4⟩ := h
  unfold stripE
  split
  · refine ⟨Nat.zero_le _, Nat.zero_le _, Nat.zero_le _, ?_⟩
    show (if x.n.kind = 4 then (0 : Int) else fermV x.n.art) ≤ 9223372036854775807
    split
    · decide
    · unfold fermV; split <;> decide
  · exact ⟨h1, h2, h3, h4⟩
theorem id_fst0 (x : EvN) : Ky.fst0 [if x.site < 0 ∨ 99 < x.site then 2 else 0, if x.num < 0 ∨ 1073741824 < x.num then 2 else 0] = if idOk x then 0 else 2 := by
  by_cases h1 : x.site < 0 ∨ 99 < x.site
  · rw [if_pos h1, if_neg (show ¬ idOk x by unfold idOk; omega)]; rfl
  · rw [if_neg h1]
    by_cases h2 : x.num < 0 ∨ 1073741824 < x.num
    · rw [if_pos h2, if_neg (show ¬ idOk x by unfold idOk; omega)]; rfl
    · rw [if_neg h2, if_pos (show idOk x by unfold idOk; omega)]; rfl
theorem fst0_2 (b : Prop) [Decidable b] (l : List Int) : Ky.fst0 ((if b then 2 else 0) :: l) = if b then 2 else Ky.fst0 l := by
  by_cases h : b
  · rw [if_pos h, if_pos h]; rfl
  · rw [if_neg h, if_neg h]; rfl
theorem tail_fst0 (x : EvN) : Ky.fst0 [if x.art < 0 ∨ 31 < x.art then 2 else 0, if x.orn < 0 ∨ 4 < x.orn then 2 else 0, if x.dyn < 0 ∨ 9 < x.dyn then 2 else 0, if x.stem < 0 ∨ 2 < x.stem then 2 else 0, if x.beam < 0 ∨ 2 < x.beam then 2 else 0] = tailE x := by
  simp only [fst0_2, tailE]
  by_cases h : tailOk x
  · rw [if_pos h]
    unfold tailOk at h
    rw [if_neg (by omega), if_neg (by omega), if_neg (by omega), if_neg (by omega), if_neg (by omega)]; rfl
  · rw [if_neg h]
    unfold tailOk at h
    by_cases h1 : x.art < 0 ∨ 31 < x.art
    · rw [if_pos h1]
    · rw [if_neg h1]
      by_cases h2 : x.orn < 0 ∨ 4 < x.orn
      · rw [if_pos h2]
      · rw [if_neg h2]
        by_cases h3 : x.dyn < 0 ∨ 9 < x.dyn
        · rw [if_pos h3]
        · rw [if_neg h3]
          by_cases h4 : x.stem < 0 ∨ 2 < x.stem
          · rw [if_pos h4]
          · rw [if_neg h4, if_pos (by omega)]
theorem parts_fst0 (x : Evt) : Ky.fst0 [headsE x.hs, gracesE x.gs, lyricsE x.ls] = partsE x := by
  rw [partsE, Ky.fst0, Ky.fst0, Ky.fst0]
  by_cases h3 : lyricsE x.ls = 0
  · rw [h3]; rfl
  · rw [if_pos h3]
theorem parts_1 {x : Evt} (h : headsE x.hs ≠ 0) : partsE x = headsE x.hs := if_pos h
theorem parts_2 {x : Evt} (h : headsE x.hs = 0) (h1 : gracesE x.gs ≠ 0) : partsE x = gracesE x.gs := by rw [partsE, if_neg (by omega), if_pos h1]
theorem parts_3 {x : Evt} (h : headsE x.hs = 0) (h1 : gracesE x.gs = 0) : partsE x = lyricsE x.ls := by rw [partsE, if_neg (by omega), if_neg (by omega)]
theorem tailE_0 {x : EvN} (h : tailOk x) : tailE x = 0 := if_pos h
theorem tailE_2 {x : EvN} (h : ¬ tailOk x) : tailE x = 2 := if_neg h
end Go.Proofs.YtgphmbipakdggaaR.Ev
