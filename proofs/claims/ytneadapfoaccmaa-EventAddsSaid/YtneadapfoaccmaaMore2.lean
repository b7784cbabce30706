/- Chords made, heads taken out. Nothing of the program. -/
import Derived.Test.YtneadapfoaccmaaCanon
set_option linter.unusedSimpArgs false
set_option linter.unusedVariables false
namespace Go.Proofs.Ytneadapfoaccmaa
open Go Go.RowKit Hr

def hdOf (p : Pit) : Hd := ⟨p.step, p.alter, p.oct, false, 0⟩
def chordX (a b lg d : Int) (ps : List Pit) : Evt := ⟨⟨a, b, 1, lg, d, 0, 0, 0, 0, 0⟩, ps.map hdOf, [], []⟩
theorem chord_few {a b lg d : Int} {ps : List Pit} (h : ps.length ≤ 12) : (chordX a b lg d ps).few := ⟨by simp [chordX]; omega, Nat.zero_le _, Nat.zero_le _, by show (0 : Int) ≤ 9223372036854775807; decide⟩
def noL : Lie := ⟨none, 0, none, 0, none, 0⟩
def kps : List Pit := [⟨4, 0, 4⟩, ⟨0, 0, 4⟩, ⟨6, 1, 3⟩]
def kch : Evt := ⟨⟨0, 3, 1, 2, 0, 0, 0, 0, 0, 0⟩, [⟨0, 0, 4, false, 0⟩, ⟨4, 0, 4, false, 0⟩], [], []⟩
def kev : Evt := ⟨⟨0, 0, 1, 2, 0, 20, 0, 6, 0, 0⟩, [⟨0, 0, 4, false, 0⟩], [], []⟩
theorem known_chord : canE (chordX 0 3 2 0 kps) = kch := by rfl
/-- The error of a head taken out. -/
def rmE (x : Evt) (i : Int) : Int := if evE x ≠ 0 then evE x else if x.n.kind ≠ 1 then 11 else if i < 0 ∨ x.hs.length ≤ i then 2 else 0
theorem rmE_1 {x : Evt} {i : Int} (h : evE x ≠ 0) : rmE x i = evE x := if_pos h
theorem rmE_2 {x : Evt} {i : Int} (h : evE x = 0) (h1 : x.n.kind ≠ 1) : rmE x i = 11 := by rw [rmE, if_neg (by omega), if_pos h1]
theorem rmE_3 {x : Evt} {i : Int} (h : evE x = 0) (h1 : x.n.kind = 1) (h2 : i < 0 ∨ x.hs.length ≤ i) : rmE x i = 2 := by rw [rmE, if_neg (by omega), if_neg (by omega), if_pos h2]
theorem rmE_ok {x : Evt} {i : Int} (h : rmE x i = 0) : evE x = 0 ∧ x.n.kind = 1 ∧ 0 ≤ i ∧ i < x.hs.length := by
  unfold rmE at h
  split at h
  · exact absurd h ‹_›
  · split at h
    · cases h
    · split at h
      · cases h
      · omega
theorem rmE_z {x : Evt} {i : Int} (h : evE x = 0) (h1 : x.n.kind = 1) (h2 : ¬ (i < 0 ∨ x.hs.length ≤ i)) : rmE x i = 0 := by rw [rmE, if_neg (by omega), if_neg (by omega), if_neg h2]
theorem equal_t {x y : Evt} (h : (x.n.site == y.n.site && (x.n.num == y.n.num)) = true) : decide (equalP x y) = decide (sameP x y) := by
  have h' : x.n.site = y.n.site ∧ x.n.num = y.n.num := by simpa using h
  rw [Bool.eq_iff_iff, decide_eq_true_eq, decide_eq_true_eq]
  exact ⟨fun g => g.2, fun g => ⟨h', g⟩⟩
theorem equal_f {x y : Evt} (h : (x.n.site == y.n.site && (x.n.num == y.n.num)) = false) : decide (equalP x y) = false :=
  decide_eq_false fun g => by simp [g.1] at h
def to2 (x : Evt) : Evt := ⟨⟨x.n.site, x.n.num, 2, x.n.log, x.n.dots, x.n.art, x.n.orn, x.n.dyn, x.n.stem, x.n.beam⟩, x.hs, x.gs, x.ls⟩
theorem known_ev : rmE kev 0 = 0 := by decide
/-! Durations -/
def prt (n : Int) : Nat → Int
  | 0 => n
  | k + 1 => prt n k / 2
def sumT (n : Int) : Nat → Int
  | 0 => n
  | k + 1 => sumT n k + prt n (k + 1)
theorem part_bd {n : Int} (h : 0 ≤ n ∧ n ≤ 3870720) : ∀ k, 0 ≤ prt n k ∧ prt n k ≤ 3870720
  | 0 => h
  | k + 1 => by
    have := part_bd h k
    rw [prt]; omega
theorem sumT_bd {n : Int} (h : 0 ≤ n ∧ n ≤ 3870720) : ∀ k, 0 ≤ sumT n k ∧ sumT n k ≤ 3870720 * (k + 1)
  | 0 => by rw [sumT]; omega
  | k + 1 => by
    have h1 := sumT_bd h k
    have h2 := part_bd h (k + 1)
    rw [sumT]; omega
def tkV (a b : Int) : Int := sumT (prt 3870720 (a + 1).toNat) b.toNat
theorem shr_part {a : Int} (h : -1 ≤ a ∧ a ≤ 8) : (3870720 : Int).fdiv (2 ^ (min (a + 1).toNat IntKind.i64.bits)) = prt 3870720 (a + 1).toNat := by
  have : a = -1 ∨ a = 0 ∨ a = 1 ∨ a = 2 ∨ a = 3 ∨ a = 4 ∨ a = 5 ∨ a = 6 ∨ a = 7 ∨ a = 8 := by omega
  rcases this with rfl | rfl | rfl | rfl | rfl | rfl | rfl | rfl | rfl | rfl <;> rfl
theorem evE_val {x : Evt} (h : evE x = 0) (h3 : x.n.kind ≠ 3) : isVal x.n.log x.n.dots := by
  by_cases hv : isVal x.n.log x.n.dots
  · exact hv
  · exfalso
    unfold evE at h
    split at h
    · cases h
    · split at h
      · cases h
      · split at h
        · cases h
        · rw [if_pos ⟨h3, hv⟩] at h; cases h
def restX (a b lg d : Int) : Evt := ⟨⟨a, b, 2, lg, d, 0, 0, 0, 0, 0⟩, [], [], []⟩
theorem zero_few (n : EvN) (h : n.art ≤ 9223372036854775807) : (Evt.mk n [] [] []).few := ⟨Nat.zero_le _, Nat.zero_le _, Nat.zero_le _, h⟩
theorem noRd {w : World} {n : EvN} : RdE w ⟨n, [], [], []⟩ noL := ⟨.inl rfl, .inl rfl, .inl rfl⟩
/-! Heads found -/
def numIs (n : Int) (h : Hd) : Bool := h.num == n
/-- Where the first head with the number of a pitch is, and whether there is one. -/
def findV (l : List Hd) (n : Int) : Int := if n < 0 then 0 else max (Flt.idxV (numIs n) l) 0
def findB (l : List Hd) (n : Int) : Bool := if n < 0 then false else decide (0 ≤ Flt.idxV (numIs n) l)
theorem numIs_e {h : Hd} {n : Int} (hn : ¬ n < 0) : ((if numP h.step h.alter h.oct < 0 then (18 : Int) else 0) == 0 && ((if numP h.step h.alter h.oct < 0 then (0 : Int) else numP h.step h.alter h.oct) == n)) = numIs n h := by
  unfold numIs Hd.num
  by_cases h0 : numP h.step h.alter h.oct < 0
  · rw [if_pos h0, if_pos h0]
    have : ¬ numP h.step h.alter h.oct = n := by omega
    simp [this]
  · rw [if_neg h0, if_neg h0]; simp
/-! The reference's canonical form -/
theorem refH_nil : ∀ n, refH [] n = []
  | 0 => rfl
  | n + 1 => by rw [refH, refH_nil n]; rfl
theorem pk_hit {l : List Hd} {n i : Nat} (hi : i < l.length) (hE : Flt.fidx (numIs (n : Int)) l = i + Flt.fidx (numIs (n : Int)) (l.drop i)) (h : numIs (n : Int) (nth l i) = true) : pkH l n = [nth l i] := by
  have e : Flt.fidx (fun h : Hd => h.num == (n : Int)) l = i := by
    show Flt.fidx (numIs (n : Int)) l = i
    rw [hE, drop_nth hi, Flt.fidx, if_pos h]; rfl
  rw [pkH, e, if_pos hi]
theorem pk_none {l : List Hd} {n i : Nat} (hi : l.length ≤ i) (hE : Flt.fidx (numIs (n : Int)) l = i + Flt.fidx (numIs (n : Int)) (l.drop i)) : pkH l n = [] := by
  have e : ¬ Flt.fidx (fun h : Hd => h.num == (n : Int)) l < l.length := by
    show ¬ Flt.fidx (numIs (n : Int)) l < l.length
    rw [hE]; omega
  rw [pkH, if_neg e]
theorem getmapT2 {α : Type} [Inhabited α] {enc : α → List Value} {l : List α} {n q : Nat} (hq : q < n) (h : n ≤ l.length) : ((l.map enc).take n)[q]? = some (enc (nth l q)) := by
  rw [List.getElem?_take_of_lt hq]; exact getmap (by omega)
theorem strip_one {x : Evt} (h : x.n.kind = 1) : (stripE x).hs = x.hs := by rw [strip_keep (by unfold bare; omega)]
theorem strip_bare {x : Evt} (h : bare x.n.kind) : (stripE x).hs = [] := by rw [stripE, if_pos h]
theorem strip_kind (x : Evt) : (stripE x).n.kind = x.n.kind := by
  unfold stripE; split <;> rfl
/-! Events cut short -/
def trunc (s : Syl) : Syl := ⟨s.text.extract 0 (min (s.text.size : Int) 260).toNat, s.link⟩
def shortL (l : List Syl) : List Syl := (l.take 6).map trunc
def short (x : Evt) : Evt := ⟨x.n, x.hs.take 12, x.gs.take 12, shortL x.ls⟩
theorem short_hs (x : Evt) : (short x).hs.length = min x.hs.length 12 := by simp [short, Nat.min_comm]
theorem short_gs (x : Evt) : (short x).gs.length = min x.gs.length 12 := by simp [short, Nat.min_comm]
theorem short_ls (x : Evt) : (short x).ls.length = min x.ls.length 6 := by simp [short, shortL, Nat.min_comm]
theorem short_few {x : Evt} (h : x.n.art ≤ 9223372036854775807) : (short x).few := by
  refine ⟨?_, ?_, ?_, h⟩
  · rw [short_hs]; omega
  · rw [short_gs]; omega
  · rw [short_ls]; omega
theorem shortK {l : List Syl} {k : Nat} (h : k = min l.length 6) : (l.take 6).map trunc = (l.take k).map trunc := by
  rw [h]
  by_cases h6 : l.length ≤ 6
  · rw [List.take_of_length_le h6, Nat.min_eq_left h6, List.take_length]
  · rw [Nat.min_eq_right (by omega)]
theorem evV_short {x : Evt} {p : Lie} {O : Option Addr} {co : Nat} : evV (short x) ⟨p.HA, p.hc, p.GA, p.gc, O, co⟩ = .agg #[.int .i64 x.n.site, .int .i64 x.n.num, .int .i64 x.n.kind, .int .i64 x.n.log, .int .i64 x.n.dots, .slice p.HA (min (x.hs.length : Int) 12).toNat p.hc, .slice p.GA (min (x.gs.length : Int) 12).toNat p.gc, .int .i64 x.n.art, .int .i64 x.n.orn, .int .i64 x.n.dyn, .slice O (shortL x.ls).length co, .int .i64 x.n.stem, .int .i64 x.n.beam] := by
  unfold evV evC
  rw [short_hs, short_gs, show min x.hs.length 12 = (min (x.hs.length : Int) 12).toNat from by omega, show min x.gs.length 12 = (min (x.gs.length : Int) 12).toNat from by omega]
  rfl
theorem rd_takeE {α : Type} {enc : α → List Value} {w : World} {A : Option Addr} {s m : Nat} {l : List α} (h : Rd w A s (l.map enc)) : Rd w A s ((l.take m).map enc) := by
  rw [List.map_take]; exact h.take m
end Go.Proofs.Ytneadapfoaccmaa
