/- A head taken out. Nothing of the program. -/
import Derived.Test.YtneadapfoaccmaaLaw
set_option linter.unusedSimpArgs false
set_option linter.unusedVariables false
namespace Go.Proofs.Ytneadapfoaccmaa
open Go Go.RowKit Hr

def remL {α : Type} (l : List α) (i : Nat) : List α := l.take i ++ l.drop (i + 1)
theorem remL_len {α : Type} {l : List α} {i : Nat} (h : i < l.length) : (remL l i).length = l.length - 1 := by simp [remL]; omega
theorem remL_nth {α : Type} [Inhabited α] {l : List α} {i j : Nat} (h : i < l.length) : nth (remL l i) j = if j < i then nth l j else nth l (j + 1) := by
  have e : (l.take i).length = i := by rw [List.length_take]; omega
  simp only [remL, nth, List.getD_eq_getElem?_getD]
  by_cases hj : j < i
  · rw [if_pos hj, List.getElem?_append_left (by omega), List.getElem?_take, if_pos hj]
  · rw [if_neg hj, List.getElem?_append_right (by omega), e, List.getElem?_drop, show i + 1 + (j - i) = j + 1 from by omega]
theorem remL_row {α β : Type} {f : α → β} {l : List α} {i n : Nat} {z : List β} (h : i < l.length) (hn : n = l.length - 1) : (((l.map f).take i ++ (l.map f).drop (i + 1) ++ (l.map f).drop (i + (l.length - (i + 1)))).take n ++ z).take n = (remL l i).map f := by
  have e1 : ((l.map f).take i ++ (l.map f).drop (i + 1)).length = n := by simp; omega
  have e2 : ((l.map f).take i ++ (l.map f).drop (i + 1) ++ (l.map f).drop (i + (l.length - (i + 1)))).take n = (l.map f).take i ++ (l.map f).drop (i + 1) := by rw [← e1, List.take_left]
  rw [e2, ← e1, List.take_left, remL, List.map_append, List.map_take, List.map_drop]
theorem remL_mapRow {α β : Type} {f : α → β} {l : List α} {i : Nat} : ([] ++ (l.map f).take i) ++ (l.map f).drop (i + 1) = (remL l i).map f := by rw [List.nil_append, remL, List.map_append, List.map_take, List.map_drop]
theorem Good.rem {l : List Hd} (h : Good l) {i : Nat} (hi : i < l.length) : Good (remL l i) := by
  refine ⟨fun j h0 hj => ?_, fun j hj => ?_⟩
  · rw [remL_len hi] at hj
    rw [remL_nth hi, remL_nth hi]
    by_cases h1 : j < i
    · rw [if_pos h1, if_pos (by omega)]; exact h.up j h0 (by omega)
    · rw [if_neg h1]
      by_cases h2 : j - 1 < i
      · rw [if_pos h2]; exact h.lt (by omega) (by omega)
      · rw [if_neg h2]; exact h.lt (by omega) (by omega)
  · rw [remL_len hi] at hj
    rw [remL_nth hi]
    by_cases h1 : j < i
    · rw [if_pos h1]; exact h.ok j (by omega)
    · rw [if_neg h1]; exact h.ok (j + 1) (by omega)
def remX (x : Evt) (i : Nat) : Evt := ⟨x.n, remL x.hs i, x.gs, x.ls⟩
theorem evE_zero {x : Evt} (h : idOk x.n) (h1 : 1 ≤ x.n.kind ∧ x.n.kind ≤ 4) (h2 : sameP x (stripE x)) (h3 : x.n.kind ≠ 3 → isVal x.n.log x.n.dots) (h4 : x.n.kind = 1 → partsE x = 0) (h5 : tailOk x.n) : evE x = 0 := by
  have h3' : ¬ (x.n.kind ≠ 3 ∧ ¬ isVal x.n.log x.n.dots) := fun g => g.2 (h3 g.1)
  rw [evE_6 h (by omega) h2 h3' (fun g => g.2 (h4 g.1)), tailE, if_pos h5]
theorem remX_ok {x : Evt} {i : Nat} (h : evE x = 0) (hk : x.n.kind = 1) (hi : i < x.hs.length) (h2 : x.hs.length ≠ 1) : evE (remX x i) = 0 := by
  obtain ⟨g1, g2, g3, g4, g5⟩ := evE_parts h
  obtain ⟨p1, p2, p3⟩ := g4 hk
  obtain ⟨q1, q2, q3⟩ := headsE_good p1
  have hb : ¬ bare (remX x i).n.kind := by show ¬ bare x.n.kind; unfold bare; omega
  refine evE_zero g1 g2 ?_ (fun h3 => (show isVal x.n.log x.n.dots from evE_val h h3)) (fun _ => ?_) g5
  · rw [strip_keep hb]; exact sameP_refl _
  · have e : headsE (remX x i).hs = 0 := good_headsE (q1.rem hi) (by show 0 < (remL x.hs i).length; rw [remL_len hi]; omega) (by show (remL x.hs i).length ≤ 10; rw [remL_len hi]; omega)
    rw [partsE, if_neg (by omega), if_neg (by show ¬ gracesE x.gs ≠ 0; omega)]; exact p3
theorem ferm_bd (a : Int) : 0 ≤ fermV a ∧ fermV a ≤ 31 := by unfold fermV; split <;> omega
theorem strip2_form (x : Evt) : stripE (to2 x) = ⟨⟨x.n.site, x.n.num, 2, x.n.log, x.n.dots, fermV x.n.art, 0, x.n.dyn, 0, 0⟩, [], [], []⟩ := by
  have hb : bare (to2 x).n.kind := .inl rfl
  rw [stripE, if_pos hb]; rfl
theorem rem1_ok {x : Evt} (h : evE x = 0) (hk : x.n.kind = 1) : evE (stripE (to2 x)) = 0 := by
  obtain ⟨g1, g2, g3, g4, g5⟩ := evE_parts h
  have hv := evE_val h (by omega)
  have hf := ferm_bd x.n.art
  rw [strip2_form]
  refine evE_zero g1 (by show (1 : Int) ≤ 2 ∧ (2 : Int) ≤ 4; decide) ?_ (fun _ => hv) (fun h1 => absurd h1 (by show ¬ (2 : Int) = 1; decide)) ?_
  · have hb : bare (2 : Int) := .inl rfl
    have e : stripE ⟨⟨x.n.site, x.n.num, 2, x.n.log, x.n.dots, fermV x.n.art, 0, x.n.dyn, 0, 0⟩, [], [], []⟩ = ⟨⟨x.n.site, x.n.num, 2, x.n.log, x.n.dots, fermV (fermV x.n.art), 0, x.n.dyn, 0, 0⟩, [], [], []⟩ := by rw [stripE, if_pos hb]; rfl
    rw [e, ferm_idem]; exact sameP_refl _
  · unfold tailOk at g5 ⊢
    exact ⟨⟨hf.1, hf.2⟩, ⟨by show (0 : Int) ≤ 0; decide, by show (0 : Int) ≤ 4; decide⟩, g5.2.2.1, ⟨by show (0 : Int) ≤ 0; decide, by show (0 : Int) ≤ 2; decide⟩, ⟨by show (0 : Int) ≤ 0; decide, by show (0 : Int) ≤ 2; decide⟩⟩
theorem remX_few {x : Evt} {i : Nat} (h : x.few) (hi : i < x.hs.length) : (remX x i).few := by
  obtain ⟨h1, h2, h3, h4⟩ := h
  exact ⟨by show (remL x.hs i).length ≤ 100000; rw [remL_len hi]; omega, h2, h3, h4⟩
theorem to2_few {x : Evt} (h : x.few) : (stripE (to2 x)).few := by
  have h' : (to2 x).few := h
  exact h'.strip
theorem rd_to2 {w : World} {x : Evt} {p : Lie} (h : RdE w x p) : RdE w (stripE (to2 x)) (stripP (to2 x) p) := by
  have h' : RdE w (to2 x) p := ⟨h.h, h.g, h.l⟩
  exact h'.strip
theorem zeroFew : Evt.zero.few := ⟨Nat.zero_le _, Nat.zero_le _, Nat.zero_le _, by show (0 : Int) ≤ 9223372036854775807; decide⟩
theorem zeroRd {w : World} : RdE w Evt.zero noL := ⟨.inl rfl, .inl rfl, .inl rfl⟩
end Go.Proofs.Ytneadapfoaccmaa
