/- A head put in. Nothing of the program. -/
import Derived.Test.YtneadapfoaccmaaRem
import Derived.Test.YtneadapfoaccmaaTies
set_option linter.unusedSimpArgs false
set_option linter.unusedVariables false
namespace Go.Proofs.Ytneadapfoaccmaa
open Go Go.RowKit Hr

def adE (x : Evt) (h : Hd) : Int := if evE x ≠ 0 then evE x else if x.n.kind ≠ 1 then 11 else if headE h ≠ 0 then headE h else if findB x.hs h.num = true then 7 else if x.hs.length = 10 then 9 else 0
theorem adE_1 {x : Evt} {h : Hd} (h0 : evE x ≠ 0) : adE x h = evE x := if_pos h0
theorem adE_2 {x : Evt} {h : Hd} (h0 : evE x = 0) (h1 : x.n.kind ≠ 1) : adE x h = 11 := by rw [adE, if_neg (by omega), if_pos h1]
theorem adE_3 {x : Evt} {h : Hd} (h0 : evE x = 0) (h1 : x.n.kind = 1) (h2 : headE h ≠ 0) : adE x h = headE h := by rw [adE, if_neg (by omega), if_neg (by omega), if_pos h2]
theorem adE_4 {x : Evt} {h : Hd} (h0 : evE x = 0) (h1 : x.n.kind = 1) (h2 : headE h = 0) (h3 : findB x.hs h.num = true) : adE x h = 7 := by rw [adE, if_neg (by omega), if_neg (by omega), if_neg (by omega), if_pos h3]
theorem adE_5 {x : Evt} {h : Hd} (h0 : evE x = 0) (h1 : x.n.kind = 1) (h2 : headE h = 0) (h3 : findB x.hs h.num = false) (h4 : x.hs.length = 10) : adE x h = 9 := by rw [adE, if_neg (by omega), if_neg (by omega), if_neg (by omega), if_neg (by simp [h3]), if_pos h4]
theorem adE_6 {x : Evt} {h : Hd} (h0 : evE x = 0) (h1 : x.n.kind = 1) (h2 : headE h = 0) (h3 : findB x.hs h.num = false) (h4 : x.hs.length ≠ 10) : adE x h = 0 := by rw [adE, if_neg (by omega), if_neg (by omega), if_neg (by omega), if_neg (by simp [h3]), if_neg h4]
theorem adE_ok {x : Evt} {h : Hd} (h0 : adE x h = 0) : evE x = 0 ∧ x.n.kind = 1 ∧ headE h = 0 ∧ findB x.hs h.num = false ∧ x.hs.length ≠ 10 := by
  by_cases h1 : evE x = 0
  · by_cases h2 : x.n.kind = 1
    · by_cases h3 : headE h = 0
      · cases h4 : findB x.hs h.num
        · by_cases h5 : x.hs.length = 10
          · rw [adE_5 h1 h2 h3 h4 h5] at h0; cases h0
          · exact ⟨h1, h2, h3, rfl, h5⟩
        · rw [adE_4 h1 h2 h3 h4] at h0; cases h0
      · rw [adE_3 h1 h2 h3] at h0; exact absurd h0 h3
    · rw [adE_2 h1 h2] at h0; cases h0
  · rw [adE_1 h1] at h0; exact absurd h0 h1
section
variable {α : Type} [Inhabited α]
theorem fidx_lt {p : α → Bool} : ∀ {l : List α} {j : Nat}, j < Flt.fidx p l → p (nth l j) = false
  | [], j, h => by simp [Flt.fidx] at h
  | a :: l, j, h => by
    rw [Flt.fidx] at h
    by_cases ha : p a = true
    · rw [if_pos ha] at h; omega
    · rw [if_neg ha] at h
      match j, h with
      | 0, _ => simpa [nth] using ha
      | j + 1, h =>
        have := fidx_lt (p := p) (l := l) (j := j) (by omega)
        simpa [nth] using this
theorem fidx_is {p : α → Bool} {l : List α} {k : Nat} (hk : k < l.length) (h1 : p (nth l k) = true) (h0 : ∀ j, j < k → p (nth l j) = false) : Flt.fidx p l = k := by
  rcases Nat.lt_trichotomy (Flt.fidx p l) k with h | h | h
  · have := (Flt.rest_first (p := p) l (by omega)).2
    rw [h0 _ h] at this; cases this
  · exact h
  · rw [fidx_lt h] at h1; cases h1
def insAt (l : List α) (k : Nat) (h : α) : List α := l.take k ++ h :: l.drop k
omit [Inhabited α] in
theorem insAt_len {l : List α} {k : Nat} {h : α} (hk : k ≤ l.length) : (insAt l k h).length = l.length + 1 := by simp [insAt]; omega
theorem insAt_nth {l : List α} {k j : Nat} {h : α} (hk : k ≤ l.length) : nth (insAt l k h) j = if j < k then nth l j else if j = k then h else nth l (j - 1) := by
  have e : (l.take k).length = k := by rw [List.length_take]; omega
  simp only [insAt, nth, List.getD_eq_getElem?_getD]
  by_cases hj : j < k
  · rw [if_pos hj, List.getElem?_append_left (by omega), List.getElem?_take, if_pos hj]
  · rw [if_neg hj, List.getElem?_append_right (by omega), e]
    by_cases h2 : j = k
    · rw [if_pos h2, h2, Nat.sub_self]; rfl
    · rw [if_neg h2, show j - k = (j - k - 1) + 1 from by omega, List.getElem?_cons_succ, List.getElem?_drop, show k + (j - k - 1) = j - 1 from by omega]
omit [Inhabited α] in
theorem insAt_rem {l : List α} {k : Nat} {h : α} (hk : k ≤ l.length) : remL (insAt l k h) k = l := by
  have e : (l.take k).length = k := by rw [List.length_take]; omega
  have e1 : (insAt l k h).take k = l.take k := by rw [insAt, List.take_left' e]
  have e2 : (insAt l k h).drop (k + 1) = l.drop k := by
    have : insAt l k h = (l.take k ++ [h]) ++ l.drop k := by simp [insAt]
    rw [this, List.drop_left' (by simp; omega)]
  rw [remL, e1, e2, List.take_append_drop]
end
def posH (l : List Hd) (h : Hd) : Nat := Flt.fidx (fun a : Hd => decide (h.num < a.num)) l
def insL (l : List Hd) (h : Hd) : List Hd := insAt l (posH l h) h
theorem posH_le (l : List Hd) (h : Hd) : posH l h ≤ l.length := Flt.fidx_le l
theorem posH_lt {l : List Hd} {h : Hd} {j : Nat} (hj : j < posH l h) : (nth l j).num ≤ h.num := by
  have := fidx_lt (p := fun a : Hd => decide (h.num < a.num)) hj
  simp only [decide_eq_false_iff_not] at this
  omega
theorem posH_at {l : List Hd} {h : Hd} (hj : posH l h < l.length) : h.num < (nth l (posH l h)).num := by
  have := (Flt.rest_first (p := fun a : Hd => decide (h.num < a.num)) l hj).2
  simpa [posH] using this
theorem Good.ins {l : List Hd} (g : Good l) {h : Hd} (hh : headE h = 0) (hn : ∀ a ∈ l, a.num ≠ h.num) : Good (insL l h) := by
  have hk := posH_le l h
  refine ⟨fun j h0 hj => ?_, fun j hj => ?_⟩
  · rw [insL, insAt_len hk] at hj
    rw [insL, insAt_nth hk, insAt_nth hk]
    by_cases h1 : j < posH l h
    · rw [if_pos h1, if_pos (by omega)]; exact g.up j h0 (by omega)
    · rw [if_neg h1]
      by_cases h2 : j = posH l h
      · rw [if_pos h2, if_pos (by omega)]
        have q1 := posH_lt (l := l) (h := h) (j := j - 1) (by omega)
        have q2 := hn _ (nth_mem (l := l) (q := j - 1) (by omega))
        omega
      · rw [if_neg h2, if_neg (show ¬ j - 1 < posH l h by omega)]
        by_cases h3 : j - 1 = posH l h
        · rw [if_pos h3, h3]; exact posH_at (by omega)
        · rw [if_neg h3]; exact g.up (j - 1) (by omega) (by omega)
  · rw [insL, insAt_len hk] at hj
    rw [insL, insAt_nth hk]
    by_cases h1 : j < posH l h
    · rw [if_pos h1]; exact g.ok j (by omega)
    · rw [if_neg h1]
      by_cases h2 : j = posH l h
      · rw [if_pos h2]; exact hh
      · rw [if_neg h2]; exact g.ok (j - 1) (by omega)
theorem ins_filterN {l : List Hd} {h : Hd} (hn : ∀ a ∈ l, a.num ≠ h.num) (n : Nat) : (l ++ [h]).filter (fun a : Hd => a.num == (n : Int)) = (insL l h).filter (fun a : Hd => a.num == (n : Int)) := by
  rw [insL, insAt, List.filter_append, List.filter_append, List.filter_cons, List.filter_cons]
  by_cases e : h.num = (n : Int)
  · have z : ∀ m : List Hd, (∀ a ∈ m, a ∈ l) → m.filter (fun a : Hd => a.num == (n : Int)) = [] := by
      intro m hm
      rw [List.filter_eq_nil_iff]
      intro a ha
      have := hn a (hm a ha)
      simp only [beq_iff_eq]; omega
    rw [z l (fun _ h => h), z _ (fun _ h => List.mem_of_mem_take h), z _ (fun _ h => List.mem_of_mem_drop h)]
    simp
  · have e1 : (h.num == (n : Int)) = false := by simpa using e
    simp only [e1, Bool.false_eq_true, if_false, List.filter_nil, List.append_nil]
    rw [← List.filter_append, List.take_append_drop]
theorem refH_add {l : List Hd} {h : Hd} (hn : ∀ a ∈ l, a.num ≠ h.num) : ∀ n, refH (l ++ [h]) n = refH (insL l h) n
  | 0 => rfl
  | n + 1 => by rw [refH, refH, refH_add hn n, pkH, pkH, pk_filter, pk_filter, ins_filterN hn]
theorem canH_add {l : List Hd} (g : Good l) {h : Hd} (hh : headE h = 0) (hn : ∀ a ∈ l, a.num ≠ h.num) : canH (l ++ [h]) = insL l h := by
  rw [canH_eq, refH_add hn, ← canH_eq, (g.ins hh hn).can]
theorem findB_none {l : List Hd} {n : Int} (hn : ¬ n < 0) (h : findB l n = false) : ∀ a ∈ l, a.num ≠ n := by
  rw [findB, if_neg hn, idx_any] at h
  intro a ha e
  rw [List.any_eq_false] at h
  exact h a ha (by simp [numIs, e])
def addX (x : Evt) (h : Hd) : Evt := ⟨x.n, x.hs ++ [h], x.gs, x.ls⟩
def addC (x : Evt) (h : Hd) : Evt := ⟨x.n, insL x.hs h, x.gs, x.ls⟩
theorem add_facts {x : Evt} {h : Hd} (h0 : adE x h = 0) : Good x.hs ∧ 0 < x.hs.length ∧ x.hs.length ≤ 9 ∧ ¬ h.num < 0 ∧ (∀ a ∈ x.hs, a.num ≠ h.num) ∧ canE (addX x h) = addC x h := by
  obtain ⟨h1, h2, h3, h4, h5⟩ := adE_ok h0
  obtain ⟨g1, g2, g3, g4, g5⟩ := evE_parts h1
  obtain ⟨p1, p2, p3⟩ := g4 h2
  obtain ⟨q1, q2, q3⟩ := headsE_good p1
  have hb := (headE_ok h3).1
  have hn := findB_none (show ¬ h.num < 0 by omega) h4
  refine ⟨q1, q2, by omega, by omega, hn, ?_⟩
  have e : canE (addX x h) = ⟨(stripE (addX x h)).n, canH (stripE (addX x h)).hs, (stripE (addX x h)).gs, trimL (stripE (addX x h)).ls⟩ := if_neg (by show ¬ (x.n.kind < 1 ∨ 4 < x.n.kind); omega)
  rw [e, strip_keep (show ¬ bare (addX x h).n.kind by show ¬ bare x.n.kind; unfold bare; omega)]
  show Evt.mk x.n (canH (x.hs ++ [h])) x.gs (trimL x.ls) = addC x h
  rw [canH_add q1 h3 hn, lyricsE_trim p3]; rfl
theorem insL_len (l : List Hd) (h : Hd) : (insL l h).length = l.length + 1 := insAt_len (posH_le l h)
theorem add_ok {x : Evt} {h : Hd} (h0 : adE x h = 0) : evE (addC x h) = 0 := by
  obtain ⟨h1, h2, h3, h4, h5⟩ := adE_ok h0
  obtain ⟨q1, q2, q3, q4, q5, _⟩ := add_facts h0
  obtain ⟨g1, g2, g3, g4, g5⟩ := evE_parts h1
  obtain ⟨p1, p2, p3⟩ := g4 h2
  have hb : ¬ bare (addC x h).n.kind := by show ¬ bare x.n.kind; unfold bare; omega
  refine evE_zero g1 g2 ?_ (fun h3 => (show isVal x.n.log x.n.dots from evE_val h1 h3)) (fun _ => ?_) g5
  · rw [strip_keep hb]; exact sameP_refl _
  · have e : headsE (addC x h).hs = 0 := good_headsE (q1.ins h3 q5) (by show 0 < (insL x.hs h).length; rw [insL_len]; omega) (by show (insL x.hs h).length ≤ 10; rw [insL_len]; omega)
    rw [partsE, if_neg (by omega), if_neg (by show ¬ gracesE x.gs ≠ 0; omega)]; exact p3
theorem add_fidx {l : List Hd} {h : Hd} (hn : ∀ a ∈ l, a.num ≠ h.num) : Flt.idxV (numIs h.num) (insL l h) = (posH l h : Int) := by
  have hk := posH_le l h
  have e : Flt.fidx (numIs h.num) (insL l h) = posH l h := by
    refine fidx_is (by rw [insL_len]; omega) ?_ fun j hj => ?_
    · rw [insL, insAt_nth hk, if_neg (Nat.lt_irrefl _), if_pos rfl]; simp [numIs]
    · rw [insL, insAt_nth hk, if_pos hj]
      have := hn _ (nth_mem (l := l) (q := j) (by omega))
      simpa [numIs] using this
  rw [Flt.idxV, e, if_pos (by rw [insL_len]; omega)]
theorem add_findV {l : List Hd} {h : Hd} (h0 : ¬ h.num < 0) (hn : ∀ a ∈ l, a.num ≠ h.num) : findV (insL l h) h.num = (posH l h : Int) := by
  rw [findV, if_neg h0, add_fidx hn]; omega
theorem add_findB {l : List Hd} {h : Hd} (h0 : ¬ h.num < 0) (hn : ∀ a ∈ l, a.num ≠ h.num) : findB (insL l h) h.num = true := by
  rw [findB, if_neg h0, add_fidx hn]; exact decide_eq_true (by omega)
theorem add_nth (l : List Hd) (h : Hd) : nth (insL l h) (posH l h) = h := by
  rw [insL, insAt_nth (posH_le l h), if_neg (Nat.lt_irrefl _), if_pos rfl]
theorem add_rem (x : Evt) (h : Hd) : remX (addC x h) (posH x.hs h) = x := by
  show Evt.mk x.n (remL (insL x.hs h) (posH x.hs h)) x.gs x.ls = x
  rw [insL, insAt_rem (posH_le _ _)]
theorem addX_few {x : Evt} {h : Hd} (hf : x.few) (hl : x.hs.length ≤ 10) : (addX x h).few := by
  obtain ⟨h1, h2, h3, h4⟩ := hf
  exact ⟨by show (x.hs ++ [h]).length ≤ 100000; simp; omega, h2, h3, h4⟩
theorem addC_few {x : Evt} {h : Hd} (hf : x.few) (hl : x.hs.length ≤ 10) : (addC x h).few := by
  obtain ⟨h1, h2, h3, h4⟩ := hf
  exact ⟨by show (insL x.hs h).length ≤ 100000; rw [insL_len]; omega, h2, h3, h4⟩
theorem add_rmE {x : Evt} {h : Hd} (h0 : adE x h = 0) : rmE (addC x h) (posH x.hs h : Int) = 0 := by
  obtain ⟨h1, h2, h3, h4, h5⟩ := adE_ok h0
  refine rmE_z (add_ok h0) h2 ?_
  have := insL_len x.hs h
  have := posH_le x.hs h
  show ¬ ((posH x.hs h : Int) < 0 ∨ ((insL x.hs h).length : Int) ≤ (posH x.hs h : Int))
  omega
end Go.Proofs.Ytneadapfoaccmaa
