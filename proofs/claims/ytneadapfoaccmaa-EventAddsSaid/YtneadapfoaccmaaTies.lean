/- Ties. Nothing of the program. -/
import Derived.Test.YtneadapfoaccmaaLaw
set_option linter.unusedSimpArgs false
set_option linter.unusedVariables false
namespace Go.Proofs.Ytneadapfoaccmaa
open Go Go.RowKit Hr

theorem idx_any {α : Type} {p : α → Bool} : ∀ l : List α, decide (0 ≤ Flt.idxV p l) = l.any p := by
  intro l
  have h : ∀ l : List α, decide (Flt.fidx p l < l.length) = l.any p := by
    intro l
    induction l with
    | nil => rfl
    | cons a r ih =>
      rw [Flt.fidx, List.any_cons]
      by_cases ha : p a = true
      · rw [if_pos ha, ha]; simp
      · rw [if_neg ha, ← ih, show p a = false from by simpa using ha]; simp
  rw [← h l, Flt.idxV]
  by_cases h1 : Flt.fidx p l < l.length
  · rw [if_pos h1, decide_eq_true h1]; exact decide_eq_true (by omega)
  · rw [if_neg h1, decide_eq_false h1]; rfl
def tiedP (h : Hd) : Bool := h.tied
def pitEq (h k : Hd) : Bool := k.step == h.step && (k.alter == h.alter && (k.oct == h.oct))
def soundB (x : Evt) : Bool := decide (x.n.kind = 1) && decide (0 < x.hs.length)
def tiesB (x : Evt) : Bool := decide (x.n.kind = 1) && x.hs.any tiedP
def joinH (y : Evt) (h : Hd) : Bool := !h.tied || (decide (y.n.kind = 1) && y.hs.any (pitEq h))
def joinsB (x y : Evt) : Bool := !decide (x.n.kind = 1) || x.hs.all (joinH y)
def anyT {α : Type} (p : α → Bool) (l : List α) (k : Nat) : Bool := (l.take k).any p
def allT {α : Type} (p : α → Bool) (l : List α) (k : Nat) : Bool := (l.take k).all p
theorem anyT_succ {α : Type} [Inhabited α] {p : α → Bool} {l : List α} {k : Nat} (h : k < l.length) : anyT p l (k + 1) = (anyT p l k || p (nth l k)) := by simp [anyT, take_nth h]
theorem allT_succ {α : Type} [Inhabited α] {p : α → Bool} {l : List α} {k : Nat} (h : k < l.length) : allT p l (k + 1) = (allT p l k && p (nth l k)) := by simp [allT, take_nth h]
theorem anyT_end {α : Type} {p : α → Bool} {l : List α} {k : Nat} (h : l.length ≤ k) : anyT p l k = l.any p := by rw [anyT, List.take_of_length_le h]
theorem allT_end {α : Type} {p : α → Bool} {l : List α} {k : Nat} (h : l.length ≤ k) : allT p l k = l.all p := by rw [allT, List.take_of_length_le h]
theorem all_out {α : Type} [Inhabited α] {p : α → Bool} {l : List α} {k : Nat} (h : k < l.length) (hp : p (nth l k) = false) : l.all p = false := by
  rw [List.all_eq_false]
  exact ⟨nth l k, nth_mem h, by simp [hp]⟩
def untie (h : Hd) : Hd := ⟨h.step, h.alter, h.oct, false, h.shw⟩
def untieE (x : Evt) : Evt := ⟨x.n, x.hs.map untie, x.gs, x.ls⟩
def mixU (l : List Hd) (k : Nat) : List Hd := (l.take k).map untie ++ l.drop k
theorem mixU_zero (l : List Hd) : mixU l 0 = l := by simp [mixU]
theorem mixU_len {l : List Hd} {k : Nat} (h : k ≤ l.length) : (mixU l k).length = l.length := by simp [mixU]; omega
theorem mixU_nth {l : List Hd} {k : Nat} (h : k < l.length) : nth (mixU l k) k = nth l k := by
  have e : ((l.take k).map untie).length = k := by rw [List.length_map, List.length_take]; omega
  simp only [mixU, nth, List.getD_eq_getElem?_getD]
  rw [List.getElem?_append_right (by omega), e, Nat.sub_self, List.getElem?_drop, Nat.add_zero]
theorem mixU_step {l : List Hd} {k : Nat} (h : k < l.length) : ((mixU l k).map Hd.enc).set k ((nth l k).enc.set 3 (.bool false)) = (mixU l (k + 1)).map Hd.enc := by
  have e : ((l.take k).map untie).length = k := by rw [List.length_map, List.length_take]; omega
  rw [mixU, mixU, List.map_append, List.set_append_right _ _ (by rw [List.length_map, e]; exact Nat.le_refl _), List.length_map, e, Nat.sub_self, drop_nth h, take_nth h]
  simp [Hd.enc, untie]
theorem mixU_end {l : List Hd} {k : Nat} (h : l.length ≤ k) : mixU l k = l.map untie := by
  rw [mixU, List.take_of_length_le h, List.drop_eq_nil_of_le h, List.append_nil]
theorem untie_few {x : Evt} (h : x.few) : (untieE x).few := by
  obtain ⟨h1, h2, h3, h4⟩ := h
  exact ⟨by simp [untieE]; exact h1, h2, h3, h4⟩
theorem untie_ties (x : Evt) : tiesB (untieE x) = false := by
  have : (x.hs.map untie).any tiedP = false := by
    rw [List.any_eq_false]
    intro h hh
    obtain ⟨k, _, rfl⟩ := List.mem_map.1 hh
    simp [tiedP, untie]
  rw [tiesB, untieE]
  simp only [this, Bool.and_false]
theorem untie_joins (x y : Evt) : joinsB (untieE x) y = true := by
  have : (x.hs.map untie).all (joinH y) = true := by
    rw [List.all_eq_true]
    intro h hh
    obtain ⟨k, _, rfl⟩ := List.mem_map.1 hh
    simp [joinH, untie]
  rw [joinsB, untieE]
  simp only [this, Bool.or_true]
/-- What the law keeps: whether ties were seen, and whether all are joined. -/
def lawJ (c : Bool) (y : Evt) (h : Hd) : Bool := !c || joinH y h
theorem lawJ_all (x y : Evt) : x.hs.all (lawJ (decide (x.n.kind = 1)) y) = joinsB x y := by
  unfold joinsB
  cases h : decide (x.n.kind = 1)
  · simp [lawJ]
  · have : lawJ true y = joinH y := by funext h; simp [lawJ]
    rw [this]; simp
theorem found_t {d a b : Bool} (h : (d && a) = true) : true = (d && (a || b)) := by cases d <;> cases a <;> simp_all
theorem found_f {d a b : Bool} (hd : d = true) (h : (d && a) = false) : b = (d && (a || b)) := by cases d <;> cases a <;> simp_all
theorem found_n {d a b : Bool} (hd : d = false) : false = (d && (a || b)) := by rw [hd]; rfl
theorem rd_head {w : World} {b : Nat} {t : TypeId} {v0 v1 v2 v3 v4 : Value} (h : (Res.blk b t [(0, v0), (1, v1), (2, v2), (3, v3), (4, v4)]).holds w) : Rd w (some ⟨b, 0, none⟩) 5 [[v0, v1, v2, v3, v4]] :=
  rd_blk h fun i u hu => by
    match i, hu with
    | 0, hu => simpa [fnd] using hu
    | 1, hu => simpa [fnd] using hu
    | 2, hu => simpa [fnd] using hu
    | 3, hu => simpa [fnd] using hu
    | 4, hu => simpa [fnd] using hu
    | i + 5, hu => simp at hu
end Go.Proofs.Ytneadapfoaccmaa
