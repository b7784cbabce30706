/- The canonical form of an event's heads and syllables. Nothing of the program. -/
import Derived.Test.YtneadapfoaccmaaPlain
import Derived.Test.YtneadapfoaccmaaFilt
set_option linter.unusedSimpArgs false
set_option linter.unusedVariables false
namespace Go.Proofs.Ytneadapfoaccmaa
open Go Go.RowKit Hr

section
variable {α : Type} [Inhabited α]
/-- The first k elements without those that are like the one before. -/
def cpt (r : α → α → Bool) (l : List α) : Nat → List α
  | 0 => []
  | k + 1 => cpt r l k ++ (if k = 0 ∨ r (nth l k) (nth l (k - 1)) = false then [nth l k] else [])
theorem cpt_in {r : α → α → Bool} {l : List α} {k : Nat} (h : k = 0 ∨ r (nth l k) (nth l (k - 1)) = false) : cpt r l (k + 1) = cpt r l k ++ [nth l k] := by rw [cpt, if_pos h]
theorem cpt_out {r : α → α → Bool} {l : List α} {k : Nat} (h0 : k ≠ 0) (h : r (nth l k) (nth l (k - 1)) = true) : cpt r l (k + 1) = cpt r l k := by
  rw [cpt, if_neg (by simp [h0, h]), List.append_nil]
theorem cpt_len (r : α → α → Bool) (l : List α) : ∀ k, (cpt r l k).length ≤ k
  | 0 => Nat.le_refl _
  | k + 1 => by
    have := cpt_len r l k
    rw [cpt]; split <;> simp <;> omega
theorem cpt_all {r : α → α → Bool} {l : List α} : ∀ {k : Nat}, k ≤ l.length → (∀ j, j < k → j ≠ 0 → r (nth l j) (nth l (j - 1)) = false) → cpt r l k = l.take k
  | 0, _, _ => by simp [cpt]
  | k + 1, hk, h => by
    rw [cpt_in (by by_cases h0 : k = 0; exact .inl h0; exact .inr (h k (by omega) h0)), cpt_all (by omega) (fun j hj => h j (by omega)), take_nth (by omega)]
theorem cpt_mem {r : α → α → Bool} {l : List α} {x : α} : ∀ {k : Nat}, k ≤ l.length → x ∈ cpt r l k → x ∈ l
  | 0, _, h => by simp [cpt] at h
  | k + 1, hk, h => by
    rw [cpt] at h
    rcases List.mem_append.1 h with h | h
    · exact cpt_mem (by omega) h
    · split at h
      · rw [List.mem_singleton.1 h]; exact nth_mem (by omega)
      · simp at h
theorem cpt_left {r : α → α → Bool} {x y : List α} : ∀ {k : Nat}, k ≤ x.length → cpt r (x ++ y) k = cpt r x k
  | 0, _ => rfl
  | k + 1, h => by
    rw [cpt, cpt, cpt_left (by omega), Srt.nth_append_left (by omega), Srt.nth_append_left (show k - 1 < x.length by omega)]
theorem nth_right {x y : List α} {k : Nat} : nth (x ++ y) (x.length + k) = nth y k := by
  simp [nth, List.getElem?_append_right]
theorem nth_last {x : List α} (h : 0 < x.length) : nth x (x.length - 1) ∈ x := nth_mem (by omega)
/-- Behind x come only elements alike, unlike those of x. -/
theorem cpt_append {key : α → Int} {x y : List α} {n : Int} (hx : ∀ a ∈ x, key a ≠ n) (hy : ∀ a ∈ y, key a = n) : ∀ {k : Nat}, k ≤ y.length → cpt (fun a b => key a == key b) (x ++ y) (x.length + k) = cpt (fun a b => key a == key b) x x.length ++ y.take (min k 1)
  | 0, _ => by rw [Nat.add_zero, cpt_left (Nat.le_refl _)]; simp
  | k + 1, hk => by
    have ih := cpt_append hx hy (k := k) (by omega)
    have hyk : key (nth y k) = n := hy _ (nth_mem (by omega))
    rw [← Nat.add_assoc]
    cases k with
    | zero =>
      rw [Nat.add_zero] at ih ⊢
      rw [cpt_in, ih]
      · simp only [Nat.zero_min, List.take_zero, List.append_nil]
        rw [show nth (x ++ y) x.length = nth y 0 from nth_right (k := 0), show min (0 + 1) 1 = 0 + 1 from rfl, take_nth (by omega)]; simp
      · by_cases h0 : x.length = 0
        · exact .inl h0
        · refine .inr ?_
          rw [show nth (x ++ y) x.length = nth y 0 from nth_right (k := 0), Srt.nth_append_left (by omega)]
          have := hx _ (nth_last (x := x) (by omega))
          simp only [beq_eq_false_iff_ne, ne_eq]
          omega
    | succ k =>
      rw [cpt_out (by omega), ih]
      · rw [show min (k + 1 + 1) 1 = min (k + 1) 1 from by omega]
      · rw [nth_right, show x.length + (k + 1) - 1 = x.length + k from by omega, nth_right, hy _ (nth_mem (by omega)), hy _ (nth_mem (by omega))]; simp
theorem cpt_small {r : α → α → Bool} {l : List α} (h : l.length < 2) : cpt r l l.length = l := by
  rw [cpt_all (Nat.le_refl _) (fun j hj h0 => by omega), List.take_length]
/-- The row while it is rewritten: what stays of the first i, what has gone, and from the place before i on what was there. -/
def rowC (r : α → α → Bool) (l m : List α) (i : Nat) : List α := cpt r l i ++ m ++ l.drop (i - 1)
theorem rowC_len {r : α → α → Bool} {l m : List α} {i : Nat} (h1 : 1 ≤ i) (hi : i ≤ l.length) (hm : (cpt r l i).length + m.length = i - 1) : (rowC r l m i).length = l.length := by
  simp only [rowC, List.length_append, List.length_drop]; omega
theorem rowC_nth {r : α → α → Bool} {l m : List α} {i q : Nat} (h1 : 1 ≤ i) (hm : (cpt r l i).length + m.length = i - 1) (hq : i - 1 ≤ q) : nth (rowC r l m i) q = nth l q := by
  have e : (cpt r l i ++ m).length = i - 1 := by rw [List.length_append]; exact hm
  simp only [rowC, nth, List.getD_eq_getElem?_getD]
  rw [List.getElem?_append_right (by omega), e, List.getElem?_drop, show i - 1 + (q - (i - 1)) = q from by omega]
theorem rowC_zero {r : α → α → Bool} {l : List α} {k : Nat} (h : cpt r l k = l.take k) (h0 : k ≠ 0) (hr : r (nth l k) (nth l (k - 1)) = true) : rowC r l [] (k + 1) = l := by
  rw [rowC, cpt_out h0 hr, h, Nat.add_sub_cancel, List.append_nil, List.take_append_drop]
theorem rowC_out {r : α → α → Bool} {l m : List α} {i : Nat} (h1 : 1 ≤ i) (hi : i < l.length) (hr : r (nth l i) (nth l (i - 1)) = true) : rowC r l m i = rowC r l (m ++ [nth l (i - 1)]) (i + 1) := by
  rw [rowC, rowC, cpt_out (by omega) hr, drop_nth (show i - 1 < l.length by omega), show i - 1 + 1 = i from by omega, Nat.add_sub_cancel]; simp
theorem rowC_in {r : α → α → Bool} {l m : List α} {i : Nat} (h1 : 1 ≤ i) (hi : i < l.length) (hr : r (nth l i) (nth l (i - 1)) = false) : (rowC r l m i).set (cpt r l i).length (nth l i) = rowC r l ((m ++ [nth l (i - 1)]).tail) (i + 1) := by
  rw [rowC, rowC, cpt_in (.inr hr), drop_nth (show i - 1 < l.length by omega), show i - 1 + 1 = i from by omega, Nat.add_sub_cancel, List.append_assoc, List.set_append_right _ _ (Nat.le_refl _), Nat.sub_self]
  cases m with
  | nil => simp
  | cons x m => simp
theorem rowC_end {r : α → α → Bool} {l m : List α} {i : Nat} (hi : l.length ≤ i) (he : i ≤ l.length) : (rowC r l m i).take (cpt r l l.length).length = cpt r l l.length := by
  rw [show l.length = i from by omega, rowC, List.append_assoc, List.take_left]
theorem rowC_row {enc : α → List Value} {r : α → α → Bool} {l m : List α} {i : Nat} {zs : List (List Value)} (hi : i = l.length) : (((rowC r l m i).map enc).take (cpt r l i).length ++ zs).take (cpt r l l.length).length = (cpt r l l.length).map enc := by
  subst hi
  have h := rowC_end (r := r) (l := l) (m := m) (i := l.length) (Nat.le_refl _) (Nat.le_refl _)
  rw [← List.map_take, h, List.take_append_of_le_length (by simp), List.take_of_length_le (by simp)]
theorem drop_get {α : Type} [Inhabited α] {enc : α → List Value} {l : List α} {k j : Nat} (h : k + j < l.length) : ((l.map enc).drop k)[j]? = some (enc (nth l (k + j))) := by
  rw [List.getElem?_drop]; exact getmap h
/-- The order by one number. -/
def ltN (key : α → Int) (a b : α) : Bool := decide (key a - key b < 0)
theorem weakN {α : Type} {key : α → Int} : Srt.Weak (ltN key) := ⟨fun {a b c} h1 h2 => by
  simp only [ltN, decide_eq_false_iff_not] at h1 h2 ⊢
  omega, fun {a b} h => by
  simp only [ltN, decide_eq_true_eq, decide_eq_false_iff_not] at h ⊢
  omega⟩
/-- A stable sort leaves those with one number in their order. -/
theorem ins_filter {key : α → Int} (s : List α) (t : α) (n : Int) : (Srt.ins (ltN key) s t).filter (fun a => key a == n) = s.filter (fun a => key a == n) ++ [t].filter (fun a => key a == n) := by
  have e : s.filter (fun a => key a == n) = (s.take (Srt.pos (ltN key) s t s.length)).filter (fun a => key a == n) ++ (s.drop (Srt.pos (ltN key) s t s.length)).filter (fun a => key a == n) := by rw [← List.filter_append, List.take_append_drop]
  rw [Srt.ins, List.filter_append, List.filter_cons, e]
  by_cases h : key t = n
  · have h2 : (s.drop (Srt.pos (ltN key) s t s.length)).filter (fun a => key a == n) = [] := by
      rw [List.filter_eq_nil_iff]
      intro a ha
      obtain ⟨j, h3, h4, rfl⟩ := Srt.mem_drop_ge ha
      have := Srt.pos_above (lt := ltN key) (s := s) (t := t) (k := s.length) j h3 h4
      simp only [ltN, decide_eq_true_eq] at this
      simp only [beq_iff_eq]
      omega
    rw [h2, if_pos (by simp [h])]; simp [h]
  · rw [if_neg (by simp [h])]; simp [h]
theorem sort_filter {key : α → Int} (l : List α) (n : Int) : ∀ k, k ≤ l.length → (Srt.sort (ltN key) l k).filter (fun a => key a == n) = (l.take k).filter (fun a => key a == n)
  | 0, _ => rfl
  | k + 1, h => by rw [Srt.sort, ins_filter, sort_filter l n k (by omega), take_nth (by omega), List.filter_append]
/-- A sorted list falls apart at a number. -/
theorem sorted_split {α : Type} {key : α → Int} (n : Int) : ∀ {l : List α}, Srt.Sorted (ltN key) l → l.filter (fun a => decide (key a < n + 1)) = l.filter (fun a => decide (key a < n)) ++ l.filter (fun a => key a == n)
  | [], _ => rfl
  | a :: l, h => by
    have h1 := List.pairwise_cons.1 h
    have ih := sorted_split n h1.2
    rcases Int.lt_trichotomy (key a) n with hc | hc | hc
    · rw [List.filter_cons, if_pos (by simp; omega), List.filter_cons, if_pos (by simpa using hc), List.filter_cons, if_neg (by simp; omega), ih, List.cons_append]
    · have h2 : l.filter (fun a => decide (key a < n)) = [] := by
        rw [List.filter_eq_nil_iff]
        intro b hb
        have := h1.1 b hb
        simp only [ltN, decide_eq_false_iff_not] at this
        simp only [decide_eq_true_eq]; omega
      rw [List.filter_cons, if_pos (by simp; omega), List.filter_cons, if_neg (by simp; omega), List.filter_cons, if_pos (by simpa using hc), ih, h2]; rfl
    · rw [List.filter_cons, if_neg (by simp; omega), List.filter_cons, if_neg (by simp; omega), List.filter_cons, if_neg (by simp; omega), ih]
/-- One of each number below n: the first one. -/
def ones (key : α → Int) (l : List α) : Nat → List α
  | 0 => []
  | n + 1 => ones key l n ++ (l.filter (fun a => key a == (n : Int))).take 1
theorem cpt_ones {key : α → Int} {l : List α} (h : Srt.Sorted (ltN key) l) (h0 : ∀ a ∈ l, 0 ≤ key a) : ∀ n : Nat, cpt (fun a b => key a == key b) (l.filter (fun a => decide (key a < (n : Int)))) (l.filter (fun a => decide (key a < (n : Int)))).length = ones key l n
  | 0 => by
    have : l.filter (fun a => decide (key a < ((0 : Nat) : Int))) = [] := by
      rw [List.filter_eq_nil_iff]
      intro a ha
      have := h0 a ha
      simp only [decide_eq_true_eq]; omega
    rw [this]; rfl
  | n + 1 => by
    have ih := cpt_ones h h0 n
    have e := sorted_split (n : Int) h
    rw [show ((n + 1 : Nat) : Int) = (n : Int) + 1 from by omega, e, List.length_append, cpt_append (n := (n : Int)), ih, ones]
    · congr 1
      rcases hc : l.filter (fun a => key a == (n : Int)) with _ | ⟨a, r⟩
      · rfl
      · simp
    · intro a ha
      have := (List.mem_filter.1 ha).2
      simp only [decide_eq_true_eq] at this; omega
    · intro a ha
      have := (List.mem_filter.1 ha).2
      simpa using this
    · exact Nat.le_refl _
end

/-! Heads -/
def nm (h : Hd) : Int := if h.num < 0 then 0 else h.num
def badH (h : Hd) : Bool := decide (h.num < 0)
def likeH (a b : Hd) : Bool := nm a == nm b
theorem nm_of {h : Hd} (h0 : ¬ h.num < 0) : nm h = h.num := by rw [nm, if_neg h0]
theorem nm_bd (h : Hd) : 0 ≤ nm h ∧ nm h ≤ 127 := by
  have := numP_bd h.step h.alter h.oct
  rw [← Hd.num] at this
  unfold nm; split <;> omega
theorem badH_e (h : Hd) : badH h = ((if numP h.step h.alter h.oct < 0 then (18 : Int) else 0) != 0) := by
  unfold badH Hd.num
  by_cases h0 : numP h.step h.alter h.oct < 0
  · rw [if_pos h0]; simp [h0]
  · rw [if_neg h0]; simp [h0]
/-- The heads in order, one of each number. -/
def canH (l : List Hd) : List Hd := cpt likeH (Srt.sort (ltN nm) (Flt.rest badH l) (Flt.rest badH l).length) (Flt.rest badH l).length
theorem rest_num {l : List Hd} {h : Hd} (hm : h ∈ Flt.rest badH l) : h ∈ l ∧ ¬ h.num < 0 := by
  obtain ⟨h1, h2⟩ := List.mem_filter.1 hm
  refine ⟨h1, ?_⟩
  simpa [badH] using h2
/-- The first head with a number. -/
def pkH (l : List Hd) (n : Nat) : List Hd := if Flt.fidx (fun h : Hd => h.num == (n : Int)) l < l.length then [nth l (Flt.fidx (fun h : Hd => h.num == (n : Int)) l)] else []
def refH (l : List Hd) : Nat → List Hd
  | 0 => []
  | n + 1 => refH l n ++ pkH l n
theorem pk_filter {α : Type} [Inhabited α] {p : α → Bool} : ∀ l : List α, (if Flt.fidx p l < l.length then [nth l (Flt.fidx p l)] else []) = (l.filter p).take 1
  | [] => rfl
  | a :: l => by
    have ih := pk_filter (p := p) l
    rw [Flt.fidx]
    by_cases h : p a = true
    · rw [if_pos h, if_pos (by simp), List.filter_cons, if_pos h]; simp [nth]
    · rw [if_neg h, List.filter_cons, if_neg h, ← ih]
      by_cases h2 : Flt.fidx p l < l.length
      · rw [if_pos h2, if_pos (by simp; omega)]; simp [nth]
      · rw [if_neg h2, if_neg (by simp; omega)]
theorem rest_filter (l : List Hd) (n : Nat) : (Flt.rest badH l).filter (fun a => nm a == (n : Int)) = l.filter (fun h : Hd => h.num == (n : Int)) := by
  rw [Flt.rest, List.filter_filter]
  apply List.filter_congr
  intro a _
  simp only [badH, nm]
  by_cases h : a.num < 0
  · have h2 : ¬ a.num = (n : Int) := by omega
    simp [h, h2]
  · simp [h]
theorem canH_eq (l : List Hd) : canH l = refH l 128 := by
  have hs := Srt.sort_sorted (lt := ltN nm) weakN (Flt.rest badH l) (Flt.rest badH l).length
  have hp := Srt.sort_all (lt := ltN nm) (Flt.rest badH l)
  have h0 : ∀ a ∈ Srt.sort (ltN nm) (Flt.rest badH l) (Flt.rest badH l).length, 0 ≤ nm a := fun a _ => (nm_bd a).1
  have h1 := cpt_ones hs h0 128
  have h2 : (Srt.sort (ltN nm) (Flt.rest badH l) (Flt.rest badH l).length).filter (fun a => decide (nm a < ((128 : Nat) : Int))) = Srt.sort (ltN nm) (Flt.rest badH l) (Flt.rest badH l).length := by
    rw [List.filter_eq_self]
    intro a _
    have := nm_bd a
    simp only [decide_eq_true_eq]; omega
  have h3 : ∀ n : Nat, ones nm (Srt.sort (ltN nm) (Flt.rest badH l) (Flt.rest badH l).length) n = refH l n := by
    intro n
    induction n with
    | zero => rfl
    | succ n ih => rw [ones, refH, ih, sort_filter _ _ _ (Nat.le_refl _), List.take_length, rest_filter, pkH, pk_filter]
  rw [h2, Srt.sort_len, h3] at h1
  rw [← h1]; rfl
/-- Heads in order, well-formed. -/
structure Good (l : List Hd) : Prop where
  up : ∀ i, 0 < i → i < l.length → (nth l (i - 1)).num < (nth l i).num
  ok : ∀ i, i < l.length → headE (nth l i) = 0
theorem headsE_good {l : List Hd} (h : headsE l = 0) : Good l ∧ 0 < l.length ∧ l.length ≤ 10 := by
  unfold headsE at h
  split at h
  · cases h
  · split at h
    · cases h
    · have h1 := fun i (hi : i < l.length) => firstErr_zero h i hi
      refine ⟨⟨fun i h0 hi => ?_, fun i hi => ?_⟩, by omega, by omega⟩
      · have := h1 i hi
        rw [Nat.zero_add] at this
        exact (hF_ok this).2 h0
      · have := h1 i hi
        rw [Nat.zero_add] at this
        exact (hF_ok this).1
theorem good_headsE {l : List Hd} (h : Good l) (h0 : 0 < l.length) (h1 : l.length ≤ 10) : headsE l = 0 := by
  rw [headsE, if_neg (by omega), if_neg (by omega)]
  refine firstErr_of fun j _ hj => ?_
  refine hF_3 (h.ok j (by omega)) fun h2 => ?_
  have := h.up j h2.1 (by omega)
  omega
theorem Good.lt {l : List Hd} (h : Good l) {i : Nat} : ∀ {j : Nat}, i < j → j < l.length → (nth l i).num < (nth l j).num
  | j + 1, hij, hj => by
    have h1 := h.up (j + 1) (by omega) hj
    rw [Nat.add_sub_cancel] at h1
    by_cases e : i = j
    · rw [e]; exact h1
    · have := h.lt (i := i) (j := j) (by omega) (by omega)
      omega
theorem Good.num {l : List Hd} (h : Good l) {x : Hd} (hx : x ∈ l) : ¬ x.num < 0 := by
  obtain ⟨i, hi, rfl⟩ := List.getElem_of_mem hx
  have := (headE_ok (h.ok i hi)).1
  simp only [nth, List.getD_eq_getElem?_getD, List.getElem?_eq_getElem hi, Option.getD_some] at this
  omega
theorem Good.rest {l : List Hd} (h : Good l) : Flt.rest badH l = l := by
  rw [Flt.rest, List.filter_eq_self]
  intro a ha
  have := h.num ha
  simpa [badH] using this
theorem Good.sorted {l : List Hd} (h : Good l) : Srt.Sorted (ltN nm) l := by
  refine List.pairwise_iff_getElem.2 fun i j hi hj hij => ?_
  have h1 := h.lt hij hj
  have e1 : nth l i = l[i] := by simp [nth, hi]
  have e2 : nth l j = l[j] := by simp [nth, hj]
  rw [e1, e2] at h1
  simp only [ltN, decide_eq_false_iff_not]
  rw [nm_of (h.num (List.getElem_mem hj)), nm_of (h.num (List.getElem_mem hi))]
  omega
theorem Good.cpt {l : List Hd} (h : Good l) : cpt likeH l l.length = l := by
  rw [cpt_all (Nat.le_refl _), List.take_length]
  intro j hj h0
  have h1 := h.up j (by omega) hj
  have e1 := nm_of (h.num (nth_mem hj))
  have e2 := nm_of (h.num (nth_mem (show j - 1 < l.length by omega)))
  simp only [likeH, beq_eq_false_iff_ne, ne_eq]
  omega
/-- Heads in order stay. -/
theorem Good.can {l : List Hd} (h : Good l) : canH l = l := by
  rw [canH, h.rest, Srt.sort_id h.sorted, h.cpt]
theorem canH_nil : canH [] = [] := rfl

/-! Syllables -/
/-- How many are left without the absent ones at the end of the first n. -/
def trimN (l : List Syl) : Nat → Nat
  | 0 => 0
  | n + 1 => if absS (nth l n) then trimN l n else n + 1
theorem trimN_le (l : List Syl) : ∀ n, trimN l n ≤ n
  | 0 => Nat.le_refl _
  | n + 1 => by
    have := trimN_le l n
    rw [trimN]; split <;> omega
def trimL (l : List Syl) : List Syl := l.take (trimN l l.length)
theorem trimN_skip {l : List Syl} {n : Nat} (h0 : 0 < n) (h : absS (nth l (n - 1))) : trimN l n = trimN l (n - 1) := by
  obtain ⟨k, rfl⟩ : ∃ k, n = k + 1 := ⟨n - 1, by omega⟩
  rw [Nat.add_sub_cancel] at h
  rw [trimN, if_pos h]; rfl
theorem trimN_stop {l : List Syl} {n : Nat} (h : n = 0 ∨ ¬ absS (nth l (n - 1))) : trimN l n = n := by
  cases n with
  | zero => rfl
  | succ k =>
    rcases h with h | h
    · omega
    · rw [Nat.add_sub_cancel] at h
      rw [trimN, if_neg h]
theorem trimN_end (l : List Syl) : ∀ n, trimN l n = 0 ∨ ¬ absS (nth l (trimN l n - 1))
  | 0 => .inl rfl
  | n + 1 => by
    rw [trimN]; split
    · exact trimN_end l n
    · exact .inr ‹_›
theorem trimL_trim (l : List Syl) : trimL (trimL l) = trimL l := by
  have h1 := trimN_le l l.length
  have h2 := trimN_end l l.length
  have e : (trimL l).length = trimN l l.length := by rw [trimL, List.length_take]; omega
  have h3 : trimN (trimL l) (trimL l).length = (trimL l).length := by
    apply trimN_stop
    rw [e]
    rcases h2 with h2 | h2
    · exact .inl h2
    · by_cases h0 : trimN l l.length = 0
      · exact .inl h0
      · refine .inr ?_
        have : nth (trimL l) (trimN l l.length - 1) = nth l (trimN l l.length - 1) := by
          simp only [trimL, nth, List.getD_eq_getElem?_getD]
          rw [List.getElem?_take_of_lt (by omega)]
        rw [this]; exact h2
  rw [trimL, h3, List.take_length]
/-- The canonical form of an event. -/
def canE (x : Evt) : Evt :=
  if x.n.kind < 1 ∨ 4 < x.n.kind then x else ⟨(stripE x).n, canH (stripE x).hs, (stripE x).gs, trimL (stripE x).ls⟩
theorem canE_out {x : Evt} (h : x.n.kind < 1 ∨ 4 < x.n.kind) : canE x = x := if_pos h
theorem canE_in {x : Evt} (h : ¬ (x.n.kind < 1 ∨ 4 < x.n.kind)) {n : Nat} (hn : trimN (stripE x).ls (stripE x).ls.length = n) : canE x = ⟨(stripE x).n, canH (stripE x).hs, (stripE x).gs, (stripE x).ls.take n⟩ := by
  rw [canE, if_neg h, trimL, hn]
theorem strip_hs (x : Evt) : (stripE x).hs.length ≤ x.hs.length := by
  unfold stripE; split
  · exact Nat.zero_le _
  · exact Nat.le_refl _
theorem rest_le (l : List Hd) : (Flt.rest badH l).length ≤ l.length := List.length_filter_le _ _
theorem canH_le (l : List Hd) : (canH l).length ≤ l.length := Nat.le_trans (cpt_len _ _ _) (rest_le l)
theorem take_le {α : Type} {l : List α} {n : Nat} (h : n ≤ l.length) : (l.take n).length = n := by rw [List.length_take]; omega
theorem getmapT {α : Type} [Inhabited α] {enc : α → List Value} {l : List α} {n q : Nat} (hq : q < n) (h : n ≤ l.length) : ((l.take n).map enc)[q]? = some (enc (nth l q)) := by
  rw [List.map_take, List.getElem?_take_of_lt hq]; exact getmap (by omega)
end Go.Proofs.Ytneadapfoaccmaa
