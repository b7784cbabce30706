/- Tuplets as data: when a list of them is valid, what it makes of a length. Nothing of the program. -/
import Derived.Test.YticofkkkafhpiaaMore
set_option linter.unusedSimpArgs false
set_option linter.unusedVariables false
namespace Go.Proofs.Yticofkkkafhpiaa
open Go Go.RowKit Hr

structure Tup where
  first : Int
  count : Int
  actual : Int
  normal : Int
instance : Inhabited Tup := ⟨⟨0, 0, 0, 0⟩⟩
def Tup.enc (t : Tup) : List Value := [.int .i64 t.first, .int .i64 t.count, .int .i64 t.actual, .int .i64 t.normal]
def Tup.val (t : Tup) : Value := .agg t.enc.toArray
def encI (n : Int) : List Value := [.int .i64 n]
def tend (t : Tup) : Int := t.first + t.count

theorem rd_take {α : Type} {enc : α → List Value} {w : World} {A : Option Addr} {s m : Nat} {l l' : List α} (h : Rd w A s (l.map enc)) (e : l' = l.take m) : Rd w A s (l'.map enc) := by
  rw [e, List.map_take]; exact h.take m
/-- The first of f 0, f 1, .. that is not 0; n of them from i on. -/
def firstErr (f : Nat → Int) : Nat → Nat → Int
  | 0, _ => 0
  | n + 1, i => if f i ≠ 0 then f i else firstErr f n (i + 1)
theorem firstErr_step {f : Nat → Int} {n i : Nat} (h : i < n) (h0 : f i = 0) : firstErr f (n - i) i = firstErr f (n - (i + 1)) (i + 1) := by
  rw [show n - i = n - (i + 1) + 1 from by omega, firstErr, if_neg (by simp [h0])]
theorem firstErr_hit {f : Nat → Int} {n i : Nat} (h : i < n) (h0 : f i ≠ 0) : firstErr f (n - i) i = f i := by
  rw [show n - i = n - (i + 1) + 1 from by omega, firstErr, if_pos h0]
theorem firstErr_zero {f : Nat → Int} : ∀ {n i : Nat}, firstErr f n i = 0 → ∀ j, j < n → f (i + j) = 0
  | n + 1, i, h, j, hj => by
    simp only [firstErr] at h
    by_cases h0 : f i = 0
    · rw [if_neg (by simp [h0])] at h
      cases j with
      | zero => simpa using h0
      | succ j =>
        have := firstErr_zero h j (by omega)
        rwa [show i + (j + 1) = i + 1 + j from by omega]
    · rw [if_pos h0] at h; exact absurd h h0
theorem firstErr_of {f : Nat → Int} : ∀ {n i : Nat}, (∀ j, i ≤ j → j < i + n → f j = 0) → firstErr f n i = 0
  | 0, _, _ => rfl
  | n + 1, i, h => by
    rw [firstErr, if_neg (by simp [h i (by omega) (by omega)])]
    exact firstErr_of fun j h1 h2 => h j (by omega) (by omega)

def propT (n : Int) (t : Tup) : Prop := 1 ≤ t.count ∧ t.count ≤ n ∧ 0 ≤ t.first ∧ t.first ≤ n - t.count ∧ 1 ≤ t.actual ∧ t.actual ≤ 32 ∧ 1 ≤ t.normal ∧ t.normal ≤ 32 ∧ t.actual ≠ t.normal
instance (n : Int) (t : Tup) : Decidable (propT n t) := by unfold propT; infer_instance
/-- t stands ahead of p in the order. -/
def aftT (t p : Tup) : Prop := t.first < p.first ∨ (t.first = p.first ∧ p.count < t.count)
instance (t p : Tup) : Decidable (aftT t p) := by unfold aftT; infer_instance
/-- Those among the first i that reach behind f. -/
def opnS (ts : List Tup) (i : Nat) (f : Int) : List Tup := (ts.take i).filter fun u => decide (f < tend u)
def badN (ts : List Tup) (i : Nat) : Prop := 3 ≤ (opnS ts i (nth ts i).first).length ∨ ∃ u ∈ opnS ts i (nth ts i).first, tend u < tend (nth ts i)
instance (ts : List Tup) (i : Nat) : Decidable (badN ts i) := by unfold badN; infer_instance
def errT (n : Int) (ts : List Tup) (i : Nat) : Int := if ¬ propT n (nth ts i) then 2 else if 0 < i ∧ aftT (nth ts i) (nth ts (i - 1)) then 25 else if badN ts i then 21 else 0
def checkV (ts : List Tup) (n : Int) : Int := if n < 0 ∨ 128 < n then 2 else if 16 < ts.length then 9 else firstErr (errT n ts) ts.length 0

theorem errT_zero {n : Int} {ts : List Tup} {i : Nat} (h : errT n ts i = 0) : propT n (nth ts i) ∧ (0 < i → ¬ aftT (nth ts i) (nth ts (i - 1))) ∧ ¬ badN ts i := by
  unfold errT at h
  by_cases h1 : ¬ propT n (nth ts i)
  · rw [if_pos h1] at h; cases h
  rw [if_neg h1] at h
  by_cases h2 : 0 < i ∧ aftT (nth ts i) (nth ts (i - 1))
  · rw [if_pos h2] at h; cases h
  rw [if_neg h2] at h
  by_cases h3 : badN ts i
  · rw [if_pos h3] at h; cases h
  exact ⟨Decidable.not_not.1 h1, fun h0 ha => h2 ⟨h0, ha⟩, h3⟩
theorem errT_of {n : Int} {ts : List Tup} {i : Nat} (h1 : propT n (nth ts i)) (h2 : 0 < i → ¬ aftT (nth ts i) (nth ts (i - 1))) (h3 : ¬ badN ts i) : errT n ts i = 0 := by
  rw [errT, if_neg (by simp [h1]), if_neg (fun h => h2 h.1 h.2), if_neg h3]
theorem errT_2 {n : Int} {ts : List Tup} {i : Nat} (h : ¬ propT n (nth ts i)) : errT n ts i = 2 := by rw [errT, if_pos h]
theorem errT_25 {n : Int} {ts : List Tup} {i : Nat} (h1 : propT n (nth ts i)) (h0 : 0 < i) (h : aftT (nth ts i) (nth ts (i - 1))) : errT n ts i = 25 := by rw [errT, if_neg (by simp [h1]), if_pos ⟨h0, h⟩]
theorem errT_21 {n : Int} {ts : List Tup} {i : Nat} (h1 : propT n (nth ts i)) (h2 : 0 < i → ¬ aftT (nth ts i) (nth ts (i - 1))) (h3 : badN ts i) : errT n ts i = 21 := by
  rw [errT, if_neg (by simp [h1]), if_neg (fun h => h2 h.1 h.2), if_pos h3]

/-- The first i are valid. -/
def Good (n : Int) (ts : List Tup) (i : Nat) : Prop := ∀ j, j < i → errT n ts j = 0
theorem Good.zero {n : Int} {ts : List Tup} : Good n ts 0 := fun j h => by omega
theorem Good.succ {n : Int} {ts : List Tup} {i : Nat} (h : Good n ts i) (h0 : errT n ts i = 0) : Good n ts (i + 1) := fun j hj => by
  by_cases e : j = i
  · subst e; exact h0
  · exact h j (by omega)
theorem checkV_good {n : Int} {ts : List Tup} (h : checkV ts n = 0) : 0 ≤ n ∧ n ≤ 128 ∧ ts.length ≤ 16 ∧ Good n ts ts.length := by
  unfold checkV at h
  by_cases h1 : n < 0 ∨ 128 < n
  · rw [if_pos h1] at h; cases h
  rw [if_neg h1] at h
  by_cases h2 : 16 < ts.length
  · rw [if_pos h2] at h; cases h
  rw [if_neg h2] at h
  refine ⟨by omega, by omega, by omega, fun j hj => ?_⟩
  have := firstErr_zero h j hj
  rwa [Nat.zero_add] at this
theorem checkV_of {n : Int} {ts : List Tup} (h1 : 0 ≤ n) (h2 : n ≤ 128) (h3 : ts.length ≤ 16) (h : Good n ts ts.length) : checkV ts n = 0 := by
  rw [checkV, if_neg (by omega), if_neg (by omega)]
  exact firstErr_of fun j _ hj => h j (by omega)
theorem checkV_hit {n : Int} {ts : List Tup} {i : Nat} {e : Int} (h1 : 0 ≤ n) (h2 : n ≤ 128) (h3 : ts.length ≤ 16) (h : Good n ts i) (hi : i < ts.length) (he : errT n ts i = e) (h0 : e ≠ 0) : checkV ts n = e := by
  rw [checkV, if_neg (by omega), if_neg (by omega)]
  have key : ∀ k, k ≤ i → firstErr (errT n ts) ts.length 0 = firstErr (errT n ts) (ts.length - k) k := by
    intro k
    induction k with
    | zero => intro _; rfl
    | succ k ih => intro hk; rw [ih (by omega), firstErr_step (by omega) (h k (by omega))]
  rw [key i (Nat.le_refl _), firstErr_hit hi (by rw [he]; exact h0), he]

theorem Good.first_le {n : Int} {ts : List Tup} {i : Nat} (h : Good n ts i) : ∀ {j k : Nat}, j ≤ k → k < i → (nth ts j).first ≤ (nth ts k).first := by
  intro j k hjk hk
  induction k with
  | zero => have : j = 0 := by omega
            subst this; exact Int.le_refl _
  | succ k ih =>
    by_cases e : j = k + 1
    · subst e; exact Int.le_refl _
    · have h1 := ih (by omega) (by omega)
      have h2 := (errT_zero (h (k + 1) hk)).2.1 (by omega)
      rw [Nat.add_sub_cancel] at h2
      unfold aftT at h2
      omega
theorem Good.first_lt {n : Int} {ts : List Tup} {i : Nat} (h : Good n ts i) (ha : 0 < i → ¬ aftT (nth ts i) (nth ts (i - 1))) {j : Nat} (hj : j < i) : (nth ts j).first ≤ (nth ts i).first := by
  have h1 := h.first_le (show j ≤ i - 1 by omega) (by omega)
  have h2 := ha (by omega)
  unfold aftT at h2
  omega
theorem mem_take_nth {ts : List Tup} {i : Nat} {u : Tup} (h : u ∈ ts.take i) : ∃ j, j < i ∧ j < ts.length ∧ u = nth ts j := by
  obtain ⟨j, hj, rfl⟩ := List.getElem_of_mem h
  rw [List.length_take] at hj
  refine ⟨j, by omega, by omega, ?_⟩
  simp [nth, show j < ts.length by omega]
theorem nth_mem_take {ts : List Tup} {i j : Nat} (hj : j < i) (hl : j < ts.length) : nth ts j ∈ ts.take i := by
  have : nth ts j = (ts.take i)[j]'(by rw [List.length_take]; omega) := by simp [nth, hl]
  rw [this]; exact List.getElem_mem _
theorem mem_opnS {ts : List Tup} {i : Nat} {f : Int} {u : Tup} : u ∈ opnS ts i f ↔ u ∈ ts.take i ∧ f < tend u := by simp [opnS]

/-! ### The stack of open tuplets -/
def popN (s : List Tup) (f : Int) : Nat → Nat
  | 0 => 0
  | k + 1 => if tend (nth s k) ≤ f then popN s f k else k + 1
theorem popN_le (s : List Tup) (f : Int) : ∀ k, popN s f k ≤ k
  | 0 => Nat.le_refl _
  | k + 1 => by rw [popN]; split; exact Nat.le_succ_of_le (popN_le s f k); exact Nat.le_refl _
def popS (s : List Tup) (f : Int) : List Tup := s.take (popN s f s.length)
def okP (s : List Tup) (t : Tup) : Bool := decide (¬ ((popS s t.first).length = 3 ∨ (0 < (popS s t.first).length ∧ tend (nth (popS s t.first) ((popS s t.first).length - 1)) < tend t)))
def pushS (s : List Tup) (t : Tup) : List Tup := if okP s t = true then popS s t.first ++ [t] else popS s t.first
/-- Ends do not grow along the stack. -/
def Nest (s : List Tup) : Prop := s.Pairwise fun u v => tend v ≤ tend u
theorem filter_none_of {s : List Tup} {f : Int} (h : ∀ u ∈ s, tend u ≤ f) : s.filter (fun u => decide (f < tend u)) = [] := by
  rw [List.filter_eq_nil_iff]; intro u hu; have := h u hu; simp; omega
theorem popS_filter {s : List Tup} {f : Int} (h : Nest s) : popS s f = s.filter fun u => decide (f < tend u) := by
  have key : ∀ k, k ≤ s.length → s.take (popN s f k) = (s.take k).filter fun u => decide (f < tend u) := by
    intro k
    induction k with
    | zero => intro _; simp [popN]
    | succ k ih =>
      intro hk
      rw [popN]
      by_cases he : tend (nth s k) ≤ f
      · rw [if_pos he, ih (by omega), take_nth (show k < s.length by omega), List.filter_append]
        have : ¬ f < tend (nth s k) := by omega
        simp [this]
      · rw [if_neg he]
        symm
        rw [List.filter_eq_self]
        intro u hu
        obtain ⟨j, hj, hjl, rfl⟩ := mem_take_nth hu
        have : tend (nth s k) ≤ tend (nth s j) := by
          by_cases e : j = k
          · subst e; exact Int.le_refl _
          · have hp := List.pairwise_iff_getElem.1 h j k hjl (by omega) (by omega)
            simpa [nth, hjl, show k < s.length by omega] using hp
        simp; omega
  have := key s.length (Nat.le_refl _)
  rw [List.take_length] at this
  exact this
/-- The stack behind the first i tuplets. -/
def stk (ts : List Tup) : Nat → List Tup
  | 0 => []
  | i + 1 => opnS ts (i + 1) (nth ts i).first
theorem Nest.filter {s : List Tup} (h : Nest s) (p : Tup → Bool) : Nest (s.filter p) := List.Pairwise.filter p h
theorem stk_filter {n : Int} {ts : List Tup} {i : Nat} (hg : Good n ts i) (ha : 0 < i → ¬ aftT (nth ts i) (nth ts (i - 1))) : (stk ts i).filter (fun u => decide ((nth ts i).first < tend u)) = opnS ts i (nth ts i).first := by
  cases i with
  | zero => simp [stk, opnS]
  | succ i =>
    have h1 := ha (by omega)
    rw [Nat.add_sub_cancel] at h1
    unfold aftT at h1
    rw [stk, opnS, opnS, List.filter_filter]
    apply List.filter_congr
    intro u _
    by_cases h2 : (nth ts (i + 1)).first < tend u
    · have : (nth ts i).first < tend u := by omega
      simp [h2, this]
    · simp [h2]
theorem okP_iff {n : Int} {ts : List Tup} {i : Nat} (hg : Good n ts i) (ha : 0 < i → ¬ aftT (nth ts i) (nth ts (i - 1))) (hn : Nest (stk ts i)) (hl : (stk ts i).length ≤ 3) : okP (stk ts i) (nth ts i) = true ↔ ¬ badN ts i := by
  have e : popS (stk ts i) (nth ts i).first = opnS ts i (nth ts i).first := by rw [popS_filter hn, stk_filter hg ha]
  have hlen : (opnS ts i (nth ts i).first).length ≤ 3 := by
    rw [← stk_filter hg ha]; exact Nat.le_trans (List.length_filter_le _ _) hl
  have hnest : Nest (opnS ts i (nth ts i).first) := by rw [← stk_filter hg ha]; exact hn.filter _
  unfold okP badN
  rw [e, decide_eq_true_eq]
  generalize opnS ts i (nth ts i).first = s at hlen hnest
  constructor
  · intro h hb
    apply h
    rcases hb with hb | ⟨u, hu, hlt⟩
    · left; omega
    · right
      have h0 : 0 < s.length := List.length_pos_of_mem hu
      refine ⟨h0, ?_⟩
      obtain ⟨j, hj, rfl⟩ := List.getElem_of_mem hu
      by_cases e : j = s.length - 1
      · subst e
        simpa [nth, show s.length - 1 < s.length by omega] using hlt
      · have hp := List.pairwise_iff_getElem.1 hnest j (s.length - 1) hj (by omega) (by omega)
        have e3 : nth s (s.length - 1) = s[s.length - 1]'(by omega) := by simp [nth, show s.length - 1 < s.length by omega]
        rw [e3]
        omega
  · intro h hb
    apply h
    rcases hb with hb | ⟨h0, hlt⟩
    · left; omega
    · right
      exact ⟨_, by simp only [nth, List.getD_eq_getElem?_getD, List.getElem?_eq_getElem (show s.length - 1 < s.length by omega), Option.getD_some]; exact List.getElem_mem _, hlt⟩
theorem stk_next {n : Int} {ts : List Tup} {i : Nat} (hi : i < ts.length) (hg : Good n ts i) (h0 : errT n ts i = 0) (hn : Nest (stk ts i)) (hl : (stk ts i).length ≤ 3) :
    pushS (stk ts i) (nth ts i) = stk ts (i + 1) ∧ Nest (stk ts (i + 1)) ∧ (stk ts (i + 1)).length ≤ 3 := by
  obtain ⟨h1, ha, hb⟩ := errT_zero h0
  have e : popS (stk ts i) (nth ts i).first = opnS ts i (nth ts i).first := by rw [popS_filter hn, stk_filter hg ha]
  have hnest : Nest (opnS ts i (nth ts i).first) := by rw [← stk_filter hg ha]; exact hn.filter _
  have e2 : stk ts (i + 1) = opnS ts i (nth ts i).first ++ [nth ts i] := by
    have hc : (nth ts i).first < tend (nth ts i) := by unfold propT at h1; unfold tend; omega
    rw [stk, opnS, take_nth hi, List.filter_append, opnS]
    simp [hc]
  have hbad := hb
  unfold badN at hb
  refine ⟨?_, ?_, ?_⟩
  · rw [pushS, if_pos ((okP_iff hg ha hn hl).2 hbad), e, e2]
  · rw [e2]
    refine List.pairwise_append.2 ⟨hnest, by simp, fun u hu v hv => ?_⟩
    simp only [List.mem_singleton] at hv
    subst hv
    by_cases hlt : tend u < tend (nth ts i)
    · exact absurd (.inr ⟨u, hu, hlt⟩) hb
    · omega
  · rw [e2, List.length_append, List.length_singleton]
    by_cases h3 : 3 ≤ (opnS ts i (nth ts i).first).length
    · exact absurd (.inl h3) hb
    · omega
def TupOk (t : Tup) : Prop := 0 ≤ t.first ∧ t.first ≤ 128 ∧ 1 ≤ t.count ∧ t.count ≤ 128
theorem propT_ok {n : Int} {t : Tup} (h : propT n t) (hn : n ≤ 128) : TupOk t := by unfold propT at h; unfold TupOk; omega
theorem stk_ok {n : Int} {ts : List Tup} {i : Nat} (hg : Good n ts i) (hn : n ≤ 128) : ∀ u ∈ stk ts i, TupOk u := by
  intro u hu
  cases i with
  | zero => simp [stk] at hu
  | succ i =>
    rw [stk, mem_opnS] at hu
    obtain ⟨j, hj, _, rfl⟩ := mem_take_nth hu.1
    exact propT_ok (errT_zero (hg j hj)).1 hn
theorem popS_len {s : List Tup} {f : Int} {k : Nat} (h : popN s f s.length = k) : popS s f = s.take k ∧ (s.take k).length = k := by
  have := popN_le s f s.length
  exact ⟨by rw [popS, h], by rw [List.length_take]; omega⟩
theorem nth_take {s : List Tup} {k j : Nat} (h : j < k) : nth (s.take k) j = nth s j := by simp [nth, h]
theorem push_no {s : List Tup} {t : Tup} {k : Nat} (h : popN s t.first s.length = k) (hk : k = 3 ∨ (0 < k ∧ tend (nth s (k - 1)) < tend t)) : okP s t = false ∧ pushS s t = s.take k := by
  obtain ⟨e1, e2⟩ := popS_len h
  have hf : okP s t = false := by
    unfold okP
    rw [e1, e2, decide_eq_false_iff_not]
    intro hx
    apply hx
    rcases hk with hk | ⟨h0, hk⟩
    · exact .inl hk
    · exact .inr ⟨h0, by rw [nth_take (by omega)]; exact hk⟩
  exact ⟨hf, by rw [pushS, hf, if_neg (by simp), e1]⟩
theorem push_yes {s : List Tup} {t : Tup} {k : Nat} (h : popN s t.first s.length = k) (hk : k ≠ 3) (hk2 : 0 < k → tend t ≤ tend (nth s (k - 1))) : okP s t = true ∧ pushS s t = s.take k ++ [t] := by
  obtain ⟨e1, e2⟩ := popS_len h
  have hf : okP s t = true := by
    unfold okP
    rw [e1, e2, decide_eq_true_eq]
    rintro (hx | ⟨h0, hx⟩)
    · exact hk hx
    · rw [nth_take (by omega)] at hx
      have := hk2 h0
      omega
  exact ⟨hf, by rw [pushS, hf, if_pos rfl, e1]⟩
def ordV (p t : Tup) : Int := if p.first ≠ t.first then (if p.first < t.first then -1 else 1) else if p.count ≠ t.count then (if t.count < p.count then -1 else 1) else 0
theorem ordV_pos {p t : Tup} : 0 < ordV p t ↔ aftT t p := by
  unfold ordV aftT
  by_cases h1 : p.first = t.first
  · by_cases h2 : p.count = t.count
    · simp [h1, h2]
    · by_cases h3 : t.count < p.count
      · rw [if_neg (by simp [h1]), if_pos h2, if_pos h3]; omega
      · rw [if_neg (by simp [h1]), if_pos h2, if_neg h3]; omega
  · by_cases h3 : p.first < t.first
    · rw [if_pos h1, if_pos h3]; omega
    · rw [if_pos h1, if_neg h3]; omega
def ratioB (n : Int) : Bool := decide (1 ≤ n) && decide (n ≤ 32)
theorem stk_zero (ts : List Tup) : stk ts 0 = [] := rfl
theorem get_take {l : List Tup} {k j : Nat} (h : j < k) (hl : j < l.length) : ((l.take k).map Tup.enc)[j]? = some (nth l j).enc := by
  simp [nth, h, hl, List.getElem?_take]
end Go.Proofs.Yticofkkkafhpiaa
