/- Spans in order. Nothing of the program. -/
import Derived.Test.YtomhegnaojejnaaPlain
set_option linter.unusedSimpArgs false
set_option linter.unusedVariables false
namespace Go.Proofs.Ytomhegnaojejnaa
open Go Go.RowKit Hr

theorem sort_memK {α : Type} [Inhabited α] {lt : α → α → Bool} {l : List α} {k : Nat} {x : α} (hk : k ≤ l.length) (h : x ∈ Srt.sort lt l k) : x ∈ l :=
  List.mem_of_mem_take ((Srt.sort_perm (lt := lt) l k hk).mem_iff.1 h)
theorem cmpI_1 {a b : Int} (h : b < a) : 1 = Ky.cmpI a b := by rw [Ky.cmpI, if_neg (by omega), if_pos h]
theorem cmpI_m {a b : Int} (h : a < b) : -1 = Ky.cmpI a b := by rw [Ky.cmpI, if_pos h]
theorem cmpI_0 {a b : Int} (h : a = b) : 0 = Ky.cmpI a b := by rw [Ky.cmpI, if_neg (by omega), if_neg (by omega)]
theorem cmpU {a b a' b' : Int} (ha : 0 ≤ a - b ∧ a - b < 18446744073709551616) (hb : 0 ≤ a' - b' ∧ a' - b' < 18446744073709551616) : Ky.cmpI (IntKind.u64.wrap (a - b)) (IntKind.u64.wrap (a' - b')) = Ky.cmpI (a - b) (a' - b') := by
  rw [wrap64, wrap64, Int.emod_eq_of_lt ha.1 ha.2, Int.emod_eq_of_lt hb.1 hb.2]
theorem cmpN {a b a' b' : Int} (ha : 0 ≤ a - b ∧ a - b < 18446744073709551616) (hb : 0 ≤ a' - b' ∧ a' - b' < 18446744073709551616) : Ky.cmpI (IntKind.u64.wrap (a - b)) (IntKind.u64.wrap (a' - b')) = Ky.cmpI (b' - a') (b - a) := by
  rw [wrap64, wrap64, Int.emod_eq_of_lt ha.1 ha.2, Int.emod_eq_of_lt hb.1 hb.2]
  unfold Ky.cmpI
  by_cases h1 : a - b < a' - b'
  · rw [if_pos h1, if_pos (by omega)]
  · by_cases h2 : a' - b' < a - b
    · rw [if_neg h1, if_pos h2, if_neg (by omega), if_pos (by omega)]
    · rw [if_neg h1, if_neg h2, if_neg (by omega), if_neg (by omega)]
def NN (x : Spn) : Prop := 0 ≤ x.fst ∧ x.fst ≤ 9223372036854775807 ∧ 0 ≤ x.lst ∧ x.lst ≤ 9223372036854775807
theorem spE_NN {x : Spn} {n : Int} (h : spE x n = 0) (hn : n ≤ 1000000) : NN x := by
  have := spE_ok h
  unfold NN; omega
theorem key_or {a b : Spn} : Ky.fst0 [Ky.cmpI a.cls b.cls, Ky.cmpI (a.lst - a.fst) (b.lst - b.fst), Ky.cmpI a.fst b.fst, Ky.cmpI a.stf b.stf, Ky.cmpI a.site b.site, Ky.cmpI a.num b.num, Ky.cmpI a.idx b.idx] = Ky.lex (keyS a) (keyS b) :=
  Ky.lex_fst0 (keyS a) (keyS b)
/-- Two rows, the outer one at each place. -/
def mergeK (a b : List Int) (k : Nat) : List Int := (List.range a.length).map fun i => if i < k then max (nth a i) (nth b i) else nth a i
theorem mergeK_len {a b : List Int} {k : Nat} : (mergeK a b k).length = a.length := by simp [mergeK]
theorem mergeK_at {a b : List Int} {k i : Nat} (h : i < a.length) : nth (mergeK a b k) i = if i < k then max (nth a i) (nth b i) else nth a i := by simp [mergeK, nth, h]
theorem mergeK_zero {a b : List Int} : mergeK a b 0 = a :=
  list_ext_nth mergeK_len fun i hi => by rw [mergeK_len] at hi; rw [mergeK_at hi, if_neg (by omega)]
theorem mergeK_step {a b : List Int} {k : Nat} (h : k < a.length) : (mergeK a b k).set k (max (nth (mergeK a b k) k) (nth b k)) = mergeK a b (k + 1) := by
  refine list_ext_nth (by simp [mergeK_len]) fun i hi => ?_
  have hi' : i < a.length := by simpa [mergeK_len] using hi
  rw [mergeK_at hi']
  by_cases e : k = i
  · subst e
    rw [if_pos (by omega)]
    have e1 : nth (mergeK a b k) k = nth a k := by rw [mergeK_at h, if_neg (by omega)]
    rw [e1]
    simp [nth, mergeK_len, hi']
  · have e2 : nth ((mergeK a b k).set k (max (nth (mergeK a b k) k) (nth b k))) i = nth (mergeK a b k) i := by simp [nth, List.getElem?_set, e]
    rw [e2, mergeK_at hi']
    by_cases hc : i < k
    · rw [if_pos hc, if_pos (by omega)]
    · rw [if_neg hc, if_neg (by omega)]
theorem mergeK_up {a b : List Int} {k : Nat} (hl : b.length = a.length) (hk : a.length ≤ k) (h : ∀ i, i < a.length → nth a i ≤ nth b i) : mergeK a b k = b :=
  list_ext_nth (by rw [mergeK_len, hl]) fun i hi => by
    rw [mergeK_len] at hi
    rw [mergeK_at hi, if_pos (by omega)]
    have := h i hi
    omega
theorem spO_up {x : Spn} {o : List Int} {i : Nat} (hi : i < o.length) : nth o i ≤ nth (spO x o) i := by
  unfold spO; split
  · exact Int.le_refl _
  · rw [raiseN_at hi]; split <;> omega
theorem sl_up {ys : List Spn} {a b : List Int} : ∀ {k i : Nat}, (i < a.length → nth a i ≤ nth (sl ys a b k).1 i) ∧ (i < b.length → nth b i ≤ nth (sl ys a b k).2 i)
  | 0, i => ⟨fun _ => Int.le_refl _, fun _ => Int.le_refl _⟩
  | k + 1, i => by
    have ⟨h1, h2⟩ := sl_up (ys := ys) (a := a) (b := b) (k := k) (i := i)
    have ⟨l1, l2⟩ := sl_len (ys := ys) (a := a) (b := b) (i := k)
    by_cases h : (nth ys k).side = 1
    · rw [sl_a h]
      exact ⟨fun hi => by have := spO_up (x := nth ys k) (o := (sl ys a b k).1) (i := i) (by omega); have := h1 hi; simp only; omega, h2⟩
    · rw [sl_b h]
      exact ⟨h1, fun hi => by have := spO_up (x := nth ys k) (o := (sl ys a b k).2) (i := i) (by omega); have := h2 hi; simp only; omega⟩
theorem less_end {a b : Spn} {k : Nat} (hE : Ky.lex (keyS a) (keyS b) = Ky.lex ((keyS a).drop k) ((keyS b).drop k)) (hk : k < 7) (h : ¬ nth (keyS a) k = nth (keyS b) k) : Ky.ltK keyS a b = decide (nth (keyS a) k < nth (keyS b) k) := by
  rw [Ky.ltK, hE]
  by_cases h1 : nth (keyS a) k < nth (keyS b) k
  · rw [Ky.lex_lt (show k < (keyS a).length from hk) (show k < (keyS b).length from hk) h1, decide_eq_true h1]; rfl
  · rw [Ky.lex_gt (show k < (keyS a).length from hk) (show k < (keyS b).length from hk) (by omega), decide_eq_false h1]; rfl
theorem less_eq {a b : Spn} (h : Ky.lex (keyS a) (keyS b) = 0) : Ky.ltK keyS a b = false := by
  rw [Ky.ltK, h]; rfl
def okX (x : Spn) : Prop := x.fst ≤ 9223372036854775807 ∧ x.lst ≤ 9223372036854775807
theorem mem_nth {α : Type} [Inhabited α] {l : List α} {x : α} (h : x ∈ l) : ∃ j, j < l.length ∧ nth l j = x := by
  obtain ⟨j, hj, rfl⟩ := List.getElem_of_mem h
  exact ⟨j, hj, by simp [nth, hj]⟩
theorem all_NN {l : List Spn} (hb : ∀ x ∈ l, okX x) (h : ∀ j, j < l.length → 0 ≤ (nth l j).fst ∧ 0 ≤ (nth l j).lst) : ∀ x ∈ l, NN x := fun x hx => by
  obtain ⟨h1, h2⟩ := hb x hx
  obtain ⟨j, hj, rfl⟩ := mem_nth hx
  obtain ⟨h3, h4⟩ := h j hj
  exact ⟨h3, h1, h4, h2⟩
theorem edge_at {x : Spn} {o : List Int} (ht : x.side = 1 ∨ x.side = -1) (hc : x.cls = 41) : edgeO x.side o x.fst.toNat x.lst.toNat (x.side * outS x) = atS x o := by
  rw [edgeO, sgn_sgn ht, atS, if_pos hc]
theorem plV_at {x : Spn} {o : List Int} (ht : x.side = 1 ∨ x.side = -1) (hc : x.cls = 41) (h : ¬ 1048576 < atS x o + hS x) : plV x.side o x.fst.toNat x.lst.toNat (x.side * outS x) (hS x) = x.side * atS x o := by
  rw [plV, edge_at ht hc, if_neg h]
theorem plE_at {x : Spn} {o : List Int} (ht : x.side = 1 ∨ x.side = -1) (hc : x.cls = 41) (h : ¬ 1048576 < atS x o + hS x) : plE x.side o x.fst.toNat x.lst.toNat (x.side * outS x) (hS x) = 0 := by
  rw [plE, edge_at ht hc, if_neg h]
theorem plE_bad {x : Spn} {o : List Int} (ht : x.side = 1 ∨ x.side = -1) (hc : x.cls = 41) (h : 1048576 < atS x o + hS x) : plE x.side o x.fst.toNat x.lst.toNat (x.side * outS x) (hS x) = 9 ∧ plO x.side o x.fst.toNat x.lst.toNat (x.side * outS x) (hS x) = o := by
  rw [plE, plO, edge_at ht hc, if_pos h, if_pos h]; exact ⟨rfl, rfl⟩
theorem plO_at {x : Spn} {o : List Int} (ht : x.side = 1 ∨ x.side = -1) (hc : x.cls = 41) : plO x.side o x.fst.toNat x.lst.toNat (x.side * outS x) (hS x) = spO x o := by
  rw [plO, edge_at ht hc, spO]
theorem at_tie {x : Spn} {o : List Int} (hc : ¬ x.cls = 41) : atS x o = outS x + 8 := by rw [atS, if_neg hc]
theorem mkS_1 {x : Spn} {e : Int} (h : x.side = 1) : mkS x e = ⟨x.cls, x.idx, x.stf, x.fst, x.lst, 0, x.site, x.num, 0, e, 0, e + hS x⟩ := if_pos h
theorem mkS_m {x : Spn} {e : Int} (h : ¬ x.side = 1) : mkS x e = ⟨x.cls, x.idx, x.stf, x.fst, x.lst, 0, x.site, x.num, 0, e - hS x, 0, e⟩ := if_neg h
theorem slM1_1 {ys : List Spn} {a b : List Int} {i : Nat} (h : (nth ys i).side = 1) : slM1 ys a b i = ⟨(nth ys i).cls, (nth ys i).idx, (nth ys i).stf, (nth ys i).fst, (nth ys i).lst, 0, (nth ys i).site, (nth ys i).num, 0, (nth ys i).side * atS (nth ys i) (sl ys a b i).1, 0, (nth ys i).side * atS (nth ys i) (sl ys a b i).1 + hS (nth ys i)⟩ := by
  rw [slM1, mkS_1 h, rowS_a h]
theorem slM1_m {ys : List Spn} {a b : List Int} {i : Nat} (h : ¬ (nth ys i).side = 1) : slM1 ys a b i = ⟨(nth ys i).cls, (nth ys i).idx, (nth ys i).stf, (nth ys i).fst, (nth ys i).lst, 0, (nth ys i).site, (nth ys i).num, 0, (nth ys i).side * atS (nth ys i) (sl ys a b i).2 - hS (nth ys i), 0, (nth ys i).side * atS (nth ys i) (sl ys a b i).2⟩ := by
  rw [slM1, mkS_m h, rowS_b h]
end Go.Proofs.Ytomhegnaojejnaa
