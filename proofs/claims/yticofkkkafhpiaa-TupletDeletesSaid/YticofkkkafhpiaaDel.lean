/- Events deleted: where the tuplets lie afterwards, and that deleting undoes inserting. Nothing of the program. -/
import Derived.Test.YticofkkkafhpiaaIns
import Derived.Test.YticofkkkafhpiaaSort
set_option linter.unusedSimpArgs false
set_option linter.unusedVariables false
namespace Go.Proofs.Yticofkkkafhpiaa
open Go Go.RowKit Hr

def aftB (a b : Tup) : Bool := decide (aftT a b)
theorem posN_srt (s : List Tup) (t : Tup) : ∀ k, posN s t k = Srt.pos aftB s t k
  | 0 => rfl
  | k + 1 => by
    rw [posN, Srt.pos, posN_srt s t k]
    by_cases h : aftT t (nth s k)
    · rw [if_pos h, if_pos (by simp [aftB, h])]
    · rw [if_neg h, if_neg (by simp [aftB, h])]
theorem sortR_srt (l : List Tup) : ∀ k, sortR l k = Srt.sort aftB l k
  | 0 => rfl
  | k + 1 => by rw [sortR, Srt.sort, insR, Srt.ins, sortR_srt l k, posN_srt]
theorem aft_weak : Srt.Weak aftB := ⟨fun {a b c} h1 h2 => by
  simp only [aftB, decide_eq_false_iff_not] at h1 h2 ⊢; unfold aftT at *; omega, fun {a b} h => by
  simp only [aftB, decide_eq_false_iff_not, decide_eq_true_eq] at h ⊢; unfold aftT at *; omega⟩

def lam (p c x : Int) : Int := min x p + max 0 (x - p - c)
def delT (p c : Int) (t : Tup) : Tup := ⟨lam p c t.first, lam p c (tend t) - lam p c t.first, t.actual, t.normal⟩
def keepB (p c : Int) (t : Tup) : Bool := decide (lam p c t.first < lam p c (tend t))
def delL (p c : Int) (ts : List Tup) : List Tup := (ts.filter (keepB p c)).map (delT p c)
theorem lam_mono {p c x y : Int} (hc : 0 ≤ c) (h : x ≤ y) : lam p c x ≤ lam p c y := by unfold lam; omega
theorem delT_end {p c : Int} {t : Tup} : tend (delT p c t) = lam p c (tend t) := by
  show lam p c t.first + (lam p c (tend t) - lam p c t.first) = _; omega
def Nst (t u : Tup) : Prop := tend t ≤ u.first ∨ tend u ≤ t.first ∨ (t.first ≤ u.first ∧ tend u ≤ tend t) ∨ (u.first ≤ t.first ∧ tend t ≤ tend u)
def Lam (ts : List Tup) : Prop := ts.Pairwise Nst ∧ ∀ x : Int, ts.countP (fun u => inB u x) ≤ 3
theorem Nst.symm {t u : Tup} (h : Nst t u) : Nst u t := by unfold Nst at *; omega
theorem Lam.perm {ts ts' : List Tup} (h : Lam ts) (p : ts.Perm ts') : Lam ts' :=
  ⟨(p.pairwise_iff fun h => h.symm).1 h.1, fun x => by rw [← p.countP_eq]; exact h.2 x⟩
theorem good_lam {n : Int} {ts : List Tup} (hg : Good n ts ts.length) : Lam ts := by
  refine ⟨List.pairwise_iff_getElem.2 fun i j hi hj hij => ?_, fun x => ?_⟩
  · have e1 : ts[i] = nth ts i := by simp [nth, hi]
    have e2 : ts[j] = nth ts j := by simp [nth, hj]
    rw [e1, e2]
    have h1 := hg.first_le (show i ≤ j by omega) hj
    have h2 := (errT_zero (hg j hj)).2.2
    by_cases h3 : tend (nth ts i) ≤ (nth ts j).first
    · exact .inl h3
    · refine .inr (.inr (.inl ⟨h1, ?_⟩))
      by_cases h4 : tend (nth ts i) < tend (nth ts j)
      · exact absurd (.inr ⟨nth ts i, mem_opnS.2 ⟨nth_mem_take hij hi, by omega⟩, h4⟩) h2
      · omega
  · have key : ∀ k, k ≤ ts.length → (ts.take k).countP (fun u => inB u x) ≤ 3 := by
      intro k
      induction k with
      | zero => intro _; simp
      | succ k ih =>
        intro hk
        rw [take_nth (by omega), List.countP_append]
        by_cases hx : inB (nth ts k) x = true
        · have h2 := (errT_zero (hg k (by omega))).2.2
          have h3 : (ts.take k).countP (fun u => inB u x) ≤ (opnS ts k (nth ts k).first).length := by
            rw [List.countP_eq_length_filter, opnS]
            refine filter_len_le fun u hu hux => ?_
            rw [inB_iff] at hx hux
            simp; omega
          have h4 : ¬ 3 ≤ (opnS ts k (nth ts k).first).length := fun h => h2 (.inl h)
          simp [hx]; omega
        · have := ih (by omega)
          simp [hx]; exact this
    have := key ts.length (Nat.le_refl _)
    rwa [List.take_length] at this
theorem lam_good {n : Int} {ts : List Tup} (hs : Srt.Sorted aftB ts) (hl : Lam ts) (hp : ∀ t ∈ ts, propT n t) : Good n ts ts.length := by
  intro j hj
  have hj' : propT n (nth ts j) := hp _ (nth_mem hj)
  have hle : ∀ i, i < j → ¬ aftT (nth ts j) (nth ts i) := fun i hi => by
    have := hs.nth (i := i) (j := j) hi hj
    simpa [aftB] using this
  refine errT_of hj' (fun h0 => hle _ (by omega)) ?_
  rintro (hb | ⟨u, hu, hlt⟩)
  · have h3 : (opnS ts j (nth ts j).first).length ≤ (ts.take j).countP (fun u => inB u (nth ts j).first) := by
      rw [List.countP_eq_length_filter, opnS]
      refine filter_len_le fun u hu hux => ?_
      obtain ⟨i, hi, hil, rfl⟩ := mem_take_nth hu
      have := hle i hi
      rw [inB_iff]
      unfold aftT at this
      simp only [decide_eq_true_eq] at hux
      omega
    have h4 := hl.2 (nth ts j).first
    have h5 : (ts.take (j + 1)).countP (fun u => inB u (nth ts j).first) ≤ ts.countP (fun u => inB u (nth ts j).first) := (List.take_sublist _ _).countP_le
    have h6 : inB (nth ts j) (nth ts j).first = true := by rw [inB_iff]; unfold propT at hj'; unfold tend; omega
    rw [take_nth hj, List.countP_append] at h5
    simp [h6] at h5
    omega
  · obtain ⟨hu1, hu2⟩ := mem_opnS.1 hu
    obtain ⟨i, hi, hil, rfl⟩ := mem_take_nth hu1
    have h1 := List.pairwise_iff_getElem.1 hl.1 i j hil hj hi
    have e1 : ts[i] = nth ts i := by simp [nth, hil]
    have e2 : ts[j] = nth ts j := by simp [nth, hj]
    rw [e1, e2] at h1
    have h2 := hle i hi
    unfold aftT at h2
    unfold propT at hj'
    unfold Nst at h1
    unfold tend at *
    omega
theorem Lam.del {p c : Int} {ts : List Tup} (hc : 0 ≤ c) (h : Lam ts) : Lam (delL p c ts) := by
  refine ⟨?_, fun x => ?_⟩
  · refine List.pairwise_map.2 ((h.1.filter _).imp fun {t u} hn => ?_)
    unfold Nst at *
    rw [delT_end, delT_end]
    show lam p c (tend t) ≤ lam p c u.first ∨ lam p c (tend u) ≤ lam p c t.first ∨ (lam p c t.first ≤ lam p c u.first ∧ _) ∨ (lam p c u.first ≤ lam p c t.first ∧ _)
    rcases hn with h | h | ⟨h, h'⟩ | ⟨h, h'⟩
    · exact .inl (lam_mono hc h)
    · exact .inr (.inl (lam_mono hc h))
    · exact .inr (.inr (.inl ⟨lam_mono hc h, lam_mono hc h'⟩))
    · exact .inr (.inr (.inr ⟨lam_mono hc h, lam_mono hc h'⟩))
  · refine Nat.le_trans ?_ (h.2 (if x < p then x else x + c))
    rw [delL, List.countP_map, List.countP_filter]
    refine List.countP_mono_left fun u _ hu => ?_
    simp only [Function.comp, Bool.and_eq_true] at hu
    have h1 := inB_iff.1 hu.1
    rw [delT_end] at h1
    have h2 : lam p c u.first ≤ x ∧ x < lam p c (tend u) := h1
    rw [inB_iff]
    unfold lam at h2
    split <;> omega
theorem delT_prop {n p c : Int} {t : Tup} (h : propT n t) (hk : keepB p c t = true) (hp : 0 ≤ p) (hc : 0 ≤ c) (hn : c ≤ n - p) : propT (n - c) (delT p c t) := by
  simp only [keepB, decide_eq_true_eq] at hk
  unfold propT at *
  have e1 : (delT p c t).first = lam p c t.first := rfl
  have e2 : (delT p c t).count = lam p c (tend t) - lam p c t.first := rfl
  have e3 : (delT p c t).actual = t.actual := rfl
  have e4 : (delT p c t).normal = t.normal := rfl
  rw [e1, e2, e3, e4]
  unfold lam tend at *
  omega
theorem del_check {n p c : Int} {ts : List Tup} (h : checkV ts n = 0) (hp : 0 ≤ p) (hc : 0 ≤ c) (hpn : p ≤ n) (hn : c ≤ n - p) : checkV (sortR (delL p c ts) (delL p c ts).length) (n - c) = 0 := by
  obtain ⟨h1, h2, h3, h4⟩ := checkV_good h
  have hlen : (delL p c ts).length ≤ ts.length := by rw [delL, List.length_map]; exact List.length_filter_le _ _
  refine checkV_of (by omega) (by omega) (by rw [sortR_len]; omega) ?_
  rw [sortR_srt]
  refine lam_good (Srt.sort_sorted aft_weak _ _) (((good_lam h4).del hc).perm (Srt.sort_all _).symm) fun t ht => ?_
  have ht' := Srt.sort_mem ht
  rw [delL] at ht'
  obtain ⟨u, hu, rfl⟩ := List.mem_map.1 ht'
  obtain ⟨hu1, hu2⟩ := List.mem_filter.1 hu
  obtain ⟨j, hj, rfl⟩ := List.getElem_of_mem hu1
  have := (errT_zero (h4 j hj)).1
  have e : nth ts j = ts[j] := by simp [nth, hj]
  rw [e] at this
  exact delT_prop this hu2 hp hc hn
theorem good_sorted {n : Int} {ts : List Tup} (hg : Good n ts ts.length) : Srt.Sorted aftB ts := by
  refine List.pairwise_iff_getElem.2 fun i j hi hj hij => ?_
  have key : ∀ j, i < j → j < ts.length → aftB (nth ts j) (nth ts i) = false := by
    intro j
    induction j with
    | zero => intro h; omega
    | succ j ih =>
      intro h1 h2
      have h3 : aftB (nth ts (j + 1)) (nth ts j) = false := by
        have := (errT_zero (hg (j + 1) h2)).2.1 (by omega)
        rw [Nat.add_sub_cancel] at this
        simpa [aftB] using this
      by_cases e : i = j
      · rw [e]; exact h3
      · exact aft_weak.trans (ih (by omega) (by omega)) h3
  have e1 : ts[i] = nth ts i := by simp [nth, hi]
  have e2 : ts[j] = nth ts j := by simp [nth, hj]
  rw [e1, e2]
  exact key j hij hj
theorem del_ins {p c : Int} {ts : List Tup} (hp : 0 ≤ p) (hc : 0 ≤ c) (hcnt : ∀ t ∈ ts, 1 ≤ t.count) (h : ∀ t ∈ ts, inB t p = true → p ≤ t.first) : delL p c (ts.map (insT p c)) = ts := by
  have key : ∀ t ∈ ts, keepB p c (insT p c t) = true ∧ delT p c (insT p c t) = t := by
    intro t ht
    have h1 := hcnt t ht
    have h2 := h t ht
    rw [inB_iff] at h2
    have e : insT p c t = if p ≤ t.first then ⟨t.first + c, t.count, t.actual, t.normal⟩ else t := by
      unfold insT
      by_cases q1 : p ≤ t.first
      · rw [if_pos q1, if_pos q1]
      · rw [if_neg q1, if_neg q1, if_neg (by omega)]
    rw [e]
    by_cases q1 : p ≤ t.first
    · rw [if_pos q1]
      refine ⟨?_, ?_⟩
      · simp only [keepB, decide_eq_true_eq]; simp only [tend, lam] at *; omega
      · obtain ⟨f, n, a, b⟩ := t
        simp only [delT, tend, lam, Tup.mk.injEq, and_true] at *
        omega
    · rw [if_neg q1]
      have h3 : tend t ≤ p := by omega
      refine ⟨?_, ?_⟩
      · unfold tend at h3
        simp only [keepB, decide_eq_true_eq]; simp only [tend, lam] at *; omega
      · obtain ⟨f, n, a, b⟩ := t
        simp only [delT, tend, lam, Tup.mk.injEq, and_true] at *
        omega
  rw [delL, List.filter_map, List.map_map]
  have e1 : ts.filter (keepB p c ∘ insT p c) = ts := List.filter_eq_self.2 fun t ht => (key t ht).1
  rw [e1]
  have e2 : ts.map (delT p c ∘ insT p c) = ts.map id := List.map_congr_left fun t ht => (key t ht).2
  rw [e2, List.map_id]
theorem sort_good {n : Int} {ts : List Tup} (h : checkV ts n = 0) : sortR ts ts.length = ts := by
  rw [sortR_srt]; exact Srt.sort_id (good_sorted (checkV_good h).2.2.2)

/-- What the reference has counted of t before event e, and where t begins. -/
def cntD (p c : Int) (t : Tup) (e : Int) : Int := lam p c (max t.first (min e (tend t))) - lam p c t.first
def fstD (p c : Int) (t : Tup) (e : Int) : Int := if 0 < cntD p c t e then lam p c t.first else 0
theorem cntD_zero {p c : Int} {t : Tup} (h : 0 ≤ t.first) : cntD p c t 0 = 0 := by
  unfold cntD; rw [show max t.first (min 0 (tend t)) = t.first from by omega]; omega
theorem lam_zero {p c : Int} (hp : 0 ≤ p) (hc : 0 ≤ c) : lam p c 0 = 0 := by unfold lam; omega
theorem lam_gone {p c e : Int} (h : p ≤ e) (h2 : e < p + c) : lam p c (e + 1) = lam p c e := by unfold lam; omega
theorem lam_next {p c e : Int} (hc : 0 ≤ c) (h : e < p ∨ p + c ≤ e) : lam p c (e + 1) = lam p c e + 1 := by unfold lam; omega
theorem cntD_gone {p c e : Int} {t : Tup} (h : p ≤ e) (h2 : e < p + c) : cntD p c t (e + 1) = cntD p c t e := by unfold cntD lam; omega
theorem cntD_in {p c e : Int} {t : Tup} (hc : 0 ≤ c) (h : e < p ∨ p + c ≤ e) (hi : inB t e = true) : cntD p c t (e + 1) = cntD p c t e + 1 := by rw [inB_iff] at hi; unfold cntD lam; omega
theorem cntD_out {p c e : Int} {t : Tup} (ht : t.first ≤ tend t) (hi : inB t e = false) : cntD p c t (e + 1) = cntD p c t e := by
  have hi' : ¬ (t.first ≤ e ∧ e < tend t) := fun h => by rw [inB_iff.2 h] at hi; cases hi
  unfold cntD
  rw [show max t.first (min (e + 1) (tend t)) = max t.first (min e (tend t)) from by omega]
theorem cntD_nn {p c e : Int} {t : Tup} (hc : 0 ≤ c) : 0 ≤ cntD p c t e := by unfold cntD lam; omega
theorem cntD_le {p c e : Int} {t : Tup} (hc : 0 ≤ c) (h : t.first ≤ tend t) (h0 : 0 ≤ t.first) : cntD p c t e ≤ tend t := by unfold cntD lam; omega
theorem cntD_first {p c e : Int} {t : Tup} (hc : 0 ≤ c) (hi : inB t e = true) (h0 : cntD p c t e = 0) : lam p c e = lam p c t.first := by
  rw [inB_iff] at hi
  unfold cntD at h0
  rw [show max t.first (min e (tend t)) = e from by omega] at h0
  omega
theorem cntD_end {p c e : Int} {t : Tup} (h : tend t ≤ e) (ht : t.first ≤ tend t) : cntD p c t e = lam p c (tend t) - lam p c t.first := by
  unfold cntD; rw [show max t.first (min e (tend t)) = tend t from by omega]
theorem keepB_end {p c e : Int} {t : Tup} (h : tend t ≤ e) (ht : t.first ≤ tend t) : keepB p c t = decide (0 < cntD p c t e) := by
  rw [cntD_end h ht, keepB]; congr 1; rw [eq_iff_iff]; omega
/-- Of the first k. -/
def delK (p c : Int) (ts : List Tup) (k : Nat) : List Tup := delL p c (ts.take k)
theorem delK_in {p c : Int} {ts : List Tup} {k : Nat} (h : k < ts.length) (hk : keepB p c (nth ts k) = true) : delK p c ts (k + 1) = delK p c ts k ++ [delT p c (nth ts k)] := by
  rw [delK, take_nth h, delL, List.filter_append]; simp [hk, delK, delL]
theorem delK_out {p c : Int} {ts : List Tup} {k : Nat} (h : k < ts.length) (hk : keepB p c (nth ts k) = false) : delK p c ts (k + 1) = delK p c ts k := by
  rw [delK, take_nth h, delL, List.filter_append]; simp [hk, delK, delL]
theorem delK_all {p c : Int} {ts : List Tup} {k : Nat} (h : ts.length ≤ k) : delK p c ts k = delL p c ts := by rw [delK, List.take_of_length_le h]
theorem delK_len {p c : Int} {ts : List Tup} {k : Nat} : (delK p c ts k).length ≤ k := by
  rw [delK, delL, List.length_map]; exact Nat.le_trans (List.length_filter_le _ _) (by simp; omega)

/-! ### The answers, and the lists halfway -/
def insV (ts : List Tup) (n p c : Int) : List Tup × Int := if checkV ts n ≠ 0 then ([], checkV ts n) else if p < 0 ∨ n < p ∨ c < 0 ∨ 128 - n < c then ([], 2) else (ts.map (insT p c), 0)
theorem insV_err {ts : List Tup} {n p c : Int} (h : checkV ts n ≠ 0) : insV ts n p c = ([], checkV ts n) := by rw [insV, if_pos h]
theorem insV_rng {ts : List Tup} {n p c : Int} (h : checkV ts n = 0) (hr : p < 0 ∨ n < p ∨ c < 0 ∨ 128 - n < c) : insV ts n p c = ([], 2) := by rw [insV, if_neg (by simp [h]), if_pos hr]
theorem insV_ok {ts : List Tup} {n p c : Int} (h : checkV ts n = 0) (hr : 0 ≤ p ∧ p ≤ n ∧ 0 ≤ c ∧ c ≤ 128 - n) : insV ts n p c = (ts.map (insT p c), 0) := by rw [insV, if_neg (by simp [h]), if_neg (by omega)]
def delV (ts : List Tup) (n p c : Int) : List Tup × Int := if checkV ts n ≠ 0 then ([], checkV ts n) else if p < 0 ∨ c < 0 ∨ n < p ∨ n - p < c then ([], 2) else (sortR (delL p c ts) (delL p c ts).length, 0)
theorem delV_err {ts : List Tup} {n p c : Int} (h : checkV ts n ≠ 0) : delV ts n p c = ([], checkV ts n) := by rw [delV, if_pos h]
theorem delV_rng {ts : List Tup} {n p c : Int} (h : checkV ts n = 0) (hr : p < 0 ∨ c < 0 ∨ n < p ∨ n - p < c) : delV ts n p c = ([], 2) := by rw [delV, if_neg (by simp [h]), if_pos hr]
theorem delV_ok {ts : List Tup} {n p c : Int} (h : checkV ts n = 0) (hr : 0 ≤ p ∧ p ≤ n ∧ 0 ≤ c ∧ c ≤ n - p) : delV ts n p c = (sortR (delL p c ts) (delL p c ts).length, 0) := by rw [delV, if_neg (by simp [h]), if_neg (by omega)]
def mapK (p c : Int) (ts : List Tup) (k : Nat) : List Tup := (ts.take k).map (insT p c) ++ ts.drop k
theorem mapK_len {p c : Int} {ts : List Tup} {k : Nat} : (mapK p c ts k).length = ts.length := by simp [mapK]; omega
theorem mapK_nth {p c : Int} {ts : List Tup} {k : Nat} (h : k < ts.length) : nth (mapK p c ts k) k = nth ts k := by
  have e : ((ts.take k).map (insT p c)).length = k := by simp; omega
  simp only [mapK, nth, List.getD_eq_getElem?_getD]
  rw [List.getElem?_append_right (by omega), e]
  simp [h]
theorem mapK_step {p c : Int} {ts : List Tup} {k : Nat} {u : Tup} (h : k < ts.length) (hu : insT p c (nth ts k) = u) : (mapK p c ts k).set k u = mapK p c ts (k + 1) := by
  have e : ((ts.take k).map (insT p c)).length = k := by simp; omega
  rw [mapK, List.set_append_right _ _ (by omega), e, Nat.sub_self, drop_nth h, List.set_cons_zero, mapK, take_nth h, List.map_append, List.append_assoc]
  simp [hu]
theorem mapK_same {p c : Int} {ts : List Tup} {k : Nat} (h : k < ts.length) (hu : insT p c (nth ts k) = nth ts k) : mapK p c ts (k + 1) = mapK p c ts k := by
  rw [mapK, mapK, take_nth h, List.map_append, List.append_assoc, drop_nth h]
  simp [hu]
theorem mapK_zero {p c : Int} {ts : List Tup} : mapK p c ts 0 = ts := by simp [mapK]
theorem mapK_all {p c : Int} {ts : List Tup} {k : Nat} (h : ts.length ≤ k) : mapK p c ts k = ts.map (insT p c) := by rw [mapK, List.take_of_length_le h, List.drop_eq_nil_of_le h, List.append_nil]
theorem insT_up {p c : Int} {t : Tup} (h : p ≤ t.first) : insT p c t = ⟨t.first + c, t.count, t.actual, t.normal⟩ := by rw [insT, if_pos h]
theorem insT_grow {p c : Int} {t : Tup} (h : t.first < p) (h2 : p < tend t) : insT p c t = ⟨t.first, t.count + c, t.actual, t.normal⟩ := by rw [insT, if_neg (by omega), if_pos h2]
theorem insT_id {p c : Int} {t : Tup} (h : t.first < p) (h2 : tend t ≤ p) : insT p c t = t := by rw [insT, if_neg (by omega), if_neg (by omega)]
theorem insT_id' {p c : Int} {t : Tup} (h : t.first < p) (h2 : inB t p = false) : insT p c t = t := by
  refine insT_id h ?_
  by_cases hx : p < tend t
  · rw [inB_iff.2 ⟨by omega, hx⟩] at h2; cases h2
  · omega
theorem map_take_succ {f : Tup → Tup} {ts : List Tup} {k : Nat} (h : k < ts.length) : ((ts.take (k + 1)).map f) = (ts.take k).map f ++ [f (nth ts k)] := by rw [take_nth h, List.map_append]; rfl
theorem rd_blk1 {w : World} {b : Nat} {t : TypeId} {v : Value} (h : (Res.blk b t [(0, v)]).holds w) : Rd w (some ⟨b, 0, none⟩) 1 [[v]] :=
  rd_blk h fun i u hu => by
    cases i with
    | zero => simpa [fnd] using hu
    | succ i => simp at hu
theorem delT_enc {p c e : Int} {t : Tup} (h : 0 < cntD p c t e) (h2 : tend t ≤ e) (ht : t.first ≤ tend t) : (delT p c t).enc = [.int .i64 (fstD p c t e), .int .i64 (cntD p c t e), .int .i64 t.actual, .int .i64 t.normal] := by
  rw [fstD, if_pos h, cntD_end h2 ht]; rfl
theorem fstD_gone {p c e : Int} {t : Tup} (h : p ≤ e) (h2 : e < p + c) : fstD p c t (e + 1) = fstD p c t e := by rw [fstD, fstD, cntD_gone h h2]
theorem fstD_out {p c e : Int} {t : Tup} (ht : t.first ≤ tend t) (hi : inB t e = false) : fstD p c t (e + 1) = fstD p c t e := by rw [fstD, fstD, cntD_out ht hi]
theorem fstD_new {p c e : Int} {t : Tup} (hc : 0 ≤ c) (h : e < p ∨ p + c ≤ e) (hi : inB t e = true) (h0 : cntD p c t e = 0) : lam p c e = fstD p c t (e + 1) := by
  rw [fstD, cntD_in hc h hi, if_pos (by omega), cntD_first hc hi h0]
theorem fstD_on {p c e : Int} {t : Tup} (hc : 0 ≤ c) (h : e < p ∨ p + c ≤ e) (hi : inB t e = true) (h0 : cntD p c t e ≠ 0) : fstD p c t e = fstD p c t (e + 1) := by
  have := cntD_nn (p := p) (c := c) (t := t) (e := e) hc
  rw [fstD, fstD, cntD_in hc h hi, if_pos (by omega), if_pos (by omega)]
theorem delV_back {a : List Tup} {n p m : Int} (hc : checkV a n = 0) (hp : 0 ≤ p ∧ p ≤ n) (hm : 0 ≤ m ∧ m ≤ 128 - n) (h : ∀ j, j < a.length → ¬ (inB (nth a j) p = true ∧ (nth a j).first < p)) : delV (insV a n p m).1 (n + m) p m = (a, 0) := by
  have h4 := (checkV_good hc).2.2.2
  rw [insV_ok hc ⟨hp.1, hp.2, hm.1, hm.2⟩]
  have hi := ins_check hc hp.1 hm.1 hm.2
  rw [delV_ok hi (by omega)]
  have e : delL p m (a.map (insT p m)) = a := del_ins hp.1 hm.1 (fun t ht => by
    obtain ⟨j, hj, rfl⟩ := List.getElem_of_mem ht
    have := (errT_zero (h4 j hj)).1
    have e : nth a j = a[j] := by simp [nth, hj]
    rw [e] at this
    exact this.1) (fun t ht hin => by
    obtain ⟨j, hj, rfl⟩ := List.getElem_of_mem ht
    have e : nth a j = a[j] := by simp [nth, hj]
    have := h j hj
    rw [e] at this
    by_cases hx : a[j].first < p
    · exact absurd ⟨hin, hx⟩ this
    · omega)
  rw [e, sort_good hc]
theorem all_next {q : Nat → Prop} {k : Nat} (h : ∀ j, j < k → ¬ q j) (hk : ¬ q k) : ∀ j, j < k + 1 → ¬ q j := fun j hj => by
  by_cases e : j = k
  · rw [e]; exact hk
  · exact h j (by omega)
end Go.Proofs.Yticofkkkafhpiaa
