/- The matched pairs of an alignment, the times between the first and the last of them. Nothing of the program. -/
import Derived.Test.YtbkmmjpklkallaaChk
import Derived.Test.YtbkmmjpklkallaaFilt
set_option linter.unusedSimpArgs false
set_option linter.unusedVariables false
namespace Go.Proofs.Ytbkmmjpklkallaa
open Go Go.RowKit Hr

/-- Not a match. -/
def notM (p : Pair) : Bool := p.kind != 1
theorem notM_no {p : Pair} (h : notM p = false) : p.kind = 1 := by simpa [notM] using h
theorem notM_yes {p : Pair} (h : notM p = true) : p.kind ≠ 1 := by simpa [notM] using h
theorem wrongL_sorted {l : List Note} (h : wrongL l = 0) : ∀ i j, i ≤ j → j < l.length → (nth l i).on ≤ (nth l j).on := by
  unfold wrongL at h
  split at h
  · cases h
  · intro i j hij
    induction j with
    | zero => intro _; rw [show i = 0 from by omega]; exact Int.le_refl _
    | succ j ih =>
      intro hj
      by_cases e : i = j + 1
      · rw [e]; exact Int.le_refl _
      · have h1 := ih (by omega) (by omega)
        have h2 := firstErr_zero h (j + 1) hj
        rw [Nat.zero_add] at h2
        unfold wrongAt at h2
        split at h2
        · cases h2
        · split at h2
          · cases h2
          · rename_i hx
            rw [Nat.add_sub_cancel] at hx
            omega
/-- In an alignment from places i and k on, a match lies at places that are there, none before i and k. -/
theorem match_at {a b : List Note} : ∀ {ps : List Pair} {i k : Nat}, errPs a b ps i k = 0 → ∀ p ∈ ps, p.kind = 1 → ∃ s q : Nat, p.score = (s : Int) ∧ p.played = (q : Int) ∧ i ≤ s ∧ k ≤ q ∧ s < a.length ∧ q < b.length
  | [], _, _, _, p, hp, _ => by simp at hp
  | x :: ps, i, k, h, p, hp, hk => by
    obtain ⟨h1, h2⟩ := errPs_cons h
    rcases List.mem_cons.1 hp with rfl | hp
    · obtain ⟨z1, z2, z3, z4, z5, z6, z7⟩ := errP_zero h1
      rw [if_neg (by omega)] at z3 z4
      exact ⟨i, k, z3, z4, Nat.le_refl _, Nat.le_refl _, z5 (by omega), z6 (by omega)⟩
    · obtain ⟨s, q, e1, e2, e3, e4, e5, e6⟩ := match_at h2 p hp hk
      refine ⟨s, q, e1, e2, Nat.le_trans ?_ e3, Nat.le_trans ?_ e4, e5, e6⟩
      · unfold stI; split <;> omega
      · unfold stK; split <;> omega
theorem match_le {a b : List Note} : ∀ {ps : List Pair} {i k : Nat}, errPs a b ps i k = 0 → ∀ u v : Nat, u ≤ v → v < ps.length → (nth ps u).kind = 1 → (nth ps v).kind = 1 → (nth ps u).score ≤ (nth ps v).score ∧ (nth ps u).played ≤ (nth ps v).played
  | [], _, _, _, u, v, _, hv, _, _ => by simp at hv
  | x :: ps, i, k, h, u, v, huv, hv, h3, h4 => by
    obtain ⟨h1, h2⟩ := errPs_cons h
    cases v with
    | zero => rw [show u = 0 from by omega]; exact ⟨Int.le_refl _, Int.le_refl _⟩
    | succ v =>
      have ev : nth (x :: ps) (v + 1) = nth ps v := by simp [nth]
      rw [ev] at h4 ⊢
      simp only [List.length_cons] at hv
      cases u with
      | zero =>
        have eu : nth (x :: ps) 0 = x := by simp [nth]
        rw [eu] at h3 ⊢
        obtain ⟨z1, z2, z3, z4, z5, z6, z7⟩ := errP_zero h1
        rw [if_neg (by omega)] at z3 z4
        obtain ⟨s, q, e1, e2, e3, e4, e5, e6⟩ := match_at h2 _ (nth_mem (show v < ps.length by omega)) h4
        unfold stI at e3
        unfold stK at e4
        rw [if_neg (by omega)] at e3 e4
        omega
      | succ u =>
        have eu : nth (x :: ps) (u + 1) = nth ps u := by simp [nth]
        rw [eu] at h3 ⊢
        exact match_le h2 u v (by omega) (by omega) h3 h4
/-- The first and the last match among the first j pairs, or -1. -/
def fstM (ps : List Pair) : Nat → Int
  | 0 => -1
  | j + 1 => if fstM ps j < 0 ∧ (nth ps j).kind = 1 then (j : Int) else fstM ps j
def lstM (ps : List Pair) : Nat → Int
  | 0 => -1
  | j + 1 => if (nth ps j).kind = 1 then (j : Int) else lstM ps j
/-- What is known of them: nothing matched yet, or first and last are places of matches, and the list of matches begins and ends with them. -/
def KnownM (ps : List Pair) (j : Nat) : Prop :=
  (fstM ps j = -1 ∧ lstM ps j = -1 ∧ Flt.rest notM (ps.take j) = []) ∨
  ∃ u v : Nat, fstM ps j = (u : Int) ∧ lstM ps j = (v : Int) ∧ u ≤ v ∧ v < j ∧ (nth ps u).kind = 1 ∧ (nth ps v).kind = 1 ∧
    (Flt.rest notM (ps.take j)).head? = some (nth ps u) ∧ (Flt.rest notM (ps.take j)).getLast? = some (nth ps v) ∧ (u = v ↔ (Flt.rest notM (ps.take j)).length = 1)
theorem knownM {ps : List Pair} : ∀ j, j ≤ ps.length → KnownM ps j
  | 0, _ => .inl ⟨rfl, rfl, by simp [Flt.rest]⟩
  | j + 1, hj => by
    have ih := knownM (ps := ps) j (by omega)
    by_cases hm : (nth ps j).kind = 1
    · have hr := Flt.rest_succ_in (p := notM) (l := ps) (j := j) (by omega) (by simp [notM, hm])
      rcases ih with ⟨h1, h2, h3⟩ | ⟨u, v, h1, h2, h3, h4, h5, h6, h7, h8, h9⟩
      · refine .inr ⟨j, j, ?_, ?_, Nat.le_refl _, by omega, hm, hm, ?_, ?_, ?_⟩
        · rw [fstM, if_pos ⟨by omega, hm⟩]
        · rw [lstM, if_pos hm]
        · rw [hr, h3]; rfl
        · rw [hr, h3]; rfl
        · rw [hr, h3]; simp
      · have hne : Flt.rest notM (ps.take j) ≠ [] := fun e => by rw [e] at h7; cases h7
        refine .inr ⟨u, j, ?_, ?_, by omega, by omega, h5, hm, ?_, ?_, ?_⟩
        · rw [fstM, if_neg (by omega), h1]
        · rw [lstM, if_pos hm]
        · rw [hr, List.head?_append, h7]; rfl
        · rw [hr, List.getLast?_append]; simp
        · rw [hr, List.length_append]
          have : 0 < (Flt.rest notM (ps.take j)).length := List.length_pos_iff.2 hne
          simp only [List.length_singleton]
          omega
    · have hr := Flt.rest_succ_out (p := notM) (l := ps) (j := j) (by omega) (by simp [notM, hm])
      have e1 : fstM ps (j + 1) = fstM ps j := by rw [fstM, if_neg (fun h => hm h.2)]
      have e2 : lstM ps (j + 1) = lstM ps j := by rw [lstM, if_neg hm]
      rcases ih with ⟨h1, h2, h3⟩ | ⟨u, v, h1, h2, h3, h4, h5, h6, h7, h8, h9⟩
      · exact .inl ⟨by rw [e1, h1], by rw [e2, h2], by rw [hr, h3]⟩
      · exact .inr ⟨u, v, by rw [e1, h1], by rw [e2, h2], h3, by omega, h5, h6, by rw [hr, h7], by rw [hr, h8], by rw [hr]; exact h9⟩

/-- The times between the first and the last match. -/
structure Span where
  num : Int
  den : Int
def spanV (a b : List Note) (ms : List Pair) : Span :=
  ⟨(nth b (nth ms (ms.length - 1)).played.toNat).on - (nth b (nth ms 0).played.toNat).on, (nth a (nth ms (ms.length - 1)).score.toNat).on - (nth a (nth ms 0).score.toNat).on⟩
def pN (a b : List Note) (ps : List Pair) : Nat := (spanV a b (Flt.rest notM ps)).num.toNat
def sN (a b : List Note) (ps : List Pair) : Nat := (spanV a b (Flt.rest notM ps)).den.toNat
def gN (a b : List Note) (ps : List Pair) : Nat := Nat.gcd (pN a b ps) (sN a b ps)
def tempoV (a b : List Note) (ps : List Pair) : Int × Int × Int :=
  if checkV a b ps ≠ 0 then (0, 0, checkV a b ps)
  else if (Flt.rest notM ps).length < 2 then (0, 0, 4)
  else if sN a b ps = 0 then (0, 0, 15)
  else (((pN a b ps / gN a b ps : Nat) : Int), ((sN a b ps / gN a b ps : Nat) : Int), 0)
theorem tempo_err {a b : List Note} {ps : List Pair} (h : checkV a b ps ≠ 0) : tempoV a b ps = (0, 0, checkV a b ps) := by rw [tempoV, if_pos h]
theorem tempo_short {a b : List Note} {ps : List Pair} (h : checkV a b ps = 0) (h2 : (Flt.rest notM ps).length < 2) : tempoV a b ps = (0, 0, 4) := by rw [tempoV, if_neg (by simp [h]), if_pos h2]
theorem tempo_zero {a b : List Note} {ps : List Pair} (h : checkV a b ps = 0) (h2 : 2 ≤ (Flt.rest notM ps).length) (h3 : sN a b ps = 0) : tempoV a b ps = (0, 0, 15) := by rw [tempoV, if_neg (by simp [h]), if_neg (by omega), if_pos h3]
theorem tempo_ok {a b : List Note} {ps : List Pair} (h : checkV a b ps = 0) (h2 : 2 ≤ (Flt.rest notM ps).length) (h3 : sN a b ps ≠ 0) : tempoV a b ps = (((pN a b ps / gN a b ps : Nat) : Int), ((sN a b ps / gN a b ps : Nat) : Int), 0) := by rw [tempoV, if_neg (by simp [h]), if_neg (by omega), if_neg h3]
theorem nth_zero_head {α : Type} [Inhabited α] {l : List α} {x : α} (h : l.head? = some x) : nth l 0 = x := by
  cases l with
  | nil => cases h
  | cons y l => simpa [nth] using h
theorem nth_last {α : Type} [Inhabited α] {l : List α} {x : α} (h : l.getLast? = some x) : nth l (l.length - 1) = x := by
  rw [List.getLast?_eq_getElem?] at h
  simp [nth, h]
theorem known_short {ps : List Pair} (h : KnownM ps ps.length) : fstM ps ps.length = lstM ps ps.length ↔ (Flt.rest notM ps).length < 2 := by
  have e : ps.take ps.length = ps := List.take_length
  rcases h with ⟨h1, h2, h3⟩ | ⟨u, v, h1, h2, h3, h4, h5, h6, h7, h8, h9⟩
  · rw [e] at h3; rw [h1, h2, h3]; simp
  · rw [e] at h7 h9
    have hne : Flt.rest notM ps ≠ [] := fun x => by rw [x] at h7; cases h7
    have := List.length_pos_iff.2 hne
    rw [h1, h2]
    omega
/-- What the first and the last of at least two matches are. -/
theorem tempo_facts {a b : List Note} {ps : List Pair} (hc : checkV a b ps = 0) (h2 : 2 ≤ (Flt.rest notM ps).length) :
    ∃ u v su qu sv qv : Nat, u < ps.length ∧ v < ps.length ∧ fstM ps ps.length = (u : Int) ∧ lstM ps ps.length = (v : Int) ∧ nth (Flt.rest notM ps) 0 = nth ps u ∧ nth (Flt.rest notM ps) ((Flt.rest notM ps).length - 1) = nth ps v ∧
      (nth ps u).score = (su : Int) ∧ (nth ps u).played = (qu : Int) ∧ (nth ps v).score = (sv : Int) ∧ (nth ps v).played = (qv : Int) ∧ su < a.length ∧ sv < a.length ∧ qu < b.length ∧ qv < b.length ∧
      (nth b qv).on - (nth b qu).on = (pN a b ps : Int) ∧ (nth a sv).on - (nth a su).on = (sN a b ps : Int) ∧ (pN a b ps : Int) ≤ 1125899906842624 ∧ (sN a b ps : Int) ≤ 1125899906842624 := by
  obtain ⟨hwa, hwb, he⟩ := checkV_zero hc
  have e : ps.take ps.length = ps := List.take_length
  rcases knownM (ps := ps) ps.length (Nat.le_refl _) with ⟨h1, h3, h4⟩ | ⟨u, v, h1, h3, h4, h5, h6, h7, h8, h9, h10⟩
  · rw [e] at h4; rw [h4] at h2; simp at h2
  · rw [e] at h8 h9
    have hf := nth_zero_head h8
    have hl := nth_last h9
    obtain ⟨su, qu, a1, a2, -, -, a3, a4⟩ := match_at he _ (nth_mem (show u < ps.length by omega)) h6
    obtain ⟨sv, qv, b1, b2, -, -, b3, b4⟩ := match_at he _ (nth_mem h5) h7
    have hle := match_le he u v h4 h5 h6 h7
    have o1 := wrongL_sorted hwa su sv (by omega) b3
    have o2 := wrongL_sorted hwb qu qv (by omega) b4
    obtain ⟨hna, -⟩ := wrongL_ok hwa
    obtain ⟨hnb, -⟩ := wrongL_ok hwb
    have n1 := hna _ (nth_mem a3)
    have n2 := hna _ (nth_mem b3)
    have n3 := hnb _ (nth_mem a4)
    have n4 := hnb _ (nth_mem b4)
    unfold NoteOk at n1 n2 n3 n4
    have ep : (pN a b ps : Int) = (nth b qv).on - (nth b qu).on := by
      rw [pN, spanV, hf, hl, a2, b2]; simp only [Int.toNat_natCast]; omega
    have es : (sN a b ps : Int) = (nth a sv).on - (nth a su).on := by
      rw [sN, spanV, hf, hl, a1, b1]; simp only [Int.toNat_natCast]; omega
    exact ⟨u, v, su, qu, sv, qv, by omega, h5, h1, h3, hf, hl, a1, a2, b1, b2, a3, b3, a4, b4, ep.symm, es.symm, by omega, by omega⟩
theorem gcd_facts {p s : Nat} (h : s ≠ 0) : 0 < Nat.gcd p s ∧ p = Nat.gcd p s * (p / Nat.gcd p s) ∧ s = Nat.gcd p s * (s / Nat.gcd p s) ∧ 1 ≤ s / Nat.gcd p s ∧ Nat.gcd (p / Nat.gcd p s) (s / Nat.gcd p s) = 1 := by
  have h0 : 0 < Nat.gcd p s := Nat.gcd_pos_of_pos_right _ (by omega)
  refine ⟨h0, (Nat.mul_div_cancel' (Nat.gcd_dvd_left p s)).symm, (Nat.mul_div_cancel' (Nat.gcd_dvd_right p s)).symm, ?_, ?_⟩
  · exact Nat.div_pos (Nat.le_of_dvd (by omega) (Nat.gcd_dvd_right p s)) h0
  · rw [Nat.gcd_div (Nat.gcd_dvd_left p s) (Nat.gcd_dvd_right p s), Nat.div_self h0]
theorem rem_den {s g q : Nat} (h : s = g * q) : (s : Int) % (q : Int) = 0 := by
  rw [h, Int.natCast_mul]; exact Int.mul_emod_left _ _
theorem rem_max {p g q : Nat} (h : p = g * q) : (p : Int) % max (q : Int) 1 = 0 := by
  by_cases h0 : q = 0
  · subst h0
    rw [show max ((0 : Nat) : Int) 1 = 1 from by omega]; omega
  · rw [show max (q : Int) 1 = (q : Int) from by omega]; exact rem_den h
theorem quo_eq {p g q : Nat} (h : p = g * q) (h0 : 0 < q) : (p : Int) / (q : Int) = (g : Int) := by
  rw [h, Int.natCast_mul]; exact Int.mul_ediv_cancel _ (by omega)
end Go.Proofs.Ytbkmmjpklkallaa
