/- What the laws ask of canonical events. Nothing of the program. -/
import Derived.Test.YtneadapfoaccmaaMore2
set_option linter.unusedSimpArgs false
set_option linter.unusedVariables false
namespace Go.Proofs.Ytneadapfoaccmaa
open Go Go.RowKit Hr

/-- Heads whose numbers rise. -/
structure Up (l : List Hd) : Prop where
  up : ∀ i, 0 < i → i < l.length → (nth l (i - 1)).num < (nth l i).num
  ok : ∀ x ∈ l, ¬ x.num < 0
theorem Good.toUp {l : List Hd} (h : Good l) : Up l := ⟨h.up, fun _ hx => h.num hx⟩
theorem Up.lt {l : List Hd} (h : Up l) {i : Nat} : ∀ {j : Nat}, i < j → j < l.length → (nth l i).num < (nth l j).num
  | j + 1, hij, hj => by
    have h1 := h.up (j + 1) (by omega) hj
    rw [Nat.add_sub_cancel] at h1
    by_cases e : i = j
    · rw [e]; exact h1
    · have := h.lt (i := i) (j := j) (by omega) (by omega)
      omega
theorem Up.can {l : List Hd} (h : Up l) : canH l = l := by
  have e1 : Flt.rest badH l = l := by
    rw [Flt.rest, List.filter_eq_self]
    intro a ha
    have := h.ok a ha
    simpa [badH] using this
  have e2 : Srt.Sorted (ltN nm) l := by
    refine List.pairwise_iff_getElem.2 fun i j hi hj hij => ?_
    have h1 := h.lt hij hj
    have q1 : nth l i = l[i] := by simp [nth, hi]
    have q2 : nth l j = l[j] := by simp [nth, hj]
    rw [q1, q2] at h1
    simp only [ltN, decide_eq_false_iff_not]
    rw [nm_of (h.ok _ (List.getElem_mem hj)), nm_of (h.ok _ (List.getElem_mem hi))]
    omega
  rw [canH, e1, Srt.sort_id e2, cpt_all (Nat.le_refl _), List.take_length]
  intro j hj h0
  have h1 := h.up j (by omega) hj
  have q1 := nm_of (h.ok _ (nth_mem hj))
  have q2 := nm_of (h.ok _ (nth_mem (show j - 1 < l.length by omega)))
  simp only [likeH, beq_eq_false_iff_ne, ne_eq]
  omega
theorem pkH_num {l : List Hd} {n : Nat} {x : Hd} (h : x ∈ pkH l n) : x.num = (n : Int) ∧ x ∈ l := by
  have e := pk_filter (p := fun h : Hd => h.num == (n : Int)) l
  unfold pkH at h
  rw [e] at h
  have h2 := List.mem_of_mem_take h
  obtain ⟨h3, h4⟩ := List.mem_filter.1 h2
  exact ⟨by simpa using h4, h3⟩
theorem pkH_len (l : List Hd) (n : Nat) : (pkH l n).length ≤ 1 := by
  unfold pkH; split <;> simp
theorem refH_num {l : List Hd} : ∀ {n : Nat} {x : Hd}, x ∈ refH l n → 0 ≤ x.num ∧ x.num < (n : Int) ∧ x ∈ l
  | n + 1, x, h => by
    rw [refH] at h
    rcases List.mem_append.1 h with h | h
    · obtain ⟨h1, h2, h3⟩ := refH_num h
      exact ⟨h1, by omega, h3⟩
    · obtain ⟨h1, h2⟩ := pkH_num h
      exact ⟨by omega, by omega, h2⟩
theorem refH_len (l : List Hd) : ∀ n, (refH l n).length ≤ n
  | 0 => Nat.le_refl _
  | n + 1 => by
    have h1 := refH_len l n
    have h2 := pkH_len l n
    rw [refH, List.length_append]; omega
theorem refH_pair {l : List Hd} : ∀ n : Nat, (refH l n).Pairwise fun a b => a.num < b.num
  | 0 => .nil
  | n + 1 => by
    rw [refH]
    refine List.pairwise_append.2 ⟨refH_pair n, ?_, fun a ha b hb => ?_⟩
    · have := pkH_len l n
      rcases hc : pkH l n with _ | ⟨a, r⟩
      · exact .nil
      · rw [hc] at this
        have : r = [] := by
          cases r with
          | nil => rfl
          | cons _ _ => simp at this
        rw [this]; simp
    · have h1 := refH_num ha
      have h2 := pkH_num hb
      omega
theorem canH_up (l : List Hd) : Up (canH l) := by
  have h := refH_pair (l := l) 128
  rw [← canH_eq] at h
  refine ⟨fun i h0 hi => ?_, fun x hx => ?_⟩
  · have := List.pairwise_iff_getElem.1 h (i - 1) i (by omega) hi (by omega)
    simpa [nth, hi, show i - 1 < (canH l).length by omega] using this
  · rw [canH_eq] at hx
    have := refH_num hx; omega
theorem canH_idem (l : List Hd) : canH (canH l) = canH l := (canH_up l).can
theorem ferm_idem (a : Int) : fermV (fermV a) = fermV a := by
  by_cases h : 0 ≤ a ∧ a / 16 % 2 = 1
  · rw [fermV, fermV, if_pos h]; rfl
  · have : fermV a = 0 := if_neg h
    rw [this]; rfl
theorem canE_kind (x : Evt) : (canE x).n.kind = x.n.kind := by
  unfold canE; split
  · rfl
  · exact strip_kind x
theorem canE_idem (x : Evt) : canE (canE x) = canE x := by
  by_cases h : x.n.kind < 1 ∨ 4 < x.n.kind
  · rw [canE_out h, canE_out h]
  · have hk := canE_kind x
    have h' : ¬ ((canE x).n.kind < 1 ∨ 4 < (canE x).n.kind) := by omega
    have e1 : canE x = ⟨(stripE x).n, canH (stripE x).hs, (stripE x).gs, trimL (stripE x).ls⟩ := if_neg h
    have e2 : canE (canE x) = ⟨(stripE (canE x)).n, canH (stripE (canE x)).hs, (stripE (canE x)).gs, trimL (stripE (canE x)).ls⟩ := if_neg h'
    by_cases hb : bare x.n.kind
    · have hb' : bare (canE x).n.kind := by rw [hk]; exact hb
      have e3 : stripE x = ⟨⟨x.n.site, x.n.num, x.n.kind, if x.n.kind = 3 then 0 else x.n.log, if x.n.kind = 3 then 0 else x.n.dots, if x.n.kind = 4 then 0 else fermV x.n.art, 0, x.n.dyn, 0, 0⟩, [], [], []⟩ := if_pos hb
      have e4 : canE x = stripE x := by rw [e1, e3]; rfl
      have e5 : stripE (stripE x) = stripE x := by
        have hb2 : bare (stripE x).n.kind := by rw [strip_kind]; exact hb
        have q : stripE (stripE x) = ⟨⟨(stripE x).n.site, (stripE x).n.num, (stripE x).n.kind, if (stripE x).n.kind = 3 then 0 else (stripE x).n.log, if (stripE x).n.kind = 3 then 0 else (stripE x).n.dots, if (stripE x).n.kind = 4 then 0 else fermV (stripE x).n.art, 0, (stripE x).n.dyn, 0, 0⟩, [], [], []⟩ := if_pos hb2
        rw [q, e3]
        by_cases h3 : x.n.kind = 3
        · simp only [h3, if_true, if_neg (show ¬ (3 : Int) = 4 by decide), ferm_idem]
        · by_cases h4 : x.n.kind = 4
          · simp only [h4, if_true, if_neg (show ¬ (4 : Int) = 3 by decide)]
          · simp only [h3, h4, if_false, ferm_idem]
      rw [e2, e4, e5, e3]; rfl
    · have hb' : ¬ bare (canE x).n.kind := by rw [hk]; exact hb
      rw [e2, strip_keep hb', e1]
      simp only [canH_idem, trimL_trim]
theorem can_few {x : Evt} (h : x.few) : (canE x).few := by
  unfold canE; split
  · exact h
  · obtain ⟨h1, h2, h3, h4⟩ := h.strip
    refine ⟨Nat.le_trans (canH_le _) h1, h2, ?_, h4⟩
    show (trimL _).length ≤ _
    rw [trimL, List.length_take]; omega
theorem RdE.can {w : World} {x : Evt} {p : Lie} {O : Option Addr} {co : Nat} (h : RdE w x p) (hk : 1 ≤ x.n.kind ∧ x.n.kind ≤ 4) (ho : Rd w O 5 ((canE x).hs.map Hd.enc)) : RdE w (canE x) ⟨O, co, (stripP x p).GA, (stripP x p).gc, (stripP x p).LA, (stripP x p).lc⟩ := by
  have hs := h.strip
  have e1 : canE x = ⟨(stripE x).n, canH (stripE x).hs, (stripE x).gs, trimL (stripE x).ls⟩ := if_neg (by omega)
  refine ⟨ho, ?_, ?_⟩
  · rw [e1]; exact hs.g
  · rw [e1]; exact rd_takeE hs.l
theorem lyricsE_trim {l : List Syl} (h : lyricsE l = 0) : trimL l = l := by
  have : trimN l l.length = l.length := by
    apply trimN_stop
    by_cases h0 : l.length = 0
    · exact .inl h0
    · refine .inr fun ha => ?_
      unfold lyricsE at h
      split at h
      · cases h
      · split at h
        · rename_i h1; exact h1 h
        · rw [if_pos ⟨by omega, ha⟩] at h; cases h
  rw [trimL, this, List.take_length]
theorem evE_parts {x : Evt} (h : evE x = 0) : idOk x.n ∧ (1 ≤ x.n.kind ∧ x.n.kind ≤ 4) ∧ sameP x (stripE x) ∧ (x.n.kind = 1 → headsE x.hs = 0 ∧ gracesE x.gs = 0 ∧ lyricsE x.ls = 0) ∧ tailOk x.n := by
  unfold evE at h
  split at h
  · cases h
  · rename_i h1
    split at h
    · cases h
    · rename_i h2
      split at h
      · cases h
      · rename_i h3
        split at h
        · cases h
        · split at h
          · rename_i h4; exact absurd h h4.2
          · rename_i h4
            refine ⟨by simpa using h1, by omega, by simpa using h3, fun hk => ?_, ?_⟩
            · have hp : partsE x = 0 := by
                by_cases hp : partsE x = 0
                · exact hp
                · exact absurd ⟨hk, hp⟩ h4
              unfold partsE at hp
              split at hp
              · rename_i h5; exact absurd hp h5
              · split at hp
                · rename_i h6; exact absurd hp h6
                · rename_i h5 h6; exact ⟨by omega, by omega, hp⟩
            · by_cases ht : tailOk x.n
              · exact ht
              · rw [tailE_2 ht] at h; cases h
theorem eqL_nil {α : Type} {r : α → α → Bool} {l : List α} (h : eqL r l [] = true) : l = [] := by
  have := eqL_len h
  exact List.eq_nil_of_length_eq_zero this
/-- An event without an error is its own canonical form. -/
theorem canE_own {x : Evt} (h : evE x = 0) : equalP (canE x) x := by
  obtain ⟨h1, h2, h3, h4, h5⟩ := evE_parts h
  have e1 : canE x = ⟨(stripE x).n, canH (stripE x).hs, (stripE x).gs, trimL (stripE x).ls⟩ := if_neg (by omega)
  by_cases hb : bare x.n.kind
  · have e3 : stripE x = ⟨⟨x.n.site, x.n.num, x.n.kind, if x.n.kind = 3 then 0 else x.n.log, if x.n.kind = 3 then 0 else x.n.dots, if x.n.kind = 4 then 0 else fermV x.n.art, 0, x.n.dyn, 0, 0⟩, [], [], []⟩ := if_pos hb
    have e4 : canE x = stripE x := by rw [e1, e3]; rfl
    rw [e4]
    obtain ⟨k1, ⟨k2, k3⟩, k4, k5, k6, k7, k8, k9, k10, k11⟩ := h3
    have l1 : (stripE x).hs = [] := strip_bare hb
    have l2 : (stripE x).gs = [] := by rw [e3]
    have l3 : (stripE x).ls = [] := by rw [e3]
    rw [l1] at k9; rw [l2] at k10; rw [l3] at k11
    refine ⟨⟨by rw [e3], by rw [e3]⟩, k1.symm, ⟨k2.symm, k3.symm⟩, k4.symm, k5.symm, k6.symm, k7.symm, k8.symm, ?_, ?_, ?_⟩
    · rw [l1, eqL_nil k9]; rfl
    · rw [l2, eqL_nil k10]; rfl
    · rw [l3, eqL_nil k11]; rfl
  · have hk1 : x.n.kind = 1 := by unfold bare at hb; omega
    obtain ⟨g1, g2, g3⟩ := h4 hk1
    have e4 : canE x = x := by
      rw [e1, strip_keep hb, (headsE_good g1).1.can, lyricsE_trim g3]
    rw [e4]; exact equalP_refl x
/-! A copy that is changed -/
def bumpH : List Hd → List Hd
  | [] => []
  | h :: r => ⟨h.step, h.alter, h.oct, h.tied, IntKind.i64.wrap (h.shw + 1)⟩ :: r
def bumpG : List Gr → List Gr
  | [] => []
  | h :: r => ⟨h.step, h.alter, h.oct, IntKind.i64.wrap (h.log + 1), h.slash⟩ :: r
def bumpY : List Syl → List Syl
  | [] => []
  | h :: r => ⟨h.text, IntKind.i64.wrap (h.link + 1)⟩ :: r
theorem bumpH_len : ∀ l : List Hd, (bumpH l).length = l.length
  | [] => rfl
  | _ :: _ => rfl
theorem bumpG_len : ∀ l : List Gr, (bumpG l).length = l.length
  | [] => rfl
  | _ :: _ => rfl
theorem bumpY_len : ∀ l : List Syl, (bumpY l).length = l.length
  | [] => rfl
  | _ :: _ => rfl
theorem bumpH_row : ∀ {l : List Hd}, 0 < l.length → (l.map Hd.enc).set 0 ((nth l 0).enc.set 4 (.int .i64 (IntKind.i64.wrap ((nth l 0).shw + 1)))) = (bumpH l).map Hd.enc
  | _ :: _, _ => rfl
theorem bumpG_row : ∀ {l : List Gr}, 0 < l.length → (l.map Gr.enc).set 0 ((nth l 0).enc.set 3 (.int .i64 (IntKind.i64.wrap ((nth l 0).log + 1)))) = (bumpG l).map Gr.enc
  | _ :: _, _ => rfl
theorem bumpY_row : ∀ {l : List Syl}, 0 < l.length → (l.map Syl.enc).set 0 ((nth l 0).enc.set 1 (.int .i64 (IntKind.i64.wrap ((nth l 0).link + 1)))) = (bumpY l).map Syl.enc
  | _ :: _, _ => rfl
theorem bumpH_nil : ∀ {l : List Hd}, l.length = 0 → bumpH l = l
  | [], _ => rfl
theorem bumpG_nil : ∀ {l : List Gr}, l.length = 0 → bumpG l = l
  | [], _ => rfl
theorem bumpY_nil : ∀ {l : List Syl}, l.length = 0 → bumpY l = l
  | [], _ => rfl
theorem wrap_ne (s : Int) : (IntKind.i64.wrap (s + 1) == s) = false := by
  have : ¬ IntKind.i64.wrap (s + 1) = s := by rw [IntKind.wrap_i64]; omega
  simpa using this
theorem bumpH_ne : ∀ {l : List Hd}, 0 < l.length → eqL hdEq (bumpH l) l = false
  | h :: r, _ => by simp [bumpH, eqL, hdEq, wrap_ne]
theorem bumpG_ne : ∀ {l : List Gr}, 0 < l.length → eqL grEq (bumpG l) l = false
  | h :: r, _ => by simp [bumpG, eqL, grEq, wrap_ne]
theorem bumpY_ne : ∀ {l : List Syl}, 0 < l.length → eqL syEq (bumpY l) l = false
  | h :: r, _ => by simp [bumpY, eqL, syEq, wrap_ne]
def bumpE (x : Evt) : Evt := ⟨x.n, bumpH x.hs, bumpG x.gs, bumpY x.ls⟩
theorem bump_few {x : Evt} (h : x.few) : (bumpE x).few := by
  obtain ⟨h1, h2, h3, h4⟩ := h
  exact ⟨by rw [bumpE]; simp only [bumpH_len]; exact h1, by rw [bumpE]; simp only [bumpG_len]; exact h2, by rw [bumpE]; simp only [bumpY_len]; exact h3, h4⟩
theorem bump_law (x : Evt) : (decide (equalP (bumpE x) x) == ((x.hs.length : Int) + (x.gs.length : Int) + (x.ls.length : Int) == 0)) = true := by
  by_cases h1 : x.hs.length = 0
  · by_cases h2 : x.gs.length = 0
    · by_cases h3 : x.ls.length = 0
      · have e : bumpE x = x := by rw [bumpE, bumpH_nil h1, bumpG_nil h2, bumpY_nil h3]
        rw [e, decide_eq_true (equalP_refl x), h1, h2, h3]; rfl
      · have e : ¬ equalP (bumpE x) x := fun g => by
          have g2 := g.2.2.2.2.2.2.2.2.2.2
          rw [show (bumpE x).ls = bumpY x.ls from rfl, bumpY_ne (by omega)] at g2; cases g2
        rw [decide_eq_false e, show ((x.hs.length : Int) + (x.gs.length : Int) + (x.ls.length : Int) == 0) = false from by simp; omega]; rfl
    · have e : ¬ equalP (bumpE x) x := fun g => by
        have g2 := g.2.2.2.2.2.2.2.2.2.1
        rw [show (bumpE x).gs = bumpG x.gs from rfl, bumpG_ne (by omega)] at g2; cases g2
      rw [decide_eq_false e, show ((x.hs.length : Int) + (x.gs.length : Int) + (x.ls.length : Int) == 0) = false from by simp; omega]; rfl
  · have e : ¬ equalP (bumpE x) x := fun g => by
      have g2 := g.2.2.2.2.2.2.2.2.1
      rw [show (bumpE x).hs = bumpH x.hs from rfl, bumpH_ne (by omega)] at g2; cases g2
    rw [decide_eq_false e, show ((x.hs.length : Int) + (x.gs.length : Int) + (x.ls.length : Int) == 0) = false from by simp; omega]; rfl
theorem canE_hs (x : Evt) : (canE x).hs.length ≤ x.hs.length := by
  unfold canE; split
  · exact Nat.le_refl _
  · exact Nat.le_trans (canH_le _) (strip_hs x)
theorem strip_lc {x : Evt} {p : Lie} (h : x.ls.length ≤ p.lc) : (stripE x).ls.length ≤ (stripP x p).lc := by
  unfold stripE stripP; split
  · exact Nat.zero_le _
  · exact h
end Go.Proofs.Ytneadapfoaccmaa
