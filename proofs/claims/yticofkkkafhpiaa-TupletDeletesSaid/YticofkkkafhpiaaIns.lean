/- Events inserted: where the tuplets lie afterwards. Nothing of the program. -/
import Derived.Test.YticofkkkafhpiaaOrder
set_option linter.unusedSimpArgs false
set_option linter.unusedVariables false
namespace Go.Proofs.Yticofkkkafhpiaa
open Go Go.RowKit Hr

def insT (p c : Int) (t : Tup) : Tup := if p ≤ t.first then ⟨t.first + c, t.count, t.actual, t.normal⟩ else if p < tend t then ⟨t.first, t.count + c, t.actual, t.normal⟩ else t
def phi (p c x : Int) : Int := if p ≤ x then x + c else x
def psi (p c x : Int) : Int := if p < x then x + c else x
theorem phi_psi {p c x y : Int} (hc : 0 ≤ c) : phi p c x < psi p c y ↔ x < y := by
  unfold phi psi; split <;> split <;> omega
theorem phi_lt {p c x y : Int} (hc : 0 ≤ c) : phi p c x < phi p c y ↔ x < y := by
  unfold phi; split <;> split <;> omega
theorem phi_eq {p c x y : Int} (hc : 0 ≤ c) : phi p c x = phi p c y ↔ x = y := by
  unfold phi; split <;> split <;> omega
theorem psi_lt {p c x y : Int} (hc : 0 ≤ c) : psi p c x < psi p c y ↔ x < y := by
  unfold psi; split <;> split <;> omega
theorem insT_first {p c : Int} {t : Tup} : (insT p c t).first = phi p c t.first := by
  unfold insT phi
  split
  · rfl
  · split <;> rfl
theorem insT_end {p c : Int} {t : Tup} (h : 1 ≤ t.count) : tend (insT p c t) = psi p c (tend t) := by
  unfold insT psi
  split
  · rename_i h1
    rw [if_pos (by unfold tend; omega)]; unfold tend; dsimp only; omega
  · split
    · rename_i h2; unfold tend; dsimp only; omega
    · rfl
theorem insT_aft {p c : Int} {t u : Tup} (hc : 0 ≤ c) (ht : 1 ≤ t.count) (hu : 1 ≤ u.count) : aftT (insT p c t) (insT p c u) ↔ aftT t u := by
  have e1 := insT_end (p := p) (c := c) ht
  have e2 := insT_end (p := p) (c := c) hu
  have e3 := insT_first (p := p) (c := c) (t := t)
  have e4 := insT_first (p := p) (c := c) (t := u)
  have k1 := phi_lt (p := p) (x := t.first) (y := u.first) hc
  have k2 := phi_eq (p := p) (x := t.first) (y := u.first) hc
  have k3 := psi_lt (p := p) (x := tend u) (y := tend t) hc
  unfold aftT
  unfold tend at e1 e2 k3
  omega
theorem nth_map_ins {p c : Int} {ts : List Tup} {j : Nat} (h : j < ts.length) : nth (ts.map (insT p c)) j = insT p c (nth ts j) := by simp [nth, h]
theorem ins_opn {p c f : Int} {ts : List Tup} {i : Nat} (hc : 0 ≤ c) (hcnt : ∀ t ∈ ts, 1 ≤ t.count) : opnS (ts.map (insT p c)) i (phi p c f) = (opnS ts i f).map (insT p c) := by
  unfold opnS
  rw [← List.map_take, List.filter_map]
  congr 1
  apply List.filter_congr
  intro u hu
  have h1 := insT_end (p := p) (c := c) (hcnt u (List.mem_of_mem_take hu))
  have h2 := phi_psi (p := p) (x := f) (y := tend u) hc
  simp only [Function.comp, h1]
  by_cases h3 : f < tend u
  · simp [h3, h2.2 h3]
  · have : ¬ phi p c f < psi p c (tend u) := fun hx => h3 (h2.1 hx)
    simp [h3, this]
theorem ins_bad {p c : Int} {ts : List Tup} {i : Nat} (hc : 0 ≤ c) (hcnt : ∀ t ∈ ts, 1 ≤ t.count) (hi : i < ts.length) (h : badN (ts.map (insT p c)) i) : badN ts i := by
  unfold badN at h ⊢
  rw [nth_map_ins hi, insT_first, ins_opn hc hcnt, List.length_map] at h
  rcases h with h | ⟨u, hu, hlt⟩
  · exact .inl h
  · obtain ⟨v, hv, rfl⟩ := List.mem_map.1 hu
    have hv1 := hcnt v (List.mem_of_mem_take (mem_opnS.1 hv).1)
    have hv2 := hcnt _ (nth_mem hi)
    rw [insT_end hv1, insT_end hv2, psi_lt hc] at hlt
    exact .inr ⟨v, hv, hlt⟩
theorem ins_good {n p c : Int} {ts : List Tup} (hc : 0 ≤ c) (hg : Good n ts ts.length) (hp : 0 ≤ p) : Good (n + c) (ts.map (insT p c)) (ts.map (insT p c)).length := by
  have hcnt : ∀ t ∈ ts, 1 ≤ t.count := by
    intro t ht
    obtain ⟨j, hj, rfl⟩ := List.getElem_of_mem ht
    have h1 := (errT_zero (hg j hj)).1
    have e : nth ts j = ts[j] := by simp [nth, hj]
    rw [e] at h1
    exact h1.1
  intro j hj
  rw [List.length_map] at hj
  obtain ⟨h1, h2, h3⟩ := errT_zero (hg j hj)
  refine errT_of ?_ (fun h0 => ?_) (fun hx => h3 (ins_bad hc hcnt hj hx))
  · rw [nth_map_ins hj]
    unfold propT at h1 ⊢
    unfold insT
    by_cases q1 : p ≤ (nth ts j).first
    · rw [if_pos q1]; dsimp only; omega
    · rw [if_neg q1]
      by_cases q2 : p < tend (nth ts j)
      · rw [if_pos q2]; dsimp only; omega
      · rw [if_neg q2]; omega
  · rw [nth_map_ins hj, nth_map_ins (show j - 1 < ts.length by omega), insT_aft hc (hcnt _ (nth_mem hj)) (hcnt _ (nth_mem (show j - 1 < ts.length by omega)))]
    exact h2 h0
theorem ins_check {n p c : Int} {ts : List Tup} (h : checkV ts n = 0) (hp : 0 ≤ p) (hc : 0 ≤ c) (hn : c ≤ 128 - n) : checkV (ts.map (insT p c)) (n + c) = 0 := by
  obtain ⟨h1, h2, h3, h4⟩ := checkV_good h
  exact checkV_of (by omega) (by omega) (by rw [List.length_map]; exact h3) (ins_good hc h4 hp)
end Go.Proofs.Yticofkkkafhpiaa
