/- A literal's bytes go on as bytes: the row is marked, and reads as it did. -/
import Derived.Test.YtgphmbipakdggaaRMore
set_option linter.unusedSimpArgs false
set_option linter.unusedVariables false
namespace Go.Proofs.YtgphmbipakdggaaR
namespace Hr
open Go Go.RowKit

/-- A block of which only this is known: what it reads. -/
def rdRes (g s : Nat) (ls : List (List Value)) : Res :=
  .any (fun k => g = k) (fun w => g < w.heap.size ∧ Rd w (some ⟨g, 0, none⟩) s ls) (fun w h b hb => hb ▸ h.1) (fun w w' h hk => by
    have hg := hk g rfl
    have hlt : g < w'.heap.size := by
      rcases Nat.lt_or_ge g w'.heap.size with h' | h'
      · exact h'
      · rw [Array.getElem?_eq_none h', Array.getElem?_eq_getElem h.1] at hg; cases hg
    refine ⟨hlt, ?_⟩
    rcases h.2 with h0 | ⟨ad, ha, h1⟩
    · exact .inl h0
    · refine .inr ⟨ad, ha, fun i c hi j v hj => ?_⟩
      have e : ad.block = g := by rw [← Option.some.inj ha]
      rw [← h1 i c hi j v hj]
      exact World.cell?_of_block (by rw [block_add, e]; exact hg))
theorem rdRes_rd {g s : Nat} {ls : List (List Value)} {w : World} (h : (rdRes g s ls).holds w) : Rd w (some ⟨g, 0, none⟩) s ls := h.2

theorem freeze_at {w : World} {g : Nat} {cur : Array Value} {e : TypeId} {k : Nat} (hg : w.heap[g]? = some (.cells cur e (0, 0))) : (w.freeze ⟨g, k, none⟩ 1).heap[g]? = some (.cells cur e (k, k + 1)) := by
  have hlt : g < w.heap.size := by
    rcases Nat.lt_or_ge g w.heap.size with h | h
    · exact h
    · rw [Array.getElem?_eq_none h] at hg; cases hg
  unfold World.freeze
  rw [if_neg (by decide)]
  simp only [Array.getElem?_modify, if_true, hg]
  rfl
theorem freeze_other {w : World} {g k : Nat} (k' : Nat) (h : k' ≠ g) : (w.freeze ⟨g, k, none⟩ 1).heap[k']? = w.heap[k']? := by
  unfold World.freeze
  rw [if_neg (by decide)]
  simp [Array.getElem?_modify, Ne.symm h]
theorem freeze_size {w : World} {g k : Nat} : (w.freeze ⟨g, k, none⟩ 1).heap.size = w.heap.size := by
  unfold World.freeze
  rw [if_neg (by decide)]
  simp
section
variable {P : Program} {X : Nat → Prop} {W : World} {n : Nat} {env : List (Nat × Value)} {mem : List Res} {o : Oper} {t e : TypeId} {x : Operand} {d : Nat}
theorem h_convB {g m c : Nat} {ls : List (List Value)} {l : List Res} (ho : o.op = .convert t t x) (hd : o.dst = some d) (hdn : Nat.blt d n = true) (ht : P.underlying t = some (.slice e)) (he : P.underlying e = some (.int .u8)) (hx : ev env x = some (.slice (some ⟨g, 0, none⟩) m c))
    (hs : Sel mem (.own e 1 (some ⟨g, 0, none⟩) m c ls) l) (hm : 0 < m) : H1 P X W n ⟨env, mem⟩ o (fun _ : Unit => True) (fun _ => ⟨(d, .slice (some ⟨g, 0, none⟩) m c) :: env, rdRes g 1 ls :: l⟩) := by
  intro a w hsat k Q hk
  have hh := hs.holds hsat.mem
  obtain ⟨g', cur, eg, hg, h3, h4, h5, h6⟩ := own_block hh hm
  obtain rfl : g = g' := by simpa using eg
  have hsh : w.shape? g = some (e, cur.size) := by unfold World.shape?; rw [hg]
  have hrun : (execOp a.eval o).run P w = .ok (.value (.slice (some ⟨g, 0, none⟩) m c)) (w.freeze ⟨g, cur.size, none⟩ 1) := by
    simp [execOp, ho, hsat.eval hx, convert, run_underlying ht, run_underlying he, markStringish, hsh]
  refine upon_value hrun ?_
  rw [hd]
  have hlt : g < w.heap.size := by
    rcases Nat.lt_or_ge g w.heap.size with h | h
    · exact h
    · rw [Array.getElem?_eq_none h] at hg; cases hg
  have hkept : Kept (fun k => k = g) w (w.freeze ⟨g, cur.size, none⟩ 1) := ⟨by unfold World.freeze; rw [if_neg (by decide)], by unfold World.freeze; rw [if_neg (by decide)], by unfold World.freeze; rw [if_neg (by decide)], by rw [freeze_size]; exact Nat.le_refl _, fun k' _ h => freeze_other k' h⟩
  have hrd : Rd (w.freeze ⟨g, cur.size, none⟩ 1) (some ⟨g, 0, none⟩) 1 ls := by
    rcases own_rd hh with h0 | ⟨ad, ha, h1⟩
    · exact .inl h0
    · refine .inr ⟨ad, ha, fun i c hi j v hj => ?_⟩
      have e1 : ad.block = g := by rw [← Option.some.inj ha]
      rw [← h1 i c hi j v hj]
      have e2 : (ad.add (i * 1 + j)).block = g := by rw [block_add, e1]
      unfold World.cell?
      rw [e2, hg, freeze_at hg]
  have hm2 : Mem (fun k => k = g) w [rdRes g 1 ls] (w.freeze ⟨g, cur.size, none⟩ 1) := Mem.nil.cons ⟨by rw [freeze_size]; exact hlt, hrd⟩ (fun k hk => .inr (by have h : g = k := hk; exact h.symm)) (by simp)
  have := hsat.change (Y := fun k => k = g) (cs := [.own e 1 (some ⟨g, 0, none⟩) m c ls]) (ls := l) hs.perm hkept (fun k hk => ⟨.own e 1 (some ⟨g, 0, none⟩) m c ls, by simp, by simp [hk, Res.at]⟩) hm2
  exact hk () _ _ trivial (this.put hdn _)
end
end Hr
end Go.Proofs.YtgphmbipakdggaaR
