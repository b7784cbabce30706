/- More rules: one field of an element of an owned row stored; a slice or a pointer compared with nil. -/
import Derived.Test.YtgphmbipakdggaaRMore
set_option linter.unusedSimpArgs false
set_option linter.unusedVariables false
namespace Go.Proofs.YtgphmbipakdggaaR
namespace Hr
open Go Go.RowKit

theorem flatten_setF {size d : Nat} {v : Value} (hd : d < size) : ∀ (ls : List (List Value)) (q : Nat) (c : List Value), (∀ z ∈ ls, z.length = size) → ls[q]? = some c →
    (ls.set q (c.set d v)).flatten = ls.flatten.take (q * size + d) ++ [v] ++ ls.flatten.drop (q * size + d + 1)
  | [], q, c, _, h => by simp at h
  | z :: ls, 0, c, h, hq => by
    have hz := h z (by simp)
    simp only [List.getElem?_cons_zero, Option.some.injEq] at hq
    subst hq
    simp only [List.set_cons_zero, List.flatten_cons, Nat.zero_mul, Nat.zero_add]
    rw [List.take_append_of_le_length (by omega), List.drop_append_of_le_length (by omega), List.set_eq_take_append_cons_drop, if_pos (by omega)]
    simp
  | z :: ls, q + 1, c, h, hq => by
    have hz := h z (by simp)
    have ih := flatten_setF hd ls q c (fun y hy => h y (by simp [hy])) (by simpa using hq) (v := v)
    simp only [List.set_cons_succ, List.flatten_cons, ih]
    have e1 : (q + 1) * size + d = z.length + (q * size + d) := by rw [hz, Nat.add_mul]; omega
    rw [e1, List.take_length_add_append, Nat.add_assoc z.length, List.drop_length_add_append]
    simp

section
variable {P : Program} {X : Nat → Prop} {W : World} {n : Nat} {env : List (Nat × Value)} {mem : List Res} {S : St} {o : Oper} {d : Tmp} {t t' e : TypeId} {x y : Operand}
theorem h_storeF {A : Option Addr} {m c size q f : Nat} {ls : List (List Value)} {l : List Res} {cs : List Value} {v : Value} (ho : o.op = .store t x y) (hd : o.dst = none) (hsz : Sz P t 1) (hx : ev env x = some (.pointer (some (((adr A).add (q * size)).add f)))) (hy : ev env y = some v)
    (hv : isTuple v = false) (hl : vlist v = [v]) (h1 : allCells [v] = true) (hs : Sel mem (.own e size A m c ls) l) (hq : q < m) (hf : f < size) (hc : ls[q]? = some cs) :
    H1 P X W n ⟨env, mem⟩ o (fun _ : Unit => True) (fun _ => ⟨env, .own e size A m c (ls.set q (cs.set f v)) :: l⟩) := by
  intro a w hsat k Q hk
  have hh := hs.holds hsat.mem
  obtain ⟨g, cur, rfl, hg, h3, h4, h5, h6⟩ := own_block hh (by omega)
  obtain ⟨_, hlen, hz⟩ := hh
  have hqs : q * size + size ≤ m * size := by rw [← Nat.succ_mul]; exact Nat.mul_le_mul_right _ hq
  have hms : m * size ≤ c * size := Nat.mul_le_mul_right _ h3
  have hst := run_storeCells_at P g (q * size + f) e [v] 0 cur w hg (by simp; omega) (allCells_one h1)
  have hrun : (execOp a.eval o).run P w = .ok .skip (w.setRow g (cur.toList.take (q * size + f) ++ [v] ++ cur.toList.drop (q * size + f + 1)).toArray) := by
    have ead : ((adr (some ⟨g, 0, none⟩)).add (q * size)).add f = ⟨g, q * size + f, none⟩ := by rw [add_add']; simp [adr, Addr.add_lit]
    simp only [execOp, ho, hsat.eval hx, hsat.eval hy, Instr.storeAt, Instr.sureAddr, storeVar, ead, cells_vlist hv, hl]
    simp [hsz.run, hst]
  refine upon_skip hrun ?_
  rw [hd]
  refine hk () _ _ trivial ?_
  have hcl : cs.length = size := hz cs (List.mem_of_getElem? hc)
  have hw := own_write (ls := ls) (ls' := ls.set q (cs.set f v)) (vs := [v]) hg h3 h4 h5 h6 (by simp; omega) (by simpa using hlen) (fun z hz' => by
    rcases List.mem_or_eq_of_mem_set hz' with h | rfl
    · exact hz z h
    · simpa using hcl) (flatten_setF hf ls q cs hz hc)
  have hm : Mem (fun k => k = g) w [.own e size (some ⟨g, 0, none⟩) m c (ls.set q (cs.set f v))] _ := Mem.nil.cons hw (fun k hk => .inr (by simpa [Res.at, eq_comm] using hk)) (by simp)
  exact hsat.change (Y := fun k => k = g) (cs := [.own e size (some ⟨g, 0, none⟩) m c ls]) (ls := l) hs.perm setRow_kept (fun k hk => ⟨.own e size (some ⟨g, 0, none⟩) m c ls, by simp, by simp [hk, Res.at]⟩) hm

theorem run_eqlNil (w : World) (d : Nat) (t e : TypeId) (a : Option Addr) (m c : Nat) (h : P.underlying t = some (.slice e)) : (Op.equalIn (d + 1) t (.slice a m c) (.slice none 0 0)).run P w = .ok a.isNone w := by
  cases a <;> simp [Op.equalIn, run_underlying h]
theorem q_eqlNil {A : Option Addr} {m c : Nat} (ho : o.op = .binOp .eql t x y t') (hx : ev S.env x = some (.slice A m c)) (hy : ev S.env y = some (.slice none 0 0)) (ht : P.underlying t = some (.slice e)) : Q1 P X W n S o (.bool A.isNone) :=
  fun _ w hs => .inl (by
    have h1 : (binOp .eql t (.slice A m c) (.slice none 0 0)).run P w = .ok (.bool A.isNone) w := by
      simp only [binOp]
      simp [Op.equal, Op.maxDepth, run_eqlNil w 9999 t e A m c ht]
    simp only [execOp, ho, hs.eval hx, hs.eval hy, eqGuard_at_slice, Sem.run_bind, Sem.run_pure, Result.andThen_ok, h1])
theorem run_eqlNilP (w : World) (d : Nat) (t e : TypeId) (a : Option Addr) (h : P.underlying t = some (.pointer e)) : (Op.equalIn (d + 1) t (.pointer a) (.pointer none)).run P w = .ok a.isNone w := by
  cases a <;> simp [Op.equalIn, run_underlying h]
end
end Hr
end Go.Proofs.YtgphmbipakdggaaR
