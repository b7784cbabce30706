/- A row's own tail appended to a shorter part of it, in place; a slice with three bounds. Nothing of a program. -/
import Derived.Test.YtneadapfoaccmaaPtr
set_option linter.unusedSimpArgs false
set_option linter.unusedVariables false
namespace Go.Proofs.Ytneadapfoaccmaa
namespace Hr
open Go Go.RowKit

theorem flatten_dropK {ls : List (List Value)} {size : Nat} (k : Nat) (hz : ∀ z ∈ ls, z.length = size) (hk : k ≤ ls.length) : ls.flatten.drop (k * size) = (ls.drop k).flatten := by
  have e : ls.flatten = (ls.take k).flatten ++ (ls.drop k).flatten := by rw [← List.flatten_append, List.take_append_drop]
  have hl : (ls.take k).flatten.length = k * size := by
    rw [flatten_length (size := size) _ (fun z h => hz z (List.mem_of_mem_take h)), List.length_take, Nat.min_eq_left hk]
  rw [e, ← hl, List.drop_left]
section
variable {P : Program} {X : Nat → Prop} {W : World} {n : Nat} {env : List (Nat × Value)} {mem : List Res} {S : St} {o : Oper} {d : Tmp} {t t' e : TypeId} {x y : Operand} {A : Option Addr} {m c : Nat} {size : Nat} {k : IntKind}
theorem q_sliceLHM {y z u : Operand} {l h r : Int} {k' k'' : IntKind} (ho : o.op = .slice t x (some y) (some z) (some u)) (ht : P.underlying t = some (.slice e)) (hsz : Sz P e size) (hx : ev S.env x = some (.slice A m c)) (hy : ev S.env y = some (.int k l)) (hz : ev S.env z = some (.int k' h)) (hu : ev S.env u = some (.int k'' r)) (hh : 0 ≤ l ∧ l ≤ h ∧ h ≤ r ∧ r ≤ c) :
    Q1 P X W n S o (.slice (cutA A l.toNat r.toNat size) (h.toNat - l.toNat) (r.toNat - l.toNat)) := fun _ w hs => .inl (by
  have he : P.elem t = e := by simp [Program.elem, ht]
  have ht' : P.underlying t = some (.slice (P.elem t)) := by rw [he]; exact ht
  simp [execOp, ho, hs.eval hx, hs.eval hy, hs.eval hz, hs.eval hu, run_sliceAt_slice w t _ _ _ _ ht', run_slice_lhm w t A m c ht' k k' k'' l h r hh.1 hh.2.1 hh.2.2.1 hh.2.2.2, he, hsz.run, sliced, cutA])

/-- What is read of an owned row's tail. -/
theorem cut_cells {w : World} {A : Option Addr} {c j : Nat} {ls : List (List Value)} {ad : Addr} (hrd : Rd w (some ad) (size + 1) ls) (hz' : ∀ z ∈ ls, z.length = size + 1) : ∀ q u, ls.flatten[q]? = some u → w.cell? (ad.add q) = some u := by
  intro j u hj
  rcases hrd with h | ⟨ad', h, hc⟩
  · subst h; simp at hj
  · simp only [Option.some.injEq] at h
    subst h
    have hjl : j < ls.length * (size + 1) := by rw [← flatten_length ls hz']; exact (List.getElem?_eq_some_iff.1 hj).1
    have hq : j / (size + 1) < ls.length := Nat.div_lt_of_lt_mul (by rw [Nat.mul_comm]; exact hjl)
    have hr' : j % (size + 1) < (ls[j / (size + 1)]).length := by rw [hz' _ (List.getElem_mem hq)]; exact Nat.mod_lt _ (by omega)
    have h2 := flatten_get ls (size + 1) hz' (j / (size + 1)) _ (List.getElem?_eq_getElem hq) (j % (size + 1)) _ (List.getElem?_eq_getElem hr')
    have e : j / (size + 1) * (size + 1) + j % (size + 1) = j := by rw [Nat.mul_comm]; exact Nat.div_add_mod _ _
    rw [e] at h2
    rw [hj] at h2
    have h3 := hc (j / (size + 1)) _ (List.getElem?_eq_getElem hq) (j % (size + 1)) _ (List.getElem?_eq_getElem hr')
    rw [e] at h3
    rw [h3]; exact h2.symm

/-- append(s[:i], s[j:]...): in place. -/
theorem h_appSelf {A : Option Addr} {m c i j i' d' c' size bytes : Nat} {ls : List (List Value)} {l : List Res} {zs : List Value} {D : Option Addr} (ho : o.op = .call { callee := .builtin .append, args := #[x, y], argTypes := #[t, t] }) (hd : o.dst = some d) (hdn : Nat.blt d n = true)
    (ht : P.underlying t = some (.slice e)) (hi : Info P e zs (size + 1) bytes) (hx : ev env x = some (.slice A i c)) (hy : ev env y = some (.slice D d' c')) (hD : D = cutA A j c (size + 1)) (hdl : d' = m - j) (hij : i ≤ j) (hjm : j ≤ m) (hm0 : 0 < m)
    (hs : Sel mem (.own e (size + 1) A m c ls) l) (h1 : ∀ z ∈ ls, allCells z = true) (hi' : i' = i + (m - j)) :
    H1 P X W n ⟨env, mem⟩ o (fun _ : Unit => True) (fun _ => ⟨(d, .slice A i' c) :: env, .own e (size + 1) A m c (ls.take i ++ ls.drop j ++ ls.drop (i + (m - j))) :: l⟩) := by
  intro a w hsat k Q hk
  subst hdl; subst hD; subst hi'
  have hh := hs.holds hsat.mem
  have hlen := hh.2.1
  have hz := hh.2.2
  have hrd := own_rd hh
  have hcut := hrd.cut (l := j) (c := c)
  obtain ⟨iz, z, hi1, hi2, hi3, hi4, hi5⟩ := hi
  obtain ⟨g, cur, rfl, hg, h3, h4, h5, h6⟩ := own_block hh hm0
  have hcut' := hcut (by omega)
  have hzd : ∀ q ∈ ls.drop j, q.length = size + 1 := fun q hq => hz q (List.mem_of_mem_drop hq)
  have hnl : (ls.drop j).flatten.length = (m - j) * (size + 1) := by
    rw [flatten_length (size := size + 1) _ hzd, List.length_drop, hlen]
  obtain ⟨ad, had⟩ : ∃ ad, cutA (some ⟨g, 0, none⟩) j c (size + 1) = some ad := by unfold cutA; split <;> exact ⟨_, rfl⟩
  rw [had] at hcut' hy
  have hnews := cut_cells (A := none) (c := 0) (j := 0) hcut' hzd
  have hone : ∀ u ∈ (ls.drop j).flatten, u.oneCell' = true := by
    intro u hu
    obtain ⟨q, hq, huq⟩ := List.mem_flatten.1 hu
    exact allCells_one (h1 q (List.mem_of_mem_drop hq)) u huq
  have hsum : i * (size + 1) + (m - j) * (size + 1) = (i + (m - j)) * (size + 1) := by rw [← Nat.add_mul]
  have hle : (i + (m - j)) * (size + 1) ≤ m * (size + 1) := Nat.mul_le_mul_right _ (by omega)
  have hms : m * (size + 1) ≤ c * (size + 1) := Nat.mul_le_mul_right _ h3
  have hfc := run_firstCells_some (P := P) w iz.size (m - j) ad (m - j) c' _ (by rw [hnl, hi4]) hnews
  have hst := run_storeCells_at P g (i * iz.size) e (ls.drop j).flatten 0 cur w hg (by rw [hi4, hnl]; omega) hone
  have hroom : i + (m - j) ≤ c := by omega
  have hrun : (execOp a.eval o).run P w = .ok (.value (.slice (some ⟨g, 0, none⟩) (i + (m - j)) c)) (w.setRow g (cur.toList.take (i * (size + 1)) ++ (ls.drop j).flatten ++ cur.toList.drop (i * (size + 1) + (ls.drop j).flatten.length)).toArray) := by
    rw [hi4] at hst hfc
    simp only [Nat.add_zero] at hst
    simp [execOp, ho, resolve, invoke, builtin, hsat.eval hx, hsat.eval hy, Builtin.append_, run_underlying ht, sizeOf, typeInfo, hi1, hi4, Builtin.lenOf, hroom, hfc, Addr.add_lit, hst]
  refine upon_value hrun ?_
  rw [hd]
  refine hk () _ _ trivial ?_
  have hw := own_write (e := e) (o' := i * (size + 1)) (ls := ls) (ls' := ls.take i ++ ls.drop j ++ ls.drop (i + (m - j))) (vs := (ls.drop j).flatten) hg h3 h4 h5 h6 (by rw [hnl]; omega) (by simp; omega) (fun q hq => by
    rcases List.mem_append.1 hq with h | h
    · rcases List.mem_append.1 h with h | h
      · exact hz q (List.mem_of_mem_take h)
      · exact hz q (List.mem_of_mem_drop h)
    · exact hz q (List.mem_of_mem_drop h)) (by
      rw [List.flatten_append, List.flatten_append, flatten_take ls (size + 1) i hz, hnl, hsum, flatten_dropK _ hz (by omega)])
  have hm : Mem (fun k => k = g) w [.own e (size + 1) (some ⟨g, 0, none⟩) m c (ls.take i ++ ls.drop j ++ ls.drop (i + (m - j)))] _ := Mem.nil.cons hw (fun k hk => .inr (by simpa [Res.at, eq_comm] using hk)) (by simp)
  have := hsat.change (Y := fun k => k = g) (cs := [.own e (size + 1) (some ⟨g, 0, none⟩) m c ls]) (ls := l) hs.perm setRow_kept (fun k hk => ⟨.own e (size + 1) (some ⟨g, 0, none⟩) m c ls, by simp, by simp [hk, Res.at]⟩) hm
  exact this.put hdn _
end
end Hr
end Go.Proofs.Ytneadapfoaccmaa
