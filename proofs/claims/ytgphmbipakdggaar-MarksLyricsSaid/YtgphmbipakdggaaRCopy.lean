/- Cells copied into an owned row. Nothing here speaks of one program. -/
import Derived.Test.YtgphmbipakdggaaRPtr
set_option linter.unusedSimpArgs false
set_option linter.unusedVariables false
namespace Go.Proofs.YtgphmbipakdggaaR
namespace Hr
open Go Go.RowKit

theorem cutA_zero (A : Option Addr) (c size : Nat) : cutA A 0 c size = A := by
  have e1 : (fun a : Addr => a.add (0 * size)) = id := by funext a; rw [Nat.zero_mul]; exact Addr.add_zero' a
  unfold cutA
  split
  · rfl
  · rw [e1]; simp
section
variable {P : Program} {X : Nat → Prop} {W : World} {n : Nat} {env : List (Nat × Value)} {mem : List Res} {S : St} {o : Oper} {d : Tmp} {t t' e : TypeId} {x y : Operand}
/-- From place i on an owned row is copied into. -/
theorem h_copy {A D A' : Option Addr} {m c i size d' dc m' c' q : Nat} {ls ls' : List (List Value)} {l : List Res} (ho : o.op = .call { callee := .builtin .copy, args := #[x, y], argTypes := #[t, t'] }) (hd : o.dst = some d) (hdn : Nat.blt d n = true)
    (ht : P.underlying t = some (.slice e)) (hsz : Sz P e size) (hx : ev env x = some (.slice D d' dc)) (hD : D = cutA A i c size) (hdl : d' = m - i) (him : i < m) (hs : Sel mem (.own e size A m c ls) l)
    (hy : ev env y = some (.slice A' m' c')) (hr : RdS X W ⟨env, mem⟩ A' size ls') (hl' : ls'.length = m') (hz' : ∀ z ∈ ls', z.length = size) (h1 : ∀ z ∈ ls', allCells z = true) (hq : q = min m' (m - i)) :
    H1 P X W n ⟨env, mem⟩ o (fun _ : Unit => True) (fun _ => ⟨(d, .int .i64 (q : Int)) :: env, .own e size A m c (ls.take i ++ ls'.take q ++ ls.drop (i + q)) :: l⟩) := by
  intro a w hsat k Q hk
  subst hdl; subst hD
  have hh := hs.holds hsat.mem
  have hlen := hh.2.1
  have hz := hh.2.2
  obtain ⟨g, cur, rfl, hg, h3, h4, h5, h6⟩ := own_block hh (by omega)
  have hci : c ≠ i := by omega
  have hcut : cutA (some ⟨g, 0, none⟩) i c size = some ⟨g, i * size, none⟩ := by simp [cutA, hci, Addr.add_lit]
  rw [hcut] at hx
  have hzt : ∀ z ∈ ls'.take q, z.length = size := fun z hzm => hz' z (List.mem_of_mem_take hzm)
  have hvl : (ls'.take q).flatten.length = q * size := by
    rw [flatten_length (size := size) _ hzt, List.length_take]; congr 1; omega
  have hone : allCells (ls'.take q).flatten = true := by
    have : ∀ (us : List (List Value)), (∀ z ∈ us, allCells z = true) → allCells us.flatten = true := by
      intro us
      induction us with
      | nil => intro _; rfl
      | cons u us ih => intro hu; rw [List.flatten_cons, allCells_append, hu u (by simp), ih (fun z hz => hu z (by simp [hz]))]; rfl
    exact this _ fun z hzm => h1 z (List.mem_of_mem_take hzm)
  have hsum : i * size + q * size ≤ m * size := by rw [← Nat.add_mul]; exact Nat.mul_le_mul_right _ (by omega)
  have hms : m * size ≤ c * size := Nat.mul_le_mul_right _ h3
  have hst := run_storeCells_at P g (i * size) e (ls'.take q).flatten 0 cur w hg (by rw [hvl]; omega) (allCells_one hone)
  have hq' : Nat.min m' (m - i) = q := hq.symm
  have hfirst : (Builtin.firstCells size q (.slice A' m' c')).run P w = .ok (ls'.take q).flatten.toArray w := by
    rcases A' with _ | ad
    · have hnil : ls' = [] := by
        rcases hr w hsat.kept hsat.mem with h | ⟨ad, h, _⟩
        · exact h
        · cases h
      subst hnil
      simp [Builtin.firstCells]
    · have hc := run_loadCells_list (P := P) w ad (ls'.take q).flatten (by
        intro j v hj
        rcases hr w hsat.kept hsat.mem with h | ⟨ad', h, hc⟩
        · subst h; simp at hj
        · simp only [Option.some.injEq] at h
          subst h
          have hjl : j < (ls'.take q).length * size := by rw [← flatten_length _ hzt]; exact (List.getElem?_eq_some_iff.1 hj).1
          have hsp : 0 < size := by
            rcases Nat.eq_zero_or_pos size with h0 | h0
            · rw [h0] at hjl; omega
            · exact h0
          have hqq : j / size < (ls'.take q).length := Nat.div_lt_of_lt_mul (by rw [Nat.mul_comm]; exact hjl)
          have hr' : j % size < ((ls'.take q)[j / size]).length := by rw [hzt _ (List.getElem_mem hqq)]; exact Nat.mod_lt _ hsp
          have h2 := flatten_get (ls'.take q) size hzt (j / size) _ (List.getElem?_eq_getElem hqq) (j % size) _ (List.getElem?_eq_getElem hr')
          have e : j / size * size + j % size = j := by rw [Nat.mul_comm]; exact Nat.div_add_mod _ _
          rw [e] at h2
          rw [hj] at h2
          have hql : j / size < ls'.length := by rw [List.length_take] at hqq; omega
          have eg : (ls'.take q)[j / size] = ls'[j / size] := by rw [List.getElem_take]
          have h3 := hc (j / size) ls'[j / size] (List.getElem?_eq_getElem hql) (j % size) _ (List.getElem?_eq_getElem (by rw [← eg]; exact hr'))
          rw [e] at h3
          rw [h3, h2]
          simp only [eg])
      rw [hvl] at hc
      simpa [Builtin.firstCells] using hc
  have hrun : (execOp a.eval o).run P w = .ok (.value (.int .i64 (q : Int))) (w.setRow g (cur.toList.take (i * size) ++ (ls'.take q).flatten ++ cur.toList.drop (i * size + (ls'.take q).flatten.length)).toArray) := by
    simp [execOp, ho, resolve, invoke, builtin, hsat.eval hx, hsat.eval hy, Builtin.copy_, run_underlying ht, Builtin.lenOf, hq', hsz.run, hfirst, hst, goInt]
  refine upon_value hrun ?_
  rw [hd]
  refine hk () _ _ trivial ?_
  have hw := own_write (e := e) (o' := i * size) (ls := ls) (ls' := ls.take i ++ ls'.take q ++ ls.drop (i + q)) (vs := (ls'.take q).flatten) hg h3 h4 h5 h6 (by rw [hvl]; omega) (by simp; omega) (fun z hzm => by
    rcases List.mem_append.1 hzm with h | h
    · rcases List.mem_append.1 h with h | h
      · exact hz z (List.mem_of_mem_take h)
      · exact hzt z h
    · exact hz z (List.mem_of_mem_drop h)) (by
      have e2 : ls.flatten.drop (i * size + q * size) = (ls.drop (i + q)).flatten := by
        have h8 := flatten_take ls size (i + q) hz
        have h9 : ls.flatten = (ls.take (i + q)).flatten ++ (ls.drop (i + q)).flatten := by rw [← List.flatten_append, List.take_append_drop]
        have h10 : (ls.take (i + q)).flatten.length = i * size + q * size := by
          rw [flatten_length (size := size) _ (fun z hzm => hz z (List.mem_of_mem_take hzm)), List.length_take, ← Nat.add_mul]; congr 1; omega
        rw [h9, ← h10, List.drop_left]
      rw [List.flatten_append, List.flatten_append, flatten_take ls size i hz, hvl, e2])
  have hm : Mem (fun k => k = g) w [.own e size (some ⟨g, 0, none⟩) m c (ls.take i ++ ls'.take q ++ ls.drop (i + q))] _ := Mem.nil.cons hw (fun k hk => .inr (by simpa [Res.at, eq_comm] using hk)) (by simp)
  have := hsat.change (Y := fun k => k = g) (cs := [.own e size (some ⟨g, 0, none⟩) m c ls]) (ls := l) hs.perm setRow_kept (fun k hk => ⟨.own e size (some ⟨g, 0, none⟩) m c ls, by simp, by simp [hk, Res.at]⟩) hm
  exact this.put hdn _
end
end Hr
end Go.Proofs.YtgphmbipakdggaaR
