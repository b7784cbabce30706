/- Pointers: compared with nil; a field of a field, a field of several cells; a slice of structs made. Nothing here speaks of one program. -/
import Derived.Test.YtgphmbipakdggaaRStr
set_option linter.unusedSimpArgs false
set_option linter.unusedVariables false
namespace Go.Proofs.YtgphmbipakdggaaR
namespace Hr
open Go Go.RowKit

section
variable {P : Program} {X : Nat → Prop} {W : World} {n : Nat} {S : St} {env : List (Nat × Value)} {mem : List Res} {o : Oper} {t t' e : TypeId} {x y : Operand} {d : Tmp}
theorem q_eqlPtr {p : Option Addr} (ho : o.op = .binOp .eql t x y t') (hx : ev S.env x = some (.pointer p)) (hy : ev S.env y = some (.pointer none)) (ht : P.underlying t = some (.pointer e)) : Q1 P X W n S o (.bool p.isNone) :=
  fun _ w hs => .inl (by
    have h1 : (binOp .eql t (.pointer p) (.pointer none)).run P w = .ok (.bool p.isNone) w := by
      simp only [binOp]
      simp [Op.equal, Op.maxDepth, run_eqlNilP w 9999 t e p ht]
    simp only [execOp, ho, hs.eval hx, hs.eval hy, eqGuard_at_pointer, Sem.run_bind, Sem.run_pure, Result.andThen_ok, h1])
theorem q_neqPtr {p : Option Addr} (ho : o.op = .binOp .neq t x y t') (hx : ev S.env x = some (.pointer p)) (hy : ev S.env y = some (.pointer none)) (ht : P.underlying t = some (.pointer e)) : Q1 P X W n S o (.bool (!p.isNone)) :=
  fun _ w hs => .inl (by
    have h1 : (binOp .neq t (.pointer p) (.pointer none)).run P w = .ok (.bool (!p.isNone)) w := by
      simp only [binOp]
      simp [Op.equal, Op.maxDepth, run_eqlNilP w 9999 t e p ht]
    simp only [execOp, ho, hs.eval hx, hs.eval hy, eqGuard_at_pointer, Sem.run_bind, Sem.run_pure, Result.andThen_ok, h1])
/-- A field of a field. -/
theorem q_fieldF {a : Addr} {f d1 d2 : Nat} {fs : Array Field} {fd : Field} {s : Nat} (ho : o.op = .fieldAddr t x f) (ht : P.underlying t = some (.struct fs)) (hx : ev S.env x = some (.pointer (some (a.add d1)))) (hf : fs[f]? = some fd) (hsz : Sz P fd.type (s + 1)) (hd : d1 + fd.offset = d2) :
    Q1 P X W n S o (.pointer (some (a.add d2))) :=
  fun _ w hs => .inl (by simp [execOp, ho, hs.eval hx, Instr.fieldAt, run_underlying ht, hf, Instr.sureAddr, fieldPlace, hsz.run, add_add', hd])
/-- A field of several cells, of an element of a slice. -/
theorem q_loadFN {A : Option Addr} {ls : List (List Value)} {q d s size : Nat} {cs vs : List Value} (ho : o.op = .load t x) (ht : Agg P t s) (hx : ev S.env x = some (.pointer (some (((adr A).add (q * size)).add d)))) (hr : RdS X W S A size ls) (hq : ls[q]? = some cs) (hv : (cs.drop d).take s = vs) (hl : vs.length = s) : Q1 P X W n S o (.agg vs.toArray) :=
  q_loadN ho (by rw [hl]; exact ht) hx fun w hk hm j v hj => by
    rcases hr w hk hm with h | ⟨ad, rfl, h⟩
    · subst h; simp at hq
    · rw [add_add', add_add']
      subst hv
      rw [List.getElem?_take] at hj
      split at hj
      · rw [List.getElem?_drop] at hj
        exact h q cs hq (d + j) v hj
      · cases hj
/-- A slice of any elements made. -/
theorem h_makeN {m cap size bytes : Nat} {kl kc : IntKind} {zs : List Value} (ho : o.op = .makeSlice t x y) (hd : o.dst = some d) (hdn : Nat.blt d n = true) (ht : P.underlying t = some (.slice e)) (hi : Info P e zs (size + 1) bytes) (hzs : zs.length = size + 1) (hx : ev env x = some (.int kl m)) (hy : ev env y = some (.int kc cap)) (hmc : m ≤ cap)
    (hb : bytes * cap ≤ 281474976710656) (h63 : cap ≤ 9223372036854775807) :
    H1 P X W n ⟨env, mem⟩ o (fun _ : Nat => True) (fun b => ⟨(d, .slice (some ⟨b, 0, none⟩) m cap) :: env, .own e (size + 1) (some ⟨b, 0, none⟩) m cap (List.replicate m zs) :: mem⟩) := by
  intro a w hs k Q hk
  obtain ⟨i, z', hi1, hi2, hi3, hi4, hi5⟩ := hi
  have hzc : z'.cells.size = size + 1 := by rw [← hzs, ← hi3, Array.length_toList]
  have hb' : (i.bytes : Int) * (cap : Int) ≤ 281474976710656 := by
    rw [hi5]
    have h : ((bytes * cap : Nat) : Int) ≤ 281474976710656 := by omega
    rwa [Int.natCast_mul] at h
  have hr := run_make (P := P) w t e i z' ht hi1 hi2 kl kc m cap (by omega) (by omega) hb' (by omega)
  simp only [Int.toNat_natCast, hi4] at hr
  have hrun : (execOp a.eval o).run P w = .ok (.value (.slice (some ⟨w.heap.size, 0, none⟩) m cap)) (w.alloc (.cells (madeCells z'.cells (cap * (size + 1))) e)) := by
    simp [execOp, ho, hs.eval hx, hs.eval hy, hr]
  refine upon_value hrun ?_
  rw [hd]
  have hcells : (madeCells z'.cells (cap * (size + 1))).toList = (List.replicate cap zs).flatten := by
    have := zeroCells_list z'.cells cap
    rw [hi3] at this
    rw [← this, ← hzc]; rfl
  have hlen : ∀ z ∈ List.replicate m zs, z.length = size + 1 := fun z hz => by rw [List.eq_of_mem_replicate hz]; exact hzs
  refine hk w.heap.size _ _ trivial (Sat.put (hs.new _ (.own e (size + 1) (some ⟨w.heap.size, 0, none⟩) m cap (List.replicate m zs)) ⟨⟨?_, .inr ⟨w.heap.size, cap, _, rfl, Nat.zero_le _, heap_alloc_new w _, hmc, by simpa [maxLen] using h63, by simp [size_madeCells], ?_⟩⟩, by simp, hlen⟩ (fun _ h => (Option.some.inj h).symm)) hdn _)
  · rw [flatten_length (size := size + 1) _ hlen]; simp
  · rw [hcells, ← flatten_take _ _ _ (fun z hz => by rw [List.eq_of_mem_replicate hz]; exact hzs), List.take_replicate, Nat.min_eq_left hmc]
theorem rd_blk1 {w : World} {b : Nat} {t : TypeId} {v : Value} (h : (Res.blk b t [(0, v)]).holds w) : Rd w (some ⟨b, 0, none⟩) 1 [[v]] :=
  rd_blk h fun i u hu => by
    cases i with
    | zero => simpa [fnd] using hu
    | succ i => simp at hu
end
end Hr
end Go.Proofs.YtgphmbipakdggaaR
