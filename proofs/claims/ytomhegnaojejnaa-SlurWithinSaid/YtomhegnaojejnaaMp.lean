/- Maps that a function itself makes, whose keys are numbers. -/
import Derived.Test.YtomhegnaojejnaaMore
import Derived.MapKept
set_option linter.unusedSimpArgs false
set_option linter.unusedVariables false
namespace Go.Proofs.Ytomhegnaojejnaa
namespace Hr
open Go Go.RowKit

/-- A map's entries. -/
def Res.map (b : Nat) (es : List MapEntry) (ck : Nat) : Res :=
  .any (fun k => b = k) (fun w => w.heap[b]? = some (.map es.toArray ck)) (fun w h k hk => by subst hk; exact lt_of_heap h) (fun w w' h hk => (hk b rfl).trans h)

section
variable {P : Program} {X : Nat → Prop} {W : World} {n : Nat} {S : St} {env : List (Nat × Value)} {mem : List Res} {o : Oper} {a : Act} {w : World} {d : Tmp} {x y z : Operand} {t kt et : TypeId}
theorem h_makeMap (ho : o.op = .makeMap t none) (hd : o.dst = some d) (hdn : Nat.blt d n = true) : H1 P X W n ⟨env, mem⟩ o (fun _ : Nat => True) (fun b => ⟨(d, .map (some b)) :: env, Res.map b [] 0 :: mem⟩) := by
  intro a w hs k Q hk
  have hrun : (execOp a.eval o).run P w = .ok (.value (.map (some w.heap.size))) (w.alloc (.map #[] 0)) := by
    simp [execOp, ho, Instr.makeMap]
  refine upon_value hrun ?_
  rw [hd]
  exact hk w.heap.size _ _ trivial ((hs.new (Obj.map #[] 0) (Res.map w.heap.size [] 0) (MapKept.heap_alloc w _).1 (fun _ h => Eq.symm h)).put hdn _)
theorem h_makeMapR {r : Operand} {k' : IntKind} {i : Int} (ho : o.op = .makeMap t (some r)) (hd : o.dst = some d) (hdn : Nat.blt d n = true) (ht : P.underlying t = some (.map kt et)) (hr : ev env r = some (.int k' i)) : H1 P X W n ⟨env, mem⟩ o (fun _ : Nat => True) (fun b => ⟨(d, .map (some b)) :: env, Res.map b [] 0 :: mem⟩) := by
  intro a w hs k Q hk
  have hrun : (execOp a.eval o).run P w = .ok (.value (.map (some w.heap.size))) (w.alloc (.map #[] 0)) := by
    simp [execOp, ho, Instr.makeMap, run_underlying ht, hs.eval hr, asInt, asIntOf]
  refine upon_value hrun ?_
  rw [hd]
  exact hk w.heap.size _ _ trivial ((hs.new (Obj.map #[] 0) (Res.map w.heap.size [] 0) (MapKept.heap_alloc w _).1 (fun _ h => Eq.symm h)).put hdn _)
theorem run_check_int {q : IntKind} {i : Int} (hk : P.underlying kt = some (.int q)) (e : Bool) : (Instr.checkKey e 10000 kt (.int q i)).run P w = .ok () w := by
  exact MapKept.run_checkKey (d := .int q) hk (by simp [MapKept.IsKey]) e 9999
theorem run_find_int {q : IntKind} {i : Int} {es : List MapEntry} {r : Option (Nat × Value)} (hk : P.underlying kt = some (.int q)) (h : Instr.findNow (.int q) (.int q i) es 0 = some r) : (Instr.findKey kt (.int q i) es).run P w = .ok r w := by
  exact MapKept.run_findKey hk h
/-- A new key. -/
theorem h_mapUpdate {b ck : Nat} {es : List MapEntry} {l : List Res} {i : Int} {q : IntKind} {v : Value} (ho : o.op = .mapUpdate t x y z) (hd : o.dst = none) (ht : P.underlying t = some (.map kt et)) (hkt : P.underlying kt = some (.int q)) (hx : ev env x = some (.map (some b))) (hy : ev env y = some (.int q i)) (hz : ev env z = some v)
    (hs : Sel mem (Res.map b es ck) l) (hf : Instr.findNow (.int q) (.int q i) es 0 = some none) :
    H1 P X W n ⟨env, mem⟩ o (fun _ : Unit => True) (fun _ => ⟨env, Res.map b (es ++ [MapEntry.mk (.int q i) v ck]) (ck + 1) :: l⟩) := by
  intro a w hsat k Q hk
  have hh : w.heap[b]? = some (.map es.toArray ck) := hs.holds hsat.mem
  have hlt := lt_of_heap hh
  have hrun : (execOp a.eval o).run P w = .ok .skip { w with heap := w.heap.setIfInBounds b (.map (es ++ [MapEntry.mk (.int q i) v ck]).toArray (ck + 1)) } := by
    simp [execOp, ho, hsat.eval hx, hsat.eval hy, hsat.eval hz, Instr.mapUpdate, run_underlying ht, MapKept.run_getObj_map hh, run_check_int hkt, run_find_int hkt hf, MapKept.run_setObj_map _ hh, Result.andThen]
  refine upon_skip hrun ?_
  rw [hd]
  refine hk () _ _ trivial ?_
  have hkp : Kept (fun k => k = b) w { w with heap := w.heap.setIfInBounds b (.map (es ++ [MapEntry.mk (.int q i) v ck]).toArray (ck + 1)) } :=
    ⟨rfl, rfl, rfl, by simp, fun k _ hx => by simp [Array.getElem?_setIfInBounds, show ¬ b = k from fun e => hx e.symm]⟩
  have hw : (Res.map b (es ++ [MapEntry.mk (.int q i) v ck]) (ck + 1)).holds { w with heap := w.heap.setIfInBounds b (.map (es ++ [MapEntry.mk (.int q i) v ck]).toArray (ck + 1)) } := by
    show (w.heap.setIfInBounds b (.map (es ++ [MapEntry.mk (.int q i) v ck]).toArray (ck + 1)))[b]? = some (.map (es ++ [MapEntry.mk (.int q i) v ck]).toArray (ck + 1))
    simp [Array.getElem?_setIfInBounds, hlt]
  have hm : Mem (fun k => k = b) w [Res.map b (es ++ [MapEntry.mk (.int q i) v ck]) (ck + 1)] _ := Mem.nil.cons hw (fun k hk => .inr (Eq.symm hk)) (by simp)
  exact hsat.change (Y := fun k => k = b) (cs := [Res.map b es ck]) (ls := l) hs.perm hkp (fun k hk => ⟨Res.map b es ck, by simp, hk.symm⟩) hm
theorem h_insert {b ck : Nat} {es : List MapEntry} {l : List Res} {i : Int} {q : IntKind} {v : Value} (ho : o.op = .insert t x y z) (hd : o.dst = none) (ht : P.underlying t = some (.map kt et)) (hkt : P.underlying kt = some (.int q)) (hx : ev env x = some (.map (some b))) (hy : ev env y = some (.int q i)) (hz : ev env z = some v)
    (hs : Sel mem (Res.map b es ck) l) (hf : Instr.findNow (.int q) (.int q i) es 0 = some none) :
    H1 P X W n ⟨env, mem⟩ o (fun _ : Unit => True) (fun _ => ⟨env, Res.map b (es ++ [MapEntry.mk (.int q i) v ck]) (ck + 1) :: l⟩) := by
  intro a w hsat k Q hk
  have hh : w.heap[b]? = some (.map es.toArray ck) := hs.holds hsat.mem
  have hlt := lt_of_heap hh
  have hrun : (execOp a.eval o).run P w = .ok .skip { w with heap := w.heap.setIfInBounds b (.map (es ++ [MapEntry.mk (.int q i) v ck]).toArray (ck + 1)) } := by
    simp [execOp, ho, hsat.eval hx, hsat.eval hy, hsat.eval hz, Instr.mapUpdate, run_underlying ht, MapKept.run_getObj_map hh, run_check_int hkt, run_find_int hkt hf, MapKept.run_setObj_map _ hh, Result.andThen]
  refine upon_skip hrun ?_
  rw [hd]
  refine hk () _ _ trivial ?_
  have hkp : Kept (fun k => k = b) w { w with heap := w.heap.setIfInBounds b (.map (es ++ [MapEntry.mk (.int q i) v ck]).toArray (ck + 1)) } :=
    ⟨rfl, rfl, rfl, by simp, fun k _ hx => by simp [Array.getElem?_setIfInBounds, show ¬ b = k from fun e => hx e.symm]⟩
  have hw : (Res.map b (es ++ [MapEntry.mk (.int q i) v ck]) (ck + 1)).holds { w with heap := w.heap.setIfInBounds b (.map (es ++ [MapEntry.mk (.int q i) v ck]).toArray (ck + 1)) } := by
    show (w.heap.setIfInBounds b (.map (es ++ [MapEntry.mk (.int q i) v ck]).toArray (ck + 1)))[b]? = some (.map (es ++ [MapEntry.mk (.int q i) v ck]).toArray (ck + 1))
    simp [Array.getElem?_setIfInBounds, hlt]
  have hm : Mem (fun k => k = b) w [Res.map b (es ++ [MapEntry.mk (.int q i) v ck]) (ck + 1)] _ := Mem.nil.cons hw (fun k hk => .inr (Eq.symm hk)) (by simp)
  exact hsat.change (Y := fun k => k = b) (cs := [Res.map b es ck]) (ls := l) hs.perm hkp (fun k hk => ⟨Res.map b es ck, by simp, hk.symm⟩) hm
/-- The value of a key that is there. -/
theorem q_lookup {b ck j : Nat} {es : List MapEntry} {l : List Res} {i : Int} {q : IntKind} {v : Value} (ho : o.op = .lookup t x y false) (ht : P.underlying t = some (.map kt et)) (hkt : P.underlying kt = some (.int q)) (hx : ev S.env x = some (.map (some b))) (hy : ev S.env y = some (.int q i))
    (hs : Sel S.mem (Res.map b es ck) l) (hf : Instr.findNow (.int q) (.int q i) es 0 = some (some (j, v))) : Q1 P X W n S o v :=
  fun a w hsat => .inl (by
    have hh : w.heap[b]? = some (.map es.toArray ck) := hs.holds hsat.mem
    simp [execOp, ho, hsat.eval hx, hsat.eval hy, Instr.lookup, run_underlying ht, MapKept.run_getObj_map hh, run_check_int hkt, run_find_int hkt hf, Result.andThen])
end
end Hr
end Go.Proofs.Ytomhegnaojejnaa
