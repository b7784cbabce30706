/- Strings and bits; cells of an owned row cleared, and copied into. Nothing here speaks of one program. -/
import Derived.Test.YtgphmbipakdggaaRArr
set_option linter.unusedSimpArgs false
set_option linter.unusedVariables false
namespace Go.Proofs.YtgphmbipakdggaaR
namespace Hr
open Go Go.RowKit

section
variable {P : Program} {X : Nat → Prop} {W : World} {n : Nat} {S : St} {o : Oper} {t t' e : TypeId} {x y : Operand} {k : IntKind}
def strEq (a b : ByteArray) : Bool := a.toList == b.toList
theorem q_eqlStr {a b : ByteArray} (ho : o.op = .binOp .eql t x y t') (hx : ev S.env x = some (.string a)) (hy : ev S.env y = some (.string b)) : Q1 P X W n S o (.bool (strEq a b)) :=
  fun _ w hs => .inl (by simp [execOp, ho, hs.eval hx, hs.eval hy, binOp, Op.stringOp, strEq, eqGuard_at_string])
theorem q_neqStr {a b : ByteArray} (ho : o.op = .binOp .neq t x y t') (hx : ev S.env x = some (.string a)) (hy : ev S.env y = some (.string b)) : Q1 P X W n S o (.bool (!strEq a b)) :=
  fun _ w hs => .inl (by simp [execOp, ho, hs.eval hx, hs.eval hy, binOp, Op.stringOp, strEq, eqGuard_at_string])
theorem q_indexStr {s : ByteArray} {i : Int} {q : Nat} {b : UInt8} (ho : o.op = .index t x y) (ht : P.underlying t = some .string) (hx : ev S.env x = some (.string s)) (hy : ev S.env y = some (.int k i)) (hi : i = (q : Int)) (hb : s[q]? = some b) : Q1 P X W n S o (.int .u8 b.toNat) :=
  fun _ w hs => .inl (by
    subst hi
    simp [execOp, ho, hs.eval hx, hs.eval hy, Instr.index, asIntOf, run_underlying ht, hb])
/-- s[:h]. -/
theorem q_sliceStrH {s : ByteArray} {h : Int} (ho : o.op = .slice t x none (some y) none) (ht : P.underlying t = some .string) (hx : ev S.env x = some (.string s)) (hy : ev S.env y = some (.int k h)) (hh : 0 ≤ h ∧ h ≤ s.size) :
    Q1 P X W n S o (.string (s.extract 0 h.toNat)) := fun _ w hs => .inl (by
  simp [execOp, ho, hs.eval hx, hs.eval hy, Instr.sliceAt, Instr.slice, run_underlying ht, Instr.sliceBounds, Instr.sliceBound, asIntOf, hh.1, hh.2])
/-- A shift to the right of a number that is not negative. -/
theorem q_shr {i j : Int} {k' : IntKind} (ho : o.op = .binOp .shr t x y t') (hx : ev S.env x = some (.int k i)) (hy : ev S.env y = some (.int k' j)) (hj : 0 ≤ j) : Q1 P X W n S o (.int k (i.fdiv (2 ^ (min j.toNat k.bits)))) :=
  fun _ w hs => .inl (by
    have h0 : ¬ j < 0 := by omega
    simp [execOp, ho, hs.eval hx, hs.eval hy, binOp, Op.shift, h0, eqGuard_at_int])
theorem q_shl {i j : Int} {k' : IntKind} (ho : o.op = .binOp .shl t x y t') (hx : ev S.env x = some (.int k i)) (hy : ev S.env y = some (.int k' j)) (hj : 0 ≤ j) : Q1 P X W n S o (.int k (k.wrap (i * 2 ^ (min j.toNat k.bits)))) :=
  fun _ w hs => .inl (by
    have h0 : ¬ j < 0 := by omega
    simp [execOp, ho, hs.eval hx, hs.eval hy, binOp, Op.shift, h0, eqGuard_at_int])
def andV (k : IntKind) (i j : Int) : Int := k.wrap ((BitVec.ofInt k.bits i &&& BitVec.ofInt k.bits j).toNat : Int)
theorem q_and {i j : Int} (ho : o.op = .binOp .and t x y t') (hx : ev S.env x = some (.int k i)) (hy : ev S.env y = some (.int k j)) : Q1 P X W n S o (.int k (andV k i j)) :=
  fun _ w hs => .inl (by simp [execOp, ho, hs.eval hx, hs.eval hy, binOp, Op.intBits, andV, eqGuard_at_int])
end

theorem zeroCells_list (z : Array Value) (n : Nat) : (Builtin.zeroCells z n).toList = (List.replicate n z.toList).flatten := by
  have hf := flatten_length (size := z.size) (List.replicate n z.toList) (fun x hx => by rw [List.eq_of_mem_replicate hx]; simp)
  rw [List.length_replicate] at hf
  apply List.ext_getElem?
  intro j
  rcases Nat.lt_or_ge j (n * z.size) with h | h
  · have hz : 0 < z.size := by
      rcases Nat.eq_zero_or_pos z.size with h0 | h0
      · rw [h0] at h; omega
      · exact h0
    have hq : j / z.size < n := Nat.div_lt_of_lt_mul (by rw [Nat.mul_comm]; exact h)
    have hr : j % z.size < z.toList.length := by simpa using Nat.mod_lt _ hz
    have h2 := flatten_get (List.replicate n z.toList) z.size (fun x hx => by rw [List.eq_of_mem_replicate hx]; simp) (j / z.size) z.toList (by simp [hq]) (j % z.size) _ (List.getElem?_eq_getElem hr)
    have e : j / z.size * z.size + j % z.size = j := by rw [Nat.mul_comm]; exact Nat.div_add_mod _ _
    rw [e] at h2
    rw [h2]
    simp only [Builtin.zeroCells, Array.toList_map, Array.toList_range, List.getElem?_map, List.getElem?_range h, Option.map_some]
    have hr' : j % z.size < z.size := Nat.mod_lt _ hz
    simp [hr']
  · rw [List.getElem?_eq_none (by simpa [Builtin.zeroCells] using h), List.getElem?_eq_none (by omega)]

theorem allCells_append : ∀ (a b : List Value), allCells (a ++ b) = (allCells a && allCells b)
  | [], b => by simp [allCells]
  | v :: a, b => by cases v <;> simp [allCells, allCells_append a b]
theorem allCells_rep {zs : List Value} (h : allCells zs = true) : ∀ n, allCells (List.replicate n zs).flatten = true
  | 0 => rfl
  | n + 1 => by rw [List.replicate_succ, List.flatten_cons, allCells_append, h, allCells_rep h n]; rfl
section
variable {P : Program} {X : Nat → Prop} {W : World} {n : Nat} {env : List (Nat × Value)} {mem : List Res} {S : St} {o : Oper} {d : Tmp} {t t' e : TypeId} {x y : Operand}
/-- The end of an owned row is cleared. -/
theorem h_clear {A : Option Addr} {m c i size bytes d' : Nat} {ls : List (List Value)} {l : List Res} {zs : List Value} (ho : o.op = .call { callee := .builtin .clear, args := #[x], argTypes := #[t] }) (hd : o.dst = none)
    (ht : P.underlying t = some (.slice e)) (hi : Info P e zs size bytes) (hzs : zs.length = size) (h1 : allCells zs = true) (hx : ev env x = some (.slice (cutA A i c size) d' (c - i))) (hdl : d' = m - i) (him : i ≤ m) (hs : Sel mem (.own e size A m c ls) l) :
    H1 P X W n ⟨env, mem⟩ o (fun _ : Unit => True) (fun _ => ⟨env, .own e size A m c (ls.take i ++ List.replicate (m - i) zs) :: l⟩) := by
  intro a w hsat k Q hk
  subst hdl
  have hh := hs.holds hsat.mem
  have hlen := hh.2.1
  have hz := hh.2.2
  obtain ⟨iz, z, hi1, hi2, hi3, hi4, hi5⟩ := hi
  rcases Nat.eq_zero_or_pos (m - i) with h0 | h0
  · have hrun : (execOp a.eval o).run P w = .ok (.value (.tuple #[])) w := by
      rw [h0] at hx
      rcases hA : cutA A i c size with _ | ad
      · rw [hA] at hx
        simp [execOp, ho, resolve, invoke, builtin, hsat.eval hx, Builtin.clear_, run_underlying ht]
      · rw [hA] at hx
        simp [execOp, ho, resolve, invoke, builtin, hsat.eval hx, Builtin.clear_, run_underlying ht]
    refine upon_value hrun ?_
    rw [hd]
    refine hk () _ _ trivial ?_
    have e1 : ls.take i ++ List.replicate (m - i) zs = ls := by rw [h0, List.replicate_zero, List.append_nil, List.take_of_length_le (by omega)]
    rw [e1]
    exact hsat.withMem hsat.kept (hsat.mem.perm hs.perm)
  · obtain ⟨g, cur, rfl, hg, h3, h4, h5, h6⟩ := own_block hh (by omega)
    have hci : c ≠ i := by omega
    have hcut : cutA (some ⟨g, 0, none⟩) i c size = some ⟨g, i * size, none⟩ := by
      simp [cutA, hci, Addr.add_lit]
    have hvs : (Builtin.zeroCells z.cells (m - i)).toList = (List.replicate (m - i) zs).flatten := by rw [zeroCells_list, hi3]
    have hvl : (List.replicate (m - i) zs).flatten.length = (m - i) * size := by
      rw [flatten_length (size := size) _ (fun q hq => by rw [List.eq_of_mem_replicate hq]; exact hzs), List.length_replicate]
    have hone : allCells (List.replicate (m - i) zs).flatten = true := by
      exact allCells_rep h1 _
    have hsum : i * size + (m - i) * size = m * size := by rw [← Nat.add_mul]; congr 1; omega
    have hms : m * size ≤ c * size := Nat.mul_le_mul_right _ h3
    have hst := run_storeCells_at P g (i * size) e (List.replicate (m - i) zs).flatten 0 cur w hg (by rw [hvl]; omega) (allCells_one hone)
    have hrun : (execOp a.eval o).run P w = .ok (.value (.tuple #[])) (w.setRow g (cur.toList.take (i * size) ++ (List.replicate (m - i) zs).flatten ++ cur.toList.drop (i * size + (List.replicate (m - i) zs).flatten.length)).toArray) := by
      rw [hcut] at hx
      obtain ⟨q, hq⟩ : ∃ q, m - i = q + 1 := ⟨m - i - 1, by omega⟩
      rw [← hvs] at hst ⊢
      rw [hq] at hx hst ⊢
      simp [execOp, ho, resolve, invoke, builtin, hsat.eval hx, Builtin.clear_, run_underlying ht, zeroValue, typeInfo, hi1, hi2, hst]
    refine upon_value hrun ?_
    rw [hd]
    refine hk () _ _ trivial ?_
    have hw := own_write (e := e) (o' := i * size) (ls := ls) (ls' := ls.take i ++ List.replicate (m - i) zs) (vs := (List.replicate (m - i) zs).flatten) hg h3 h4 h5 h6 (by rw [hvl]; omega) (by simp; omega) (fun q hq => by
      rcases List.mem_append.1 hq with h | h
      · exact hz q (List.mem_of_mem_take h)
      · rw [List.eq_of_mem_replicate h]; exact hzs) (by
        rw [List.flatten_append, flatten_take ls size i hz, List.drop_eq_nil_of_le (by rw [hvl, flatten_length ls hz, hlen]; omega), List.append_nil])
    have hm : Mem (fun k => k = g) w [.own e size (some ⟨g, 0, none⟩) m c (ls.take i ++ List.replicate (m - i) zs)] _ := Mem.nil.cons hw (fun k hk => .inr (by simpa [Res.at, eq_comm] using hk)) (by simp)
    have := hsat.change (Y := fun k => k = g) (cs := [.own e size (some ⟨g, 0, none⟩) m c ls]) (ls := l) hs.perm setRow_kept (fun k hk => ⟨.own e size (some ⟨g, 0, none⟩) m c ls, by simp, by simp [hk, Res.at]⟩) hm
    exact this
end
end Hr
end Go.Proofs.YtgphmbipakdggaaR
