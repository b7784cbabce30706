/- The rules for single operations. Nothing here speaks of one program. -/
import Derived.Test.YtgphmbipakdggaaRCore
set_option linter.unusedSimpArgs false
set_option linter.unusedVariables false
namespace Go.Proofs.YtgphmbipakdggaaR
namespace Hr
open Go Go.RowKit

def enum : Nat → List Value → List (Nat × Value)
  | _, [] => []
  | i, v :: r => (i, v) :: enum (i + 1) r

def vlist : Value → List Value
  | .agg c => c.toList
  | .tuple _ => []
  | v => [v]

theorem vlist_cells (v : Value) (h : ∀ c, v ≠ .tuple c) : v.cells.toList = vlist v := by
  cases v <;> first | rfl | exact absurd rfl (h _)

theorem fnd_enum : ∀ (l : List Value) (i k : Nat) (v : Value), fnd (enum i l) k = some v → i ≤ k ∧ l[k - i]? = some v
  | [], i, k, v, h => by simp [enum, fnd] at h
  | x :: l, i, k, v, h => by
    by_cases e : i = k
    · subst e
      simp only [enum] at h
      rw [fnd_cons_self] at h
      simpa using h
    · simp only [enum] at h
      rw [fnd_cons_ne e] at h
      obtain ⟨h1, h2⟩ := fnd_enum l (i + 1) k v h
      refine ⟨by omega, ?_⟩
      rw [show k - i = (k - (i + 1)) + 1 from by omega, List.getElem?_cons_succ]
      exact h2

theorem fnd_append (l r : List (Nat × Value)) (k : Nat) : fnd (l ++ r) k = (fnd l k).or (fnd r k) := by
  induction l with
  | nil => simp [fnd]
  | cons p l ih =>
    simp only [List.cons_append, fnd]
    split
    · rfl
    · exact ih

/-- Cells that are there, one after another. -/
inductive CellsAt (cs : List (Nat × Value)) : Nat → List Value → Prop where
  | nil {i : Nat} : CellsAt cs i []
  | cons {i : Nat} {v : Value} {vs : List Value} (h : fnd cs i = some v) (t : CellsAt cs (i + 1) vs) : CellsAt cs i (v :: vs)
theorem CellsAt.get {cs : List (Nat × Value)} {i : Nat} {vs : List Value} (h : CellsAt cs i vs) : ∀ j v, vs[j]? = some v → fnd cs (i + j) = some v := by
  induction h with
  | nil => intro j v hj; simp at hj
  | @cons i v vs h t ih =>
    intro j u hj
    cases j with
    | zero => simp at hj; subst hj; simpa using h
    | succ j =>
      have := ih j u (by simpa using hj)
      rwa [show i + (j + 1) = i + 1 + j from by omega]

/-! ### Types -/
def Sz (P : Program) (e : TypeId) (s : Nat) : Prop := ∃ i, P.info? e = some i ∧ i.size = s
theorem Sz.of {P : Program} {e : TypeId} {s : Nat} (h : (P.info? e).map (·.size) = some s) : Sz P e s := by
  cases hi : P.info? e with
  | none => rw [hi] at h; cases h
  | some i => rw [hi] at h; exact ⟨i, hi, by simpa using h⟩
theorem Sz.run {P : Program} {e : TypeId} {s : Nat} (h : Sz P e s) (w : World) : (sizeOf e).run P w = .ok s w := by
  obtain ⟨i, hi, rfl⟩ := h
  simp [sizeOf, typeInfo, hi]
def Info (P : Program) (e : TypeId) (zs : List Value) (s b : Nat) : Prop := ∃ i z, P.info? e = some i ∧ i.zero = some z ∧ z.cells.toList = zs ∧ i.size = s ∧ i.bytes = b
theorem Info.of {P : Program} {e : TypeId} {zs : List Value} {s b : Nat} (h : (P.info? e).map (fun i => (i.zero.map (·.cells.toList), i.size, i.bytes)) = some (some zs, s, b)) : Info P e zs s b := by
  cases hi : P.info? e with
  | none => rw [hi] at h; cases h
  | some i =>
    rw [hi] at h
    simp only [Option.map_some, Option.some.injEq, Prod.mk.injEq, Option.map_eq_some_iff] at h
    obtain ⟨⟨z, hz, hzs⟩, h2, h3⟩ := h
    exact ⟨i, z, hi, hz, hzs, h2, h3⟩
theorem Info.sz {P : Program} {e : TypeId} {zs : List Value} {s b : Nat} (h : Info P e zs s b) : Sz P e s := by
  obtain ⟨i, z, h1, h2, h3, h4, h5⟩ := h
  exact ⟨i, h1, h4⟩
/-- A type whose values lie in several cells, and how many; a type of one cell. -/
def Agg (P : Program) (t : TypeId) (s : Nat) : Prop := (∀ w, (isAgg t).run P w = .ok true w) ∧ Sz P t s
def One (P : Program) (t : TypeId) : Prop := (∀ w, (isAgg t).run P w = .ok false w) ∧ Sz P t 1

/-! ### What is read -/

/-- A slice's elements lie there, cell by cell. -/
def Rd (w : World) (A : Option Addr) (size : Nat) (ls : List (List Value)) : Prop :=
  ls = [] ∨ ∃ ad, A = some ad ∧ ∀ i c, ls[i]? = some c → ∀ j v, c[j]? = some v → w.cell? (ad.add (i * size + j)) = some v

def Sep (X : Nat → Prop) (A : Option Addr) : Prop := ∀ ad, A = some ad → ¬ X ad.block
theorem Sep.no {A : Option Addr} : Sep nX A := fun _ _ h => h

theorem lt_of_cell {w : World} {a : Addr} {v : Value} (h : w.cell? a = some v) : a.block < w.heap.size := by
  unfold World.cell? at h
  split at h
  · rename_i hh; exact lt_of_heap hh
  · cases h

theorem block_add (a : Addr) (n : Nat) : (a.add n).block = a.block := by unfold Addr.add; split <;> rfl
theorem add_add' (a : Addr) (i j : Nat) : (a.add i).add j = a.add (i + j) := by
  unfold Addr.add
  by_cases hi : i = 0 <;> by_cases hj : j = 0 <;> simp [hi, hj, Nat.add_assoc]

theorem Rd.kept {X : Nat → Prop} {w w' : World} {A : Option Addr} {size : Nat} {ls : List (List Value)} (h : Rd w A size ls) (hk : Kept X w w') (hX : Sep X A) : Rd w' A size ls := by
  rcases h with h | ⟨ad, rfl, h⟩
  · exact .inl h
  · refine .inr ⟨ad, rfl, fun i c hi j v hj => ?_⟩
    have h1 := h i c hi j v hj
    have h2 := lt_of_cell h1
    rw [block_add] at h2
    rw [← h1]
    exact World.cell?_of_block (by rw [block_add]; exact hk.block _ h2 (hX ad rfl))
theorem Rd.kept0 {w w' : World} {A : Option Addr} {size : Nat} {ls : List (List Value)} (h : Rd w A size ls) (hk : Kept nX w w') : Rd w' A size ls := h.kept hk Sep.no
theorem Rd.nil {w : World} {A : Option Addr} {size : Nat} : Rd w A size [] := .inl rfl

theorem flatten_get : ∀ (ls : List (List Value)) (size : Nat), (∀ x ∈ ls, x.length = size) → ∀ i c, ls[i]? = some c → ∀ j v, c[j]? = some v → ls.flatten[i * size + j]? = some v
  | [], _, _, i, c, hi, _, _, _ => by simp at hi
  | x :: ls, size, hl, i, c, hi, j, v, hj => by
    have hx := hl x (by simp)
    cases i with
    | zero =>
      simp at hi; subst hi
      have hjl : j < x.length := (List.getElem?_eq_some_iff.1 hj).1
      rw [Nat.zero_mul, Nat.zero_add, List.flatten_cons, List.getElem?_append_left hjl, hj]
    | succ i =>
      have := flatten_get ls size (fun y hy => hl y (by simp [hy])) i c (by simpa using hi) j v hj
      rw [List.flatten_cons, List.getElem?_append_right (by rw [hx, Nat.add_mul]; omega)]
      rw [show (i + 1) * size + j - x.length = i * size + j from by rw [hx, Nat.add_mul]; omega]
      exact this

theorem own_rd {w : World} {t : TypeId} {size : Nat} {A : Option Addr} {n c : Nat} {ls : List (List Value)} (h : (Res.own t size A n c ls).holds w) : Rd w A size ls := by
  obtain ⟨h1, h2, h3⟩ := h
  rcases h1.2 with ⟨hv, hn⟩ | ⟨g, cap, cur, hv, _⟩
  · subst hn; exact .inl (List.eq_nil_of_length_eq_zero h2)
  · simp only [Value.slice.injEq] at hv
    refine .inr ⟨⟨g, 0, none⟩, hv.1, fun i c hi j v hj => ?_⟩
    exact World.ownsRow.cells h1 (by rw [ownBlock_slice, hv.1]; rfl) _ _ (flatten_get ls size h3 i c hi j v hj)

theorem Sel.holds {X : Nat → Prop} {W w : World} {rs l : List Res} {r : Res} (h : Sel rs r l) (hm : Mem X W rs w) : r.holds w := hm.holds _ (h.perm.mem_iff.2 (by simp))

/-- In every world of the state the slice reads so. -/
def RdS (X : Nat → Prop) (W : World) (S : St) (A : Option Addr) (size : Nat) (ls : List (List Value)) : Prop := ∀ w, Kept X W w → Mem X W S.mem w → Rd w A size ls

def adr (A : Option Addr) : Addr := A.getD ⟨0, 0, none⟩

section
variable {P : Program} {X : Nat → Prop} {W : World} {n : Nat} {S : St} {o : Oper}

theorem RdS.inp {A : Option Addr} {size : Nat} {ls : List (List Value)} (h : Rd W A size ls) (hX : Sep X A) : RdS X W S A size ls := fun _ hk _ => h.kept hk hX
theorem RdS.own {A : Option Addr} {size : Nat} {ls : List (List Value)} {t : TypeId} {m c : Nat} {l : List Res} (h : Sel S.mem (.own t size A m c ls) l) : RdS X W S A size ls :=
  fun _ _ hm => own_rd (h.holds hm)

theorem RdS.sepOwn {env : List (Nat × Value)} {mem : List Res} {A : Option Addr} {size : Nat} {ls : List (List Value)} {t : TypeId} {m c : Nat} {l rs : List Res} (h : Sel mem (.sep rs) l) (hr : Res.own t size A m c ls ∈ rs) : RdS X W ⟨env, mem⟩ A size ls :=
  fun _ _ hm => own_rd ((h.holds hm).1 _ hr)
theorem vint {k : IntKind} {a b : Int} (h : a = b) : Value.int k a = .int k b := by rw [h]

/-! ### Quiet operations -/

theorem q_move {x : Operand} {v : Value} (ho : o.op = .move x) (hx : ev S.env x = some v) : Q1 P X W n S o v := fun a w hs => .inl (by simp [execOp, ho, hs.eval hx])
theorem q_assign {x : Operand} {v : Value} (ho : o.op = .assign x) (hx : ev S.env x = some v) : Q1 P X W n S o v := fun a w hs => .inl (by simp [execOp, ho, hs.eval hx])
theorem q_pickT {c x y : Operand} {v : Value} {b : Bool} (ho : o.op = .pick c x y) (hc : ev S.env c = some (.bool b)) (hb : b = true) (hx : ev S.env x = some v) : Q1 P X W n S o v :=
  fun a w hs => .inl (by subst hb; simp [execOp, ho, hs.eval hx, hs.eval hc, asBool])
theorem q_pickF {c x y : Operand} {v : Value} {b : Bool} (ho : o.op = .pick c x y) (hc : ev S.env c = some (.bool b)) (hb : b = false) (hy : ev S.env y = some v) : Q1 P X W n S o v :=
  fun a w hs => .inl (by subst hb; simp [execOp, ho, hs.eval hy, hs.eval hc, asBool])
theorem q_extract {x : Operand} {i : Nat} {vs : Array Value} {v : Value} (ho : o.op = .extract x i) (hx : ev S.env x = some (.tuple vs)) (hv : vs[i]? = some v) : Q1 P X W n S o v :=
  fun a w hs => .inl (by simp [execOp, ho, hs.eval hx, Instr.extract, hv])
theorem q_not {x : Operand} {b : Bool} {t : TypeId} (ho : o.op = .unOp .not t x) (hx : ev S.env x = some (.bool b)) : Q1 P X W n S o (.bool !b) :=
  fun a w hs => .inl (by simp [execOp, ho, hs.eval hx, Op.unary])
theorem q_neg {x : Operand} {i : Int} {t : TypeId} (ho : o.op = .unOp .neg t x) (hx : ev S.env x = some (.int .i64 i)) (h : -9223372036854775807 ≤ i ∧ i ≤ 9223372036854775807) : Q1 P X W n S o (.int .i64 (-i)) :=
  fun a w hs => .inl (by
    have e : IntKind.i64.wrap (-i) = -i := by rw [IntKind.wrap_i64]; omega
    simp [execOp, ho, hs.eval hx, Op.unary, Op.intArith, e])

section
variable {x y : Operand} {t t' : TypeId} {k : IntKind} {i j : Int}
theorem q_add (ho : o.op = .binOp .add t x y t') (hx : ev S.env x = some (.int .i64 i)) (hy : ev S.env y = some (.int .i64 j)) (h : -9223372036854775808 ≤ i + j ∧ i + j ≤ 9223372036854775807) : Q1 P X W n S o (.int .i64 (i + j)) :=
  fun a w hs => .inl (by
    have e : IntKind.i64.wrap (i + j) = i + j := by rw [IntKind.wrap_i64]; omega
    simp [execOp, ho, hs.eval hx, hs.eval hy, binOp, Op.intArith, e, eqGuard])
theorem q_sub (ho : o.op = .binOp .sub t x y t') (hx : ev S.env x = some (.int .i64 i)) (hy : ev S.env y = some (.int .i64 j)) (h : -9223372036854775808 ≤ i - j ∧ i - j ≤ 9223372036854775807) : Q1 P X W n S o (.int .i64 (i - j)) :=
  fun a w hs => .inl (by
    have e : IntKind.i64.wrap (i - j) = i - j := by rw [IntKind.wrap_i64]; omega
    simp [execOp, ho, hs.eval hx, hs.eval hy, binOp, Op.intArith, e, eqGuard])
theorem q_mul (ho : o.op = .binOp .mul t x y t') (hx : ev S.env x = some (.int .i64 i)) (hy : ev S.env y = some (.int .i64 j)) (h : -9223372036854775808 ≤ i * j ∧ i * j ≤ 9223372036854775807) : Q1 P X W n S o (.int .i64 (i * j)) :=
  fun a w hs => .inl (by
    have e : IntKind.i64.wrap (i * j) = i * j := by rw [IntKind.wrap_i64]; omega
    simp [execOp, ho, hs.eval hx, hs.eval hy, binOp, Op.intArith, e, eqGuard])
theorem q_addw (ho : o.op = .binOp .add t x y t') (hx : ev S.env x = some (.int k i)) (hy : ev S.env y = some (.int k j)) : Q1 P X W n S o (.int k (k.wrap (i + j))) :=
  fun a w hs => .inl (by simp [execOp, ho, hs.eval hx, hs.eval hy, binOp, Op.intArith, eqGuard])
theorem q_subw (ho : o.op = .binOp .sub t x y t') (hx : ev S.env x = some (.int k i)) (hy : ev S.env y = some (.int k j)) : Q1 P X W n S o (.int k (k.wrap (i - j))) :=
  fun a w hs => .inl (by simp [execOp, ho, hs.eval hx, hs.eval hy, binOp, Op.intArith, eqGuard])
theorem q_mulw (ho : o.op = .binOp .mul t x y t') (hx : ev S.env x = some (.int k i)) (hy : ev S.env y = some (.int k j)) : Q1 P X W n S o (.int k (k.wrap (i * j))) :=
  fun a w hs => .inl (by simp [execOp, ho, hs.eval hx, hs.eval hy, binOp, Op.intArith, eqGuard])
/-- Division of numbers that are not negative. -/
theorem q_quo (ho : o.op = .binOp .quo t x y t') (hx : ev S.env x = some (.int .i64 i)) (hy : ev S.env y = some (.int .i64 j)) (h : 0 ≤ i ∧ 1 ≤ j ∧ i ≤ 9223372036854775807) : Q1 P X W n S o (.int .i64 (i / j)) :=
  fun a w hs => .inl (by
    have h1 : 0 ≤ i / j := Int.ediv_nonneg h.1 (by omega)
    have h2 : i / j ≤ i := Int.ediv_le_self _ h.1
    have e : IntKind.i64.wrap (i / j) = i / j := by rw [IntKind.wrap_i64]; omega
    have h0 : j ≠ 0 := by omega
    simp [execOp, ho, hs.eval hx, hs.eval hy, binOp, Op.intDiv, eqGuard, h0, Int.tdiv_eq_ediv_of_nonneg h.1, e])
theorem q_rem (ho : o.op = .binOp .rem t x y t') (hx : ev S.env x = some (.int k i)) (hy : ev S.env y = some (.int k j)) (h : 0 ≤ i ∧ 1 ≤ j) : Q1 P X W n S o (.int k (i % j)) :=
  fun a w hs => .inl (by
    have h0 : j ≠ 0 := by omega
    simp [execOp, ho, hs.eval hx, hs.eval hy, binOp, Op.intDiv, eqGuard, h0, Int.tmod_eq_emod_of_nonneg h.1])
theorem q_quot (ho : o.op = .binOp .quo t x y t') (hx : ev S.env x = some (.int k i)) (hy : ev S.env y = some (.int k j)) (h0 : j ≠ 0) : Q1 P X W n S o (.int k (k.wrap (i.tdiv j))) :=
  fun a w hs => .inl (by simp [execOp, ho, hs.eval hx, hs.eval hy, binOp, Op.intDiv, eqGuard, h0])
theorem q_remt (ho : o.op = .binOp .rem t x y t') (hx : ev S.env x = some (.int k i)) (hy : ev S.env y = some (.int k j)) (h0 : j ≠ 0) : Q1 P X W n S o (.int k (i.tmod j)) :=
  fun a w hs => .inl (by simp [execOp, ho, hs.eval hx, hs.eval hy, binOp, Op.intDiv, eqGuard, h0])
theorem q_eql (ho : o.op = .binOp .eql t x y t') (hx : ev S.env x = some (.int k i)) (hy : ev S.env y = some (.int k j)) : Q1 P X W n S o (.bool (i == j)) :=
  fun a w hs => .inl (by simp [execOp, ho, hs.eval hx, hs.eval hy, binOp, Op.intCmp, eqGuard])
theorem q_neq (ho : o.op = .binOp .neq t x y t') (hx : ev S.env x = some (.int k i)) (hy : ev S.env y = some (.int k j)) : Q1 P X W n S o (.bool (i != j)) :=
  fun a w hs => .inl (by simp [execOp, ho, hs.eval hx, hs.eval hy, binOp, Op.intCmp, eqGuard])
theorem q_lss (ho : o.op = .binOp .lss t x y t') (hx : ev S.env x = some (.int k i)) (hy : ev S.env y = some (.int k j)) : Q1 P X W n S o (.bool (decide (i < j))) :=
  fun a w hs => .inl (by simp [execOp, ho, hs.eval hx, hs.eval hy, binOp, Op.intCmp, eqGuard])
theorem q_leq (ho : o.op = .binOp .leq t x y t') (hx : ev S.env x = some (.int k i)) (hy : ev S.env y = some (.int k j)) : Q1 P X W n S o (.bool (decide (i ≤ j))) :=
  fun a w hs => .inl (by simp [execOp, ho, hs.eval hx, hs.eval hy, binOp, Op.intCmp, eqGuard])
theorem q_gtr (ho : o.op = .binOp .gtr t x y t') (hx : ev S.env x = some (.int k i)) (hy : ev S.env y = some (.int k j)) : Q1 P X W n S o (.bool (decide (j < i))) :=
  fun a w hs => .inl (by simp [execOp, ho, hs.eval hx, hs.eval hy, binOp, Op.intCmp, eqGuard])
theorem q_geq (ho : o.op = .binOp .geq t x y t') (hx : ev S.env x = some (.int k i)) (hy : ev S.env y = some (.int k j)) : Q1 P X W n S o (.bool (decide (j ≤ i))) :=
  fun a w hs => .inl (by simp [execOp, ho, hs.eval hx, hs.eval hy, binOp, Op.intCmp, eqGuard])
theorem q_convert (ho : o.op = .convert t t' x) (hx : ev S.env x = some (.int k i)) {d : TypeDesc} {k' : IntKind} (ht : P.underlying t = some d) (ht' : P.underlying t' = some (.int k')) : Q1 P X W n S o (.int k' (k'.wrap i)) :=
  fun a w hs => .inl (by simp [execOp, ho, hs.eval hx, convert, run_underlying ht, run_underlying ht', Conv.intToInt])
/-- A conversion that changes nothing. -/
theorem q_convert' (ho : o.op = .convert t t' x) (hx : ev S.env x = some (.int k i)) {d : TypeDesc} {k' : IntKind} (ht : P.underlying t = some d) (ht' : P.underlying t' = some (.int k')) (h : k'.wrap i = i) : Q1 P X W n S o (.int k' i) :=
  fun a w hs => .inl (by simp [execOp, ho, hs.eval hx, convert, run_underlying ht, run_underlying ht', Conv.intToInt, h])
theorem q_min2 {ts : Array TypeId} (ho : o.op = .call { callee := .builtin .min, args := #[x, y], argTypes := ts }) (hx : ev S.env x = some (.int k i)) (hy : ev S.env y = some (.int k j)) : Q1 P X W n S o (.int k (min i j)) :=
  fun a w hs => .inl (by
    have e : (if j < i then j else i) = min i j := by omega
    simp [execOp, ho, resolve, invoke, builtin, hs.eval hx, hs.eval hy, Builtin.min_, Builtin.min2, e])
theorem q_max2 {ts : Array TypeId} (ho : o.op = .call { callee := .builtin .max, args := #[x, y], argTypes := ts }) (hx : ev S.env x = some (.int k i)) (hy : ev S.env y = some (.int k j)) : Q1 P X W n S o (.int k (max i j)) :=
  fun a w hs => .inl (by
    have e : (if i < j then j else i) = max i j := by omega
    simp [execOp, ho, resolve, invoke, builtin, hs.eval hx, hs.eval hy, Builtin.max_, Builtin.max2, e])
theorem q_min3 {ts : Array TypeId} {z : Operand} {m : Int} (ho : o.op = .call { callee := .builtin .min, args := #[x, y, z], argTypes := ts }) (hx : ev S.env x = some (.int k i)) (hy : ev S.env y = some (.int k j)) (hz : ev S.env z = some (.int k m)) : Q1 P X W n S o (.int k (min (min i j) m)) :=
  fun a w hs => .inl (by
    have e : ∀ i j : Int, (if j < i then j else i) = min i j := by omega
    simp [execOp, ho, resolve, invoke, builtin, hs.eval hx, hs.eval hy, hs.eval hz, Builtin.min_, Builtin.min2, e])
theorem q_max3 {ts : Array TypeId} {z : Operand} {m : Int} (ho : o.op = .call { callee := .builtin .max, args := #[x, y, z], argTypes := ts }) (hx : ev S.env x = some (.int k i)) (hy : ev S.env y = some (.int k j)) (hz : ev S.env z = some (.int k m)) : Q1 P X W n S o (.int k (max (max i j) m)) :=
  fun a w hs => .inl (by
    have e : ∀ i j : Int, (if i < j then j else i) = max i j := by omega
    simp [execOp, ho, resolve, invoke, builtin, hs.eval hx, hs.eval hy, hs.eval hz, Builtin.max_, Builtin.max2, e])
end

section
variable {x y : Operand} {t t' e : TypeId} {k : IntKind} {i j : Int} {A : Option Addr} {m c size : Nat}
theorem q_len (ho : o.op = .call { callee := .builtin .len, args := #[x], argTypes := #[t] }) (ht : P.underlying t = some (.slice e)) (hx : ev S.env x = some (.slice A m c)) : Q1 P X W n S o (.int .i64 (m : Int)) :=
  fun a w hs => .inl (by simp [execOp, ho, resolve, invoke, builtin, hs.eval hx, Builtin.len_, run_underlying ht, goInt])
theorem q_lens {s : ByteArray} (ho : o.op = .call { callee := .builtin .len, args := #[x], argTypes := #[t] }) (ht : P.underlying t = some .string) (hx : ev S.env x = some (.string s)) : Q1 P X W n S o (.int .i64 (s.size : Int)) :=
  fun a w hs => .inl (by simp [execOp, ho, resolve, invoke, builtin, hs.eval hx, Builtin.len_, run_underlying ht, goInt])
theorem q_nilCheck {a : Addr} (ho : o.op = .nilCheck x) (hx : ev S.env x = some (.pointer (some a))) : Q1 P X W n S o (.pointer (some a)) :=
  fun _ w hs => .inl (by simp [execOp, ho, hs.eval hx])
theorem q_nilCheckF {f : Fn} {b d : Array Value} (ho : o.op = .nilCheck x) (hx : ev S.env x = some (.func f b d)) (hf : ∀ s, f ≠ .method s) : Q1 P X W n S o (.func f b d) :=
  fun _ w hs => .inl (by
    cases f <;> first | (simp [execOp, ho, hs.eval hx]; done) | exact absurd rfl (hf _))
theorem q_fieldAddr {a : Addr} {f : Nat} {fs : Array Field} {fd : Field} {s : Nat} (ho : o.op = .fieldAddr t x f) (ht : P.underlying t = some (.struct fs)) (hx : ev S.env x = some (.pointer (some a))) (hf : fs[f]? = some fd) (hsz : Sz P fd.type (s + 1)) {d : Nat} (hd : fd.offset = d) :
    Q1 P X W n S o (.pointer (some (a.add d))) :=
  fun _ w hs => .inl (by simp [execOp, ho, hs.eval hx, Instr.fieldAt, run_underlying ht, hf, Instr.sureAddr, fieldPlace, hsz.run, hd])
/-- A field's address in a variable's block. -/
theorem q_fieldB {b i : Nat} {f : Nat} {fs : Array Field} {fd : Field} {s : Nat} (ho : o.op = .fieldAddr t x f) (ht : P.underlying t = some (.struct fs)) (hx : ev S.env x = some (.pointer (some ⟨b, i, none⟩))) (hf : fs[f]? = some fd) (hsz : Sz P fd.type (s + 1)) {d : Nat} (hd : i + fd.offset = d) :
    Q1 P X W n S o (.pointer (some ⟨b, d, none⟩)) :=
  fun _ w hs => .inl (by simp [execOp, ho, hs.eval hx, Instr.fieldAt, run_underlying ht, hf, Instr.sureAddr, fieldPlace, hsz.run, Addr.add_lit, hd])
theorem q_index (ho : o.op = .indexAddr t x y) (ht : P.underlying t = some (.slice e)) (hsz : Sz P e size) (hx : ev S.env x = some (.slice A m c)) (hy : ev S.env y = some (.int k i))
    (hA : A.isSome = true) (hi : 0 ≤ i ∧ i < m) : Q1 P X W n S o (.pointer (some ((adr A).add (i.toNat * size)))) :=
  fun _ w hs => .inl (by
    obtain ⟨ad, rfl⟩ := Option.isSome_iff_exists.1 hA
    simp [execOp, ho, hs.eval hx, hs.eval hy, Instr.indexAt, run_underlying ht, asIntOf, hsz.run, hi.1, hi.2, adr])
/-- The slice is not nil, since something lies there. -/
theorem RdS.some {ls : List (List Value)} (h : RdS X W S A size ls) (hl : i.toNat < ls.length) {a : Act} {w : World} (hs : Sat X W n S a w) : A.isSome = true := by
  rcases h w hs.kept hs.mem with h | ⟨ad, rfl, _⟩
  · subst h; simp at hl
  · rfl
theorem q_indexS {ls : List (List Value)} {q : Nat} (ho : o.op = .indexAddr t x y) (ht : P.underlying t = .some (.slice e)) (hsz : Sz P e size) (hx : ev S.env x = .some (.slice A m c)) (hy : ev S.env y = .some (.int k i))
    (hr : RdS X W S A size ls) (hl : ls.length = m) (hi : i = (q : Int)) (hq : q < m) : Q1 P X W n S o (.pointer (.some ((adr A).add (q * size)))) :=
  fun a w hs => by
    subst hi
    exact q_index (i := (q : Int)) ho ht hsz hx hy (hr.some (i := (q : Int)) (by simp; omega) hs) (by omega) a w hs

/-! Loads -/
theorem q_load1 {a : Addr} {v : Value} (ho : o.op = .load t x) (ht : One P t) (hx : ev S.env x = some (.pointer (some a))) (hc : ∀ w, Kept X W w → Mem X W S.mem w → w.cell? a = some v) : Q1 P X W n S o v :=
  fun _ w hs => .inl (by simp [execOp, ho, hs.eval hx, Instr.loadAt, Instr.sureAddr, loadVar, ht.1, hc w hs.kept hs.mem])
theorem q_loadN {a : Addr} {vs : List Value} (ho : o.op = .load t x) (ht : Agg P t vs.length) (hx : ev S.env x = some (.pointer (some a))) (hc : ∀ w, Kept X W w → Mem X W S.mem w → ∀ j v, vs[j]? = some v → w.cell? (a.add j) = some v) : Q1 P X W n S o (.agg vs.toArray) :=
  fun _ w hs => .inl (by simp [execOp, ho, hs.eval hx, Instr.loadAt, Instr.sureAddr, loadVar, ht.1, ht.2.run, run_loadCells_list w a vs (hc w hs.kept hs.mem)])
theorem blk_cell {w : World} {b : Nat} {tb : TypeId} {cs : List (Nat × Value)} (h : (Res.blk b tb cs).holds w) {i : Nat} {v : Value} (hv : fnd cs i = some v) : w.cell? ⟨b, i, none⟩ = some v := by
  obtain ⟨c, hc, h2⟩ := h
  rw [cell_of_row w b i c tb (0, 0) hc]
  exact h2 i v hv
/-- A cell of a variable's block. -/
theorem q_loadB {b i : Nat} {tb : TypeId} {cs : List (Nat × Value)} {l : List Res} {v : Value} (ho : o.op = .load t x) (ht : One P t) (hx : ev S.env x = some (.pointer (some ⟨b, i, none⟩))) (hs : Sel S.mem (.blk b tb cs) l) (hv : fnd cs i = some v) : Q1 P X W n S o v :=
  q_load1 ho ht hx fun _ _ hm => blk_cell (hs.holds hm) hv
theorem q_loadBN {b i s : Nat} {tb : TypeId} {cs : List (Nat × Value)} {l : List Res} {vs : List Value} (ho : o.op = .load t x) (ht : Agg P t s) (hx : ev S.env x = some (.pointer (some ⟨b, i, none⟩))) (hs : Sel S.mem (.blk b tb cs) l) (hv : CellsAt cs i vs) (hl : vs.length = s) : Q1 P X W n S o (.agg vs.toArray) :=
  q_loadN ho (by rw [hl]; exact ht) hx fun _ _ hm j v hj => by rw [Addr.add_lit]; exact blk_cell (hs.holds hm) (hv.get j v hj)
/-- A whole element of a slice. -/
theorem q_loadE {ls : List (List Value)} {q s : Nat} {vs : List Value} (ho : o.op = .load t x) (ht : Agg P t s) (hx : ev S.env x = some (.pointer (some ((adr A).add (q * size))))) (hr : RdS X W S A size ls) (hq : ls[q]? = some vs) (hl : vs.length = s) : Q1 P X W n S o (.agg vs.toArray) :=
  q_loadN ho (by rw [hl]; exact ht) hx fun w hk hm j v hj => by
    rcases hr w hk hm with h | ⟨ad, rfl, h⟩
    · subst h; simp at hq
    · rw [add_add']; exact h q vs hq j v hj
/-- A field of an element of a slice. -/
theorem q_loadF {ls : List (List Value)} {q d : Nat} {vs : List Value} {v : Value} (ho : o.op = .load t x) (ht : One P t) (hx : ev S.env x = some (.pointer (some (((adr A).add (q * size)).add d)))) (hr : RdS X W S A size ls) (hq : ls[q]? = some vs) (hd : vs[d]? = some v) : Q1 P X W n S o v :=
  q_load1 ho ht hx fun w hk hm => by
    rcases hr w hk hm with h | ⟨ad, rfl, h⟩
    · subst h; simp at hq
    · rw [add_add']; exact h q vs hq d v hd
/-- An element of one cell. -/
theorem q_loadC {ls : List (List Value)} {q : Nat} {v : Value} (ho : o.op = .load t x) (ht : One P t) (hx : ev S.env x = some (.pointer (some ((adr A).add (q * size))))) (hr : RdS X W S A size ls) (hq : ls[q]? = some [v]) : Q1 P X W n S o v :=
  q_load1 ho ht hx fun w hk hm => by
    rcases hr w hk hm with h | ⟨ad, rfl, h⟩
    · subst h; simp at hq
    · have := h q [v] hq 0 v rfl
      simpa [adr] using this

/-! Slice expressions -/
def cutA (A : Option Addr) (l cap size : Nat) : Option Addr := if cap = l then A else A.map (·.add (l * size))
theorem q_sliceH {y : Operand} {h : Int} (ho : o.op = .slice t x none (some y) none) (ht : P.underlying t = some (.slice e)) (hsz : Sz P e size) (hx : ev S.env x = some (.slice A m c)) (hy : ev S.env y = some (.int k h)) (hh : 0 ≤ h ∧ h ≤ c) :
    Q1 P X W n S o (.slice A h.toNat c) := fun _ w hs => .inl (by
  have he : P.elem t = e := by simp [Program.elem, ht]
  have ht' : P.underlying t = some (.slice (P.elem t)) := by rw [he]; exact ht
  have e1 : (fun a : Addr => a.add 0) = id := by funext a; exact Addr.add_zero' a
  simp [execOp, ho, hs.eval hx, hs.eval hy, run_sliceAt_slice w t _ _ _ _ ht', run_slice_h w t A m c ht' k h hh.1 hh.2, he, hsz.run, sliced, e1])
theorem q_sliceL {y : Operand} {l : Int} (ho : o.op = .slice t x (some y) none none) (ht : P.underlying t = some (.slice e)) (hsz : Sz P e size) (hx : ev S.env x = some (.slice A m c)) (hy : ev S.env y = some (.int k l)) (hh : 0 ≤ l ∧ l ≤ m) :
    Q1 P X W n S o (.slice (cutA A l.toNat c size) (m - l.toNat) (c - l.toNat)) := fun _ w hs => .inl (by
  have he : P.elem t = e := by simp [Program.elem, ht]
  have ht' : P.underlying t = some (.slice (P.elem t)) := by rw [he]; exact ht
  simp [execOp, ho, hs.eval hx, hs.eval hy, run_sliceAt_slice w t _ _ _ _ ht', run_slice_l w t A m c ht' k l hh.1 hh.2, he, hsz.run, sliced, cutA])
theorem q_sliceLH {y z : Operand} {l h : Int} {k' : IntKind} (ho : o.op = .slice t x (some y) (some z) none) (ht : P.underlying t = some (.slice e)) (hsz : Sz P e size) (hx : ev S.env x = some (.slice A m c)) (hy : ev S.env y = some (.int k l)) (hz : ev S.env z = some (.int k' h)) (hh : 0 ≤ l ∧ l ≤ h ∧ h ≤ c) :
    Q1 P X W n S o (.slice (cutA A l.toNat c size) (h.toNat - l.toNat) (c - l.toNat)) := fun _ w hs => .inl (by
  have he : P.elem t = e := by simp [Program.elem, ht]
  have ht' : P.underlying t = some (.slice (P.elem t)) := by rw [he]; exact ht
  simp [execOp, ho, hs.eval hx, hs.eval hy, hs.eval hz, run_sliceAt_slice w t _ _ _ _ ht', run_slice_lh w t A m c ht' k k' l h hh.1 hh.2.1 hh.2.2, he, hsz.run, sliced, cutA])
theorem Rd.cut {w : World} {ls : List (List Value)} (h : Rd w A size ls) {l c : Nat} (hl : ls.length ≤ c) : Rd w (cutA A l c size) size (ls.drop l) := by
  rcases h with h | ⟨ad, rfl, h⟩
  · subst h; exact .inl (by simp)
  · by_cases hc : c = l
    · exact .inl (List.drop_eq_nil_of_le (by omega))
    · refine .inr ⟨ad.add (l * size), by simp [cutA, hc], fun i c hi j v hj => ?_⟩
      rw [List.getElem?_drop] at hi
      rw [add_add', ← Nat.add_assoc, ← Nat.add_mul]
      exact h _ c hi j v hj
theorem Rd.take {w : World} {ls : List (List Value)} (h : Rd w A size ls) (m : Nat) : Rd w A size (ls.take m) := by
  rcases h with h | ⟨ad, rfl, h⟩
  · subst h; exact .inl (by simp)
  · refine .inr ⟨ad, rfl, fun i c hi j v hj => ?_⟩
    rw [List.getElem?_take] at hi
    split at hi
    · exact h i c hi j v hj
    · cases hi
theorem RdS.cut {ls : List (List Value)} (h : RdS X W S A size ls) {l c : Nat} (hl : ls.length ≤ c) : RdS X W S (cutA A l c size) size (ls.drop l) := fun w hk hm => (h w hk hm).cut hl
theorem RdS.take {ls : List (List Value)} (h : RdS X W S A size ls) (m : Nat) : RdS X W S A size (ls.take m) := fun w hk hm => (h w hk hm).take m
end

/-! Calls -/
def Callable (P : Program) (f : FuncId) : Prop := ∀ args w, (callFunc f args).run P w = .ok (.enter f args) w
/-- Operands' values, one after another. -/
inductive Evs (env : List (Nat × Value)) : List Operand → List Value → Prop where
  | nil : Evs env [] []
  | cons {x : Operand} {v : Value} {xs : List Operand} {vs : List Value} (h : ev env x = some v) (t : Evs env xs vs) : Evs env (x :: xs) (v :: vs)
theorem Evs.map {a : Act} {w : World} {xs : List Operand} {vs : List Value} (h : Evs S.env xs vs) (hs : Sat X W n S a w) : xs.map a.eval = vs := by
  induction h with
  | nil => rfl
  | cons h _ ih => simp [hs.eval h, ih]
theorem exec_call {f : FuncId} {xs : List Operand} {ts : Array TypeId} {vs : List Value} (ho : o.op = .call { callee := .value (.func f), args := xs.toArray, argTypes := ts }) (hf : Callable P f) (hx : Evs S.env xs vs) {a : Act} {w : World} (hs : Sat X W n S a w) :
    (execOp a.eval o).run P w = .ok (.enter f vs.toArray) w := by
  have hm : (xs.toArray).map a.eval = vs.toArray := by simp [hx.map hs]
  have he : a.eval (.func f) = .func (.func f) #[] #[] := rfl
  simp [execOp, ho, resolve, he, Deferred.ofValue, invoke, hx.map hs]
  exact hf _ _
/-- A call that only computes. -/
theorem q_call {f : FuncId} {xs : List Operand} {ts : Array TypeId} {vs : List Value} {v : Value} (ho : o.op = .call { callee := .value (.func f), args := xs.toArray, argTypes := ts }) (hf : Callable P f) (hx : Evs S.env xs vs)
    (hc : ∀ w, Kept X W w → Mem X W S.mem w → Calls P f vs.toArray w (Just w v)) : Q1 P X W n S o v :=
  fun _ w hs => .inr (.inr ⟨f, _, exec_call ho hf hx hs, hc w hs.kept hs.mem⟩)

/-- Parts' values. -/
inductive PV (env : List (Nat × Value)) : List (Nat × Operand) → List (Nat × Value) → Prop where
  | nil : PV env [] []
  | cons {i : Nat} {x : Operand} {v : Value} {xs : List (Nat × Operand)} {vs : List (Nat × Value)} (h : ev env x = some v) (t : PV env xs vs) : PV env ((i, x) :: xs) ((i, v) :: vs)
theorem PV.map {xs : List (Nat × Operand)} {vs : List (Nat × Value)} (h : PV S.env xs vs) {a : Act} {w : World} (hs : Sat X W n S a w) : xs.map (fun p => (p.1, a.eval p.2)) = vs := by
  induction h with
  | nil => rfl
  | cons h _ ih => simp [hs.eval h, ih]
theorem q_build {t : TypeId} {xs : List (Nat × Operand)} {vs : List (Nat × Value)} {cells : Array Value} (ho : o.op = .build t xs.toArray) (hp : PV S.env xs vs) (hb : P.built t vs = some cells) : Q1 P X W n S o (.agg cells) :=
  fun a w hs => .inl (by
    have hm : (xs.toArray.map fun x => (x.1, a.eval x.2)).toList = vs := by simpa using hp.map hs
    have hr := run_build (P := P) w t (xs.toArray.map fun x => (x.1, a.eval x.2)) cells (by rw [hm]; exact hb)
    simp only [execOp, ho, Sem.run_bind, hr, Result.andThen_ok, Sem.run_pure])
theorem exec_callv {f : FuncId} {y : Operand} {xs : List Operand} {ts : Array TypeId} {vs : List Value} {cap : List Value} (ho : o.op = .call { callee := .value y, args := xs.toArray, argTypes := ts }) (hy : ev S.env y = some (.func (.func f) #[] cap.toArray)) (hf : Callable P f) (hx : Evs S.env xs vs) {a : Act} {w : World} (hs : Sat X W n S a w) :
    (execOp a.eval o).run P w = .ok (.enter f (vs ++ cap).toArray) w := by
  simp [execOp, ho, resolve, hs.eval hy, Deferred.ofValue, invoke, hx.map hs]
  exact hf _ _
/-- A call of a function value that only computes. -/
theorem q_callv {f : FuncId} {y : Operand} {xs : List Operand} {ts : Array TypeId} {vs cap : List Value} {v : Value} (ho : o.op = .call { callee := .value y, args := xs.toArray, argTypes := ts }) (hy : ev S.env y = some (.func (.func f) #[] cap.toArray)) (hf : Callable P f) (hx : Evs S.env xs vs)
    (hc : ∀ w, Kept X W w → Mem X W S.mem w → Calls P f (vs ++ cap).toArray w (Just w v)) : Q1 P X W n S o v :=
  fun _ w hs => .inr (.inr ⟨f, _, exec_callv ho hy hf hx hs, hc w hs.kept hs.mem⟩)
/-- An element of an array by value, elements of one cell. -/
theorem q_indexA {x y : Operand} {t e : TypeId} {k : IntKind} {i : Int} {len q : Nat} {cs : Array Value} {v : Value} (ho : o.op = .index t x y) (ht : P.underlying t = some (.array len e)) (he : One P e) (hx : ev S.env x = some (.agg cs)) (hy : ev S.env y = some (.int k i))
    (hi : i = (q : Int)) (hq : q < len) (hv : cs[q]? = some v) : Q1 P X W n S o v :=
  fun a w hs => .inl (by
    subst hi
    have h1 : (0 : Int) ≤ (q : Int) ∧ (q : Int) < (len : Int) := by omega
    simp [execOp, ho, hs.eval hx, hs.eval hy, Instr.index, asIntOf, run_underlying ht, h1.2, he.2.run, part, he.1, hv, Nat.not_le.2 hq])
section
variable {x y : Operand} {t t' : TypeId} {a b : Bool}
theorem q_eqlB (ho : o.op = .binOp .eql t x y t') (hx : ev S.env x = some (.bool a)) (hy : ev S.env y = some (.bool b)) (ht : P.underlying t = some .bool) : Q1 P X W n S o (.bool (a == b)) :=
  fun _ w hs => .inl (by
    have h1 : (binOp .eql t (.bool a) (.bool b)).run P w = .ok (.bool (a == b)) w := by
      simp only [binOp]
      simp [Op.equal, Op.maxDepth, run_equalIn_bool' w _ t a b ht]
    simp only [execOp, ho, hs.eval hx, hs.eval hy, eqGuard_at_bool, Sem.run_bind, Sem.run_pure, Result.andThen_ok, h1])
theorem q_neqB (ho : o.op = .binOp .neq t x y t') (hx : ev S.env x = some (.bool a)) (hy : ev S.env y = some (.bool b)) (ht : P.underlying t = some .bool) : Q1 P X W n S o (.bool (!(a == b))) :=
  fun _ w hs => .inl (by
    have h1 : (binOp .neq t (.bool a) (.bool b)).run P w = .ok (.bool (!(a == b))) w := by
      simp only [binOp]
      simp [Op.equal, Op.maxDepth, run_equalIn_bool' w _ t a b ht]
    simp only [execOp, ho, hs.eval hx, hs.eval hy, eqGuard_at_bool, Sem.run_bind, Sem.run_pure, Result.andThen_ok, h1])
/-- Two structs; the comparison of their fields is given. -/
theorem q_eqlS {xs ys : Array Value} {r : Bool} (ho : o.op = .binOp .eql t x y t') (hx : ev S.env x = some (.agg xs)) (hy : ev S.env y = some (.agg ys)) (hm : P.eqGuardType P.depth t = false) (he : ∀ w, (Op.equalIn 10000 t (.agg xs) (.agg ys)).run P w = .ok r w) : Q1 P X W n S o (.bool r) :=
  fun _ w hs => .inl (by
    have h2 := run_eqGuard_agg (P := P) w .eql t x y xs ys hm
    simp only [execOp, ho, hs.eval hx, hs.eval hy, Sem.run_bind, h2, Sem.run_pure, Result.andThen_ok, run_eql_struct, he])
theorem q_neqS {xs ys : Array Value} {r : Bool} (ho : o.op = .binOp .neq t x y t') (hx : ev S.env x = some (.agg xs)) (hy : ev S.env y = some (.agg ys)) (hm : P.eqGuardType P.depth t = false) (he : ∀ w, (Op.equalIn 10000 t (.agg xs) (.agg ys)).run P w = .ok r w) : Q1 P X W n S o (.bool (!r)) :=
  fun _ w hs => .inl (by
    have h2 := run_eqGuard_agg (P := P) w .neq t x y xs ys hm
    simp only [execOp, ho, hs.eval hx, hs.eval hy, Sem.run_bind, h2, Sem.run_pure, Result.andThen_ok, run_neq_struct, he])
end
end
end Hr
end Go.Proofs.YtgphmbipakdggaaR
