/- A range over a function: operations inside a fence by the rules of this logic. Nothing here speaks of one program. -/
import Derived.Test.YtgphmbipakdggaaRClose
import Derived.Test.YtgphmbipakdggaaRCopy
import Derived.RangeFuncNested
import Derived.RangeFuncBound
import Derived.RangeFuncCalls
import Derived.RangeFuncLeaves
import Derived.OwnWalkIn
set_option linter.unusedSimpArgs false
set_option linter.unusedVariables false
namespace Go.Proofs.YtgphmbipakdggaaR
namespace Hr
open Go Go.RowKit

/-- An operation that calls nothing and defers nothing. -/
def Calm (P : Program) (o : Oper) : Prop := (∀ c, o.op ≠ .defer c) ∧ ∀ (ρ : Operand → Value) (w : World), match (execOp ρ o).run P w with
  | .ok (.value _) _ => True
  | .ok .skip _ => True
  | .halt _ _ => True
  | _ => False
theorem Calm.of_v {P : Program} {o : Oper} (hd : ∀ c, o.op ≠ .defer c) (h : ∀ ρ, ∃ s : Sem Value, execOp ρ o = (do pure (.value (← s)))) : Calm P o := ⟨hd, fun ρ w => by
  obtain ⟨s, hs⟩ := h ρ
  rw [hs]
  cases hr : s.run P w with
  | ok v w' => simp [hr]
  | halt x w' => simp [hr]⟩
theorem Calm.of_u {P : Program} {o : Oper} (hd : ∀ c, o.op ≠ .defer c) (h : ∀ ρ, ∃ s : Sem Unit, execOp ρ o = (do s; pure .skip)) : Calm P o := ⟨hd, fun ρ w => by
  obtain ⟨s, hs⟩ := h ρ
  rw [hs]
  cases hr : s.run P w with
  | ok v w' => simp [hr]
  | halt x w' => simp [hr]⟩
theorem Calm.inn {P : Program} {F : Fence} {n : Nat} {o : Oper} {a : Act} {w : World} {k : Act → World → Prop} {Q : Exit → Act → World → Prop} (hc : Calm P o) (hF : ∀ f, F.fn f) (h : o.wp P a w k Q) : o.wpIn F n P a w k Q := by
  unfold Oper.wpIn
  refine ⟨fun f _ => hF f, ?_⟩
  rw [Oper.semAt_plain F _ _ hc.1]
  unfold Oper.wp at h
  have h2 := hc.2 a.eval w
  cases hr : (execOp a.eval o).run P w with
  | ok nx w' =>
    rw [hr] at h h2
    cases nx with
    | value v => exact h
    | skip => exact h
    | _ => exact h2.elim
  | halt x w' =>
    rw [hr] at h
    cases x with
    | panic v => exact h
    | _ => exact h.elim
theorem calm_move {P : Program} {o : Oper} {x : Operand} (ho : o.op = .move x) : Calm P o := ⟨(by rw [ho]; intro c h; cases h), fun ρ w => by simp [execOp, ho]⟩
theorem calm_assign {P : Program} {o : Oper} {x : Operand} (ho : o.op = .assign x) : Calm P o := ⟨(by rw [ho]; intro c h; cases h), fun ρ w => by simp [execOp, ho]⟩
theorem calm_alloc {P : Program} {o : Oper} {t : TypeId} (ho : o.op = .alloc t) : Calm P o := .of_v (by rw [ho]; intro c h; cases h) fun ρ => ⟨_, by simp only [execOp, ho]; rfl⟩
theorem calm_box {P : Program} {o : Oper} {t : TypeId} {x : Operand} (ho : o.op = .box t x) : Calm P o := .of_v (by rw [ho]; intro c h; cases h) fun ρ => ⟨_, by simp only [execOp, ho]; rfl⟩
theorem calm_load {P : Program} {o : Oper} {t : TypeId} {x : Operand} (ho : o.op = .load t x) : Calm P o := .of_v (by rw [ho]; intro c h; cases h) fun ρ => ⟨_, by simp only [execOp, ho]; rfl⟩
theorem calm_store {P : Program} {o : Oper} {t : TypeId} {x y : Operand} (ho : o.op = .store t x y) : Calm P o := .of_u (by rw [ho]; intro c h; cases h) fun ρ => ⟨_, by simp only [execOp, ho]; rfl⟩
theorem calm_build {P : Program} {o : Oper} {t : TypeId} {m : Nat} {xs : Array (Nat × Operand)} (ho : o.op = .buildSlice t m xs) : Calm P o := .of_v (by rw [ho]; intro c h; cases h) fun ρ => ⟨_, by simp only [execOp, ho]; rfl⟩
theorem calm_index {P : Program} {o : Oper} {t : TypeId} {x y : Operand} (ho : o.op = .indexAddr t x y) : Calm P o := .of_v (by rw [ho]; intro c h; cases h) fun ρ => ⟨_, by simp only [execOp, ho]; rfl⟩
theorem calm_un {P : Program} {o : Oper} {b : UnOp} {t : TypeId} {x : Operand} (ho : o.op = .unOp b t x) : Calm P o := .of_v (by rw [ho]; intro c h; cases h) fun ρ => ⟨_, by simp only [execOp, ho]; rfl⟩
theorem calm_bin {P : Program} {o : Oper} {b : BinOp} {t t' : TypeId} {x y : Operand} (ho : o.op = .binOp b t x y t') : Calm P o := .of_v (by rw [ho]; intro c h; cases h) fun ρ => ⟨_, by simp only [execOp, ho]; rfl⟩
theorem calm_len {P : Program} {o : Oper} {x : Operand} {ts : Array TypeId} (ho : o.op = .call { callee := .builtin .len, args := #[x], argTypes := ts }) : Calm P o := ⟨(by rw [ho]; intro c h; cases h), fun ρ w => by
  simp only [execOp, ho, resolve, invoke, builtin]
  cases hr : Sem.run P (Builtin.len_ ts o.type #[ρ x]) w <;> simp [hr]⟩
theorem calm_append {P : Program} {o : Oper} {x y : Operand} {ts : Array TypeId} (ho : o.op = .call { callee := .builtin .append, args := #[x, y], argTypes := ts }) : Calm P o := ⟨(by rw [ho]; intro c h; cases h), fun ρ w => by
  simp only [execOp, ho, resolve, invoke, builtin]
  cases hr : Sem.run P (Builtin.append_ ts o.type #[ρ x, ρ y]) w <;> simp [hr]⟩

/-- From every frame and world of the state, the operations that are left go through, inside the fence. -/
def LI (F : Fence) (n : Nat) (P : Program) (ops : Array Oper) (Q : Exit → Act → World → Prop) (X : Nat → Prop) (W : World) (m : Nat) (l : List Oper) (S : St) : Prop := ∀ a w, Sat X W m S a w → wpListIn F n P ops Q l a w
section
variable {F : Fence} {n : Nat} {P : Program} {ops : Array Oper} {Q : Exit → Act → World → Prop} {X : Nat → Prop} {W : World} {m : Nat} {S : St} {env : List (Nat × Value)} {mem : List Res} {rest : List Oper} {o : Oper}
theorem LI.nil (h : ∀ a w, Sat X W m S a w → Q .normal a w) : LI F n P ops Q X W m [] S := fun a w hs => h a w hs
theorem LI.h {ι : Type} {φ : ι → Prop} {next : ι → St} (hg : o.guard = Option.none) (hF : ∀ f, F.fn f) (hc : Calm P o) (h : H1 P X W m ⟨env, mem⟩ o φ next) (hk : ∀ i, φ i → LI F n P ops Q X W m rest (next i)) : LI F n P ops Q X W m (o :: rest) ⟨env, mem⟩ :=
  fun a w hs => wpListIn_plain hg fun K hK => hc.inn hF (h a w hs K Q fun i a' w' hi hs' => hK _ _ (hk i hi _ _ hs'))
theorem LI.q {v : Value} {d : Nat} (hg : o.guard = Option.none) (hF : ∀ f, F.fn f) (hc : Calm P o) (hd : o.dst = Option.some d) (hdn : Nat.blt d m = true) (h : Q1 P X W m ⟨env, mem⟩ o v) (hk : LI F n P ops Q X W m rest ⟨(d, v) :: env, mem⟩) : LI F n P ops Q X W m (o :: rest) ⟨env, mem⟩ :=
  LI.h hg hF hc (.of_q hd hdn h) fun _ _ => hk
/-- A call of a loop's body. -/
theorem LI.yield {l : Nat} {x y : Operand} {ts : Array TypeId} {v : Value} (hg : o.guard = Option.none) (hF : ∀ f, F.fn f) (hdp : F.depth = Option.none) (ho : o.op = .call { callee := .value y, args := #[x], argTypes := ts }) (hy : ev env y = some (.func (.yield l) #[] #[])) (hx : ev env x = some v)
    (hY : ∀ a w, Sat X W m ⟨env, mem⟩ a w → ∃ R, YieldAt F (n - 1) P l #[v] w R ∧ ∀ e w', R e w' → ∃ u, e = .returned u ∧ wpListIn F n P ops Q rest (a.put o.dst u) w') : LI F n P ops Q X W m (o :: rest) ⟨env, mem⟩ := by
  intro a w hs
  refine wpListIn_plain hg fun K hK => ?_
  obtain ⟨R, ⟨fn, tmps, asg, body, hy1, hR⟩, hK2⟩ := hY a w hs
  unfold Oper.wpIn
  refine ⟨fun f _ => hF f, ?_⟩
  rw [Oper.semAt_plain F _ _ (by rw [ho]; intro c h; cases h)]
  have hrun : (execOp a.eval o).run P w = .ok (.round l fn tmps asg body) w := by
    simp [execOp, ho, resolve, invoke, Deferred.ofValue, hs.eval hy, hs.eval hx, hy1]
  rw [hrun, Oper.uponIn_round]
  refine ⟨(fun h => by rw [hdp] at h; cases h), hR.mono fun e w' he => ?_⟩
  obtain ⟨u, rfl, hw⟩ := hK2 e w' he
  exact hK _ _ hw
/-- The state after the world has turned: what the slots hold. -/
theorem Sat.rebase {a : Act} {w : World} (h : Sat X W m S a w) (w' : World) : Sat nX w' m ⟨S.env, []⟩ a w' := ⟨h.size, h.defers, h.env, Kept.refl _ _, Mem.nil⟩
/-- The same with calls put off. -/
def LD (ds : List Deferred) (F : Fence) (n : Nat) (P : Program) (ops : Array Oper) (Q : Exit → Act → World → Prop) (X : Nat → Prop) (W : World) (m : Nat) (l : List Oper) (S : St) : Prop := ∀ a w, Sat X W m S { a with defers := [] } w → a.defers = ds → wpListIn F n P ops Q l a w
theorem LD.nil {ds : List Deferred} (h : ∀ a w, Sat X W m S { a with defers := [] } w → a.defers = ds → Q .normal a w) : LD ds F n P ops Q X W m [] S := fun a w hs hd => h a w hs hd
theorem LD.q {ds : List Deferred} {v : Value} {d : Nat} (hg : o.guard = Option.none) (hF : ∀ f, F.fn f) (hc : Calm P o) (hd : o.dst = Option.some d) (hdn : Nat.blt d m = true) (h : Q1 P X W m ⟨env, mem⟩ o v) (hk : LD ds F n P ops Q X W m rest ⟨(d, v) :: env, mem⟩) : LD ds F n P ops Q X W m (o :: rest) ⟨env, mem⟩ :=
  fun a w hs hds => wpListIn_plain hg fun K hK => by
    have he : ({ a with defers := [] } : Act).eval = a.eval := by funext x; cases x <;> rfl
    have h2 := h _ w hs
    rw [he] at h2
    refine hc.inn hF ?_
    unfold Oper.wp
    have h3 := hc.2 a.eval w
    have hp : ∀ u, Sat X W m ⟨(d, u) :: env, mem⟩ { (a.put o.dst u) with defers := [] } w := fun u => by
      have := hs.put hdn u
      rw [hd]; exact this
    have hpd : ∀ u, (a.put o.dst u).defers = ds := fun u => by rw [hd]; exact hds
    rcases h2 with h2 | ⟨h2, rfl⟩ | ⟨f, args, h2, _⟩
    · rw [h2]; exact hK _ _ (hk _ _ (hp v) (hpd v))
    · rw [h2]; exact hK _ _ (hk _ _ (hp undef) (hpd undef))
    · rw [h2] at h3; exact h3.elim
end
theorem sat_enter {vs : List Value} {m : Nat} {W : World} (hz : Nat.ble vs.length m = true) : Sat nX W m ⟨enum 0 vs, []⟩ { tmps := vs.toArray ++ Array.replicate (m - vs.toArray.size) undef, defers := [] } W := by
  have hz' : vs.length ≤ m := by simpa using hz
  refine ⟨by simp; omega, rfl, fun k v hk => ?_, Kept.refl _ _, Mem.nil⟩
  obtain ⟨_, h2⟩ := fnd_enum vs 0 k v hk
  have h3 : vs.toArray[k]? = some v := by simpa using h2
  have hlt := (Array.getElem?_eq_some_iff.1 h3).1
  show (vs.toArray ++ _)[k]? = _
  rw [Array.getElem?_append_left hlt, h3]
theorem callsIn_sat {F : Fence} {n m : Nat} {P : Program} {f : FuncId} {fn : Func} {c : Code} {vs : List Value} {w : World} {R : Ending → World → Prop} (hf : P.funcs[f]? = some fn) (hm : fn.ntmps = m) (hb : fn.body = some c) (hF : F.fn f) (hro : F.round = Option.none) (hz : Nat.ble vs.length m = true)
    (h : ∀ a, Sat nX w m ⟨enum 0 vs, []⟩ a w → c.wpIn F n P (bodyPost P fn R) a w) : CallsIn F n P f vs.toArray w R :=
  callsIn_of_wp hf hb hF (by rw [hm]; exact h _ (sat_enter hz)) hro
theorem callsIn_satM {F : Fence} {n m : Nat} {P : Program} {f : FuncId} {fn : Func} {c : Code} {vs : List Value} {w : World} {R : Ending → World → Prop} (hf : P.funcs[f]? = some fn) (hm : fn.ntmps = m) (hb : fn.body = some c) (hF : F.fn f) (hro : F.round = Option.none) (hz : Nat.ble vs.length m = true)
    (h : ∀ a, Sat nX w m ⟨enum 0 vs, []⟩ a w → c.wpIn F n P (bodyPostM F n P fn R) a w) : CallsIn F n P f vs.toArray w R :=
  callsIn_of_wp_marks hf hb hF (by rw [hm]; exact h _ (sat_enter hz)) hro
end Hr
end Go.Proofs.YtgphmbipakdggaaR
