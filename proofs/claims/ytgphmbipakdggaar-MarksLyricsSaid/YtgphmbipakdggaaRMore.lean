/- More rules: function values, calls through them that are given resources, a slice made shorter, what a caller hands on. -/
import Derived.Test.YtgphmbipakdggaaRDraw
set_option linter.unusedSimpArgs false
set_option linter.unusedVariables false
namespace Go.Proofs.YtgphmbipakdggaaR
namespace Hr
open Go Go.RowKit

def atAny (rs : List Res) : Nat → Prop := fun b => ∃ r ∈ rs, r.at b
/-- Resources handed to a call: from the world of the call on they are the ones that may turn. -/
theorem Mem.give {X : Nat → Prop} {W w : World} {rs l : List Res} (h : Mem X W (rs ++ l) w) : Mem (atAny rs) w rs w :=
  ⟨fun r hr => h.holds r (by simp [hr]), fun r hr b hb => .inr ⟨r, hr, hb⟩, (List.pairwise_append.1 h.apart).1⟩

theorem flatten_take : ∀ (ls : List (List Value)) (size m : Nat), (∀ x ∈ ls, x.length = size) → (ls.take m).flatten = ls.flatten.take (m * size)
  | [], size, m, _ => by simp
  | x :: ls, size, 0, _ => by simp
  | x :: ls, size, m + 1, h => by
    have hx := h x (by simp)
    have e : (m + 1) * size = size + m * size := by rw [Nat.succ_mul, Nat.add_comm]
    rw [List.take_succ_cons, List.flatten_cons, List.flatten_cons, flatten_take ls size m (fun y hy => h y (by simp [hy])), e, List.take_append, hx, Nat.add_sub_cancel_left, List.take_of_length_le (l := x) (by rw [hx]; omega)]

theorem ResSub.ownTake {t : TypeId} {size : Nat} {A : Option Addr} {n n' m' c c' : Nat} {ls ls' : List (List Value)} (hn : n' = m') (hc : c' = c) (hm : m' ≤ n) (hl : ls' = ls.take m') : ResSub (.own t size A n c ls) (.own t size A n' c' ls') := by
  subst hn; subst hc; subst hl
  refine ⟨fun _ h => h, fun w h => ?_⟩
  obtain ⟨⟨h1, h2⟩, h3, h4⟩ := h
  have hlen : (ls.take n').length = n' := by rw [List.length_take, h3]; omega
  refine ⟨⟨?_, ?_⟩, hlen, fun x hx => h4 x (List.mem_of_mem_take hx)⟩
  · rw [flatten_take _ _ _ h4, List.length_take, h1]
    exact Nat.min_eq_left (Nat.mul_le_mul_right _ hm)
  · rcases h2 with ⟨hv, hn0⟩ | ⟨g, cap, cur, hv, hg, hh, hle, hmx, hsz, hxs⟩
    · subst hn0
      have : n' = 0 := by omega
      subst this
      exact .inl ⟨hv, rfl⟩
    · simp only [Value.slice.injEq] at hv
      obtain ⟨rfl, -, rfl⟩ := hv
      refine .inr ⟨g, c', cur, rfl, hg, hh, by omega, hmx, hsz, ?_⟩
      rw [flatten_take _ _ _ h4, ← hxs, List.take_take, Nat.min_eq_left (Nat.mul_le_mul_right _ hm)]

section
variable {P : Program} {X : Nat → Prop} {W : World} {n : Nat} {env : List (Nat × Value)} {mem : List Res} {S : St} {o : Oper} {d : Tmp}
theorem q_makeFunc {f : FuncId} {xs : List Operand} {vs : List Value} (ho : o.op = .makeFunc (.func f) #[] xs.toArray) (hx : Evs S.env xs vs) : Q1 P X W n S o (.func (.func f) #[] vs.toArray) :=
  fun a w hs => .inl (by simp [execOp, ho, Instr.makeFunc, hx.map hs])
theorem h_callvX {f : FuncId} {y : Operand} {xs : List Operand} {ts : Array TypeId} {vs cap : List Value} {Y : World → Nat → Prop} {Φ : Value → List Res → Prop} (cs ls : List Res) (ho : o.op = .call { callee := .value y, args := xs.toArray, argTypes := ts }) (hd : o.dst = some d) (hdn : Nat.blt d n = true)
    (hy : ev env y = some (.func (.func f) #[] cap.toArray)) (hf : Callable P f) (hx : Evs env xs vs) (hp : mem.Perm (cs ++ ls)) (hY : ∀ w b, Y w b → ∃ r ∈ cs, r.at b) (hc : ∀ w, Kept X W w → Mem X W mem w → Calls P f (vs ++ cap).toArray w (Ret w (Y w) Φ)) :
    H1 P X W n ⟨env, mem⟩ o (fun i : Value × List Res => Φ i.1 i.2) (fun i => ⟨(d, i.1) :: env, i.2 ++ ls⟩) := by
  intro a w hs k Q hk
  unfold Oper.wp
  rw [exec_callv ho hy hf hx hs]
  refine (hc w hs.kept hs.mem).mono ?_
  rintro e w' ⟨v, m, hΦ, rfl, hkept, hm⟩
  have h2 := (hs.change hp hkept (hY w) hm).put hdn v
  show k (a.put o.dst v) w'
  rw [hd]
  exact hk (v, m) _ _ hΦ h2
end
/-- An owned row is no longer than its room. -/
theorem run_ownLe {P : Program} {fn : Func} {R : Ending → World → Prop} {X : Nat → Prop} {W : World} {n : Nat} {k : List K} {S : St} {t : TypeId} {size m c : Nat} {A : Option Addr} {ls : List (List Value)} {l : List Res} (hs : Sel S.mem (.own t size A m c ls) l) (h : m ≤ c → Run P fn R X W n k S) : Run P fn R X W n k S := by
  intro a w hsat
  refine h ?_ a w hsat
  obtain ⟨⟨_, h2⟩, _, _⟩ := hs.holds hsat.mem
  rcases h2 with ⟨hv, hn0⟩ | ⟨g, cap, cur, hv, hg, hh, hle, _⟩
  · omega
  · simp only [Value.slice.injEq] at hv
    omega
theorem nth_mem {α : Type} [Inhabited α] {l : List α} {q : Nat} (h : q < l.length) : nth l q ∈ l := by
  rw [nth, List.getD_eq_getElem?_getD, List.getElem?_eq_getElem h]; exact List.getElem_mem h
/-- A block as the one element of a row. -/
theorem rd_blk {w : World} {b s : Nat} {t : TypeId} {cs : List (Nat × Value)} {vs : List Value} (h : (Res.blk b t cs).holds w) (hv : ∀ i v, vs[i]? = some v → fnd cs i = some v) : Rd w (some ⟨b, 0, none⟩) s [vs] := by
  refine .inr ⟨_, rfl, fun i c hi j v hj => ?_⟩
  cases i with
  | zero =>
    simp only [List.getElem?_cons_zero, Option.some.injEq] at hi
    subst hi
    rw [Nat.zero_mul, Nat.zero_add]
    have e : (Addr.add ⟨b, 0, none⟩ j) = ⟨b, j, none⟩ := by
      unfold Addr.add
      by_cases hj0 : j = 0
      · simp [hj0]
      · simp [hj0]
    rw [e]
    exact blk_cell h (hv j v hj)
  | succ i => simp at hi
end Hr
end Go.Proofs.YtgphmbipakdggaaR
