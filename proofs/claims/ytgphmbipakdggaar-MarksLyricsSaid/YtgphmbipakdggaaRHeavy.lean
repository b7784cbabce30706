/- The rules for operations that make or write memory, and for calls. Nothing here speaks of one program. -/
import Derived.Test.YtgphmbipakdggaaROps
set_option linter.unusedSimpArgs false
set_option linter.unusedVariables false
namespace Go.Proofs.YtgphmbipakdggaaR
namespace Hr
open Go Go.RowKit

theorem setRow_kept {w : World} {g : Nat} {r : Array Value} : Kept (fun k => k = g) w (w.setRow g r) :=
  ⟨rfl, rfl, rfl, by simp, fun k _ hk => setRow_other w g k r hk⟩

section
variable {P : Program} {X : Nat → Prop} {W : World} {n : Nat} {S : St} {env : List (Nat × Value)} {mem : List Res} {o : Oper} {a : Act} {w : World}

/-- A new block. -/
theorem Sat.new (hs : Sat X W n S a w) (ob : Obj) (r : Res) (hr : r.holds (w.alloc ob)) (hat : ∀ b, r.at b → b = w.heap.size) : Sat X W n ⟨S.env, r :: S.mem⟩ a (w.alloc ob) := by
  have hk := Kept.alloc w ob
  refine ⟨hs.size, hs.defers, hs.env, hs.kept.step0 hk, (hs.mem.keep0 hk).cons hr (fun b hb => .inl ?_) (fun s h b hb hsb => ?_)⟩
  · rw [hat b hb]; exact hs.kept.size
  · rw [hat b hb] at hsb
    exact absurd (hs.mem.lt s h _ hsb) (Nat.lt_irrefl _)

/-- Blocks of the resources in cs may turn; they come back as m. -/
theorem Sat.change (hs : Sat X W n S a w) {w' : World} {Y : Nat → Prop} {cs ls m : List Res} (hp : S.mem.Perm (cs ++ ls)) (hk : Kept Y w w') (hY : ∀ b, Y b → ∃ r ∈ cs, r.at b)
    (hm : Mem Y w m w') : Sat X W n ⟨S.env, m ++ ls⟩ a w' := by
  have h1 := hs.mem.perm hp
  have hap := List.pairwise_append.1 h1.apart
  have hls : Mem X W ls w := h1.sub (List.sublist_append_right _ _)
  have hYX : ∀ k, k < W.heap.size → ¬ X k → ¬ Y k := fun k hk' hx hy => by
    obtain ⟨r, hr, hrk⟩ := hY k hy
    rcases h1.own r (by simp [hr]) k hrk with h | h
    · omega
    · exact hx h
  have hls' : Mem X W ls w' := hls.keep hk fun s hsl b hb hy => by
    obtain ⟨r, hr, hrb⟩ := hY b hy
    exact hap.2.2 r hr s hsl b hrb hb
  refine ⟨hs.size, hs.defers, hs.env, hs.kept.step hk hYX, ⟨fun r hr => ?_, fun r hr b hb => ?_, ?_⟩⟩
  · rcases List.mem_append.1 hr with h | h
    · exact hm.holds r h
    · exact hls'.holds r h
  · rcases List.mem_append.1 hr with h | h
    · rcases hm.own r h b hb with h2 | h2
      · exact .inl (Nat.le_trans hs.kept.size h2)
      · obtain ⟨u, hu, hub⟩ := hY b h2
        exact h1.own u (by simp [hu]) b hub
    · exact hls.own r h b hb
  · refine List.pairwise_append.2 ⟨hm.apart, hls'.apart, fun r hr s hsl b hb hsb => ?_⟩
    rcases hm.own r hr b hb with h2 | h2
    · exact absurd (hls.lt s hsl b hsb) (by omega)
    · obtain ⟨u, hu, hub⟩ := hY b h2
      exact hap.2.2 u hu s hsl b hub hsb

theorem upon_value {k : Act → World → Prop} {Q : Exit → Act → World → Prop} {v : Value} {w' : World} (h : (execOp a.eval o).run P w = .ok (.value v) w') (hk : k (a.put o.dst v) w') : o.wp P a w k Q := by
  unfold Oper.wp; rw [h]; exact hk
theorem upon_skip {k : Act → World → Prop} {Q : Exit → Act → World → Prop} {w' : World} (h : (execOp a.eval o).run P w = .ok .skip w') (hk : k (a.put o.dst undef) w') : o.wp P a w k Q := by
  unfold Oper.wp; rw [h]; exact hk

def isTuple : Value → Bool
  | .tuple _ => true
  | _ => false
theorem cells_vlist {v : Value} (h : isTuple v = false) : v.cells = (vlist v).toArray := by
  cases v <;> first | rfl | simp [isTuple] at h | simp [Value.cells, vlist]

theorem holds_new (w : World) (t : TypeId) (vs : List Value) : (Res.blk w.heap.size t (enum 0 vs)).holds (w.alloc (.cells vs.toArray t)) :=
  ⟨_, heap_alloc_new w _, fun i v h => by
    obtain ⟨_, h2⟩ := fnd_enum vs 0 i v h
    simpa using h2⟩

section
variable {x y : Operand} {t e : TypeId} {k : IntKind} {d : Nat}
theorem h_box {v : Value} (ho : o.op = .box t x) (hd : o.dst = some d) (hdn : Nat.blt d n = true) (hx : ev env x = some v) (hv : isTuple v = false) :
    H1 P X W n ⟨env, mem⟩ o (fun _ : Nat => True) (fun b => ⟨(d, .pointer (some ⟨b, 0, none⟩)) :: env, .blk b t (enum 0 (vlist v)) :: mem⟩) := by
  intro a w hs k Q hk
  have hrun : (execOp a.eval o).run P w = .ok (.value (.pointer (some ⟨w.heap.size, 0, none⟩))) (w.alloc (.cells (vlist v).toArray t)) := by
    simp [execOp, ho, hs.eval hx, Instr.box, newVar, newRow, cells_vlist hv]
  refine upon_value hrun ?_
  rw [hd]
  exact hk w.heap.size _ _ trivial ((hs.new _ _ (holds_new w t (vlist v)) (fun _ h => h.symm)).put hdn _)

theorem h_alloc {zs : List Value} {s b : Nat} (ho : o.op = .alloc t) (hd : o.dst = some d) (hdn : Nat.blt d n = true) (hi : Info P t zs s b) :
    H1 P X W n ⟨env, mem⟩ o (fun _ : Nat => True) (fun b => ⟨(d, .pointer (some ⟨b, 0, none⟩)) :: env, .blk b t (enum 0 zs) :: mem⟩) := by
  intro a w hs k Q hk
  obtain ⟨i, z, h1, h2, rfl, _, _⟩ := hi
  have hrun : (execOp a.eval o).run P w = .ok (.value (.pointer (some ⟨w.heap.size, 0, none⟩))) (w.alloc (.cells z.cells.toList.toArray t)) := by
    simp [execOp, ho, Instr.alloc, newVar, newRow, zeroValue, typeInfo, h1, h2]
  refine upon_value hrun ?_
  rw [hd]
  exact hk w.heap.size _ _ trivial ((hs.new _ _ (holds_new w t _) (fun _ h => h.symm)).put hdn _)

def allCells : List Value → Bool
  | [] => true
  | v :: r => match v with
    | .agg _ => false
    | .tuple _ => false
    | _ => allCells r
theorem allCells_one : ∀ {l : List Value}, allCells l = true → ∀ v ∈ l, v.oneCell' = true
  | [], _, v, h => by simp at h
  | x :: l, h, v, hv => by
    rcases List.mem_cons.1 hv with rfl | hv
    · cases v <;> first | rfl | simp [allCells] at h
    · refine allCells_one (l := l) ?_ v hv
      cases x <;> first | exact h | simp [allCells] at h

theorem fnd_splice (cs : List (Nat × Value)) (vs : List Value) (i : Nat) (c : Array Value) (h : ∀ j v, fnd cs j = some v → c[j]? = some v) (hl : i + vs.length ≤ c.size) :
    ∀ j v, fnd (enum i vs ++ cs) j = some v → (c.toList.take i ++ vs ++ c.toList.drop (i + vs.length)).toArray[j]? = some v := by
  intro j v hj
  rw [fnd_append] at hj
  rw [List.getElem?_toArray]
  cases hf : fnd (enum i vs) j with
  | some u =>
    rw [hf] at hj
    simp only [Option.some_or, Option.some.injEq] at hj
    subst hj
    obtain ⟨h1, h2⟩ := fnd_enum vs i j u hf
    have hlt := (List.getElem?_eq_some_iff.1 h2).1
    rw [List.getElem?_append_left (by simp; omega), List.getElem?_append_right (by simp; omega)]
    simpa [show min i c.size = i from by omega] using h2
  | none =>
    rw [hf] at hj
    simp only [Option.none_or] at hj
    have hc := h j v hj
    have hnot : ¬ (i ≤ j ∧ j < i + vs.length) := by
      intro ⟨h1, h2⟩
      have : ∀ (l : List Value) (i : Nat), i ≤ j → j < i + l.length → (fnd (enum i l) j).isSome = true := by
        intro l
        induction l with
        | nil => intro i h1 h2; simp at h2; omega
        | cons y l ih =>
          intro i h1 h2
          by_cases e : i = j
          · subst e; rw [enum, fnd_cons_self]; rfl
          · rw [enum, fnd_cons_ne e]; exact ih (i + 1) (by omega) (by simp at h2; omega)
      have h3 := this vs i h1 h2
      rw [hf] at h3; simp at h3
    have hcj := (Array.getElem?_eq_some_iff.1 hc).1
    rw [← hc, ← Array.getElem?_toList]
    rcases Nat.lt_or_ge j i with h1 | h1
    · rw [List.append_assoc, List.getElem?_append_left (by simp; omega), List.getElem?_take, if_pos h1]
    · rw [List.getElem?_append_right (by simp; omega), List.getElem?_drop]
      congr 1
      simp
      omega

/-- A store into a variable's block, of one cell or of several. -/
theorem h_storeB {b i s : Nat} {tb : TypeId} {cs : List (Nat × Value)} {l : List Res} {v : Value} (ho : o.op = .store t x y) (hd : o.dst = none) (hsz : Sz P t (s + 1)) (hx : ev env x = some (.pointer (some ⟨b, i, none⟩))) (hy : ev env y = some v)
    (hv : isTuple v = false) (hl : (vlist v).length = s + 1) (h1 : allCells (vlist v) = true) (hs : Sel mem (.blk b tb cs) l) (hold : (fnd cs (i + s)).isSome = true) :
    H1 P X W n ⟨env, mem⟩ o (fun _ : Unit => True) (fun _ => ⟨env, .blk b tb (enum i (vlist v) ++ cs) :: l⟩) := by
  intro a w hsat k Q hk
  obtain ⟨c, hc, hf⟩ := hs.holds hsat.mem
  have hroom : i + (vlist v).length ≤ c.size := by
    obtain ⟨u, hu⟩ := Option.isSome_iff_exists.1 hold
    have := (Array.getElem?_eq_some_iff.1 (hf _ u hu)).1
    omega
  have hst := run_storeCells_at P b i tb (vlist v) 0 c w hc (by omega) (allCells_one h1)
  have hrun : (execOp a.eval o).run P w = .ok .skip (w.setRow b (c.toList.take i ++ vlist v ++ c.toList.drop (i + (vlist v).length)).toArray) := by
    rw [← hl] at hsz
    simp [execOp, ho, hsat.eval hx, hsat.eval hy, Instr.storeAt, Instr.sureAddr, storeVar, hsz.run, cells_vlist hv, hst]
  refine upon_skip hrun ?_
  rw [hd]
  refine hk () _ _ trivial ?_
  have hm : Mem (fun k => k = b) w [.blk b tb (enum i (vlist v) ++ cs)] (w.setRow b (c.toList.take i ++ vlist v ++ c.toList.drop (i + (vlist v).length)).toArray) :=
    Mem.nil.cons (r := .blk b tb (enum i (vlist v) ++ cs)) ⟨_, setRow_heap w b c _ tb _ hc, fnd_splice cs (vlist v) i c hf hroom⟩ (fun k hk => .inr (by simpa [Res.at, eq_comm] using hk)) (by simp)
  exact hsat.change (Y := fun k => k = b) (cs := [.blk b tb cs]) (ls := l) hs.perm setRow_kept (fun k hk => ⟨.blk b tb cs, by simp, by simp [hk, Res.at]⟩) hm

theorem flatten_length {size : Nat} : ∀ (ls : List (List Value)), (∀ z ∈ ls, z.length = size) → ls.flatten.length = ls.length * size
  | [], _ => by simp
  | z :: ls, h => by
    rw [List.flatten_cons, List.length_append, flatten_length ls (fun y hy => h y (by simp [hy])), h z (by simp), List.length_cons, Nat.add_mul]
    omega

theorem flatten_set {size : Nat} : ∀ (ls : List (List Value)) (q : Nat) (vs : List Value), (∀ z ∈ ls, z.length = size) → q < ls.length → vs.length = size →
    (ls.set q vs).flatten = ls.flatten.take (q * size) ++ vs ++ ls.flatten.drop (q * size + vs.length)
  | [], q, _, _, h, _ => by simp at h
  | z :: ls, 0, vs, h, _, hv => by
    have hz := h z (by simp)
    simp only [List.set_cons_zero, List.flatten_cons, Nat.zero_mul, List.take_zero, List.nil_append, Nat.zero_add]
    rw [hv, ← hz, List.drop_left]
  | z :: ls, q + 1, vs, h, hq, hv => by
    have hz := h z (by simp)
    have ih := flatten_set ls q vs (fun y hy => h y (by simp [hy])) (by simpa using hq) hv
    simp only [List.set_cons_succ, List.flatten_cons, ih]
    have e1 : (q + 1) * size = z.length + q * size := by rw [hz, Nat.add_mul]; omega
    rw [e1, List.take_length_add_append, Nat.add_assoc, List.drop_length_add_append]
    simp

theorem own_block {A : Option Addr} {m c size : Nat} {ls : List (List Value)} (h : (Res.own e size A m c ls).holds w) (hm : 0 < m) : ∃ g cur, A = some ⟨g, 0, none⟩ ∧ w.heap[g]? = some (.cells cur e (0, 0)) ∧ m ≤ c ∧ c ≤ maxLen ∧ cur.size = c * size ∧ cur.toList.take (m * size) = ls.flatten := by
  obtain ⟨⟨_, h2⟩, _, _⟩ := h
  rcases h2 with ⟨_, h0⟩ | ⟨g, cap, cur, hv, _, hh, h3, h4, h5, h6⟩
  · omega
  · simp only [Value.slice.injEq, true_and] at hv
    obtain ⟨rfl, rfl⟩ := hv
    exact ⟨g, cur, rfl, hh, h3, h4, h5, h6⟩

/-- Writing cells inside an owned row. -/
theorem own_write {g m c size o' : Nat} {ls ls' : List (List Value)} {cur : Array Value} {vs : List Value} (hh : w.heap[g]? = some (.cells cur e (0, 0))) (hmc : m ≤ c) (hc : c ≤ maxLen) (hsz : cur.size = c * size) (ht : cur.toList.take (m * size) = ls.flatten)
    (hb : o' + vs.length ≤ m * size) (hl : ls'.length = m) (hz : ∀ z ∈ ls', z.length = size) (hf : ls'.flatten = ls.flatten.take o' ++ vs ++ ls.flatten.drop (o' + vs.length)) :
    (Res.own e size (some ⟨g, 0, none⟩) m c ls').holds (w.setRow g (cur.toList.take o' ++ vs ++ cur.toList.drop (o' + vs.length)).toArray) := by
  have hms : m * size ≤ c * size := Nat.mul_le_mul_right _ hmc
  refine ⟨⟨by rw [flatten_length ls' hz, hl], .inr ⟨g, c, _, rfl, Nat.zero_le _, setRow_heap w g cur _ e _ hh, hmc, hc, ?_, ?_⟩⟩, hl, hz⟩
  · simp only [List.size_toArray, List.length_append, List.length_take, List.length_drop, Array.length_toList, hsz]
    omega
  · rw [hf, ← ht]
    clear hf ht hz hl
    apply List.ext_getElem?
    intro j
    simp only [List.getElem?_take, List.getElem?_append, List.length_append, List.length_take, Array.length_toList, hsz, List.getElem?_drop]
    have e1 : min o' (c * size) = o' := by omega
    have e2 : min (min o' (m * size)) (c * size) = o' := by omega
    have e3 : min o' (min (m * size) (c * size)) = o' := by omega
    simp only [e1, e3]
    by_cases h1 : j < m * size
    · simp only [h1, if_true]
      by_cases h2 : j < o' + vs.length
      · simp only [h2, if_true]
      · simp only [h2, if_false]
        have : o' + vs.length + (j - (o' + vs.length)) < m * size := by omega
        simp [this]
    · simp only [h1, if_false]
      have h2 : ¬ j < o' + vs.length := by omega
      simp only [h2, if_false]
      have : ¬ o' + vs.length + (j - (o' + vs.length)) < m * size := by omega
      simp [this]

/-- A store of a whole element of an owned row. -/
theorem h_storeE {A : Option Addr} {m c size q : Nat} {ls : List (List Value)} {l : List Res} {v : Value} (ho : o.op = .store t x y) (hd : o.dst = none) (hsz : Sz P t size) (hx : ev env x = some (.pointer (some ((adr A).add (q * size))))) (hy : ev env y = some v)
    (hv : isTuple v = false) (hl : (vlist v).length = size) (h1 : allCells (vlist v) = true) (hs : Sel mem (.own e size A m c ls) l) (hq : q < m) :
    H1 P X W n ⟨env, mem⟩ o (fun _ : Unit => True) (fun _ => ⟨env, .own e size A m c (ls.set q (vlist v)) :: l⟩) := by
  intro a w hsat k Q hk
  have hh := hs.holds hsat.mem
  obtain ⟨g, cur, rfl, hg, h3, h4, h5, h6⟩ := own_block hh (by omega)
  obtain ⟨_, hlen, hz⟩ := hh
  have hqs : q * size + size ≤ m * size := by rw [← Nat.succ_mul]; exact Nat.mul_le_mul_right _ hq
  have hms : m * size ≤ c * size := Nat.mul_le_mul_right _ h3
  have hst := run_storeCells_at P g (q * size) e (vlist v) 0 cur w hg (by omega) (allCells_one h1)
  have hrun : (execOp a.eval o).run P w = .ok .skip (w.setRow g (cur.toList.take (q * size) ++ vlist v ++ cur.toList.drop (q * size + (vlist v).length)).toArray) := by
    have ead : (adr (some ⟨g, 0, none⟩)).add (q * size) = ⟨g, q * size, none⟩ := by simp [adr, Addr.add_lit]
    rw [← hl] at hsz
    simp only [execOp, ho, hsat.eval hx, hsat.eval hy, Instr.storeAt, Instr.sureAddr, storeVar, ead, cells_vlist hv]
    simp [hsz.run, hst]
  refine upon_skip hrun ?_
  rw [hd]
  refine hk () _ _ trivial ?_
  have hw := own_write (ls := ls) (ls' := ls.set q (vlist v)) (vs := vlist v) hg h3 h4 h5 h6 (by omega) (by simpa using hlen) (fun z hz' => by
    rcases List.mem_or_eq_of_mem_set hz' with h | rfl
    · exact hz z h
    · exact hl) (flatten_set ls q (vlist v) hz (by omega) hl)
  have hm : Mem (fun k => k = g) w [.own e size (some ⟨g, 0, none⟩) m c (ls.set q (vlist v))] _ := Mem.nil.cons hw (fun k hk => .inr (by simpa [Res.at, eq_comm] using hk)) (by simp)
  exact hsat.change (Y := fun k => k = g) (cs := [.own e size (some ⟨g, 0, none⟩) m c ls]) (ls := l) hs.perm setRow_kept (fun k hk => ⟨.own e size (some ⟨g, 0, none⟩) m c ls, by simp, by simp [hk, Res.at]⟩) hm

theorem Kept.row {w w' : World} {row : Option Nat} (h : w.grownBy w' row) : Kept (fun k => row = some k) w w' := ⟨h.os, h.tape, h.output, h.size, fun k hk hx => h.block k hk (fun e => hx e.symm)⟩

/-- append: a slice that is nil or the call's own; what is appended reads so. -/
theorem h_append {A A' : Option Addr} {m c m' c' size bytes : Nat} {ls ls' : List (List Value)} {l : List Res} {zs : List Value} (ho : o.op = .call { callee := .builtin .append, args := #[x, y], argTypes := #[t, t] }) (hd : o.dst = some d) (hdn : Nat.blt d n = true)
    (ht : P.underlying t = some (.slice e)) (hi : Info P e zs (size + 1) bytes) (hzs : zs.length = size + 1) (hx : ev env x = some (.slice A m c)) (hs : Sel mem (.own e (size + 1) A m c ls) l) (hy : ev env y = some (.slice A' m' c')) (hr : RdS X W ⟨env, mem⟩ A' (size + 1) ls')
    (hl' : ls'.length = m') (hz' : ∀ z ∈ ls', z.length = size + 1) (h1 : ∀ z ∈ ls', allCells z = true) (hb : (m + m') * bytes ≤ 140737488355328) (h63 : m + m' ≤ 9223372036854775807) :
    H1 P X W n ⟨env, mem⟩ o (fun _ : Option Addr × Nat => True) (fun i => ⟨(d, .slice i.1 (m + m') i.2) :: env, .own e (size + 1) i.1 (m + m') i.2 (ls ++ ls') :: l⟩) := by
  intro a w hsat k Q hk
  have hh := hs.holds hsat.mem
  obtain ⟨hown, hlen, hz⟩ := hh
  obtain ⟨i, z, hi1, hi2, hi3, hi4, hi5⟩ := hi
  have hzc : z.cells.size = size + 1 := by rw [← hzs, ← hi3, Array.length_toList]
  have hrd := hr w hsat.kept hsat.mem
  have h63' : m + m' ≤ maxLen := by simpa [maxLen] using h63
  have hzz : ∀ z ∈ ls ++ ls', z.length = size + 1 := fun z hzm => (List.mem_append.1 hzm).elim (hz z) (hz' z)
  have hll : (ls ++ ls').length = m + m' := by simp [hlen, hl']
  have key : ∃ A'' c'' w', (Builtin.append_ #[t, t] o.type #[.slice A m c, .slice A' m' c']).run P w = .ok (.slice A'' (m + m') c'') w' ∧ w'.ownsRow 0 e (size + 1) (.slice A'' (m + m') c'') (m + m') (ls ++ ls').flatten ∧ w.grownBy w' (A.map (·.block)) ∧
      (A''.map (·.block) = A.map (·.block) ∨ A''.map (·.block) = some w.heap.size) := by
    rcases A' with _ | ad
    · have hnil : ls' = [] := by
        rcases hrd with h | ⟨ad, h, _⟩
        · exact h
        · cases h
      subst hnil
      simp only [List.length_nil] at hl'
      subst hl'
      refine ⟨A, c, w, ?_, by simpa using hown, World.grownBy.refl w _, .inl rfl⟩
      rcases hown.2 with ⟨hv, h0⟩ | ⟨g, cap, cur, hv, _, _, hnc, _⟩
      · simp only [Value.slice.injEq] at hv
        obtain ⟨rfl, _, rfl⟩ := hv
        subst h0
        simp [Builtin.append_, run_underlying ht, sizeOf, typeInfo, hi1, Builtin.lenOf, Builtin.firstCells]
      · simp only [Value.slice.injEq, true_and] at hv
        obtain ⟨rfl, rfl⟩ := hv
        simp [Builtin.append_, run_underlying ht, sizeOf, typeInfo, hi1, Builtin.lenOf, Builtin.firstCells, hnc, storeCells]
    · have hnews : ∀ j u, ls'.flatten[j]? = some u → w.cell? (ad.add j) = some u := by
        intro j u hj
        rcases hrd with h | ⟨ad', h, hc⟩
        · subst h; simp at hj
        · simp only [Option.some.injEq] at h
          subst h
          have hjl : j < ls'.length * (size + 1) := by rw [← flatten_length ls' hz']; exact (List.getElem?_eq_some_iff.1 hj).1
          have hq : j / (size + 1) < ls'.length := Nat.div_lt_of_lt_mul (by rw [Nat.mul_comm]; exact hjl)
          have hr' : j % (size + 1) < (ls'[j / (size + 1)]).length := by rw [hz' _ (List.getElem_mem hq)]; exact Nat.mod_lt _ (by omega)
          have h2 := flatten_get ls' (size + 1) hz' (j / (size + 1)) _ (List.getElem?_eq_getElem hq) (j % (size + 1)) _ (List.getElem?_eq_getElem hr')
          have e : j / (size + 1) * (size + 1) + j % (size + 1) = j := by rw [Nat.mul_comm]; exact Nat.div_add_mod _ _
          rw [e] at h2
          rw [hj] at h2
          have h3 := hc (j / (size + 1)) _ (List.getElem?_eq_getElem hq) (j % (size + 1)) _ (List.getElem?_eq_getElem hr')
          rw [e] at h3
          rw [h3]; exact h2.symm
      obtain ⟨v', w', hrun, hown', hg, _, hat⟩ := run_append_own_at (P := P) w 0 t o.type e i z (size + 1) bytes ht hi1 hi2 hi4 hi5 hzc (by omega) (.slice A m c) m ls.flatten hown ad m' c' ls'.flatten (by rw [flatten_length ls' hz', hl']) hnews
        (fun u hu => by
          obtain ⟨z, hzm, huz⟩ := List.mem_flatten.1 hu
          exact allCells_one (h1 z hzm) u huz) h63' hb (Nat.zero_le _)
      rw [ownBlock_slice] at hg hat
      have hform : ∃ A'' c'', v' = .slice A'' (m + m') c'' := by
        rcases hown'.2 with ⟨hv, h0⟩ | ⟨g, cap, cur, hv, _⟩
        · exact ⟨none, 0, by rw [h0]; exact hv⟩
        · exact ⟨_, cap, hv⟩
      obtain ⟨A'', c'', rfl⟩ := hform
      rw [ownBlock_slice] at hat
      exact ⟨A'', c'', w', hrun, by rw [List.flatten_append]; exact hown', hg, hat⟩
  obtain ⟨A'', c'', w', hrun, hown', hg, hat⟩ := key
  have hrun' : (execOp a.eval o).run P w = .ok (.value (.slice A'' (m + m') c'')) w' := by
    simp [execOp, ho, resolve, invoke, builtin, hsat.eval hx, hsat.eval hy, hrun]
  refine upon_value hrun' ?_
  rw [hd]
  refine hk (A'', c'') _ _ trivial ?_
  have hm : Mem (fun k => A.map (·.block) = some k) w [.own e (size + 1) A'' (m + m') c'' (ls ++ ls')] w' := by
    refine Mem.nil.cons (r := .own e (size + 1) A'' (m + m') c'' (ls ++ ls')) ⟨hown', hll, hzz⟩ (fun k hk => ?_) (by simp)
    simp only [Res.at] at hk
    rcases hat with h | h
    · rw [h] at hk; exact .inr hk
    · rw [h] at hk; cases hk; exact .inl (Nat.le_refl _)
  have := hsat.change (Y := fun k => A.map (·.block) = some k) (cs := [.own e (size + 1) A m c ls]) (ls := l) hs.perm (Kept.row hg) (fun k hk => ⟨.own e (size + 1) A m c ls, by simp, by simpa [Res.at] using hk⟩) hm
  exact this.put hdn _

/-- Parts given one after another: the composite literal of a slice. -/
inductive Parts (env : List (Nat × Value)) (size : Nat) : Nat → List (Nat × Operand) → List Value → Prop where
  | nil {i : Nat} : Parts env size i [] []
  | cons {i : Nat} {x : Operand} {v : Value} {xs : List (Nat × Operand)} {vs : List Value} (h : ev env x = some v) (hv : isTuple v = false) (hl : (vlist v).length = size) (h1 : allCells (vlist v) = true) (t : Parts env size (i + 1) xs vs) : Parts env size i ((i, x) :: xs) (v :: vs)

theorem foldl_set (cs : List Value) : ∀ (off : Nat) (c : Array Value), off + cs.length ≤ c.size →
    (cs.zipIdx.foldl (fun (a : Array Value) (p : Value × Nat) => a.setIfInBounds (off + p.2) p.1) c).toList = c.toList.take off ++ cs ++ c.toList.drop (off + cs.length) := by
  suffices h : ∀ (i off : Nat) (c : Array Value), off + i + cs.length ≤ c.size →
      ((cs.zipIdx i).foldl (fun (a : Array Value) (p : Value × Nat) => a.setIfInBounds (off + p.2) p.1) c).toList = c.toList.take (off + i) ++ cs ++ c.toList.drop (off + i + cs.length) by
    intro off c hc
    simpa using h 0 off c (by omega)
  induction cs with
  | nil => intro i off c _; simp
  | cons v cs ih =>
    intro i off c hc
    simp only [List.zipIdx_cons, List.foldl_cons]
    rw [ih (i + 1) off (c.setIfInBounds (off + i) v) (by simp at hc ⊢; omega)]
    rw [Array.toList_setIfInBounds]
    have := list_seg_step c.toList (off + i) v cs (by simp at hc ⊢; omega)
    simpa [Nat.add_assoc] using this

theorem fill_parts {size : Nat} : ∀ {i : Nat} {xs : List (Nat × Operand)} {vs : List Value}, Parts env size i xs vs → Sat X W n ⟨env, mem⟩ a w → ∀ (c : Array Value), (i + xs.length) * size ≤ c.size →
    ∃ c' : Array Value, Instr.fill (fun i => some (i * size, size)) c (xs.map fun p => (p.1, a.eval p.2)) = some c' ∧ c'.toList = c.toList.take (i * size) ++ (vs.map vlist).flatten ++ c.toList.drop ((i + xs.length) * size)
  | i, _, _, .nil, _, c, _ => ⟨c, rfl, by simp⟩
  | i, _, _, .cons (x := x) (v := v) (xs := xs) (vs := vs) h hv hl h1 t, hs, c, hc => by
    have hcl : v.cells = (vlist v).toArray := cells_vlist hv
    simp only [List.length_cons] at hc
    have hsize : i * size + size ≤ c.size := by
      have : (i + 1) * size ≤ (i + (xs.length + 1)) * size := Nat.mul_le_mul_right _ (by omega)
      rw [Nat.add_mul] at this; omega
    obtain ⟨c', h2, h3⟩ := fill_parts t hs (v.cells.zipIdx.foldl (fun cs (p : Value × Nat) => cs.setIfInBounds (i * size + p.2) p.1) c) (by
      have h4 : ∀ (l : List (Value × Nat)) (c : Array Value), (l.foldl (fun cs (p : Value × Nat) => cs.setIfInBounds (i * size + p.2) p.1) c).size = c.size := by
        intro l
        induction l with
        | nil => intro c; rfl
        | cons p l ih => intro c; rw [List.foldl_cons, ih]; simp
      rw [← Array.foldl_toList, h4]
      rw [show i + 1 + xs.length = i + (xs.length + 1) from by omega]; exact hc)
    refine ⟨c', ?_, ?_⟩
    · simp only [List.map_cons, Instr.fill, hs.eval h]
      rw [if_neg (by simp [hcl, hl]; omega)]
      exact h2
    · have e := foldl_set (vlist v) (i * size) c (by omega)
      have ez : (v.cells.zipIdx.foldl (fun cs (p : Value × Nat) => cs.setIfInBounds (i * size + p.2) p.1) c).toList = c.toList.take (i * size) ++ vlist v ++ c.toList.drop (i * size + (vlist v).length) := by
        rw [← e, ← Array.foldl_toList, hcl]; simp
      rw [h3, ez]
      have e1 : (i + 1) * size = (c.toList.take (i * size) ++ vlist v).length := by simp [hl, Nat.add_mul]; omega
      have e2 : (i + 1 + xs.length) * size = (c.toList.take (i * size) ++ vlist v).length + xs.length * size := by rw [← e1, Nat.add_mul]
      rw [e2, e1, List.take_left, List.drop_length_add_append, List.drop_drop]
      simp only [List.map_cons, List.flatten_cons, List.append_assoc, List.length_cons]
      congr 4
      rw [hl, Nat.add_mul i, Nat.add_mul xs.length]; omega

theorem Parts.len {size i : Nat} {xs : List (Nat × Operand)} {vs : List Value} (h : Parts env size i xs vs) : vs.length = xs.length ∧ ∀ z ∈ vs.map vlist, z.length = size := by
  induction h with
  | nil => simp
  | cons h hv hl h1 t ih => simp only [List.length_cons, ih.1, List.map_cons, List.mem_cons, true_and]; rintro z (rfl | hz); exact hl; exact ih.2 z hz

theorem h_buildSlice {m size bytes : Nat} {zs : List Value} {xs : List (Nat × Operand)} {vs : List Value} (ho : o.op = .buildSlice t m xs.toArray) (hd : o.dst = some d) (hdn : Nat.blt d n = true) (ht : P.underlying t = some (.slice e)) (hi : Info P e zs (size + 1) bytes)
    (hp : Parts env (size + 1) 0 xs vs) (hm : xs.length = m) (hsmall : m * (size + 1) ≤ 16777216) :
    H1 P X W n ⟨env, mem⟩ o (fun _ : Nat => True) (fun b => ⟨(d, .slice (some ⟨b, 0, none⟩) m m) :: env, .own e (size + 1) (some ⟨b, 0, none⟩) m m (vs.map vlist) :: mem⟩) := by
  intro a w hs k Q hk
  obtain ⟨i, z, hi1, hi2, hi3, hi4, hi5⟩ := hi
  subst hm
  obtain ⟨hlv, hz⟩ := hp.len
  let zero : Array Value := if xs.length * (size + 1) = 0 then #[] else z.cells
  obtain ⟨c', hf, hc'⟩ := fill_parts (a := a) hp hs ((Array.range (xs.length * (size + 1))).map (zero[· % zero.size]!)) (by simp)
  have hc2 : c'.toList = (vs.map vlist).flatten := by
    rw [hc', List.drop_eq_nil_of_le (by simp)]; simp
  have hcs : c' = (vs.map vlist).flatten.toArray := by rw [← hc2]
  have hrun : (execOp a.eval o).run P w = .ok (.value (.slice (some ⟨w.heap.size, 0, none⟩) xs.length xs.length)) (w.alloc (.cells (vs.map vlist).flatten.toArray e)) := by
    have hmap : (xs.toArray.map fun x => (x.1, a.eval x.2)).toList = xs.map fun p => (p.1, a.eval p.2) := by simp
    rw [← hcs]
    simp only [execOp, ho, Instr.buildSlice, Sem.run_bind, run_underlying ht, Result.andThen_ok, sizeOf, typeInfo, Sem.run_pure, run_program, hi1, hi4, hmap]
    have hsm : ¬ (xs.length * (size + 1) > 2 ^ 24) := by omega
    simp only [hsm, if_false]
    by_cases h0 : xs.length * (size + 1) = 0
    · have hz0 : zero = #[] := by simp [zero, h0]
      rw [hz0] at hf
      simp only [h0] at hf ⊢
      simp only [Sem.run_bind, Sem.run_pure, Result.andThen_ok, if_true, hf]
      simp [newRow]
    · have hz0 : zero = z.cells := by simp [zero, h0]
      rw [hz0] at hf
      simp [h0, zeroValue, typeInfo, hi1, hi2, hf, newRow]
  refine upon_value hrun ?_
  rw [hd]
  refine hk w.heap.size _ _ trivial (Sat.put (hs.new _ (.own e (size + 1) (some ⟨w.heap.size, 0, none⟩) xs.length xs.length (vs.map vlist)) ⟨?_, ?_, hz⟩ (fun _ h => (Option.some.inj h).symm)) hdn _)
  · have := World.ownsRow_lit (base := 0) (e := e) (size := size + 1) w (vs.map vlist).flatten.toArray xs.length (Nat.zero_le _) (by have := Nat.le_mul_of_pos_right xs.length (show 0 < size + 1 from by omega); simp [maxLen]; omega) (by simp only [List.size_toArray]; rw [flatten_length _ hz, List.length_map, hlv])
    simpa using this
  · simp [hlv]

theorem h_make {m cap : Nat} {kl kc : IntKind} {z : Value} {bytes : Nat} (ho : o.op = .makeSlice t x y) (hd : o.dst = some d) (hdn : Nat.blt d n = true) (ht : P.underlying t = some (.slice e)) (hi : Info P e [z] 1 bytes) (hx : ev env x = some (.int kl m)) (hy : ev env y = some (.int kc cap)) (hmc : m ≤ cap)
    (hb : bytes * cap ≤ 281474976710656) (h63 : cap ≤ 9223372036854775807) :
    H1 P X W n ⟨env, mem⟩ o (fun _ : Nat => True) (fun b => ⟨(d, .slice (some ⟨b, 0, none⟩) m cap) :: env, .own e 1 (some ⟨b, 0, none⟩) m cap (List.replicate m [z]) :: mem⟩) := by
  intro a w hs k Q hk
  obtain ⟨i, z', hi1, hi2, hi3, hi4, hi5⟩ := hi
  have hz' : z'.cells = #[z] := by apply Array.ext'; simpa using hi3
  have hb' : (i.bytes : Int) * (cap : Int) ≤ 281474976710656 := by
    rw [hi5]
    have h : ((bytes * cap : Nat) : Int) ≤ 281474976710656 := by omega
    rwa [Int.natCast_mul] at h
  have hr := run_make (P := P) w t e i z' ht hi1 hi2 kl kc m cap (by omega) (by omega) hb' (by omega)
  simp only [Int.toNat_natCast, hi4, Nat.mul_one, hz'] at hr
  have hrun : (execOp a.eval o).run P w = .ok (.value (.slice (some ⟨w.heap.size, 0, none⟩) m cap)) (w.alloc (.cells (madeCells #[z] cap) e)) := by
    simp [execOp, ho, hs.eval hx, hs.eval hy, hr]
  refine upon_value hrun ?_
  rw [hd]
  refine hk w.heap.size _ _ trivial (Sat.put (hs.new _ (.own e 1 (some ⟨w.heap.size, 0, none⟩) m cap (List.replicate m [z])) ⟨⟨?_, .inr ⟨w.heap.size, cap, _, rfl, Nat.zero_le _, heap_alloc_new w _, hmc, by simpa [maxLen] using h63, by simp [size_madeCells], ?_⟩⟩, by simp, by simp⟩ (fun _ h => (Option.some.inj h).symm)) hdn _)
  · rw [flatten_length (size := 1) _ (by simp)]; simp
  · rw [toList_madeCells_one]
    simp only [Nat.mul_one, List.take_replicate, Nat.min_eq_left hmc]
    simp

/-- A call, the resources cs given to it. -/
theorem h_callX {f : FuncId} {xs : List Operand} {ts : Array TypeId} {vs : List Value} {Y : World → Nat → Prop} {Φ : Value → List Res → Prop} (cs ls : List Res) (ho : o.op = .call { callee := .value (.func f), args := xs.toArray, argTypes := ts }) (hd : o.dst = some d) (hdn : Nat.blt d n = true)
    (hf : Callable P f) (hx : Evs env xs vs) (hp : mem.Perm (cs ++ ls)) (hY : ∀ w b, Y w b → ∃ r ∈ cs, r.at b) (hc : ∀ w, Kept X W w → Mem X W mem w → Calls P f vs.toArray w (Ret w (Y w) Φ)) :
    H1 P X W n ⟨env, mem⟩ o (fun i : Value × List Res => Φ i.1 i.2) (fun i => ⟨(d, i.1) :: env, i.2 ++ ls⟩) := by
  intro a w hs k Q hk
  unfold Oper.wp
  rw [exec_call ho hf hx hs]
  refine (hc w hs.kept hs.mem).mono ?_
  rintro e w' ⟨v, m, hΦ, rfl, hkept, hm⟩
  have h2 := (hs.change hp hkept (hY w) hm).put hdn v
  show k (a.put o.dst v) w'
  rw [hd]
  exact hk (v, m) _ _ hΦ h2
/-- A call that leaves all memory as it was; what it made is m. -/
theorem h_call {f : FuncId} {xs : List Operand} {ts : Array TypeId} {vs : List Value} {Φ : Value → List Res → Prop} (ho : o.op = .call { callee := .value (.func f), args := xs.toArray, argTypes := ts }) (hd : o.dst = some d) (hdn : Nat.blt d n = true)
    (hf : Callable P f) (hx : Evs env xs vs) (hc : ∀ w, Kept X W w → Mem X W mem w → Calls P f vs.toArray w (Ret w nX Φ)) :
    H1 P X W n ⟨env, mem⟩ o (fun i : Value × List Res => Φ i.1 i.2) (fun i => ⟨(d, i.1) :: env, i.2 ++ mem⟩) :=
  h_callX (Y := fun _ => nX) [] mem ho hd hdn hf hx (List.Perm.refl _) (fun _ _ h => h.elim) hc
end

theorem MemSub.sepNil {m : List Res} : MemSub m (.sep [] :: m) := MemSub.close_ (rs := [])
theorem MemSub.nilOwn {m : List Res} (e : TypeId) (size : Nat) : MemSub m (.own e size none 0 0 [] :: m) := fun _ _ w h =>
  ⟨h.cons (r := .own e size none 0 0 []) ⟨⟨by simp, .inl ⟨rfl, rfl⟩⟩, rfl, by simp⟩ (fun b hb => by simp [Res.at] at hb) (fun _ _ b hb => by simp [Res.at] at hb),
   fun r hr b hb => by
    rcases List.mem_cons.1 hr with rfl | hr
    · simp [Res.at] at hb
    · exact ⟨r, hr, hb⟩⟩
end

/-! ### Results that lie in variables -/
inductive Outs (P : Program) (env : List (Nat × Value)) (mem : List Res) : List ResultVar → List Value → Prop where
  | nil : Outs P env mem [] []
  | tmp {t : Tmp} {v : Value} {rs : List ResultVar} {vs : List Value} (h : fnd env t = some v) (r : Outs P env mem rs vs) : Outs P env mem (.tmp t :: rs) (v :: vs)
  | cellN {a : Tmp} {T tb : TypeId} {b i s : Nat} {cs : List (Nat × Value)} {l : List Res} {us : List Value} {rs : List ResultVar} {vs : List Value} (h : fnd env a = some (.pointer (some ⟨b, i, none⟩))) (ht : Agg P T s) (hs : Sel mem (.blk b tb cs) l) (hv : CellsAt cs i us) (hl : us.length = s)
      (r : Outs P env mem rs vs) : Outs P env mem (.cell a T :: rs) (.agg us.toArray :: vs)
  | cell1 {a : Tmp} {T tb : TypeId} {b i : Nat} {cs : List (Nat × Value)} {l : List Res} {u : Value} {rs : List ResultVar} {vs : List Value} (h : fnd env a = some (.pointer (some ⟨b, i, none⟩))) (ht : One P T) (hs : Sel mem (.blk b tb cs) l) (hv : fnd cs i = some u)
      (r : Outs P env mem rs vs) : Outs P env mem (.cell a T :: rs) (u :: vs)
def pack : List Value → Value
  | [v] => v
  | vs => .tuple vs.toArray
def outF (tmps : Array Value) : ResultVar → Sem Value
  | .tmp t => pure (tmps.getD t undef)
  | .cell ad t => do loadVar t (← asAddr (tmps.getD ad undef))
theorem outs_run {P : Program} {X : Nat → Prop} {W : World} {n : Nat} {env : List (Nat × Value)} {mem : List Res} {rs : List ResultVar} {vs : List Value} (h : Outs P env mem rs vs) {a : Act} {w : World} (hs : Sat X W n ⟨env, mem⟩ a w) :
    (rs.mapM (outF a.tmps)).run P w = .ok vs w := by
  induction h with
  | nil => simp
  | tmp h r ih => simp [List.mapM_cons, outF, hs.env _ _ h, ih]
  | cellN h ht hs' hv hl r ih =>
    have hc := run_loadCells_list (P := P) w ⟨_, _, none⟩ _ (fun j v hj => by rw [Addr.add_lit]; exact blk_cell (hs'.holds hs.mem) (hv.get j v hj))
    simp [List.mapM_cons, outF, hs.env _ _ h, ih, asAddr, loadVar, ht.1, ht.2.run, ← hl, hc]
  | cell1 h ht hs' hv r ih =>
    have hc := blk_cell (hs'.holds hs.mem) hv
    simp [List.mapM_cons, outF, hs.env _ _ h, ih, asAddr, loadVar, ht.1, hc]
theorem endG {P : Program} {fn : Func} {X : Nat → Prop} {W : World} {n : Nat} {env : List (Nat × Value)} {mem : List Res} {Φ : Value → List Res → Prop} {rs : List ResultVar} {vs : List Value} (hr : fn.results = rs.toArray) (ho : Outs P env mem rs vs) (mem' : List Res) (hm : MemSub mem mem') (hΦ : Φ (pack vs) mem') :
    Run P fn (Ret W X Φ) X W n [] ⟨env, mem⟩ := by
  intro a w hs
  refine ⟨hs.defers, pack vs, ?_, _, mem', hΦ, rfl, hs.kept, (hm _ _ _ hs.mem).1⟩
  have h := outs_run ho hs
  have e : results fn a.tmps = (do let vs ← rs.toArray.mapM (outF a.tmps); pure (if h : vs.size = 1 then vs[0] else .tuple vs)) := by
    unfold results; rw [hr]; rfl
  rw [e]
  simp only [List.mapM_toArray, Sem.run_bind, Sem.run_map, h, Result.andThen_ok, Sem.run_pure]
  congr 1
  cases vs with
  | nil => rfl
  | cons v r => cases r <;> simp [pack]
end Hr
end Go.Proofs.YtgphmbipakdggaaR
