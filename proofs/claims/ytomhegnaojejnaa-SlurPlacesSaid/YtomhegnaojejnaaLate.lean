/- Regions that draw their order, walked order by order, with stores that wait for all that reads. Nothing of a program. -/
import Derived.Test.YtomhegnaojejnaaFork
set_option linter.unusedSimpArgs false
set_option linter.unusedVariables false
namespace Go.Proofs.Ytomhegnaojejnaa
namespace Hr
open Go Go.RowKit

section
variable {P : Program} {fn : Func} {R : Ending → World → Prop} {X : Nat → Prop} {W : World} {n : Nat} {k : List K} {S : St} {env : List (Nat × Value)} {mem : List Res} {M0 : List Res} {ops : Array Oper} {listed : Array Bool} {m : Nat} {late : List Nat} {c : Bool}

/-- Operation j waits for operation i, itself or through others. -/
def reach (ops : Array Oper) : Nat → Nat → Nat → Bool
  | 0, j, i => waits ops j i
  | f + 1, j, i => waits ops j i || (match ops[j]? with
    | some o => o.after.any fun e => Region.binds .any e && reach ops f e.on i
    | none => false)
theorem waits_listed {L : Array Bool} {j i : Nat} (h : waits ops j i = true) (hall : ∀ o, ops[j]? = some o → ∀ e ∈ o.after, Region.binds .any e = true → L.getD e.on false = true) : L.getD i false = true := by
  obtain ⟨o', ho', e, he, hb, hon⟩ := waits_spec h
  have := hall o' ho' e he hb
  rw [hon] at this; exact this
theorem reach_listed {L : Array Bool} (hcl : Closed ops L) {i : Nat} : ∀ (f j : Nat), reach ops f j i = true → (∀ o, ops[j]? = some o → ∀ e ∈ o.after, Region.binds .any e = true → L.getD e.on false = true) → L.getD i false = true
  | 0, j, h, hall => waits_listed h hall
  | f + 1, j, h, hall => by
    rw [reach, Bool.or_eq_true] at h
    rcases h with h | h
    · exact waits_listed h hall
    · cases ho : ops[j]? with
      | none => rw [ho] at h; cases h
      | some o =>
        rw [ho] at h
        obtain ⟨e, he, h2⟩ := Array.any_eq_true'.1 h
        rw [Bool.and_eq_true] at h2
        have h3 := hall o ho e he h2.1
        exact reach_listed hcl f e.on h2.2 fun o' ho' e' he' hb' => hcl e.on o' ho' h3 e' he' hb'
def Dl (X : Nat → Prop) (W : World) (M0 : List Res) (late : List Nat) (j : Nat) (w1 w' : World) : Prop := late.contains j = false → Core X W M0 w1 → Core X W M0 w'
def RunL (P : Program) (fn : Func) (R : Ending → World → Prop) (X : Nat → Prop) (W : World) (n : Nat) (k : List K) (M0 : List Res) (late : List Nat) (c : Bool) (ops : Array Oper) (m : Nat) (listed : Array Bool) (S : St) : Prop :=
  Region.noSelect ops = true → Closed ops listed → ∀ a w, Sat X W n S a w → (c = true → Core X W M0 w) →
    AnyU P ops (Dl X W M0 late) (fun a w => post P fn R k .normal a w) (Only fun a w => post P fn R k .normal a w) m listed a w

theorem l_fork {id : Nat} {l : List Oper} (late : List Nat) (hm : P.follows .mixedOrders = true) (hok : Region.noSelect l.toArray = true) (hM : MemSub S.mem M0) (h : RunL P fn R X W n k M0 late true l.toArray l.toArray.size (Array.replicate l.toArray.size false) S) :
    Run P fn R X W n (.code (.region id l.toArray true) :: k) S := by
  intro a w hs
  have hs' : Sat X W n S a { w with drawn := w.drawn + 1 } := hs.world (Kept.refl nX w).drew
  have hcl : Closed l.toArray (Array.replicate l.toArray.size false) := by
    intro j o hj hl
    rcases Nat.lt_or_ge j l.toArray.size with h' | h'
    · simp at h'; simp [h'] at hl
    · simp at h'; simp [h'] at hl
  have hd := h hok hcl a _ hs' fun _ => ⟨hs'.kept, (hM _ _ _ hs'.mem).1⟩
  have := wp_region_any (P := P) (id := id) hm (AnyU.any (E := Only fun a w => post P fn R k .normal a w) (fun a w h => ⟨rfl, h⟩) hd)
  exact Code.wp_mono (fun e a w ⟨he, hq⟩ => by subst he; exact hq) this
theorem l_nil (h0 : Region.ready .any ops listed = []) (h : Run P fn R X W n k S) : RunL P fn R X W n k M0 late c ops 0 listed S := by
  intro _ _ a w hs _ w1 hk1
  exact ⟨h0, h a w1 (hs.world hk1)⟩
theorem l_first {i : Nat} {o : Oper} {v : Value} {a : Act} {w : World} (hi : ops[i]? = some o) (hr : ((Region.ready .any ops listed).contains i && Region.free .any ops listed i && late.all fun j => reach ops 4 j i) = true) (hsel : Region.noSelect ops = true) (hcl : Closed ops listed)
    (hy : YieldsU P ops (Core X W M0) o v a) (hC : Core X W M0 w)
    (hk : Closed ops (listed.setIfInBounds i true) → AnyU P ops (Dl X W M0 late) (fun a w => post P fn R k .normal a w) (Only fun a w => post P fn R k .normal a w) m (listed.setIfInBounds i true) (a.put o.dst v) w) :
    AnyU P ops (Dl X W M0 late) (fun a w => post P fn R k .normal a w) (Only fun a w => post P fn R k .normal a w) (m + 1) listed a w := by
  simp only [Bool.and_eq_true] at hr
  have hr' : i ∈ Region.ready .any ops listed := by simpa using hr.1.1
  refine AnyU.first (C := Core X W M0) (v := v) hi (Region.noSelect_spec hsel) (fun _ _ => Core.up) (fun w1 w' hk _ h => h.up hk) (fun L j w1 w' hclL hLi hj hC1 hD => ?_) _ _ _ _ hcl (Region.free_spec hi hr.1.2) hr' hy hC (hk (hcl.step hr'))
  cases hj' : late.contains j
  · exact hD hj' hC1
  · exfalso
    have hw := (List.all_eq_true.1 hr.2) j (by simpa using hj')
    obtain ⟨_, oj, hoj, hall⟩ := mem_ready.1 hj
    have h1 := reach_listed hclL 4 j hw fun o ho => by rw [hoj] at ho; cases ho; exact hall
    rcases Nat.lt_or_ge i L.size with h' | h'
    · simp [h'] at hLi h1; rw [hLi] at h1; cases h1
    · simp [Array.getElem?_eq_none h'] at h1
theorem l_q {i d : Nat} {o : Oper} {v : Value} (hi : ops[i]? = some o) (hr : ((Region.ready .any ops listed).contains i && Region.free .any ops listed i && late.all fun j => reach ops 4 j i) = true) (hw : Want ops env o true) (hd : o.dst = some d) (hdn : Nat.blt d n = true) (h : Q1 P X W n ⟨env, M0⟩ o v)
    (hk : RunL P fn R X W n k M0 late true ops m (listed.setIfInBounds i true) ⟨(d, v) :: env, mem⟩) : RunL P fn R X W n k M0 late true ops (m + 1) listed ⟨env, mem⟩ := by
  intro hsel hcl a w hs hC
  refine l_first hi hr hsel hcl (v := v) (.inl ⟨hw.eq hs, fun w' hw' => h a w' ⟨hs.size, hs.defers, hs.env, hw'.1, hw'.2⟩⟩) (hC rfl) fun hcl' => ?_
  have := hk hsel hcl' (a.put (some d) v) w (hs.put hdn v) hC
  rw [hd]
  exact this
def TakeL (P : Program) (fn : Func) (R : Ending → World → Prop) (X : Nat → Prop) (W : World) (n : Nat) (k : List K) (M0 : List Res) (late : List Nat) (c : Bool) (ops : Array Oper) (m : Nat) (listed : Array Bool) (i : Nat) (S : St) : Prop :=
  Region.noSelect ops = true → Closed ops listed → Closed ops (listed.setIfInBounds i true) → ∀ a w, Sat X W n S a w → (c = true → Core X W M0 w) →
    wpOp P ops (Only fun a w => post P fn R k .normal a w) i (fun a' w' => Dl X W M0 late i w w' ∧ AnyU P ops (Dl X W M0 late) (fun a w => post P fn R k .normal a w) (Only fun a w => post P fn R k .normal a w) m (listed.setIfInBounds i true) a' w') a w
theorem l_h {i : Nat} {o : Oper} {ι : Type} {φ : ι → Prop} {next : ι → St} (hi : ops[i]? = some o) (hw : Want ops env o true) (h : H1 P X W n ⟨env, mem⟩ o φ next) (hM : ∀ j, φ j → MemSub (next j).mem M0)
    (hk : ∀ j, φ j → RunL P fn R X W n k M0 late true ops m (listed.setIfInBounds i true) (next j)) : TakeL P fn R X W n k M0 late true ops m listed i ⟨env, mem⟩ := by
  intro hsel hcl hcl' a w hs hC
  unfold wpOp
  simp only [hi]
  rw [if_pos (hw.eq hs)]
  refine .inl (h a w hs _ _ fun i' a' w' hφ hs' => ?_)
  have hC' : Core X W M0 w' := ⟨hs'.kept, (hM i' hφ _ _ _ hs'.mem).1⟩
  exact ⟨fun _ _ => hC', hk i' hφ hsel hcl' a' w' hs' fun _ => hC'⟩
theorem l_late {i : Nat} {o : Oper} {ι : Type} {φ : ι → Prop} {next : ι → St} (hi : ops[i]? = some o) (hl : late.contains i = true) (hw : Want ops env o true) (h : H1 P X W n ⟨env, mem⟩ o φ next)
    (hk : ∀ j, φ j → RunL P fn R X W n k M0 late false ops m (listed.setIfInBounds i true) (next j)) : TakeL P fn R X W n k M0 late c ops m listed i ⟨env, mem⟩ := by
  intro hsel hcl hcl' a w hs hC
  unfold wpOp
  simp only [hi]
  rw [if_pos (hw.eq hs)]
  refine .inl (h a w hs _ _ fun i' a' w' hφ hs' => ?_)
  exact ⟨fun h0 => (by rw [hl] at h0; cases h0), hk i' hφ hsel hcl' a' w' hs' fun h0 => (by cases h0)⟩
theorem l_one (i : Nat) (hr : Region.ready .any ops listed = [i]) (h : TakeL P fn R X W n k M0 late c ops m listed i S) : RunL P fn R X W n k M0 late c ops (m + 1) listed S := by
  intro hsel hcl a w hs hC w1 hk1
  refine ⟨fun h0 => (by rw [hr] at h0; cases h0), fun j hj => ?_⟩
  have hst := hcl.step hj
  rw [hr] at hj
  simp only [List.mem_singleton] at hj
  subst hj
  exact h hsel hcl hst a w1 (hs.world hk1) fun h => (hC h).up hk1
theorem l_two (i j : Nat) (hr : Region.ready .any ops listed = [i, j]) (h : TakeL P fn R X W n k M0 late c ops m listed i S) (h' : TakeL P fn R X W n k M0 late c ops m listed j S) : RunL P fn R X W n k M0 late c ops (m + 1) listed S := by
  intro hsel hcl a w hs hC w1 hk1
  refine ⟨fun h0 => (by rw [hr] at h0; cases h0), fun q hq => ?_⟩
  have hst := hcl.step hq
  rw [hr] at hq
  simp only [List.mem_cons, List.not_mem_nil, or_false] at hq
  rcases hq with rfl | rfl
  · exact h hsel hcl hst a w1 (hs.world hk1) fun h => (hC h).up hk1
  · exact h' hsel hcl hst a w1 (hs.world hk1) fun h => (hC h).up hk1
end
end Hr
end Go.Proofs.Ytomhegnaojejnaa
