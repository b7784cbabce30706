/- A small program logic over the model: a state says what is known of the slots and of the blocks in memory; one rule for each form of code. Nothing here speaks of one program. -/
import Derived.WalkKit
import Derived.WalkSpells
import Derived.WalkLawsBesides
import Derived.Maps.AppendAt
import Derived.Orders
import Derived.Still
set_option linter.unusedSimpArgs false
set_option linter.unusedVariables false
namespace Go.Proofs.YtgphmbipakdggaaR
namespace Hr
open Go Go.RowKit

/-- First match in a list of numbered values. -/
def fnd : List (Nat × Value) → Nat → Option Value
  | [], _ => none
  | (k, v) :: r, i => match Nat.beq k i with
    | true => some v
    | false => fnd r i

theorem fnd_cons_self (k : Nat) (v : Value) (r : List (Nat × Value)) : fnd ((k, v) :: r) k = some v := by
  simp [fnd]

theorem fnd_cons_ne {k i : Nat} (h : k ≠ i) (v : Value) (r : List (Nat × Value)) : fnd ((k, v) :: r) i = fnd r i := by
  have : Nat.beq k i = false := by
    cases hb : Nat.beq k i with
    | true => exact absurd (Nat.eq_of_beq_eq_true hb) h
    | false => rfl
  simp [fnd, this]

/-- Only blocks in X (and new ones) have turned. -/
structure Kept (X : Nat → Prop) (w w' : World) : Prop where
  os : w'.os = w.os
  tape : w'.tape = w.tape
  output : w'.output = w.output
  size : w.heap.size ≤ w'.heap.size
  block : ∀ k, k < w.heap.size → ¬ X k → w'.heap[k]? = w.heap[k]?

def nX : Nat → Prop := fun _ => False

theorem Kept.refl (X : Nat → Prop) (w : World) : Kept X w w := ⟨rfl, rfl, rfl, Nat.le_refl _, fun _ _ _ => rfl⟩

theorem Kept.step {X Y : Nat → Prop} {a b c : World} (h : Kept X a b) (g : Kept Y b c) (hY : ∀ k, k < a.heap.size → ¬ X k → ¬ Y k) : Kept X a c :=
  ⟨g.os.trans h.os, g.tape.trans h.tape, g.output.trans h.output, Nat.le_trans h.size g.size,
   fun k hk hx => (g.block k (Nat.lt_of_lt_of_le hk h.size) (hY k hk hx)).trans (h.block k hk hx)⟩

theorem Kept.of_below {w w' : World} (h : Below w.heap.size w w') : Kept nX w w' := ⟨h.os, h.tape, h.output, h.size, fun k hk _ => h.block k hk⟩
theorem Kept.below {w w' : World} (h : Kept nX w w') : Below w.heap.size w w' := ⟨h.os, h.tape, h.output, h.size, fun k hk => h.block k hk (fun e => e)⟩
theorem Kept.step0 {X : Nat → Prop} {a b c : World} (h : Kept X a b) (g : Kept nX b c) : Kept X a c := h.step g (fun _ _ _ e => e)
theorem Kept.drew {X : Nat → Prop} {a b : World} (h : Kept X a b) : Kept X a { b with drawn := b.drawn + 1 } := ⟨h.os, h.tape, h.output, h.size, h.block⟩
theorem Kept.alloc (w : World) (o : Obj) : Kept nX w (w.alloc o) := Kept.of_below ((Below.refl _ _).alloc (Nat.le_refl _) o)
theorem Kept.setCell (w : World) (a : Addr) (u : Value) : Kept (fun k => k = a.block) w (w.setCell a u) :=
  ⟨rfl, rfl, rfl, by simp [World.setCell], fun k _ hx => Below.heap_setCell _ _ _ _ hx⟩
theorem Kept.grown {w w' : World} {row : Option Nat} (h : w.grownBy w' row) : Kept (fun k => some k = row) w w' :=
  ⟨h.os, h.tape, h.output, h.size, fun k hk hx => h.block k hk hx⟩

/-- What is known of memory that the call itself made (or may write): a block, cell by cell; a slice that begins a block of its own, with its elements' cells. -/
inductive Res where
  | blk (b : Nat) (t : TypeId) (cs : List (Nat × Value))
  | own (t : TypeId) (size : Nat) (A : Option Addr) (n c : Nat) (ls : List (List Value))
  | any (at_ : Nat → Prop) (Q : World → Prop) (lt : ∀ w, Q w → ∀ b, at_ b → b < w.heap.size) (keep : ∀ w w', Q w → (∀ b, at_ b → w'.heap[b]? = w.heap[b]?) → Q w')

/-- The blocks where it lies. -/
def Res.at : Res → Nat → Prop
  | .blk b _ _ => fun k => b = k
  | .own _ _ A _ _ _ => fun k => A.map (·.block) = some k
  | .any at_ _ _ _ => at_

def Res.holds (w : World) : Res → Prop
  | .blk b t cs => ∃ c : Array Value, w.heap[b]? = some (.cells c t (0, 0)) ∧ ∀ i v, fnd cs i = some v → c[i]? = some v
  | .own t size A n c ls => w.ownsRow 0 t size (.slice A n c) n ls.flatten ∧ ls.length = n ∧ ∀ x ∈ ls, x.length = size
  | .any _ Q _ _ => Q w

theorem ownBlock_slice (A : Option Addr) (n c : Nat) : (Value.slice A n c).ownBlock = A.map (·.block) := by cases A <;> rfl

theorem lt_of_heap {w : World} {b : Nat} {o : Obj} (h : w.heap[b]? = some o) : b < w.heap.size := by
  rcases Nat.lt_or_ge b w.heap.size with hlt | hge
  · exact hlt
  · rw [Array.getElem?_eq_none hge] at h; cases h

theorem Res.holds.lt {w : World} {r : Res} (h : r.holds w) : ∀ b, r.at b → b < w.heap.size := by
  intro b hb
  cases r with
  | blk b' t cs =>
    obtain ⟨c, hc, _⟩ := h
    simp only [Res.at] at hb
    subst hb
    exact lt_of_heap hc
  | own t size A n c ls => exact (World.ownsRow.lt h.1 b (by rw [ownBlock_slice]; exact hb)).2
  | any at_ Q lt keep => exact lt w h b hb

/-- A resource stays where its block stays. -/
theorem Res.holds.keep {w w' : World} {r : Res} (h : r.holds w) (hk : ∀ b, r.at b → w'.heap[b]? = w.heap[b]?) : r.holds w' := by
  cases r with
  | blk b' t cs =>
    obtain ⟨c, hc, h2⟩ := h
    exact ⟨c, (hk b' rfl).trans hc, h2⟩
  | own t size A n c ls =>
    obtain ⟨⟨h1, h2⟩, h3⟩ := h
    refine ⟨⟨h1, ?_⟩, h3⟩
    rcases h2 with h2 | ⟨g, cap, cur, hv, hg, hh, r⟩
    · exact .inl h2
    · refine .inr ⟨g, cap, cur, hv, hg, (hk g ?_).trans hh, r⟩
      simp only [Value.slice.injEq] at hv
      show A.map (·.block) = some g
      rw [hv.1]; rfl
  | any at_ Q lt keep => exact keep w w' h hk

structure Mem (X : Nat → Prop) (W : World) (rs : List Res) (w : World) : Prop where
  holds : ∀ r ∈ rs, r.holds w
  own : ∀ r ∈ rs, ∀ b, r.at b → W.heap.size ≤ b ∨ X b
  apart : rs.Pairwise fun (r s : Res) => ∀ b : Nat, r.at b → ¬ s.at b

theorem Mem.nil {X : Nat → Prop} {W w : World} : Mem X W [] w := ⟨by simp, by simp, .nil⟩

theorem Mem.perm {X : Nat → Prop} {W w : World} {rs rs' : List Res} (h : Mem X W rs w) (p : rs.Perm rs') : Mem X W rs' w :=
  ⟨fun r hr => h.holds r (p.mem_iff.2 hr), fun r hr => h.own r (p.mem_iff.2 hr),
   (p.pairwise_iff (fun hxy b hy hx => hxy b hx hy)).1 h.apart⟩

theorem Mem.sub {X : Nat → Prop} {W w : World} {rs rs' : List Res} (h : Mem X W rs w) (p : rs'.Sublist rs) : Mem X W rs' w :=
  ⟨fun r hr => h.holds r (p.subset hr), fun r hr => h.own r (p.subset hr), h.apart.sublist p⟩

/-- Blocks in Y may turn; the resources do not lie there. -/
theorem Mem.keep {X Y : Nat → Prop} {W w w' : World} {rs : List Res} (h : Mem X W rs w) (hk : Kept Y w w') (hY : ∀ r ∈ rs, ∀ b, r.at b → ¬ Y b) : Mem X W rs w' :=
  ⟨fun r hr => (h.holds r hr).keep fun b hb => hk.block b ((h.holds r hr).lt b hb) (hY r hr b hb), h.own, h.apart⟩

theorem Mem.keep0 {X : Nat → Prop} {W w w' : World} {rs : List Res} (h : Mem X W rs w) (hk : Kept nX w w') : Mem X W rs w' := h.keep hk fun _ _ _ _ e => e

theorem Mem.lt {X : Nat → Prop} {W w : World} {rs : List Res} (h : Mem X W rs w) : ∀ r ∈ rs, ∀ b, r.at b → b < w.heap.size := fun r hr => (h.holds r hr).lt

theorem Mem.cons {X : Nat → Prop} {W w : World} {r : Res} {rs : List Res} (h : Mem X W rs w) (h1 : r.holds w) (h2 : ∀ b, r.at b → W.heap.size ≤ b ∨ X b)
    (h3 : ∀ s ∈ rs, ∀ b, r.at b → ¬ s.at b) : Mem X W (r :: rs) w :=
  ⟨by simpa using ⟨h1, h.holds⟩, by simpa using ⟨h2, h.own⟩, .cons h3 h.apart⟩

theorem Mem.head {X : Nat → Prop} {W w : World} {r : Res} {rs : List Res} (h : Mem X W (r :: rs) w) :
    r.holds w ∧ (∀ b, r.at b → W.heap.size ≤ b ∨ X b) ∧ (∀ s ∈ rs, ∀ b, r.at b → ¬ s.at b) ∧ Mem X W rs w := by
  have h3 := List.pairwise_cons.1 h.apart
  exact ⟨h.holds r (by simp), h.own r (by simp), h3.1, ⟨fun s hs => h.holds s (by simp [hs]), fun s hs => h.own s (by simp [hs]), h3.2⟩⟩

structure St where
  env : List (Nat × Value)
  mem : List Res

structure Sat (X : Nat → Prop) (W : World) (n : Nat) (S : St) (a : Act) (w : World) : Prop where
  size : a.tmps.size = n
  defers : a.defers = []
  env : ∀ k v, fnd S.env k = some v → a.tmps[k]? = some v
  kept : Kept X W w
  mem : Mem X W S.mem w

/-- An operand's value as the state knows it. -/
def ev (env : List (Nat × Value)) : Operand → Option Value
  | .tmp t => fnd env t
  | .const v => some v
  | .global g => some (.pointer (some ⟨g, 0, none⟩))
  | .func f => some (.func (.func f) #[] #[])

section
variable {X : Nat → Prop} {W : World} {n : Nat} {S : St} {a : Act} {w : World}

theorem Sat.eval (h : Sat X W n S a w) {x : Operand} {v : Value} (hx : ev S.env x = some v) : a.eval x = v := by
  cases x with
  | tmp t =>
    have := h.env t v hx
    simp [Act.eval, this]
  | const u => exact Option.some.inj hx
  | global g => exact Option.some.inj hx
  | func f => exact Option.some.inj hx

theorem Sat.world (h : Sat X W n S a w) {w' : World} (hk : Kept nX w w') : Sat X W n S a w' :=
  ⟨h.size, h.defers, h.env, h.kept.step0 hk, h.mem.keep0 hk⟩

theorem tmps_put (h : a.tmps.size = n) {d : Nat} (hd : Nat.blt d n = true) (v : Value) : (a.put (some d) v).tmps[d]? = some v ∧ ∀ k, d ≠ k → (a.put (some d) v).tmps[k]? = a.tmps[k]? := by
  have hd' : d < a.tmps.size := by rw [h]; simpa using hd
  refine ⟨by simp [Act.put, hd'], fun k hk => by simp [Act.put, hk]⟩

theorem Sat.put (h : Sat X W n S a w) {d : Nat} (hd : Nat.blt d n = true) (v : Value) : Sat X W n ⟨(d, v) :: S.env, S.mem⟩ (a.put (some d) v) w := by
  obtain ⟨h1, h2⟩ := tmps_put h.size hd v
  refine ⟨by simp [Act.put, h.size], h.defers, fun k u hk => ?_, h.kept, h.mem⟩
  by_cases e : d = k
  · subst e
    rw [fnd_cons_self] at hk
    rw [h1, hk]
  · rw [fnd_cons_ne e] at hk
    rw [h2 k e]
    exact h.env k u hk

theorem Sat.withMem (h : Sat X W n S a w) {w' : World} {m : List Res} (hk : Kept X W w') (hm : Mem X W m w') : Sat X W n ⟨S.env, m⟩ a w' := ⟨h.size, h.defers, h.env, hk, hm⟩
end

/-- What is left to do: a stack. -/
inductive K where
  | code (c : Code)
  | ops (all : Array Oper) (l : List Oper)
  | blk (id : Nat)
  | stop (J : Act → World → Prop)

def post (P : Program) (fn : Func) (R : Ending → World → Prop) : List K → Exit → Act → World → Prop
  | [] => bodyPost P fn R
  | .code c :: k => Exit.then (c.wp P (post P fn R k)) (post P fn R k)
  | .ops all l :: k => Exit.then (wpList P all (post P fn R k) l) (post P fn R k)
  | .blk id :: k => Exit.inBlock id (post P fn R k)
  | .stop J :: k => Exit.then J (post P fn R k)

def pop (id : Nat) : List K → Option (List K)
  | [] => none
  | .blk id' :: k => match Nat.beq id id' with
    | true => some k
    | false => pop id k
  | .code _ :: k => pop id k
  | .ops _ _ :: k => pop id k
  | .stop _ :: k => pop id k

theorem post_exit {P : Program} {fn : Func} {R : Ending → World → Prop} {id : Nat} {a : Act} {w : World} : ∀ {k k' : List K}, pop id k = some k' → post P fn R k' .normal a w → post P fn R k (.exit id) a w
  | [], _, h, _ => by simp [pop] at h
  | .blk id' :: k, k', h, hp => by
    simp only [pop] at h
    simp only [post, Exit.inBlock]
    by_cases e : id = id'
    · subst e
      rw [show Nat.beq id id = true from by simp] at h
      simp only [Option.some.injEq] at h
      subst h
      simpa using hp
    · have hb : Nat.beq id id' = false := by
        cases hb : Nat.beq id id' with
        | true => exact absurd (Nat.eq_of_beq_eq_true hb) e
        | false => rfl
      rw [hb] at h
      rw [if_neg e]
      exact post_exit h hp
  | .code _ :: k, k', h, hp => post_exit (k := k) h hp
  | .ops _ _ :: k, k', h, hp => post_exit (k := k) h hp
  | .stop _ :: k, k', h, hp => post_exit (k := k) h hp

theorem post_ret {P : Program} {fn : Func} {R : Ending → World → Prop} {a : Act} {w : World} (h : bodyPost P fn R .ret a w) : ∀ (k : List K), post P fn R k .ret a w
  | [] => h
  | .blk _ :: k => post_ret h k
  | .code _ :: k => post_ret h k
  | .ops _ _ :: k => post_ret h k
  | .stop _ :: k => post_ret h k

/-- From every frame and world of the state, what is left goes through. -/
def Run (P : Program) (fn : Func) (R : Ending → World → Prop) (X : Nat → Prop) (W : World) (n : Nat) (k : List K) (S : St) : Prop :=
  ∀ a w, Sat X W n S a w → post P fn R k .normal a w

section
variable {P : Program} {fn : Func} {R : Ending → World → Prop} {X : Nat → Prop} {W : World} {n : Nat} {k : List K} {S : St}

theorem run_seq {x y : Code} (h : Run P fn R X W n (.code x :: .code y :: k) S) : Run P fn R X W n (.code (.seq x y) :: k) S :=
  fun a w hs => wp_seq (h a w hs)
theorem run_skip (h : Run P fn R X W n k S) : Run P fn R X W n (.code .skip :: k) S := fun a w hs => wp_skip (h a w hs)
theorem run_block {id : Nat} {c : Code} (h : Run P fn R X W n (.code c :: .blk id :: k) S) : Run P fn R X W n (.code (.block id c) :: k) S :=
  fun a w hs => wp_block (h a w hs)
theorem run_blk {id : Nat} (h : Run P fn R X W n k S) : Run P fn R X W n (.blk id :: k) S := fun a w hs => h a w hs
theorem run_exit {id : Nat} {k' : List K} (hp : pop id k = some k') (h : Run P fn R X W n k' S) : Run P fn R X W n (.code (.exit id) :: k) S :=
  fun a w hs => wp_exit (post_exit hp (h a w hs))
theorem run_ret (h : Run P fn R X W n [] S) : Run P fn R X W n (.code .ret :: k) S :=
  fun a w hs => wp_ret (post_ret (h a w hs) k)
theorem run_true {c : Operand} {x y : Code} (hc : ev S.env c = some (.bool true)) (h : Run P fn R X W n (.code x :: k) S) : Run P fn R X W n (.code (.cond c x y) :: k) S :=
  fun a w hs => wp_cond_true (hs.eval hc) (h a w hs)
theorem run_false {c : Operand} {x y : Code} (hc : ev S.env c = some (.bool false)) (h : Run P fn R X W n (.code y :: k) S) : Run P fn R X W n (.code (.cond c x y) :: k) S :=
  fun a w hs => wp_cond_false (hs.eval hc) (h a w hs)
theorem run_cond {c : Operand} {x y : Code} {t : Bool} (hc : ev S.env c = some (.bool t)) (h1 : t = true → Run P fn R X W n (.code x :: k) S) (h2 : t = false → Run P fn R X W n (.code y :: k) S) :
    Run P fn R X W n (.code (.cond c x y) :: k) S :=
  fun a w hs => wp_cond_split (hs.eval hc) (fun e => h1 e a w hs) (fun e => h2 e a w hs)
theorem run_condT {c : Operand} {x y : Code} {t : Bool} (hc : ev S.env c = some (.bool t)) (ht : t = true) (h : Run P fn R X W n (.code x :: k) S) : Run P fn R X W n (.code (.cond c x y) :: k) S := by
  subst ht; exact run_true hc h
theorem run_condF {c : Operand} {x y : Code} {t : Bool} (hc : ev S.env c = some (.bool t)) (ht : t = false) (h : Run P fn R X W n (.code y :: k) S) : Run P fn R X W n (.code (.cond c x y) :: k) S := by
  subst ht; exact run_false hc h
/-- A truth value in a slot is true or false. -/
theorem run_split (t : Tmp) {c : Bool} (_ht : fnd S.env t = some (.bool c)) (h1 : c = true → Run P fn R X W n k S) (h2 : c = false → Run P fn R X W n k S) : Run P fn R X W n k S := by
  cases c
  · exact h2 rfl
  · exact h1 rfl
theorem run_region {id : Nat} {l : List Oper} (h : Run P fn R X W n (.ops l.toArray l :: k) S) : Run P fn R X W n (.code (.region id l.toArray false) :: k) S :=
  fun a w hs => wp_region_lit (h a w hs)
theorem run_nil {all : Array Oper} (h : Run P fn R X W n k S) : Run P fn R X W n (.ops all [] :: k) S := fun a w hs => h a w hs

/-- Less is known. -/
def Sub (X : Nat → Prop) (W : World) (n : Nat) (S S' : St) : Prop := ∀ a w, Sat X W n S a w → Sat X W n S' a w
theorem run_sub {S' : St} (hs : Sub X W n S S') (h : Run P fn R X W n k S') : Run P fn R X W n k S := fun a w h' => h a w (hs a w h')

/-- One of a family of states. -/
def Fam (X : Nat → Prop) (W : World) (n : Nat) {ι : Type} (φ : ι → Prop) (inv : ι → St) (a : Act) (w : World) : Prop := ∃ i, φ i ∧ Sat X W n (inv i) a w

theorem run_stop {ι : Type} {φ : ι → Prop} {inv : ι → St} (i : ι) (hi : φ i) (hs : Sub X W n S (inv i)) : Run P fn R X W n (.stop (Fam X W n φ inv) :: k) S :=
  fun a w h => ⟨i, hi, hs a w h⟩
/-- The code c by itself, to one of a family of states; then the rest from there. -/
theorem run_cut {ι : Type} {c : Code} (φ : ι → Prop) (inv : ι → St) (h : Run P fn R X W n (.code c :: .stop (Fam X W n φ inv) :: k) S) (h' : ∀ i, φ i → Run P fn R X W n k (inv i)) :
    Run P fn R X W n (.code c :: k) S := fun a w hs => by
  refine Code.wp_mono ?_ (h a w hs)
  intro e a' w' q
  cases e with
  | normal => obtain ⟨i, hi, hsat⟩ := q; exact h' i hi a' w' hsat
  | _ => exact q

def Again (X : Nat → Prop) (W : World) (n : Nat) {ι : Type} (φ : ι → Prop) (inv : ι → St) (μ : ι → Nat) (m : Nat) (a : Act) (w : World) : Prop := ∃ i, φ i ∧ μ i < m ∧ Sat X W n (inv i) a w

theorem run_again {ι : Type} {φ : ι → Prop} {inv : ι → St} {μ : ι → Nat} {m : Nat} (i : ι) (hi : φ i) (hm : μ i < m) (hs : Sub X W n S (inv i)) : Run P fn R X W n (.stop (Again X W n φ inv μ m) :: k) S :=
  fun a w h => ⟨i, hi, hm, hs a w h⟩

theorem least {p : Nat → Prop} : ∀ (b m : Nat), m ≤ b → p m → ∃ m, p m ∧ ∀ k, p k → m ≤ k
  | 0, m, hm, h => ⟨m, h, fun k _ => by omega⟩
  | b + 1, m, hm, h => by
    by_cases hk : ∃ k, k ≤ b ∧ p k
    · obtain ⟨k, hkb, hp⟩ := hk
      exact least b k hkb hp
    · refine ⟨m, h, fun k hp => ?_⟩
      rcases Nat.lt_or_ge b k with h1 | h1
      · omega
      · exact absurd ⟨k, h1, hp⟩ hk

open Classical in
theorem run_loop {ι : Type} {c : Code} (φ : ι → Prop) (inv : ι → St) (μ : ι → Nat) (i0 : ι) (h0 : φ i0) (hs0 : Sub X W n S (inv i0))
    (hr : ∀ i, φ i → Run P fn R X W n (.code c :: .stop (Again X W n φ inv μ (μ i)) :: k) (inv i)) : Run P fn R X W n (.code (.loop c) :: k) S := by
  intro a w hs
  have hl : ∀ a w, (∃ m i, φ i ∧ μ i = m ∧ Sat X W n (inv i) a w) → ∃ m, (∃ i, φ i ∧ μ i = m ∧ Sat X W n (inv i) a w) ∧ ∀ k, (∃ i, φ i ∧ μ i = k ∧ Sat X W n (inv i) a w) → m ≤ k :=
    fun a w ⟨m, h⟩ => least m m (Nat.le_refl _) h
  refine wp_loop (fun a w => ∃ m i, φ i ∧ μ i = m ∧ Sat X W n (inv i) a w)
    (fun a w => if h : ∃ m i, φ i ∧ μ i = m ∧ Sat X W n (inv i) a w then Classical.choose (hl a w h) else 0) ⟨_, i0, h0, rfl, hs0 a w hs⟩ ?_
  intro a w hI
  rw [dif_pos hI]
  obtain ⟨⟨i, hi, hm, hsat⟩, _⟩ := Classical.choose_spec (hl a w hI)
  refine Code.wp_mono ?_ (hr i hi a w hsat)
  intro e a' w' q
  cases e with
  | normal =>
    obtain ⟨i', hi', hlt, hsat'⟩ := q
    have hI' : ∃ m i, φ i ∧ μ i = m ∧ Sat X W n (inv i) a' w' := ⟨_, i', hi', rfl, hsat'⟩
    refine ⟨hI', ?_⟩
    rw [dif_pos hI']
    have := (Classical.choose_spec (hl a' w' hI')).2 (μ i') ⟨i', hi', rfl, hsat'⟩
    omega
  | _ => exact q
end

/-! ### One operation -/

/-- Whether an operation is wanted here (its guard). -/
inductive Want (all : Array Oper) (env : List (Nat × Value)) (o : Oper) : Bool → Prop where
  | none (h : o.guard = Option.none) : Want all env o true
  | guard {j : Nat} {b c : Bool} {t : Tmp} (h : o.guard = some (j, b)) (hd : (all[j]?).bind (·.dst) = some t) (ht : fnd env t = some (.bool c)) : Want all env o (c == b)
  | off {j : Nat} {b : Bool} {t : Tmp} (h : o.guard = some (j, b)) (hd : (all[j]?).bind (·.dst) = some t) (ht : fnd env t = some undef) : Want all env o false

theorem Want.on {all : Array Oper} {env : List (Nat × Value)} {o : Oper} {j : Nat} {b c : Bool} {t : Tmp} (h : o.guard = some (j, b)) (hd : (all[j]?).bind (·.dst) = some t) (ht : fnd env t = some (.bool c)) (hc : c = b) : Want all env o true := by
  subst hc
  have := Want.guard h hd ht
  cases c <;> exact this
theorem Want.no {all : Array Oper} {env : List (Nat × Value)} {o : Oper} {j : Nat} {b c : Bool} {t : Tmp} (h : o.guard = some (j, b)) (hd : (all[j]?).bind (·.dst) = some t) (ht : fnd env t = some (.bool c)) (hc : c = !b) : Want all env o false := by
  subst hc
  have := Want.guard h hd ht
  cases b <;> exact this

section
variable {X : Nat → Prop} {W : World} {n : Nat} {S : St} {a : Act} {w : World}
theorem Want.eq {all : Array Oper} {o : Oper} {c : Bool} (h : Want all S.env o c) (hs : Sat X W n S a w) : Region.wanted o (yielded all a.tmps) = c := by
  cases h with
  | none h => simp [Region.wanted, h]
  | @guard j b c t h hd ht =>
    have := hs.env t _ ht
    have hy : yielded all a.tmps j = some c := by simp only [yielded, hd, Option.bind_some, this]
    simp only [Region.wanted, h, hy]
    cases c <;> cases b <;> rfl
  | @off j b t h hd ht =>
    have := hs.env t _ ht
    have hy : yielded all a.tmps j = Option.none := by simp only [yielded, hd, Option.bind_some, this, undef]
    simp only [Region.wanted, h, hy]
    cases b <;> rfl
end

/-- In every frame and world of the state the operation yields v, and nothing that was there turns. -/
def Q1 (P : Program) (X : Nat → Prop) (W : World) (n : Nat) (S : St) (o : Oper) (v : Value) : Prop :=
  ∀ a w, Sat X W n S a w → (execOp a.eval o).run P w = .ok (.value v) w ∨ ((execOp a.eval o).run P w = .ok .skip w ∧ v = undef) ∨
    ∃ f args, (execOp a.eval o).run P w = .ok (.enter f args) w ∧ Calls P f args w fun e w' => e = .returned v ∧ Kept nX w w'

/-- In every frame and world of the state the operation goes to one of a family of states. -/
def H1 (P : Program) (X : Nat → Prop) (W : World) (n : Nat) (S : St) (o : Oper) {ι : Type} (φ : ι → Prop) (next : ι → St) : Prop :=
  ∀ a w, Sat X W n S a w → ∀ (k : Act → World → Prop) (Q : Exit → Act → World → Prop), (∀ i a' w', φ i → Sat X W n (next i) a' w' → k a' w') → o.wp P a w k Q

theorem Q1.wp {P : Program} {X : Nat → Prop} {W : World} {n : Nat} {S : St} {o : Oper} {v : Value} (h : Q1 P X W n S o v) {a : Act} {w : World} (hs : Sat X W n S a w)
    {k : Act → World → Prop} {Q : Exit → Act → World → Prop} (hk : ∀ w', Kept nX w w' → k (a.put o.dst v) w') : o.wp P a w k Q := by
  unfold Oper.wp
  rcases h a w hs with h1 | ⟨h1, h2⟩ | ⟨f, args, h1, hc⟩
  · rw [h1]; exact hk _ (Kept.refl _ _)
  · rw [h1]; subst h2; exact hk _ (Kept.refl _ _)
  · rw [h1]; exact hc.mono fun e w' ⟨he, hw⟩ => by subst he; exact hk _ hw

section
variable {P : Program} {fn : Func} {R : Ending → World → Prop} {X : Nat → Prop} {W : World} {n : Nat} {k : List K} {S : St} {env : List (Nat × Value)} {mem : List Res} {all : Array Oper} {rest : List Oper} {o : Oper}

theorem run_q {v : Value} {d : Nat} (hw : Want all env o true) (hd : o.dst = some d) (hdn : Nat.blt d n = true) (h : Q1 P X W n ⟨env, mem⟩ o v)
    (hk : Run P fn R X W n (.ops all rest :: k) ⟨(d, v) :: env, mem⟩) : Run P fn R X W n (.ops all (o :: rest) :: k) ⟨env, mem⟩ := by
  intro a w hs
  refine wpList_step fun K hK => ?_
  rw [if_pos (hw.eq hs)]
  refine h.wp hs fun w' hw' => hK _ _ ?_
  rw [hd]
  exact hk _ _ ((hs.world hw').put hdn v)

theorem run_off {d : Nat} (hw : Want all env o false) (hd : o.dst = some d) (hdn : Nat.blt d n = true)
    (hk : Run P fn R X W n (.ops all rest :: k) ⟨(d, undef) :: env, mem⟩) : Run P fn R X W n (.ops all (o :: rest) :: k) ⟨env, mem⟩ := by
  intro a w hs
  refine wpList_step fun K hK => ?_
  rw [if_neg (by rw [hw.eq hs]; simp)]
  rw [hd]
  exact hK _ _ (hk _ _ (hs.put hdn undef))

theorem run_h {ι : Type} {φ : ι → Prop} {next : ι → St} (hw : Want all env o true) (h : H1 P X W n ⟨env, mem⟩ o φ next)
    (hk : ∀ i, φ i → Run P fn R X W n (.ops all rest :: k) (next i)) : Run P fn R X W n (.ops all (o :: rest) :: k) ⟨env, mem⟩ := by
  intro a w hs
  refine wpList_step fun K hK => ?_
  rw [if_pos (hw.eq hs)]
  exact h a w hs K _ fun i a' w' hi hs' => hK _ _ (hk i hi _ _ hs')

/-- A quiet operation as one of the other kind. -/
theorem H1.of_q {v : Value} {d : Nat} (hd : o.dst = some d) (hdn : Nat.blt d n = true) (h : Q1 P X W n ⟨env, mem⟩ o v) : H1 P X W n ⟨env, mem⟩ o (fun _ : Unit => True) (fun _ => ⟨(d, v) :: env, mem⟩) := by
  intro a w hs k Q hk
  refine h.wp hs fun w' hw' => ?_
  rw [hd]
  exact hk () _ _ trivial ((hs.world hw').put hdn v)
end

/-! ### Contracts -/

/-- What a call comes to: a value and what is known of its memory. -/
def Ret (W : World) (X : Nat → Prop) (Φ : Value → List Res → Prop) : Ending → World → Prop :=
  fun e w' => ∃ v m, Φ v m ∧ e = .returned v ∧ Kept X W w' ∧ Mem X W m w'

/-- The call hands back v, and nothing that was there turns. -/
def Just (W : World) (v : Value) : Ending → World → Prop := fun e w' => e = .returned v ∧ Kept nX W w'

section
variable {P : Program} {fn : Func} {X : Nat → Prop} {W : World} {n : Nat} {S : St}

theorem Just.of_ret {f : FuncId} {args : Array Value} {v : Value} (h : Calls P f args W (Ret W nX fun u _ => u = v)) : Calls P f args W (Just W v) :=
  h.mono fun _ _ ⟨_, _, e, he, hk, _⟩ => ⟨e ▸ he, hk⟩

theorem enter {f : FuncId} {args : Array Value} {R : Ending → World → Prop} {c : Code} {S : St} (hf : P.funcs[f]? = some fn) (hn : fn.ntmps = n) (hb : fn.body = some c)
    (hz : Nat.ble args.size n = true) (he : ∀ k v, fnd S.env k = some v → args[k]? = some v) (hm : Mem X W S.mem W) (h : Run P fn R X W n [.code c] S) : Calls P f args W R := by
  refine calls_of_wp hf hb (h _ W ?_)
  have hz' : args.size ≤ n := by simpa using hz
  refine ⟨by simp [hn]; omega, rfl, fun k v hk => ?_, Kept.refl _ _, hm⟩
  have := he k v hk
  have hlt := (Array.getElem?_eq_some_iff.1 this).1
  show (args ++ _)[k]? = _
  rw [Array.getElem?_append_left hlt, this]

theorem end1 {Φ : Value → List Res → Prop} {t : Tmp} {v : Value} (hr : fn.results = #[.tmp t]) (hv : fnd S.env t = some v) (hΦ : Φ v S.mem) : Run P fn (Ret W X Φ) X W n [] S := by
  intro a w hs
  refine ⟨hs.defers, v, ?_, v, S.mem, hΦ, rfl, hs.kept, hs.mem⟩
  rw [results_tmp hr]
  simp [hs.env t v hv]
theorem end2 {Φ : Value → List Res → Prop} {t u : Tmp} {v v' : Value} (hr : fn.results = #[.tmp t, .tmp u]) (hv : fnd S.env t = some v) (hv' : fnd S.env u = some v') (hΦ : Φ (.tuple #[v, v']) S.mem) : Run P fn (Ret W X Φ) X W n [] S := by
  intro a w hs
  refine ⟨hs.defers, .tuple #[v, v'], ?_, _, S.mem, hΦ, rfl, hs.kept, hs.mem⟩
  rw [results_tmp2 hr]
  simp [hs.env t v hv, hs.env u v' hv']
theorem end3 {Φ : Value → List Res → Prop} {t u x : Tmp} {v v' v'' : Value} (hr : fn.results = #[.tmp t, .tmp u, .tmp x]) (hv : fnd S.env t = some v) (hv' : fnd S.env u = some v') (hv'' : fnd S.env x = some v'')
    (hΦ : Φ (.tuple #[v, v', v'']) S.mem) : Run P fn (Ret W X Φ) X W n [] S := by
  intro a w hs
  refine ⟨hs.defers, .tuple #[v, v', v''], ?_, _, S.mem, hΦ, rfl, hs.kept, hs.mem⟩
  simp [results, hr, hs.env t v hv, hs.env u v' hv', hs.env x v'' hv'']
theorem end0 {Φ : Value → List Res → Prop} (hr : fn.results = #[]) (hΦ : Φ (.tuple #[]) S.mem) : Run P fn (Ret W X Φ) X W n [] S := by
  intro a w hs
  exact ⟨hs.defers, .tuple #[], results_none hr _ _ _, _, S.mem, hΦ, rfl, hs.kept, hs.mem⟩

/-! ### Less is known: how it is shown -/

def EnvSub (env env' : List (Nat × Value)) : Prop := ∀ k v, fnd env' k = some v → fnd env k = some v
theorem EnvSub.nil {env : List (Nat × Value)} : EnvSub env [] := fun k v h => by simp [fnd] at h
theorem EnvSub.refl {env : List (Nat × Value)} : EnvSub env env := fun _ _ h => h
theorem EnvSub.cons {env r : List (Nat × Value)} {s : Nat} {v : Value} (h : fnd env s = some v) (t : EnvSub env r) : EnvSub env ((s, v) :: r) := by
  intro k u hk
  by_cases e : s = k
  · subst e; rw [fnd_cons_self] at hk; rw [h, hk]
  · rw [fnd_cons_ne e] at hk; exact t k u hk
theorem EnvSub.cons' {env r : List (Nat × Value)} {s : Nat} {v v' : Value} (h : fnd env s = some v) (e : v = v') (t : EnvSub env r) : EnvSub env ((s, v') :: r) := by
  subst e; exact EnvSub.cons h t

inductive Sel : List Res → Res → List Res → Prop where
  | here {r : Res} {l : List Res} : Sel (r :: l) r l
  | there {r s : Res} {l l' : List Res} : Sel l r l' → Sel (s :: l) r (s :: l')
theorem Sel.perm {l l' : List Res} {r : Res} (h : Sel l r l') : l.Perm (r :: l') := by
  induction h with
  | here => exact List.Perm.refl _
  | there _ ih => exact (ih.cons _).trans (List.Perm.swap _ _ _)

/-- One resource says no more than the other. -/
def ResSub (r r' : Res) : Prop := (∀ b, r'.at b → r.at b) ∧ ∀ w, r.holds w → r'.holds w
theorem ResSub.refl {r : Res} : ResSub r r := ⟨fun _ h => h, fun _ h => h⟩
theorem ResSub.blk {b : Nat} {t : TypeId} {cs cs' : List (Nat × Value)} (h : EnvSub cs cs') : ResSub (.blk b t cs) (.blk b t cs') :=
  ⟨fun _ h => h, fun _ ⟨c, h1, h3⟩ => ⟨c, h1, fun i v hi => h3 i v (h i v hi)⟩⟩
theorem ResSub.own {t : TypeId} {size : Nat} {A A' : Option Addr} {m m' c c' : Nat} {xs xs' : List (List Value)} (hA : A = A') (hm : m = m') (hc : c = c') (hx : xs = xs') : ResSub (.own t size A m c xs) (.own t size A' m' c' xs') := by
  subst hA; subst hm; subst hc; subst hx; exact .refl

/-- The first resource is weakened, what is behind it by h. -/
def MemSub (m m' : List Res) : Prop := ∀ X W w, Mem X W m w → Mem X W m' w ∧ ∀ r' ∈ m', ∀ b, r'.at b → ∃ r ∈ m, r.at b
theorem MemSub.nil {m : List Res} : MemSub m [] := fun _ _ _ _ => ⟨Mem.nil, by simp⟩
theorem MemSub.refl {m : List Res} : MemSub m m := fun _ _ _ h => ⟨h, fun r hr _ hb => ⟨r, hr, hb⟩⟩
theorem MemSub.perm {m m' : List Res} (h : m.Perm m') : MemSub m m' := fun _ _ _ h' => ⟨h'.perm h, fun r hr _ hb => ⟨r, h.mem_iff.2 hr, hb⟩⟩
theorem MemSub.sub {m m' : List Res} (h : m'.Sublist m) : MemSub m m' := fun _ _ _ h' => ⟨h'.sub h, fun r hr _ hb => ⟨r, h.subset hr, hb⟩⟩
theorem MemSub.cons {m l l' : List Res} {r r' : Res} (hs : Sel m r l) (hr : ResSub r r') (hl : MemSub l l') : MemSub m (r' :: l') := by
  intro X W w h
  obtain ⟨h1, h2, h3, h4⟩ := (h.perm hs.perm).head
  obtain ⟨g1, g2⟩ := hl X W w h4
  refine ⟨g1.cons (hr.2 w h1) (fun b hb => h2 b (hr.1 b hb)) (fun s hs' b hb hsb => ?_), fun s hs' b hb => ?_⟩
  · obtain ⟨u, hu, hub⟩ := g2 s hs' b hsb
    exact h3 u hu b (hr.1 b hb) hub
  · rcases List.mem_cons.1 hs' with rfl | hs'
    · exact ⟨r, hs.perm.mem_iff.2 (by simp), hr.1 b hb⟩
    · obtain ⟨u, hu, hub⟩ := g2 s hs' b hb
      exact ⟨u, hs.perm.mem_iff.2 (by simp [hu]), hub⟩
theorem MemSub.trans {a b c : List Res} (h : MemSub a b) (h' : MemSub b c) : MemSub a c := fun X W w x => by
  obtain ⟨g1, g2⟩ := h X W w x
  obtain ⟨k1, k2⟩ := h' X W w g1
  refine ⟨k1, fun r hr b hb => ?_⟩
  obtain ⟨u, hu, hub⟩ := k2 r hr b hb
  exact g2 u hu b hub

/-- Several resources as one. -/
def Res.sep (rs : List Res) : Res :=
  .any (fun b => ∃ r ∈ rs, r.at b) (fun w => (∀ r ∈ rs, r.holds w) ∧ rs.Pairwise fun (r s : Res) => ∀ b : Nat, r.at b → ¬ s.at b)
    (fun w h b hb => by obtain ⟨r, hr, hb⟩ := hb; exact (h.1 r hr).lt b hb)
    (fun w w' h hk => ⟨fun r hr => (h.1 r hr).keep fun b hb => hk b ⟨r, hr, hb⟩, h.2⟩)
theorem MemSub.open_ {rs l : List Res} : MemSub (.sep rs :: l) (rs ++ l) := by
  intro X W w h
  obtain ⟨h1, h2, h3, h4⟩ := h.head
  refine ⟨⟨fun r hr => ?_, fun r hr b hb => ?_, List.pairwise_append.2 ⟨h1.2, h4.apart, fun r hr s hs b hb hsb => h3 s hs b ⟨r, hr, hb⟩ hsb⟩⟩, fun r hr b hb => ?_⟩
  · rcases List.mem_append.1 hr with h | h
    · exact h1.1 r h
    · exact h4.holds r h
  · rcases List.mem_append.1 hr with h | h
    · exact h2 b ⟨r, h, hb⟩
    · exact h4.own r h b hb
  · rcases List.mem_append.1 hr with h | h
    · exact ⟨.sep rs, by simp, ⟨r, h, hb⟩⟩
    · exact ⟨r, by simp [h], hb⟩
theorem MemSub.close_ {rs l : List Res} : MemSub (rs ++ l) (.sep rs :: l) := by
  intro X W w h
  have hap := List.pairwise_append.1 h.apart
  refine ⟨Mem.cons (r := .sep rs) ⟨fun r hr => h.holds r (by simp [hr]), fun r hr => h.own r (by simp [hr]), hap.2.1⟩ ⟨fun r hr => h.holds r (by simp [hr]), hap.1⟩ ?_ ?_, fun r hr b hb => ?_⟩
  · rintro b ⟨r, hr, hb⟩; exact h.own r (by simp [hr]) b hb
  · rintro s hs b ⟨r, hr, hb⟩ hsb; exact hap.2.2 r hr s hs b hb hsb
  · rcases List.mem_cons.1 hr with rfl | h'
    · obtain ⟨u, hu, hub⟩ := hb; exact ⟨u, by simp [hu], hub⟩
    · exact ⟨r, by simp [h'], hb⟩
/-- One more resource into the heap of several. -/
theorem MemSub.into {r : Res} {rs l : List Res} : MemSub (r :: .sep rs :: l) (.sep (r :: rs) :: l) :=
  (MemSub.cons .here .refl (MemSub.open_)).trans (MemSub.close_ (rs := r :: rs))
theorem subMk {env env' : List (Nat × Value)} {mem mem' : List Res} (he : EnvSub env env') (hm : MemSub mem mem') : Sub X W n ⟨env, mem⟩ ⟨env', mem'⟩ :=
  fun _ _ h => ⟨h.size, h.defers, fun k v hk => h.env k v (he k v hk), h.kept, (hm _ _ _ h.mem).1⟩
end
end Hr
end Go.Proofs.YtgphmbipakdggaaR
