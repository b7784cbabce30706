/- Requests, marks and skylines as data. Nothing of the program. -/
import Derived.Test.YtgphmbipakdggaaRKey
import Derived.Test.YtgphmbipakdggaaRCopy
import Derived.Test.YtgphmbipakdggaaRLoops
set_option linter.unusedSimpArgs false
set_option linter.unusedVariables false
namespace Go.Proofs.YtgphmbipakdggaaR
open Go Go.RowKit Hr

structure Req where
  cls : Int
  idx : Int
  stf : Int
  fst : Int
  lst : Int
  side : Int
  near : Int
  gly : Int
  site : Int
  num : Int
  left : Int
  right : Int
  hgt : Int
instance : Inhabited Req := ⟨⟨0, 0, 0, 0, 0, 0, 0, 0, 0, 0, 0, 0, 0⟩⟩
def Req.enc (x : Req) : List Value := [.int .i64 x.cls, .int .i64 x.idx, .int .i64 x.stf, .int .i64 x.fst, .int .i64 x.lst, .int .i64 x.side, .int .i64 x.near, .int .i64 x.gly, .int .i64 x.site, .int .i64 x.num, .int .i64 x.left, .int .i64 x.right, .int .i64 x.hgt]
def Req.val (x : Req) : Value := .agg x.enc.toArray
structure Mk where
  cls : Int
  idx : Int
  stf : Int
  fst : Int
  lst : Int
  gly : Int
  site : Int
  num : Int
  bl : Int
  bb : Int
  br : Int
  bt : Int
instance : Inhabited Mk := ⟨⟨0, 0, 0, 0, 0, 0, 0, 0, 0, 0, 0, 0⟩⟩
def Mk.enc (x : Mk) : List Value := [.int .i64 x.cls, .int .i64 x.idx, .int .i64 x.stf, .int .i64 x.fst, .int .i64 x.lst, .int .i64 x.gly, .int .i64 x.site, .int .i64 x.num, .int .i64 x.bl, .int .i64 x.bb, .int .i64 x.br, .int .i64 x.bt]
def Mk.val (x : Mk) : Value := .agg x.enc.toArray
def encI (n : Int) : List Value := [.int .i64 n]
theorem rd_take {α : Type} {enc : α → List Value} {w : World} {A : Option Addr} {s m : Nat} {l l' : List α} (h : Rd w A s (l.map enc)) (e : l' = l.take m) : Rd w A s (l'.map enc) := by
  rw [e, List.map_take]; exact h.take m

def extB (n : Int) : Prop := 0 ≤ n ∧ n ≤ 65536
instance (n : Int) : Decidable (extB n) := by unfold extB; infer_instance
/-- The first error of a request. -/
def reqE (x : Req) (n : Int) : Int :=
  if x.cls < 50 ∨ 60 < x.cls ∨ (x.side ≠ 1 ∧ x.side ≠ -1) then 11
  else if x.idx < 0 ∨ x.stf < 0 ∨ x.fst < 0 ∨ x.lst < x.fst ∨ n ≤ x.lst then 2
  else if x.near < -1048576 ∨ 1048576 < x.near ∨ x.gly < 0 ∨ 68 < x.gly ∨ ¬ (0 ≤ x.left ∧ x.left ≤ 65536) ∨ ¬ (0 ≤ x.right ∧ x.right ≤ 65536) ∨ ¬ (0 ≤ x.hgt ∧ x.hgt ≤ 65536) then 2 else 0
theorem reqE_ok {x : Req} {n : Int} (h : reqE x n = 0) : 50 ≤ x.cls ∧ x.cls ≤ 60 ∧ (x.side = 1 ∨ x.side = -1) ∧ 0 ≤ x.idx ∧ 0 ≤ x.stf ∧ 0 ≤ x.fst ∧ x.fst ≤ x.lst ∧ x.lst < n ∧ -1048576 ≤ x.near ∧ x.near ≤ 1048576 ∧ 0 ≤ x.gly ∧ x.gly ≤ 68 ∧
    0 ≤ x.left ∧ x.left ≤ 65536 ∧ 0 ≤ x.right ∧ x.right ≤ 65536 ∧ 0 ≤ x.hgt ∧ x.hgt ≤ 65536 := by
  unfold reqE at h
  split at h
  · cases h
  · split at h
    · cases h
    · split at h
      · cases h
      · omega
def onV (x : Req) (s : Int) : Req := { x with side := s, near := s * 136 }
/-- The class of a spanner's request, or 0. -/
def lineC (k : Int) : Int := if k = 2 ∨ k = 3 then 55 else if k = 6 then 57 else if k = 5 ∨ k = 4 then 58 else if k = 7 then 53 else 0
def lineS (k : Int) : Int := if k = 4 ∨ k = 7 then 1 else -1
def lineV (k site num i s f l : Int) : Req × Int :=
  if lineC k = 0 then (default, 11) else if i < 0 ∨ s < 0 ∨ f < 0 ∨ l < f then (default, 2)
  else (⟨lineC k, i, s, f, l, lineS k, lineS k * 136, 0, site, num, 0, 0, 32⟩, 0)
def mkV (x : Req) (e : Int) : Mk := if x.side = -1 then ⟨x.cls, x.idx, x.stf, x.fst, x.lst, x.gly, x.site, x.num, -x.left, e - x.hgt, x.right, e⟩ else ⟨x.cls, x.idx, x.stf, x.fst, x.lst, x.gly, x.site, x.num, -x.left, e, x.right, e + x.hgt⟩

/-! ### Skylines -/
theorem rd_sky {w : World} {p : Nat} {t : TypeId} {v0 v1 : Value} (h : (Res.blk p t [(0, v0), (1, v1)]).holds w) : Rd w (some ⟨p, 0, none⟩) 2 [[v0, v1]] :=
  rd_blk h fun i u hu => by
    match i, hu with
    | 0, hu => simpa [fnd] using hu
    | 1, hu => simpa [fnd] using hu
    | i + 2, hu => simp at hu
def maxN (g : Nat → Int) : Nat → Int
  | 0 => g 0
  | n + 1 => max (maxN g n) (g (n + 1))
theorem maxN_congr {g g' : Nat → Int} : ∀ {n : Nat}, (∀ i, i ≤ n → g i = g' i) → maxN g n = maxN g' n
  | 0, h => h 0 (Nat.le_refl _)
  | n + 1, h => by rw [maxN, maxN, maxN_congr (n := n) fun i hi => h i (by omega), h (n + 1) (Nat.le_refl _)]
theorem maxN_bd {g : Nat → Int} {lo hi : Int} : ∀ {n : Nat}, (∀ i, i ≤ n → lo ≤ g i ∧ g i ≤ hi) → lo ≤ maxN g n ∧ maxN g n ≤ hi
  | 0, h => h 0 (Nat.le_refl _)
  | n + 1, h => by
    have h1 := maxN_bd (n := n) fun i hi => h i (by omega)
    have h2 := h (n + 1) (Nat.le_refl _)
    rw [maxN]; omega
theorem maxN_ge {g : Nat → Int} : ∀ {n i : Nat}, i ≤ n → g i ≤ maxN g n
  | 0, i, h => by rw [show i = 0 from by omega]; exact Int.le_refl _
  | n + 1, i, h => by
    rw [maxN]
    by_cases e : i = n + 1
    · rw [e]; omega
    · have := maxN_ge (g := g) (n := n) (i := i) (by omega); omega
/-- The outermost of the places f .. l. -/
def maxR (o : List Int) (f l : Nat) : Int := maxN (fun i => nth o (f + i)) (l - f)
def Bd (o : List Int) : Prop := ∀ i, i < o.length → -1048576 ≤ nth o i ∧ nth o i ≤ 1048576
theorem maxR_bd {o : List Int} {f l : Nat} (h : Bd o) (hf : f ≤ l) (hl : l < o.length) : -1048576 ≤ maxR o f l ∧ maxR o f l ≤ 1048576 :=
  maxN_bd fun i hi => h (f + i) (by omega)
theorem maxR_cut {o : List Int} {f l : Nat} (hf : f ≤ l) (hl : l < o.length) : maxN (nth ((o.drop f).take (l + 1 - f))) (l - f) = maxR o f l :=
  maxN_congr fun i hi => by
    have h1 : f + i < o.length := by omega
    have h2 : i < l + 1 - f := by omega
    simp [nth, List.getElem?_take, h2, List.getElem?_drop]
theorem sgn_bd {s x b : Int} (hs : s = 1 ∨ s = -1) (h : -b ≤ x ∧ x ≤ b) : -b ≤ s * x ∧ s * x ≤ b := by
  rcases hs with rfl | rfl <;> omega
theorem sgn_sgn {s : Int} (hs : s = 1 ∨ s = -1) (x : Int) : s * (s * x) = x := by
  rcases hs with rfl | rfl <;> omega
/-- The places f .. k - 1 raised as far as v. -/
def raiseN (o : List Int) (f k : Nat) (v : Int) : List Int := (List.range o.length).map fun i => if f ≤ i ∧ i < k then max (nth o i) v else nth o i
theorem raiseN_len {o : List Int} {f k : Nat} {v : Int} : (raiseN o f k v).length = o.length := by simp [raiseN]
theorem raiseN_at {o : List Int} {f k i : Nat} {v : Int} (h : i < o.length) : nth (raiseN o f k v) i = if f ≤ i ∧ i < k then max (nth o i) v else nth o i := by simp [raiseN, nth, h]
theorem list_ext_nth {a b : List Int} (hl : a.length = b.length) (h : ∀ i, i < a.length → nth a i = nth b i) : a = b := by
  apply List.ext_getElem hl
  intro i h1 h2
  have := h i h1
  simpa [nth, h1, h2] using this
theorem raiseN_start {o : List Int} {f : Nat} {v : Int} : raiseN o f f v = o :=
  list_ext_nth raiseN_len fun i hi => by rw [raiseN_len] at hi; rw [raiseN_at hi, if_neg (by omega)]
theorem raiseN_step {o : List Int} {f k : Nat} {v : Int} (hf : f ≤ k) (hk : k < o.length) : (raiseN o f k v).set k (max (nth o k) v) = raiseN o f (k + 1) v := by
  refine list_ext_nth (by simp [raiseN_len]) fun i hi => ?_
  have hi' : i < o.length := by simpa [raiseN_len] using hi
  rw [raiseN_at hi']
  by_cases e : k = i
  · subst e
    rw [if_pos ⟨hf, by omega⟩]
    simp [nth, raiseN_len, hi']
  · have e2 : nth ((raiseN o f k v).set k (max (nth o k) v)) i = nth (raiseN o f k v) i := by simp [nth, List.getElem?_set, e]
    rw [e2, raiseN_at hi']
    by_cases hc : f ≤ i ∧ i < k
    · rw [if_pos hc, if_pos ⟨hc.1, by omega⟩]
    · rw [if_neg hc, if_neg (by omega)]
theorem raiseN_nth {o : List Int} {f k : Nat} {v : Int} (hk : k < o.length) : nth (raiseN o f k v) k = nth o k := by rw [raiseN_at hk, if_neg (by omega)]
theorem raiseN_bd {o : List Int} {f k : Nat} {v : Int} (h : Bd o) (hv : v ≤ 1048576) : Bd (raiseN o f k v) := fun i hi => by
  rw [raiseN_len] at hi
  have := h i hi
  rw [raiseN_at hi]
  split <;> omega
/-- The nearer edge of what is placed, with the sign of the side. -/
def edgeO (s : Int) (o : List Int) (f l : Nat) (near : Int) : Int := max (s * near) (maxR o f l + 16)
theorem edgeO_bd {s : Int} {o : List Int} {f l : Nat} {near : Int} (hs : s = 1 ∨ s = -1) (h : Bd o) (hf : f ≤ l) (hl : l < o.length) (hn : -1048576 ≤ near ∧ near ≤ 1048576) : -1048576 ≤ edgeO s o f l near ∧ edgeO s o f l near ≤ 1048592 := by
  have h1 := maxR_bd h hf hl
  have h2 := sgn_bd hs hn
  unfold edgeO; omega
theorem rep_len (n : Nat) (x : Int) : (List.replicate n x).length = n := List.length_replicate
theorem rep_nth {n i : Nat} {x : Int} (h : i < n) : nth (List.replicate n x) i = x := by simp [nth, h]
theorem rep_bd {n : Nat} {x : Int} (h : -1048576 ≤ x ∧ x ≤ 1048576) : Bd (List.replicate n x) := fun i hi => by
  rw [rep_len] at hi; rw [rep_nth hi]; exact h
/-- A row of which the first k are x. -/
def repK (m k : Nat) (x : Int) : List Int := List.replicate k x ++ List.replicate (m - k) 0
theorem repK_zero {m : Nat} {x : Int} : List.replicate m [Value.int .i64 0] = (repK m 0 x).map encI := by simp [repK, encI]
theorem repK_len {m k : Nat} {x : Int} (h : k ≤ m) : (repK m k x).length = m := by simp [repK]; omega
theorem repK_all {m k : Nat} {x : Int} (h : m ≤ k) (h2 : k ≤ m) : repK m k x = List.replicate m x := by rw [show k = m from by omega, repK]; simp
theorem repK_copy {m k q : Nat} {x : Int} (hk : k ≤ m) (hq : q ≤ k) (hq2 : q ≤ m - k) : (((repK m k x).map encI).take k ++ (((repK m k x).map encI).take k).take q ++ ((repK m k x).map encI).drop (k + q)) = (repK m (k + q) x).map encI := by
  rw [← List.map_take, ← List.map_take, ← List.map_drop, ← List.map_append, ← List.map_append]
  congr 1
  have e1 : (repK m k x).take k = List.replicate k x := by simp [repK]
  have e2 : (repK m k x).drop (k + q) = List.replicate (m - (k + q)) 0 := by
    rw [repK, List.drop_append, List.drop_eq_nil_of_le (by simp)]
    simp; omega
  rw [e1, e2, List.take_replicate, Nat.min_eq_left hq, repK, List.replicate_append_replicate]
theorem wrap64 (n : Int) : IntKind.u64.wrap n = n % 18446744073709551616 := by simp [IntKind.wrap, IntKind.bits, IntKind.signed]
theorem and_mask {y : Int} (h : 0 ≤ y ∧ y ≤ 4294967295) : andV .u64 y 4294967295 = y := by
  obtain ⟨n, rfl⟩ : ∃ n : Nat, y = (n : Int) := ⟨y.toNat, by omega⟩
  have hn : n < 2 ^ 32 := by omega
  have h2 : (BitVec.ofInt 64 (n : Int) &&& BitVec.ofInt 64 4294967295 : BitVec 64).toNat = n := by
    rw [BitVec.toNat_and, BitVec.toNat_ofInt, BitVec.toNat_ofInt]
    have h1 : ((n : Int) % ((2 ^ 64 : Nat) : Int)).toNat = n := by omega
    have h3 : ((4294967295 : Int) % ((2 ^ 64 : Nat) : Int)).toNat = 2 ^ 32 - 1 := by decide
    rw [h1, h3, Nat.and_two_pow_sub_one_eq_mod]
    omega
  show IntKind.wrap .u64 (((BitVec.ofInt 64 (n : Int) &&& BitVec.ofInt 64 4294967295 : BitVec 64).toNat : Nat) : Int) = n
  rw [h2]
  rw [wrap64]; omega
theorem shr32 {y : Int} (h : 0 ≤ y ∧ y ≤ 4294967295) : y.fdiv (2 ^ (min (32 : Int).toNat IntKind.u64.bits)) = 0 := by
  show y.fdiv 4294967296 = 0
  rw [Int.fdiv_eq_ediv_of_nonneg _ (by decide)]; omega
theorem encI_len {l : List Int} {z : List Value} (h : z ∈ l.map encI) : z.length = 1 := by
  obtain ⟨p, _, rfl⟩ := List.mem_map.1 h; rfl
theorem encI_all {l : List Int} {z : List Value} (h : z ∈ l.map encI) : allCells z = true := by
  obtain ⟨p, _, rfl⟩ := List.mem_map.1 h; rfl
theorem rep_first {n : Nat} {x : Int} (hn : 1 ≤ n) : (List.replicate n [Value.int .i64 0]).take 0 ++ [[Value.int .i64 x]].take 1 ++ (List.replicate n [Value.int .i64 0]).drop (0 + 1) = (repK n 1 x).map encI := by
  simp [repK, encI]
/-- The error of columns. -/
def colE (n : Nat) (f l : Int) : Int := if f < 0 ∨ l < f ∨ (n : Int) ≤ l then 2 else 0
theorem rd_none {α : Type} {enc : α → List Value} {w : World} {A : Option Addr} {s : Nat} {l : List α} (h : Rd w A s (l.map enc)) (hA : A.isNone = true) : l = [] := by
  rcases h with h | ⟨ad, rfl, _⟩
  · exact List.map_eq_nil_iff.1 h
  · cases hA
theorem rd_cut {w : World} {A : Option Addr} {c f n : Nat} {o : List Int} (h : Rd w A 1 (o.map encI)) (hc : o.length ≤ c) : Rd w (cutA A f c 1) 1 (((o.drop f).take n).map encI) := by
  rw [List.map_take, List.map_drop]; exact (h.cut (by simpa using hc)).take n
theorem cut_len {o : List Int} {f l : Nat} (hf : f ≤ l) (hl : l < o.length) : ((o.drop f).take (l + 1 - f)).length = l + 1 - f := by simp; omega
theorem maxR_one {o : List Int} {f : Nat} : maxR o f f = nth o f := by simp [maxR, maxN]
/-- What a skyline's Place returns, the error and the row after it. -/
def plV (t : Int) (o : List Int) (f l : Nat) (near high : Int) : Int := if 1048576 < edgeO t o f l near + high then 0 else t * edgeO t o f l near
def plE (t : Int) (o : List Int) (f l : Nat) (near high : Int) : Int := if 1048576 < edgeO t o f l near + high then 9 else 0
def plO (t : Int) (o : List Int) (f l : Nat) (near high : Int) : List Int := if 1048576 < edgeO t o f l near + high then o else raiseN o f (l + 1) (edgeO t o f l near + high)
theorem plO_len {t : Int} {o : List Int} {f l : Nat} {near high : Int} : (plO t o f l near high).length = o.length := by
  unfold plO; split
  · rfl
  · exact raiseN_len
theorem plO_bd {t : Int} {o : List Int} {f l : Nat} {near high : Int} (h : Bd o) : Bd (plO t o f l near high) := by
  unfold plO; split
  · exact h
  · exact raiseN_bd h (by omega)
end Go.Proofs.YtgphmbipakdggaaR
