/- From a contract in the program logic to a row: the arguments opened as lists of cells, and the shut of a row that says 'true, and each argument reads as it did'. -/
import Derived.Test.YtgphmbipakdggaaRDraw
import Derived.ProofKit
import Derived.Deep.Slices
import Derived.Deep.Fields
set_option linter.unusedSimpArgs false
set_option linter.unusedVariables false
namespace Go.Proofs.YtgphmbipakdggaaR
namespace Hr
open Go Go.RowKit Go.ChangeShapes Go.WideShapes Go.Deep

section
variable {H : Type} {enc : TypeId × Value → H} {P : Program}

theorem post_of_below {f : Func} {s : ChangeSpec} {apart fresh handsOn again : Bool} {W W' : World} {args : Array Value} {v : Value} {ds gs : List (DataW H)} {before pa pv : List MemPlace}
    (hW : DataW.Whole enc P f.params.toList s.vars apart W args.toList ds gs before)
    (hres : ∀ (b : Nat) (sp : Nat → Bool) (hd : Bool), DataW.TrodAll enc P W' b sp hd f.resultTypes.toList (v.resultList f.resultTypes.size) (s.fn H (ds ++ gs)).results [])
    (hargs : ∀ sp : Nat → Bool, (∀ p ∈ before, sp p.block = true) → DataW.TrodAll enc P W' 0 sp true f.params.toList args.toList (s.fn H (ds ++ gs)).args pa)
    (hvars : ∀ sp : Nat → Bool, (∀ p ∈ before, sp p.block = true) → DataW.TrodVars enc P W' sp s.vars (s.fn H (ds ++ gs)).vars pv)
    (hps : before = pa ++ pv) (hb : Below W.heap.size W W')
    (hok : ∀ (j : Nat) (t : TypeId) (r : Value), f.resultTypes[j]? = some t → (v.resultList f.resultTypes.size)[j]? = some r → Value.okWide P W' .any 0 t r) :
    s.post enc P f apart fresh handsOn again W args v W' := by
  have hlt : ∀ p ∈ before, p.block < W.heap.size := fun p hp => hW.lt p hp
  have hold : ∀ p ∈ before, (fun b => decide (b < W.heap.size)) p.block = true := fun p hp => by simpa using hlt p hp
  refine ⟨ds, gs, before, [], pa, pv, hW, hres _ _ _, hargs _ hold, hvars _ hold, World.keptBut_mono (fun p hp => ⟨hp, ?_⟩) (hb.frame (· ∈ before)), fun _ => ?_⟩
  · rw [hps, List.mem_append] at hp
    exact Or.inr hp
  · obtain ⟨_, _, _, _, _, hz, hn⟩ := hW
    refine ⟨hok, _, _, ([] ++ pa) ++ pv, ⟨[] ++ pa, pv, trodAll_append (hargs _ (fun _ _ => rfl)) (hres _ _ _), hvars _ (fun _ _ => rfl), rfl, ?_, ?_⟩, ?_⟩
    · intro b off hp
      have hin : MemPlace.cell b off ∈ before := by rw [hps]; simpa using hp
      rw [hb.frozen (hlt _ hin)]
      exact hz b off hin
    · intro ha
      have := hn ha
      rw [hps] at this
      simpa using this
    · intro p hp _
      rw [hps]
      simpa using hp

/-- All arguments read as they did. -/
theorem trodAll_stays (hl : laidOutB P = true) {W W' : World} {sp' : Nat → Bool} (hb : Below W.heap.size W W') : ∀ {ts : List TypeId} {vs : List Value} {ds : List (DataW H)} {ps : List MemPlace},
    (∀ t ∈ ts, P.readableRec t = true ∧ t < P.types.size) → DataW.TrodAll enc P W 0 (fun _ => true) true ts vs ds ps → (∀ p ∈ ps, p.block < W.heap.size) → (∀ p ∈ ps, sp' p.block = true) → DataW.TrodAll enc P W' 0 sp' true ts vs ds ps
  | [], vs, ds, ps, _, h, _, _ => by
    obtain ⟨rfl, rfl, rfl⟩ := trodAll_nil h
    exact rfl
  | t :: ts, vs, ds, ps, hr, h, hlt, hs => by
    obtain ⟨v, vs', d, ds', p, q, rfl, rfl, rfl, hd, hrest⟩ := trodAll_cons h
    exact ⟨p, q, WideElems.Trod_stays hl (hr t (by simp)).1 (hr t (by simp)).2 hd (fun x hx => hb.same (hlt x (by simp [hx]))) (fun x hx => hs x (by simp [hx])),
      trodAll_stays hl hb (fun t ht => hr t (by simp [ht])) hrest (fun x hx => hlt x (by simp [hx])) (fun x hx => hs x (by simp [hx])), rfl⟩

/-- The shut of a law's row: the call gave true, and nothing that was there has turned. -/
theorem law_post {f : Func} {s : ChangeSpec} {apart fresh handsOn again : Bool} {W W' : World} {args : Array Value} {ds gs : List (DataW H)} {before : List MemPlace} {tb : TypeId}
    (hl : laidOutB P = true) (hr : ∀ t ∈ f.params.toList, P.readableRec t = true ∧ t < P.types.size) (hres : f.resultTypes = #[tb]) (htb : P.underlying tb = some .bool) (hv : s.vars = [])
    (hs : s.fn H ds = { results := [.lit (.bool true)], args := ds }) (hW : DataW.Whole enc P f.params.toList s.vars apart W args.toList ds gs before) (hk : Kept nX W W') :
    s.post enc P f apart fresh handsOn again W args (.bool true) W' := by
  have hlt : ∀ p ∈ before, p.block < W.heap.size := fun p hp => hW.lt p hp
  obtain ⟨p, q, hA, hV, hpq, hz, hn⟩ := id hW
  rw [hv] at hV
  obtain ⟨hgs, hq⟩ := trodVars_none hV
  subst hgs
  subst hq
  have hs' : s.fn H (ds ++ []) = { results := [.lit (.bool true)], args := ds } := by rw [List.append_nil]; exact hs
  rw [List.append_nil] at hpq
  subst hpq
  refine post_of_below (pa := before) (pv := []) hW ?_ ?_ ?_ (by simp) hk.below ?_
  · intro b sp hd
    rw [hs', hres]
    exact trodAll_mk1 (shut_bool htb true)
  · intro sp hsp
    rw [hs']
    exact trodAll_stays hl hk.below hr hA hlt hsp
  · intro sp hsp
    rw [hs', hv]
    rfl
  · exact ok_one hres rfl (okWide_bool_mk htb true)

theorem wf_bd {k : IntKind} {x lo hi : Int} (h : (Lit.int k x).wf = true) (h1 : k.min = lo) (h2 : k.max = hi) : lo ≤ x ∧ x ≤ hi := by
  subst h1; subst h2
  simpa [Lit.wf] using h

/-- A slice, opened: its elements' cells. -/
theorem open_rd {α : Type} {encα : α → List Value} {Q : α → Prop} {w : World} {base fuel : Nat} {held : Bool} {t e : TypeId} {s : Nat} {cs : List Value} {x : DataW H × List MemPlace} (ht : P.underlying t = some (.slice e)) (hsz : P.cellsOf e = s)
    (he : ∀ n cs x, DataW.trod enc P w base (fun _ => true) held n e cs = some x → ∃ p : α, cs = encα p ∧ Q p) (h : DataW.trod enc P w base (fun _ => true) held fuel t cs = some x) :
    ∃ (A : Option Addr) (l : List α) (c : Nat), cs = [.slice A l.length c] ∧ l.length ≤ c ∧ c ≤ maxLen ∧ Rd w A s (l.map encα) ∧ ∀ p ∈ l, Q p := by
  rcases open_slice ht h with ⟨hcs, _⟩ | ⟨a, len, cap, m, n, D, Pl, hcs, hb, hl, hm, hmm, hx, hi⟩
  · exact ⟨none, [], 0, by simpa using hcs, by simp, by simp, .inl rfl, by simp⟩
  · rw [if_pos rfl] at hmm
    subst hmm
    rw [hsz] at hi
    have key : ∀ i : Fin len, ∃ p : α, w.cells? base (a.add (i.val * s)) s = some (encα p) ∧ Q p := by
      intro i
      obtain ⟨cs', hc, ht'⟩ := hi i.val (by omega)
      obtain ⟨p, rfl, hq⟩ := he _ _ _ ht'
      exact ⟨p, hc, hq⟩
    refine ⟨some a, List.ofFn fun i => Classical.choose (key i), m, by simpa using hcs, by simpa using hl, hm, .inr ⟨a, rfl, fun i c hic j v hj => ?_⟩, ?_⟩
    · rw [List.getElem?_map, List.getElem?_ofFn] at hic
      split at hic
      · rename_i hlt
        simp only [Option.map_some, Option.some.injEq] at hic
        subst hic
        obtain ⟨_, hcl, hat⟩ := World.cells?_some (Classical.choose_spec (key ⟨i, hlt⟩)).1
        have hj' : j < s := by rw [← hcl]; exact (List.getElem?_eq_some_iff.1 hj).1
        rw [← Go.Deep.add_add, hat j hj', hj]
      · cases hic
    · intro p hp
      obtain ⟨i, rfl⟩ := List.mem_ofFn.1 hp
      exact (Classical.choose_spec (key i)).2
end
end Hr
end Go.Proofs.YtgphmbipakdggaaR
