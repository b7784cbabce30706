/- What is read and not turned stays, while given resources turn. -/
import Derived.Test.YtgphmbipakdggaaRMore
set_option linter.unusedSimpArgs false
set_option linter.unusedVariables false
namespace Go.Proofs.YtgphmbipakdggaaR
namespace Hr
open Go Go.RowKit

/-- What an argument reads stays while resources made since then turn. -/
theorem keep_inp {W w : World} {A : Option Addr} {s : Nat} {ls : List (List Value)} {rs l : List Res} (h : Rd W A s ls) (hk : Kept nX W w) (hm : Mem nX W (rs ++ l) w) : ∀ w', Kept (atAny rs) w w' → Rd w' A s ls := by
  intro w' hk'
  rcases h with h | ⟨ad, rfl, h⟩
  · exact .inl h
  · refine .inr ⟨ad, rfl, fun i c hi j v hj => ?_⟩
    have h1 := h i c hi j v hj
    have h2 := lt_of_cell h1
    rw [block_add] at h2
    have h3 : w.cell? (ad.add (i * s + j)) = some v := by rw [← h1]; exact World.cell?_of_block (by rw [block_add]; exact hk.block _ h2 (fun e => e))
    rw [← h3]
    have hn : ¬ atAny rs ad.block := by
      rintro ⟨r, hr, hb⟩
      rcases hm.own r (by simp [hr]) _ hb with h4 | h4
      · omega
      · exact h4
    exact World.cell?_of_block (by rw [block_add]; exact hk'.block _ (Nat.lt_of_lt_of_le h2 hk.size) hn)
/-- What one resource reads stays while others turn. -/
theorem keep_own {X : Nat → Prop} {W w : World} {A : Option Addr} {t : TypeId} {s n c : Nat} {ls : List (List Value)} {rs l l' : List Res} (hm : Mem X W (rs ++ l) w) (hs : Sel l (.own t s A n c ls) l') : ∀ w', Kept (atAny rs) w w' → Rd w' A s ls := by
  intro w' hk'
  have hmem : Res.own t s A n c ls ∈ l := hs.perm.mem_iff.2 (by simp)
  have hh : (Res.own t s A n c ls).holds w := hm.holds _ (List.mem_append_right _ hmem)
  rcases own_rd hh with h | ⟨ad, rfl, h⟩
  · exact .inl h
  · refine .inr ⟨ad, rfl, fun i c hi j v hj => ?_⟩
    have h1 := h i c hi j v hj
    have h2 := lt_of_cell h1
    rw [block_add] at h2
    rw [← h1]
    have hn : ¬ atAny rs ad.block := by
      rintro ⟨r, hr, hb⟩
      exact (List.pairwise_append.1 hm.apart).2.2 r hr _ hmem _ hb rfl
    exact World.cell?_of_block (by rw [block_add]; exact hk'.block _ h2 hn)
end Hr
end Go.Proofs.YtgphmbipakdggaaR
