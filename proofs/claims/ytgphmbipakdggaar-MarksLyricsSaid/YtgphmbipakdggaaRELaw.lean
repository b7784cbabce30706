/- Events cut short. Nothing of the program. -/
import Derived.Test.YtgphmbipakdggaaREPlain
set_option linter.unusedSimpArgs false
set_option linter.unusedVariables false
namespace Go.Proofs.YtgphmbipakdggaaR.Ev
open Go Go.RowKit Hr

def trunS (s : Syl) : Syl := ⟨s.text.extract 0 (min (s.text.size : Int) 30).toNat, s.link⟩
def shE (x : Evt) : Evt := ⟨x.n, x.hs.take 5, x.gs.take 4, (x.ls.take 5).map trunS⟩
/-- The first k texts cut. -/
def shK (l : List Syl) (k : Nat) : List Syl := ((l.take 5).take k).map trunS ++ (l.take 5).drop k
theorem shE_hs {x : Evt} : (shE x).hs.length = (min (x.hs.length : Int) 5).toNat := by simp [shE]; omega
theorem shE_gs {x : Evt} : (shE x).gs.length = (min (x.gs.length : Int) 4).toNat := by simp [shE]; omega
theorem shE_ls {x : Evt} : (shE x).ls.length = (min (x.ls.length : Int) 5).toNat := by simp [shE]; omega
theorem shK_zero {l : List Syl} : shK l 0 = l.take 5 := by simp [shK]
theorem shK_len {l : List Syl} {k : Nat} (h : k ≤ (l.take 5).length) : (shK l k).length = (l.take 5).length := by simp only [shK, List.length_append, List.length_map, List.length_take, List.length_drop] at h ⊢; omega
theorem shK_at {l : List Syl} {k : Nat} (h : k < (l.take 5).length) : nth (shK l k) k = nth (l.take 5) k := by
  have h1 : (((l.take 5).take k).map trunS).length = k := by rw [List.length_map, List.length_take]; omega
  rw [shK, drop_nth h, nth, List.getD_eq_getElem?_getD, List.getElem?_append_right (by omega), h1, Nat.sub_self]
  rfl
theorem shK_set {l : List Syl} {k : Nat} (h : k < (l.take 5).length) : (shK l k).set k (trunS (nth (l.take 5) k)) = shK l (k + 1) := by
  have h1 : (((l.take 5).take k).map trunS).length = k := by rw [List.length_map, List.length_take]; omega
  rw [shK, drop_nth h, List.set_append_right _ _ (by omega), h1, Nat.sub_self, shK, take_nth h, List.map_append]
  simp
theorem shK_end {l : List Syl} {k : Nat} (h : (l.take 5).length ≤ k) : shK l k = (l.take 5).map trunS := by
  rw [shK, List.take_of_length_le h, List.drop_eq_nil_of_le h, List.append_nil]
theorem shE_few {x : Evt} (h : x.n.art ≤ 9223372036854775807) : (shE x).few := by
  refine ⟨?_, ?_, ?_, h⟩
  · rw [shE_hs]; omega
  · rw [shE_gs]; omega
  · rw [shE_ls]; omega
theorem shE_text {x : Evt} {k : Nat} (h : k < (shE x).ls.length) : (nth (shE x).ls k).text.size ≤ 30 := by
  have h1 : k < (x.ls.take 5).length := by simpa [shE] using h
  have e : nth (shE x).ls k = trunS (nth (x.ls.take 5) k) := by
    simp only [shE, nth, List.getD_eq_getElem?_getD, List.getElem?_map, List.getElem?_eq_getElem h1]; rfl
  rw [e]
  show ((nth (x.ls.take 5) k).text.extract 0 _).size ≤ 30
  rw [ByteArray.size_extract]; omega
end Go.Proofs.YtgphmbipakdggaaR.Ev
