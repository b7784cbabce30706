/- Requests in order. Nothing of the program. -/
import Derived.Test.YtgphmbipakdggaaRPlain
import Derived.Test.YtgphmbipakdggaaRKey
set_option linter.unusedSimpArgs false
set_option linter.unusedVariables false
namespace Go.Proofs.YtgphmbipakdggaaR
open Go Go.RowKit Hr

theorem sort_memK {α : Type} [Inhabited α] {lt : α → α → Bool} {l : List α} {k : Nat} {x : α} (hk : k ≤ l.length) (h : x ∈ Srt.sort lt l k) : x ∈ l :=
  List.mem_of_mem_take ((Srt.sort_perm (lt := lt) l k hk).mem_iff.1 h)
theorem cmpI_1 {a b : Int} (h : b < a) : 1 = Ky.cmpI a b := by rw [Ky.cmpI, if_neg (by omega), if_pos h]
theorem cmpI_m {a b : Int} (h : a < b) : -1 = Ky.cmpI a b := by rw [Ky.cmpI, if_pos h]
theorem cmpI_0 {a b : Int} (h : a = b) : 0 = Ky.cmpI a b := by rw [Ky.cmpI, if_neg (by omega), if_neg (by omega)]
def keyM (x : Req) : List Int := [x.cls, x.fst, x.lst, x.side, x.idx, x.site, x.num]
theorem key_or {a b : Req} : Ky.fst0 [Ky.cmpI a.cls b.cls, Ky.cmpI a.fst b.fst, Ky.cmpI a.lst b.lst, Ky.cmpI a.side b.side, Ky.cmpI a.idx b.idx, Ky.cmpI a.site b.site, Ky.cmpI a.num b.num] = Ky.lex (keyM a) (keyM b) :=
  Ky.lex_fst0 (keyM a) (keyM b)
def ordM (l : List Req) : List Req := Srt.sort (Ky.ltK keyM) l l.length
theorem ordM_len {l : List Req} : (ordM l).length = l.length := Srt.sort_len _ _
theorem ordM_nil : ordM [] = [] := rfl
theorem gt_lt {a b : Req} (h : Ky.lex (keyM a) (keyM b) > 0) : Ky.ltK keyM b a = true := by
  have := Ky.lex_neg (keyM a) (keyM b) rfl
  exact decide_eq_true (by omega)
theorem le_lt {a b : Req} (h : ¬ Ky.lex (keyM a) (keyM b) > 0) : Ky.ltK keyM b a = false := by
  have := Ky.lex_neg (keyM a) (keyM b) rfl
  exact decide_eq_false (by omega)
theorem bef_m {a b : Req} {k : Nat} (hE : Ky.lex (keyM a) (keyM b) = Ky.lex ((keyM a).drop k) ((keyM b).drop k)) (hk : k < 7) (h : nth (keyM a) k < nth (keyM b) k) : -1 = Ky.lex (keyM a) (keyM b) := by
  rw [hE, Ky.lex_lt (show k < (keyM a).length from hk) (show k < (keyM b).length from hk) h]
theorem bef_1 {a b : Req} {k : Nat} (hE : Ky.lex (keyM a) (keyM b) = Ky.lex ((keyM a).drop k) ((keyM b).drop k)) (hk : k < 7) (h : nth (keyM a) k > nth (keyM b) k) : 1 = Ky.lex (keyM a) (keyM b) := by
  rw [hE, Ky.lex_gt (show k < (keyM a).length from hk) (show k < (keyM b).length from hk) h]
theorem bef_0 {a b : Req} {k : Nat} (hE : Ky.lex (keyM a) (keyM b) = Ky.lex ((keyM a).drop k) ((keyM b).drop k)) (hk : 7 ≤ k) : 0 = Ky.lex (keyM a) (keyM b) := by
  rw [hE, Ky.lex_end hk]
theorem bef_n {a b : Req} {k : Nat} (hE : Ky.lex (keyM a) (keyM b) = Ky.lex ((keyM a).drop k) ((keyM b).drop k)) (hk : k < 7) (h1 : ¬ nth (keyM a) k < nth (keyM b) k) (h2 : ¬ nth (keyM a) k > nth (keyM b) k) : Ky.lex (keyM a) (keyM b) = Ky.lex ((keyM a).drop (k + 1)) ((keyM b).drop (k + 1)) := by
  rw [hE, Ky.lex_eq (show k < (keyM a).length from hk) (show k < (keyM b).length from hk) (by omega)]
end Go.Proofs.YtgphmbipakdggaaR
