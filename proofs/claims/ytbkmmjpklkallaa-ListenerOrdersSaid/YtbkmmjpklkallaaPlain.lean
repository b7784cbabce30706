/- Notes, costs and pairs as data, and what the functions of the layer compute. Nothing of the program. -/
import Derived.Test.YtbkmmjpklkallaaDraw
set_option linter.unusedSimpArgs false
set_option linter.unusedVariables false
namespace Go.Proofs.Ytbkmmjpklkallaa
open Go Go.RowKit Hr

structure Note where
  on : Int
  off : Int
  num : Int
  vel : Int
  part : Int
  site : Int
  id : Int
instance : Inhabited Note := ⟨⟨0, 0, 0, 0, 0, 0, 0⟩⟩
def Note.enc (p : Note) : List Value := [.int .i64 p.on, .int .i64 p.off, .int .i64 p.num, .int .i64 p.vel, .int .i64 p.part, .int .i64 p.site, .int .i64 p.id]
def Note.val (p : Note) : Value := .agg p.enc.toArray

structure Cost where
  wrong : Int
  missing : Int
  extra : Int
  time : Int
  late : Int
instance : Inhabited Cost := ⟨⟨0, 0, 0, 0, 0⟩⟩
def Cost.enc (c : Cost) : List Value := [.int .i64 c.wrong, .int .i64 c.missing, .int .i64 c.extra, .int .i64 c.time, .int .i64 c.late]
def Cost.val (c : Cost) : Value := .agg c.enc.toArray

structure Pair where
  kind : Int
  score : Int
  played : Int
instance : Inhabited Pair := ⟨⟨0, 0, 0⟩⟩
def Pair.enc (p : Pair) : List Value := [.int .i64 p.kind, .int .i64 p.score, .int .i64 p.played]
def Pair.val (p : Pair) : Value := .agg p.enc.toArray

def inB (n lo hi : Int) : Bool := decide (lo ≤ n) && decide (n ≤ hi)
def properB (p : Note) : Bool := inB p.on 0 1125899906842624 && inB p.off p.on 1125899906842624 && inB p.num 0 127 && inB p.vel 1 127 && decide (0 ≤ p.part)
def encI (n : Int) : List Value := [.int .i64 n]
/-- The first number that is not 0. -/
def firstNZ : List Int → Int
  | [] => 0
  | e :: r => if e ≠ 0 then e else firstNZ r
/-- The first of f 0, f 1, .. that is not 0; n of them from i on. -/
def firstErr (f : Nat → Int) : Nat → Nat → Int
  | 0, _ => 0
  | n + 1, i => if f i ≠ 0 then f i else firstErr f n (i + 1)
def wrongAt (l : List Note) (i : Nat) : Int := if properB (nth l i) = false then 2 else if 0 < i ∧ (nth l i).on < (nth l (i - 1)).on then 25 else 0
/-- The error of a list of notes. -/
def wrongL (l : List Note) : Int := if 1024 < l.length then 9 else firstErr (wrongAt l) l.length 0
def Cost.all (c : Cost) : List Int := [c.wrong, c.missing, c.extra, c.time, c.late]
def costB (c : Cost) : Int := firstErr (fun i => if inB (nth c.all i) 0 1000000 then 0 else 2) 5 0
theorem firstErr_step {f : Nat → Int} {n i : Nat} (h : i < n) (h0 : f i = 0) : firstErr f (n - i) i = firstErr f (n - (i + 1)) (i + 1) := by
  rw [show n - i = n - (i + 1) + 1 from by omega, firstErr, if_neg (by simp [h0])]
theorem firstErr_hit {f : Nat → Int} {n i : Nat} (h : i < n) (h0 : f i ≠ 0) : firstErr f (n - i) i = f i := by
  rw [show n - i = n - (i + 1) + 1 from by omega, firstErr, if_pos h0]
end Go.Proofs.Ytbkmmjpklkallaa
