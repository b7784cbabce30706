/-
  No cell of these rows narrows 'for every input' (looked for: loops, veiled, ifaces, maps, wideKeys, modest, calm, conditions, laid).
  DERIVED. THE GIVEN ROWS OF THIS SEAT. 10 by the template 'for every input the law returns true; each argument reads behind the call as it read before'; 0 by the template 'total and deterministic' (their statements: YtgphmbipakdggaaRTotals.lean).
  GIVEN WITH THE SEED: the statements are not yours to turn. If you find one false, say at which input.
  Laid BY PROGRAM, IN A SANDBOX (cutbox-rows.mjs): the forced cells as the released guide's own fill.sh prints them over the translation f50259121550063c… (all of the seat's roots in one cut). By AI agents, Wed Nov 11 2026. No macro, syntax, notation, axiom, sorry.
-/
import Derived.Test.YtgphmbipakdggaaRChecked
import GoSem.Claim
import GoSem.ClaimJoined
import GoSem.ClaimMapViews
import Derived.JoinedTies
import Derived.KernelRfl
namespace Go.Proofs.YtgphmbipakdggaaR
/- THE CELL 'sum', in the pinned program and in every row, IS THE sha256 OF THE DUMP (.gsa) THAT YtgphmbipakdggaaRProg.lean LOADS. Nothing in Lean hashes anything: it is a label: what it is worth is what the hold of that sum in a sandbox is worth. -/
noncomputable def Try.pinned : Pinned := { name := "ytgphmbipakdggaar", sum := "f50259121550063c1f540ec474b77aa9c123fc45158a261eebdf969059fcc075", checked := Try.checked }
namespace Rows
def none {H : Type} : Left H := { results := [], args := [] }

/-- 'hemiolalaw29.MarksChecks': WHATEVER THE INPUT: true; the input reads as it did. -/
def marksChecksSpec : ChangeSpec := { name := "marksChecks", fn := fun _ => fun
  | [d1, d2] => { results := [.lit (.bool true)], args := [d1, d2] }
  | _ => none }
def marksChecksRow : OpenClaim := { program := "ytgphmbipakdggaar", sum := "f50259121550063c1f540ec474b77aa9c123fc45158a261eebdf969059fcc075", func := "hemiola/hemiolalaw29.MarksChecks", spec := "marksChecks", apart := false }
def MarksChecksSaid : Prop := marksChecksRow.holds Try.pinned (OpenSpec.ofChange marksChecksSpec)

/-- ITS FALSE NEIGHBOUR: 'it returns false'. Refute it at one input. -/
def marksChecksWrong : ChangeSpec := { name := "marksChecks", fn := fun _ => fun
  | [d1, d2] => { results := [.lit (.bool false)], args := [d1, d2] }
  | _ => none }
def MarksChecksWrongFalsely : Prop := marksChecksRow.holds Try.pinned (OpenSpec.ofChange marksChecksWrong)

/-- 'hemiolalaw29.MarksLines': WHATEVER THE INPUT: true; the input reads as it did. -/
def marksLinesSpec : ChangeSpec := { name := "marksLines", fn := fun _ => fun
  | [d1, d2, d3] => { results := [.lit (.bool true)], args := [d1, d2, d3] }
  | _ => none }
def marksLinesRow : OpenClaim := { program := "ytgphmbipakdggaar", sum := "f50259121550063c1f540ec474b77aa9c123fc45158a261eebdf969059fcc075", func := "hemiola/hemiolalaw29.MarksLines", spec := "marksLines", apart := false }
def MarksLinesSaid : Prop := marksLinesRow.holds Try.pinned (OpenSpec.ofChange marksLinesSpec)

/-- ITS FALSE NEIGHBOUR: 'it returns false'. Refute it at one input. -/
def marksLinesWrong : ChangeSpec := { name := "marksLines", fn := fun _ => fun
  | [d1, d2, d3] => { results := [.lit (.bool false)], args := [d1, d2, d3] }
  | _ => none }
def MarksLinesWrongFalsely : Prop := marksLinesRow.holds Try.pinned (OpenSpec.ofChange marksLinesWrong)

/-- 'hemiolalaw29.MarksClear': WHATEVER THE INPUT: true; the input reads as it did. -/
def marksClearSpec : ChangeSpec := { name := "marksClear", fn := fun _ => fun
  | [d1, d2] => { results := [.lit (.bool true)], args := [d1, d2] }
  | _ => none }
def marksClearRow : OpenClaim := { program := "ytgphmbipakdggaar", sum := "f50259121550063c1f540ec474b77aa9c123fc45158a261eebdf969059fcc075", func := "hemiola/hemiolalaw29.MarksClear", spec := "marksClear", apart := false }
def MarksClearSaid : Prop := marksClearRow.holds Try.pinned (OpenSpec.ofChange marksClearSpec)

/-- ITS FALSE NEIGHBOUR: 'it returns false'. Refute it at one input. -/
def marksClearWrong : ChangeSpec := { name := "marksClear", fn := fun _ => fun
  | [d1, d2] => { results := [.lit (.bool false)], args := [d1, d2] }
  | _ => none }
def MarksClearWrongFalsely : Prop := marksClearRow.holds Try.pinned (OpenSpec.ofChange marksClearWrong)

/-- 'hemiolalaw29.MarksPlaces': WHATEVER THE INPUT: true; the input reads as it did. -/
def marksPlacesSpec : ChangeSpec := { name := "marksPlaces", fn := fun _ => fun
  | [d1, d2] => { results := [.lit (.bool true)], args := [d1, d2] }
  | _ => none }
def marksPlacesRow : OpenClaim := { program := "ytgphmbipakdggaar", sum := "f50259121550063c1f540ec474b77aa9c123fc45158a261eebdf969059fcc075", func := "hemiola/hemiolalaw29.MarksPlaces", spec := "marksPlaces", apart := false }
def MarksPlacesSaid : Prop := marksPlacesRow.holds Try.pinned (OpenSpec.ofChange marksPlacesSpec)

/-- ITS FALSE NEIGHBOUR: 'it returns false'. Refute it at one input. -/
def marksPlacesWrong : ChangeSpec := { name := "marksPlaces", fn := fun _ => fun
  | [d1, d2] => { results := [.lit (.bool false)], args := [d1, d2] }
  | _ => none }
def MarksPlacesWrongFalsely : Prop := marksPlacesRow.holds Try.pinned (OpenSpec.ofChange marksPlacesWrong)

/-- 'hemiolalaw29.MarksExtents': WHATEVER THE INPUT: true; the input reads as it did. -/
def marksExtentsSpec : ChangeSpec := { name := "marksExtents", fn := fun _ => fun
  | [d1, d2] => { results := [.lit (.bool true)], args := [d1, d2] }
  | _ => none }
def marksExtentsRow : OpenClaim := { program := "ytgphmbipakdggaar", sum := "f50259121550063c1f540ec474b77aa9c123fc45158a261eebdf969059fcc075", func := "hemiola/hemiolalaw29.MarksExtents", spec := "marksExtents", apart := false }
def MarksExtentsSaid : Prop := marksExtentsRow.holds Try.pinned (OpenSpec.ofChange marksExtentsSpec)

/-- ITS FALSE NEIGHBOUR: 'it returns false'. Refute it at one input. -/
def marksExtentsWrong : ChangeSpec := { name := "marksExtents", fn := fun _ => fun
  | [d1, d2] => { results := [.lit (.bool false)], args := [d1, d2] }
  | _ => none }
def MarksExtentsWrongFalsely : Prop := marksExtentsRow.holds Try.pinned (OpenSpec.ofChange marksExtentsWrong)

/-- 'hemiolalaw29.MarksTexts': WHATEVER THE INPUT: true; the input reads as it did. -/
def marksTextsSpec : ChangeSpec := { name := "marksTexts", fn := fun _ => fun
  | [d1, d2, d3] => { results := [.lit (.bool true)], args := [d1, d2, d3] }
  | _ => none }
def marksTextsRow : OpenClaim := { program := "ytgphmbipakdggaar", sum := "f50259121550063c1f540ec474b77aa9c123fc45158a261eebdf969059fcc075", func := "hemiola/hemiolalaw29.MarksTexts", spec := "marksTexts", apart := false }
def MarksTextsSaid : Prop := marksTextsRow.holds Try.pinned (OpenSpec.ofChange marksTextsSpec)

/-- ITS FALSE NEIGHBOUR: 'it returns false'. Refute it at one input. -/
def marksTextsWrong : ChangeSpec := { name := "marksTexts", fn := fun _ => fun
  | [d1, d2, d3] => { results := [.lit (.bool false)], args := [d1, d2, d3] }
  | _ => none }
def MarksTextsWrongFalsely : Prop := marksTextsRow.holds Try.pinned (OpenSpec.ofChange marksTextsWrong)

/-- 'hemiolalaw29.MarksNil': WHATEVER THE INPUT: true; the input reads as it did. -/
def marksNilSpec : ChangeSpec := { name := "marksNil", fn := fun _ => fun
  | [d1, d2] => { results := [.lit (.bool true)], args := [d1, d2] }
  | _ => none }
def marksNilRow : OpenClaim := { program := "ytgphmbipakdggaar", sum := "f50259121550063c1f540ec474b77aa9c123fc45158a261eebdf969059fcc075", func := "hemiola/hemiolalaw29.MarksNil", spec := "marksNil", apart := false }
def MarksNilSaid : Prop := marksNilRow.holds Try.pinned (OpenSpec.ofChange marksNilSpec)

/-- ITS FALSE NEIGHBOUR: 'it returns false'. Refute it at one input. -/
def marksNilWrong : ChangeSpec := { name := "marksNil", fn := fun _ => fun
  | [d1, d2] => { results := [.lit (.bool false)], args := [d1, d2] }
  | _ => none }
def MarksNilWrongFalsely : Prop := marksNilRow.holds Try.pinned (OpenSpec.ofChange marksNilWrong)

/-- 'hemiolalaw29.MarksRows': WHATEVER THE INPUT: true; the input reads as it did. -/
def marksRowsSpec : ChangeSpec := { name := "marksRows", fn := fun _ => fun
  | [d1, d2] => { results := [.lit (.bool true)], args := [d1, d2] }
  | _ => none }
def marksRowsRow : OpenClaim := { program := "ytgphmbipakdggaar", sum := "f50259121550063c1f540ec474b77aa9c123fc45158a261eebdf969059fcc075", func := "hemiola/hemiolalaw29.MarksRows", spec := "marksRows", apart := false }
def MarksRowsSaid : Prop := marksRowsRow.holds Try.pinned (OpenSpec.ofChange marksRowsSpec)

/-- ITS FALSE NEIGHBOUR: 'it returns false'. Refute it at one input. -/
def marksRowsWrong : ChangeSpec := { name := "marksRows", fn := fun _ => fun
  | [d1, d2] => { results := [.lit (.bool false)], args := [d1, d2] }
  | _ => none }
def MarksRowsWrongFalsely : Prop := marksRowsRow.holds Try.pinned (OpenSpec.ofChange marksRowsWrong)

/-- 'hemiolalaw29.MarksOrders': WHATEVER THE INPUT: true; the input reads as it did. -/
def marksOrdersSpec : ChangeSpec := { name := "marksOrders", fn := fun _ => fun
  | [d] => { results := [.lit (.bool true)], args := [d] }
  | _ => none }
def marksOrdersRow : OpenClaim := { program := "ytgphmbipakdggaar", sum := "f50259121550063c1f540ec474b77aa9c123fc45158a261eebdf969059fcc075", func := "hemiola/hemiolalaw29.MarksOrders", spec := "marksOrders", unfollowed := true, recurses := true, apart := false }
def MarksOrdersSaid : Prop := marksOrdersRow.holds Try.pinned (OpenSpec.ofChange marksOrdersSpec)

/-- ITS FALSE NEIGHBOUR: 'it returns false'. Refute it at one input. -/
def marksOrdersWrong : ChangeSpec := { name := "marksOrders", fn := fun _ => fun
  | [d] => { results := [.lit (.bool false)], args := [d] }
  | _ => none }
def MarksOrdersWrongFalsely : Prop := marksOrdersRow.holds Try.pinned (OpenSpec.ofChange marksOrdersWrong)

/-- 'hemiolalaw29.MarksLyrics': WHATEVER THE INPUT: true; the input reads as it did. -/
def marksLyricsSpec : ChangeSpec := { name := "marksLyrics", fn := fun _ => fun
  | [d1, d2, d3] => { results := [.lit (.bool true)], args := [d1, d2, d3] }
  | _ => none }
def marksLyricsRow : OpenClaim := { program := "ytgphmbipakdggaar", sum := "f50259121550063c1f540ec474b77aa9c123fc45158a261eebdf969059fcc075", func := "hemiola/hemiolalaw29.MarksLyrics", spec := "marksLyrics", apart := false }
def MarksLyricsSaid : Prop := marksLyricsRow.holds Try.pinned (OpenSpec.ofChange marksLyricsSpec)

/-- ITS FALSE NEIGHBOUR: 'it returns false'. Refute it at one input. -/
def marksLyricsWrong : ChangeSpec := { name := "marksLyrics", fn := fun _ => fun
  | [d1, d2, d3] => { results := [.lit (.bool false)], args := [d1, d2, d3] }
  | _ => none }
def MarksLyricsWrongFalsely : Prop := marksLyricsRow.holds Try.pinned (OpenSpec.ofChange marksLyricsWrong)

/- THE SECOND FORM. 'bulk': how many values and letters a reading holds, each counted each time it is reached (what is shared counts as often as it is met; a slice's spare places count too). A statement '..UptoSaid' is the law's where the arguments, and the package variables that the reading takes, are together of bulk at most 1048576: NARROWER than '..Said'. Prove '..Said' where nothing that the law and all that it calls make is longer than what came in: it says more and counts as full. Else prove '..UptoSaid'. A law counts once. -/
mutual
def uptoBulk {H : Type} : DataW H → Nat
  | .lit (.string bytes) => bytes.length + 1
  | .lit _ => 1
  | .nil => 1
  | .ptr d => uptoBulk d + 1
  | .slice elems spare => uptoBulkAll elems + uptoBulkAll spare + 1
  | .agg parts => uptoBulkAll parts + 1
  | .iface _ d => uptoBulk d + 1
  | .map entries => uptoBulkEntries entries + 1
  | .held _ => 1
def uptoBulkAll {H : Type} : List (DataW H) → Nat
  | [] => 0
  | d :: r => uptoBulk d + uptoBulkAll r
def uptoBulkEntries {H : Type} : List (Lit × DataW H) → Nat
  | [] => 0
  | x :: r => uptoBulkEntry x + uptoBulkEntries r
def uptoBulkEntry {H : Type} : Lit × DataW H → Nat
  | (.string bytes, d) => bytes.length + uptoBulk d + 1
  | (_, d) => uptoBulk d + 1
 end
def uptoSmall : (H : Type) → List (DataW H) → Bool := fun _ ds => decide (uptoBulkAll ds ≤ 1048576)
def OpenSpec.upto (s : _root_.Go.ChangeSpec) : _root_.Go.OpenSpec := { _root_.Go.OpenSpec.ofChange s with cond := some uptoSmall }

/-- 'hemiolalaw29.MarksChecks', WHERE WHAT IT READS IS OF BULK AT MOST 1048576: true; the input reads as it did. -/
def marksChecksUptoRow : OpenClaim := { program := "ytgphmbipakdggaar", sum := "f50259121550063c1f540ec474b77aa9c123fc45158a261eebdf969059fcc075", func := "hemiola/hemiolalaw29.MarksChecks", spec := "marksChecks", apart := false, narrowed := true }
def MarksChecksUptoSaid : Prop := marksChecksUptoRow.holds Try.pinned (OpenSpec.upto marksChecksSpec)

/-- 'hemiolalaw29.MarksLines', WHERE WHAT IT READS IS OF BULK AT MOST 1048576: true; the input reads as it did. -/
def marksLinesUptoRow : OpenClaim := { program := "ytgphmbipakdggaar", sum := "f50259121550063c1f540ec474b77aa9c123fc45158a261eebdf969059fcc075", func := "hemiola/hemiolalaw29.MarksLines", spec := "marksLines", apart := false, narrowed := true }
def MarksLinesUptoSaid : Prop := marksLinesUptoRow.holds Try.pinned (OpenSpec.upto marksLinesSpec)

/-- 'hemiolalaw29.MarksClear', WHERE WHAT IT READS IS OF BULK AT MOST 1048576: true; the input reads as it did. -/
def marksClearUptoRow : OpenClaim := { program := "ytgphmbipakdggaar", sum := "f50259121550063c1f540ec474b77aa9c123fc45158a261eebdf969059fcc075", func := "hemiola/hemiolalaw29.MarksClear", spec := "marksClear", apart := false, narrowed := true }
def MarksClearUptoSaid : Prop := marksClearUptoRow.holds Try.pinned (OpenSpec.upto marksClearSpec)

/-- 'hemiolalaw29.MarksPlaces', WHERE WHAT IT READS IS OF BULK AT MOST 1048576: true; the input reads as it did. -/
def marksPlacesUptoRow : OpenClaim := { program := "ytgphmbipakdggaar", sum := "f50259121550063c1f540ec474b77aa9c123fc45158a261eebdf969059fcc075", func := "hemiola/hemiolalaw29.MarksPlaces", spec := "marksPlaces", apart := false, narrowed := true }
def MarksPlacesUptoSaid : Prop := marksPlacesUptoRow.holds Try.pinned (OpenSpec.upto marksPlacesSpec)

/-- 'hemiolalaw29.MarksExtents', WHERE WHAT IT READS IS OF BULK AT MOST 1048576: true; the input reads as it did. -/
def marksExtentsUptoRow : OpenClaim := { program := "ytgphmbipakdggaar", sum := "f50259121550063c1f540ec474b77aa9c123fc45158a261eebdf969059fcc075", func := "hemiola/hemiolalaw29.MarksExtents", spec := "marksExtents", apart := false, narrowed := true }
def MarksExtentsUptoSaid : Prop := marksExtentsUptoRow.holds Try.pinned (OpenSpec.upto marksExtentsSpec)

/-- 'hemiolalaw29.MarksTexts', WHERE WHAT IT READS IS OF BULK AT MOST 1048576: true; the input reads as it did. -/
def marksTextsUptoRow : OpenClaim := { program := "ytgphmbipakdggaar", sum := "f50259121550063c1f540ec474b77aa9c123fc45158a261eebdf969059fcc075", func := "hemiola/hemiolalaw29.MarksTexts", spec := "marksTexts", apart := false, narrowed := true }
def MarksTextsUptoSaid : Prop := marksTextsUptoRow.holds Try.pinned (OpenSpec.upto marksTextsSpec)

/-- 'hemiolalaw29.MarksNil', WHERE WHAT IT READS IS OF BULK AT MOST 1048576: true; the input reads as it did. -/
def marksNilUptoRow : OpenClaim := { program := "ytgphmbipakdggaar", sum := "f50259121550063c1f540ec474b77aa9c123fc45158a261eebdf969059fcc075", func := "hemiola/hemiolalaw29.MarksNil", spec := "marksNil", apart := false, narrowed := true }
def MarksNilUptoSaid : Prop := marksNilUptoRow.holds Try.pinned (OpenSpec.upto marksNilSpec)

/-- 'hemiolalaw29.MarksRows', WHERE WHAT IT READS IS OF BULK AT MOST 1048576: true; the input reads as it did. -/
def marksRowsUptoRow : OpenClaim := { program := "ytgphmbipakdggaar", sum := "f50259121550063c1f540ec474b77aa9c123fc45158a261eebdf969059fcc075", func := "hemiola/hemiolalaw29.MarksRows", spec := "marksRows", apart := false, narrowed := true }
def MarksRowsUptoSaid : Prop := marksRowsUptoRow.holds Try.pinned (OpenSpec.upto marksRowsSpec)

/-- 'hemiolalaw29.MarksOrders', WHERE WHAT IT READS IS OF BULK AT MOST 1048576: true; the input reads as it did. -/
def marksOrdersUptoRow : OpenClaim := { program := "ytgphmbipakdggaar", sum := "f50259121550063c1f540ec474b77aa9c123fc45158a261eebdf969059fcc075", func := "hemiola/hemiolalaw29.MarksOrders", spec := "marksOrders", unfollowed := true, recurses := true, apart := false, narrowed := true }
def MarksOrdersUptoSaid : Prop := marksOrdersUptoRow.holds Try.pinned (OpenSpec.upto marksOrdersSpec)

/-- 'hemiolalaw29.MarksLyrics', WHERE WHAT IT READS IS OF BULK AT MOST 1048576: true; the input reads as it did. -/
def marksLyricsUptoRow : OpenClaim := { program := "ytgphmbipakdggaar", sum := "f50259121550063c1f540ec474b77aa9c123fc45158a261eebdf969059fcc075", func := "hemiola/hemiolalaw29.MarksLyrics", spec := "marksLyrics", apart := false, narrowed := true }
def MarksLyricsUptoSaid : Prop := marksLyricsUptoRow.holds Try.pinned (OpenSpec.upto marksLyricsSpec)

end Rows
end Go.Proofs.YtgphmbipakdggaaR
