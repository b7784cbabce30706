/-
  No cell of these rows narrows 'for every input' (looked for: loops, veiled, ifaces, maps, wideKeys, modest, calm, conditions, laid).
  DERIVED. THE GIVEN ROWS OF THIS SEAT. 9 by the template 'for every input the law returns true; each argument reads behind the call as it read before'; 0 by the template 'total and deterministic' (their statements: YtomhegnaojejnaaTotals.lean).
  GIVEN WITH THE SEED: the statements are not yours to turn. If you find one false, say at which input.
  Laid BY PROGRAM, IN A SANDBOX (cutbox-rows.mjs): the forced cells as the released guide's own fill.sh prints them over the translation 49e8bb0724032910… (all of the seat's roots in one cut). By AI agents, Wed Nov 11 2026. No macro, syntax, notation, axiom, sorry.
-/
import Derived.Test.YtomhegnaojejnaaChecked
import GoSem.Claim
import GoSem.ClaimJoined
import GoSem.ClaimMapViews
import Derived.JoinedTies
import Derived.KernelRfl
namespace Go.Proofs.Ytomhegnaojejnaa
/- THE CELL 'sum', in the pinned program and in every row, IS THE sha256 OF THE DUMP (.gsa) THAT YtomhegnaojejnaaProg.lean LOADS. Nothing in Lean hashes anything: it is a label: what it is worth is what the hold of that sum in a sandbox is worth. -/
noncomputable def Try.pinned : Pinned := { name := "ytomhegnaojejnaa", sum := "49e8bb0724032910c0a33f1fe97a399a47920b9bdb8cb961d097611d01dd793f", checked := Try.checked }
namespace Rows
def none {H : Type} : Left H := { results := [], args := [] }

/-- 'hemiolalaw28.SlurChecks': WHATEVER THE INPUT: true; the input reads as it did. -/
def slurChecksSpec : ChangeSpec := { name := "slurChecks", fn := fun _ => fun
  | [d1, d2] => { results := [.lit (.bool true)], args := [d1, d2] }
  | _ => none }
def slurChecksRow : OpenClaim := { program := "ytomhegnaojejnaa", sum := "49e8bb0724032910c0a33f1fe97a399a47920b9bdb8cb961d097611d01dd793f", func := "hemiola/hemiolalaw28.SlurChecks", spec := "slurChecks", unfollowed := true, recurses := true, apart := false }
def SlurChecksSaid : Prop := slurChecksRow.holds Try.pinned (OpenSpec.ofChange slurChecksSpec)

/-- ITS FALSE NEIGHBOUR: 'it returns false'. Refute it at one input. -/
def slurChecksWrong : ChangeSpec := { name := "slurChecks", fn := fun _ => fun
  | [d1, d2] => { results := [.lit (.bool false)], args := [d1, d2] }
  | _ => none }
def SlurChecksWrongFalsely : Prop := slurChecksRow.holds Try.pinned (OpenSpec.ofChange slurChecksWrong)

/-- 'hemiolalaw28.SlurOrders': WHATEVER THE INPUT: true; the input reads as it did. -/
def slurOrdersSpec : ChangeSpec := { name := "slurOrders", fn := fun _ => fun
  | [d1, d2, d3] => { results := [.lit (.bool true)], args := [d1, d2, d3] }
  | _ => none }
def slurOrdersRow : OpenClaim := { program := "ytomhegnaojejnaa", sum := "49e8bb0724032910c0a33f1fe97a399a47920b9bdb8cb961d097611d01dd793f", func := "hemiola/hemiolalaw28.SlurOrders", spec := "slurOrders", unfollowed := true, recurses := true, apart := false }
def SlurOrdersSaid : Prop := slurOrdersRow.holds Try.pinned (OpenSpec.ofChange slurOrdersSpec)

/-- ITS FALSE NEIGHBOUR: 'it returns false'. Refute it at one input. -/
def slurOrdersWrong : ChangeSpec := { name := "slurOrders", fn := fun _ => fun
  | [d1, d2, d3] => { results := [.lit (.bool false)], args := [d1, d2, d3] }
  | _ => none }
def SlurOrdersWrongFalsely : Prop := slurOrdersRow.holds Try.pinned (OpenSpec.ofChange slurOrdersWrong)

/-- 'hemiolalaw28.SlurNests': WHATEVER THE INPUT: true; the input reads as it did. -/
def slurNestsSpec : ChangeSpec := { name := "slurNests", fn := fun _ => fun
  | [d1, d2] => { results := [.lit (.bool true)], args := [d1, d2] }
  | _ => none }
def slurNestsRow : OpenClaim := { program := "ytomhegnaojejnaa", sum := "49e8bb0724032910c0a33f1fe97a399a47920b9bdb8cb961d097611d01dd793f", func := "hemiola/hemiolalaw28.SlurNests", spec := "slurNests", unfollowed := true, recurses := true, apart := false }
def SlurNestsSaid : Prop := slurNestsRow.holds Try.pinned (OpenSpec.ofChange slurNestsSpec)

/-- ITS FALSE NEIGHBOUR: 'it returns false'. Refute it at one input. -/
def slurNestsWrong : ChangeSpec := { name := "slurNests", fn := fun _ => fun
  | [d1, d2] => { results := [.lit (.bool false)], args := [d1, d2] }
  | _ => none }
def SlurNestsWrongFalsely : Prop := slurNestsRow.holds Try.pinned (OpenSpec.ofChange slurNestsWrong)

/-- 'hemiolalaw28.SlurErrors': WHATEVER THE INPUT: true; the input reads as it did. -/
def slurErrorsSpec : ChangeSpec := { name := "slurErrors", fn := fun _ => fun
  | [d1, d2] => { results := [.lit (.bool true)], args := [d1, d2] }
  | _ => none }
def slurErrorsRow : OpenClaim := { program := "ytomhegnaojejnaa", sum := "49e8bb0724032910c0a33f1fe97a399a47920b9bdb8cb961d097611d01dd793f", func := "hemiola/hemiolalaw28.SlurErrors", spec := "slurErrors", unfollowed := true, recurses := true, apart := false }
def SlurErrorsSaid : Prop := slurErrorsRow.holds Try.pinned (OpenSpec.ofChange slurErrorsSpec)

/-- ITS FALSE NEIGHBOUR: 'it returns false'. Refute it at one input. -/
def slurErrorsWrong : ChangeSpec := { name := "slurErrors", fn := fun _ => fun
  | [d1, d2] => { results := [.lit (.bool false)], args := [d1, d2] }
  | _ => none }
def SlurErrorsWrongFalsely : Prop := slurErrorsRow.holds Try.pinned (OpenSpec.ofChange slurErrorsWrong)

/-- 'hemiolalaw28.SlurPlaces': WHATEVER THE INPUT: true; the input reads as it did. -/
def slurPlacesSpec : ChangeSpec := { name := "slurPlaces", fn := fun _ => fun
  | [d1, d2] => { results := [.lit (.bool true)], args := [d1, d2] }
  | _ => none }
def slurPlacesRow : OpenClaim := { program := "ytomhegnaojejnaa", sum := "49e8bb0724032910c0a33f1fe97a399a47920b9bdb8cb961d097611d01dd793f", func := "hemiola/hemiolalaw28.SlurPlaces", spec := "slurPlaces", unfollowed := true, recurses := true, apart := false }
def SlurPlacesSaid : Prop := slurPlacesRow.holds Try.pinned (OpenSpec.ofChange slurPlacesSpec)

/-- ITS FALSE NEIGHBOUR: 'it returns false'. Refute it at one input. -/
def slurPlacesWrong : ChangeSpec := { name := "slurPlaces", fn := fun _ => fun
  | [d1, d2] => { results := [.lit (.bool false)], args := [d1, d2] }
  | _ => none }
def SlurPlacesWrongFalsely : Prop := slurPlacesRow.holds Try.pinned (OpenSpec.ofChange slurPlacesWrong)

/-- 'hemiolalaw28.SlurClears': WHATEVER THE INPUT: true; the input reads as it did. -/
def slurClearsSpec : ChangeSpec := { name := "slurClears", fn := fun _ => fun
  | [d1, d2] => { results := [.lit (.bool true)], args := [d1, d2] }
  | _ => none }
def slurClearsRow : OpenClaim := { program := "ytomhegnaojejnaa", sum := "49e8bb0724032910c0a33f1fe97a399a47920b9bdb8cb961d097611d01dd793f", func := "hemiola/hemiolalaw28.SlurClears", spec := "slurClears", unfollowed := true, recurses := true, apart := false }
def SlurClearsSaid : Prop := slurClearsRow.holds Try.pinned (OpenSpec.ofChange slurClearsSpec)

/-- ITS FALSE NEIGHBOUR: 'it returns false'. Refute it at one input. -/
def slurClearsWrong : ChangeSpec := { name := "slurClears", fn := fun _ => fun
  | [d1, d2] => { results := [.lit (.bool false)], args := [d1, d2] }
  | _ => none }
def SlurClearsWrongFalsely : Prop := slurClearsRow.holds Try.pinned (OpenSpec.ofChange slurClearsWrong)

/-- 'hemiolalaw28.SlurSides': WHATEVER THE INPUT: true; the input reads as it did. -/
def slurSidesSpec : ChangeSpec := { name := "slurSides", fn := fun _ => fun
  | [d1, d2, d3] => { results := [.lit (.bool true)], args := [d1, d2, d3] }
  | _ => none }
def slurSidesRow : OpenClaim := { program := "ytomhegnaojejnaa", sum := "49e8bb0724032910c0a33f1fe97a399a47920b9bdb8cb961d097611d01dd793f", func := "hemiola/hemiolalaw28.SlurSides", spec := "slurSides", unfollowed := true, recurses := true, apart := false }
def SlurSidesSaid : Prop := slurSidesRow.holds Try.pinned (OpenSpec.ofChange slurSidesSpec)

/-- ITS FALSE NEIGHBOUR: 'it returns false'. Refute it at one input. -/
def slurSidesWrong : ChangeSpec := { name := "slurSides", fn := fun _ => fun
  | [d1, d2, d3] => { results := [.lit (.bool false)], args := [d1, d2, d3] }
  | _ => none }
def SlurSidesWrongFalsely : Prop := slurSidesRow.holds Try.pinned (OpenSpec.ofChange slurSidesWrong)

/-- 'hemiolalaw28.SlurSamples': WHATEVER THE INPUT: true; the input reads as it did. -/
def slurSamplesSpec : ChangeSpec := { name := "slurSamples", fn := fun _ => fun
  | [d1, d2] => { results := [.lit (.bool true)], args := [d1, d2] }
  | _ => none }
def slurSamplesRow : OpenClaim := { program := "ytomhegnaojejnaa", sum := "49e8bb0724032910c0a33f1fe97a399a47920b9bdb8cb961d097611d01dd793f", func := "hemiola/hemiolalaw28.SlurSamples", spec := "slurSamples", unfollowed := true, recurses := true, apart := false }
def SlurSamplesSaid : Prop := slurSamplesRow.holds Try.pinned (OpenSpec.ofChange slurSamplesSpec)

/-- ITS FALSE NEIGHBOUR: 'it returns false'. Refute it at one input. -/
def slurSamplesWrong : ChangeSpec := { name := "slurSamples", fn := fun _ => fun
  | [d1, d2] => { results := [.lit (.bool false)], args := [d1, d2] }
  | _ => none }
def SlurSamplesWrongFalsely : Prop := slurSamplesRow.holds Try.pinned (OpenSpec.ofChange slurSamplesWrong)

/-- 'hemiolalaw28.SlurWithin': WHATEVER THE INPUT: true; the input reads as it did. -/
def slurWithinSpec : ChangeSpec := { name := "slurWithin", fn := fun _ => fun
  | [d1, d2, d3] => { results := [.lit (.bool true)], args := [d1, d2, d3] }
  | _ => none }
def slurWithinRow : OpenClaim := { program := "ytomhegnaojejnaa", sum := "49e8bb0724032910c0a33f1fe97a399a47920b9bdb8cb961d097611d01dd793f", func := "hemiola/hemiolalaw28.SlurWithin", spec := "slurWithin", unfollowed := true, recurses := true, apart := false }
def SlurWithinSaid : Prop := slurWithinRow.holds Try.pinned (OpenSpec.ofChange slurWithinSpec)

/-- ITS FALSE NEIGHBOUR: 'it returns false'. Refute it at one input. -/
def slurWithinWrong : ChangeSpec := { name := "slurWithin", fn := fun _ => fun
  | [d1, d2, d3] => { results := [.lit (.bool false)], args := [d1, d2, d3] }
  | _ => none }
def SlurWithinWrongFalsely : Prop := slurWithinRow.holds Try.pinned (OpenSpec.ofChange slurWithinWrong)

/- THE SECOND FORM. 'bulk': how many values and letters a reading holds, each counted each time it is reached (what is shared counts as often as it is met; a slice's spare places count too). A statement '..UptoSaid' is the law's where the arguments, and the package variables that the reading takes, are together of bulk at most 1048576: NARROWER than '..Said'. Prove '..Said' where nothing that the law and all that it calls make is longer than what came in: it says more and counts as full. Else prove '..UptoSaid'. A law counts once. -/
mutual
def uptoBulk {H : Type} : DataW H → Nat
  | .lit (.string bytes) => bytes.length + 1
  | .lit _ => 1
  | .nil => 1
  | .ptr d => uptoBulk d + 1
  | .slice elems spare => uptoBulkAll elems + uptoBulkAll spare + 1
  | .agg parts => uptoBulkAll parts + 1
  | .iface _ d => uptoBulk d + 1
  | .map entries => uptoBulkEntries entries + 1
  | .held _ => 1
def uptoBulkAll {H : Type} : List (DataW H) → Nat
  | [] => 0
  | d :: r => uptoBulk d + uptoBulkAll r
def uptoBulkEntries {H : Type} : List (Lit × DataW H) → Nat
  | [] => 0
  | x :: r => uptoBulkEntry x + uptoBulkEntries r
def uptoBulkEntry {H : Type} : Lit × DataW H → Nat
  | (.string bytes, d) => bytes.length + uptoBulk d + 1
  | (_, d) => uptoBulk d + 1
 end
def uptoSmall : (H : Type) → List (DataW H) → Bool := fun _ ds => decide (uptoBulkAll ds ≤ 1048576)
def OpenSpec.upto (s : _root_.Go.ChangeSpec) : _root_.Go.OpenSpec := { _root_.Go.OpenSpec.ofChange s with cond := some uptoSmall }

/-- 'hemiolalaw28.SlurChecks', WHERE WHAT IT READS IS OF BULK AT MOST 1048576: true; the input reads as it did. -/
def slurChecksUptoRow : OpenClaim := { program := "ytomhegnaojejnaa", sum := "49e8bb0724032910c0a33f1fe97a399a47920b9bdb8cb961d097611d01dd793f", func := "hemiola/hemiolalaw28.SlurChecks", spec := "slurChecks", unfollowed := true, recurses := true, apart := false, narrowed := true }
def SlurChecksUptoSaid : Prop := slurChecksUptoRow.holds Try.pinned (OpenSpec.upto slurChecksSpec)

/-- 'hemiolalaw28.SlurOrders', WHERE WHAT IT READS IS OF BULK AT MOST 1048576: true; the input reads as it did. -/
def slurOrdersUptoRow : OpenClaim := { program := "ytomhegnaojejnaa", sum := "49e8bb0724032910c0a33f1fe97a399a47920b9bdb8cb961d097611d01dd793f", func := "hemiola/hemiolalaw28.SlurOrders", spec := "slurOrders", unfollowed := true, recurses := true, apart := false, narrowed := true }
def SlurOrdersUptoSaid : Prop := slurOrdersUptoRow.holds Try.pinned (OpenSpec.upto slurOrdersSpec)

/-- 'hemiolalaw28.SlurNests', WHERE WHAT IT READS IS OF BULK AT MOST 1048576: true; the input reads as it did. -/
def slurNestsUptoRow : OpenClaim := { program := "ytomhegnaojejnaa", sum := "49e8bb0724032910c0a33f1fe97a399a47920b9bdb8cb961d097611d01dd793f", func := "hemiola/hemiolalaw28.SlurNests", spec := "slurNests", unfollowed := true, recurses := true, apart := false, narrowed := true }
def SlurNestsUptoSaid : Prop := slurNestsUptoRow.holds Try.pinned (OpenSpec.upto slurNestsSpec)

/-- 'hemiolalaw28.SlurErrors', WHERE WHAT IT READS IS OF BULK AT MOST 1048576: true; the input reads as it did. -/
def slurErrorsUptoRow : OpenClaim := { program := "ytomhegnaojejnaa", sum := "49e8bb0724032910c0a33f1fe97a399a47920b9bdb8cb961d097611d01dd793f", func := "hemiola/hemiolalaw28.SlurErrors", spec := "slurErrors", unfollowed := true, recurses := true, apart := false, narrowed := true }
def SlurErrorsUptoSaid : Prop := slurErrorsUptoRow.holds Try.pinned (OpenSpec.upto slurErrorsSpec)

/-- 'hemiolalaw28.SlurPlaces', WHERE WHAT IT READS IS OF BULK AT MOST 1048576: true; the input reads as it did. -/
def slurPlacesUptoRow : OpenClaim := { program := "ytomhegnaojejnaa", sum := "49e8bb0724032910c0a33f1fe97a399a47920b9bdb8cb961d097611d01dd793f", func := "hemiola/hemiolalaw28.SlurPlaces", spec := "slurPlaces", unfollowed := true, recurses := true, apart := false, narrowed := true }
def SlurPlacesUptoSaid : Prop := slurPlacesUptoRow.holds Try.pinned (OpenSpec.upto slurPlacesSpec)

/-- 'hemiolalaw28.SlurClears', WHERE WHAT IT READS IS OF BULK AT MOST 1048576: true; the input reads as it did. -/
def slurClearsUptoRow : OpenClaim := { program := "ytomhegnaojejnaa", sum := "49e8bb0724032910c0a33f1fe97a399a47920b9bdb8cb961d097611d01dd793f", func := "hemiola/hemiolalaw28.SlurClears", spec := "slurClears", unfollowed := true, recurses := true, apart := false, narrowed := true }
def SlurClearsUptoSaid : Prop := slurClearsUptoRow.holds Try.pinned (OpenSpec.upto slurClearsSpec)

/-- 'hemiolalaw28.SlurSides', WHERE WHAT IT READS IS OF BULK AT MOST 1048576: true; the input reads as it did. -/
def slurSidesUptoRow : OpenClaim := { program := "ytomhegnaojejnaa", sum := "49e8bb0724032910c0a33f1fe97a399a47920b9bdb8cb961d097611d01dd793f", func := "hemiola/hemiolalaw28.SlurSides", spec := "slurSides", unfollowed := true, recurses := true, apart := false, narrowed := true }
def SlurSidesUptoSaid : Prop := slurSidesUptoRow.holds Try.pinned (OpenSpec.upto slurSidesSpec)

/-- 'hemiolalaw28.SlurSamples', WHERE WHAT IT READS IS OF BULK AT MOST 1048576: true; the input reads as it did. -/
def slurSamplesUptoRow : OpenClaim := { program := "ytomhegnaojejnaa", sum := "49e8bb0724032910c0a33f1fe97a399a47920b9bdb8cb961d097611d01dd793f", func := "hemiola/hemiolalaw28.SlurSamples", spec := "slurSamples", unfollowed := true, recurses := true, apart := false, narrowed := true }
def SlurSamplesUptoSaid : Prop := slurSamplesUptoRow.holds Try.pinned (OpenSpec.upto slurSamplesSpec)

/-- 'hemiolalaw28.SlurWithin', WHERE WHAT IT READS IS OF BULK AT MOST 1048576: true; the input reads as it did. -/
def slurWithinUptoRow : OpenClaim := { program := "ytomhegnaojejnaa", sum := "49e8bb0724032910c0a33f1fe97a399a47920b9bdb8cb961d097611d01dd793f", func := "hemiola/hemiolalaw28.SlurWithin", spec := "slurWithin", unfollowed := true, recurses := true, apart := false, narrowed := true }
def SlurWithinUptoSaid : Prop := slurWithinUptoRow.holds Try.pinned (OpenSpec.upto slurWithinSpec)

end Rows
end Go.Proofs.Ytomhegnaojejnaa
