/-
  No cell of these rows narrows 'for every input' (looked for: loops, veiled, ifaces, maps, wideKeys, modest, calm, conditions, laid).
  DERIVED. THE GIVEN ROWS OF THIS SEAT. 10 by the template 'for every input the law returns true; each argument reads behind the call as it read before'; 0 by the template 'total and deterministic' (their statements: YtneadapfoaccmaaTotals.lean).
  GIVEN WITH THE SEED: the statements are not yours to turn. If you find one false, say at which input.
  Laid BY PROGRAM, IN A SANDBOX (cutbox-rows.mjs): the forced cells as the released guide's own fill.sh prints them over the translation 2dc95faf394b3505… (all of the seat's roots in one cut). By AI agents, Wed Nov 11 2026. No macro, syntax, notation, axiom, sorry.
-/
import Derived.Test.YtneadapfoaccmaaChecked
import GoSem.Claim
import GoSem.ClaimJoined
import GoSem.ClaimMapViews
import Derived.JoinedTies
import Derived.KernelRfl
namespace Go.Proofs.Ytneadapfoaccmaa
/- THE CELL 'sum', in the pinned program and in every row, IS THE sha256 OF THE DUMP (.gsa) THAT YtneadapfoaccmaaProg.lean LOADS. Nothing in Lean hashes anything: it is a label: what it is worth is what the hold of that sum in a sandbox is worth. -/
noncomputable def Try.pinned : Pinned := { name := "ytneadapfoaccmaa", sum := "2dc95faf394b3505c3a4ec94aa74c1d843ff07d386921b0f593bbe35e56cb8a6", checked := Try.checked }
namespace Rows
def none {H : Type} : Left H := { results := [], args := [] }

/-- 'hemiolalaw11.EventChecks': WHATEVER THE INPUT: true; the input reads as it did. -/
def eventChecksSpec : ChangeSpec := { name := "eventChecks", fn := fun _ => fun
  | [d] => { results := [.lit (.bool true)], args := [d] }
  | _ => none }
def eventChecksRow : OpenClaim := { program := "ytneadapfoaccmaa", sum := "2dc95faf394b3505c3a4ec94aa74c1d843ff07d386921b0f593bbe35e56cb8a6", func := "hemiola/hemiolalaw11.EventChecks", spec := "eventChecks", unfollowed := true, recurses := true, apart := false }
def EventChecksSaid : Prop := eventChecksRow.holds Try.pinned (OpenSpec.ofChange eventChecksSpec)

/-- ITS FALSE NEIGHBOUR: 'it returns false'. Refute it at one input. -/
def eventChecksWrong : ChangeSpec := { name := "eventChecks", fn := fun _ => fun
  | [d] => { results := [.lit (.bool false)], args := [d] }
  | _ => none }
def EventChecksWrongFalsely : Prop := eventChecksRow.holds Try.pinned (OpenSpec.ofChange eventChecksWrong)

/-- 'hemiolalaw11.EventParts': WHATEVER THE INPUT: true; the input reads as it did. -/
def eventPartsSpec : ChangeSpec := { name := "eventParts", fn := fun _ => fun
  | [d1, d2, d3] => { results := [.lit (.bool true)], args := [d1, d2, d3] }
  | _ => none }
def eventPartsRow : OpenClaim := { program := "ytneadapfoaccmaa", sum := "2dc95faf394b3505c3a4ec94aa74c1d843ff07d386921b0f593bbe35e56cb8a6", func := "hemiola/hemiolalaw11.EventParts", spec := "eventParts", unfollowed := true, recurses := true, apart := false }
def EventPartsSaid : Prop := eventPartsRow.holds Try.pinned (OpenSpec.ofChange eventPartsSpec)

/-- ITS FALSE NEIGHBOUR: 'it returns false'. Refute it at one input. -/
def eventPartsWrong : ChangeSpec := { name := "eventParts", fn := fun _ => fun
  | [d1, d2, d3] => { results := [.lit (.bool false)], args := [d1, d2, d3] }
  | _ => none }
def EventPartsWrongFalsely : Prop := eventPartsRow.holds Try.pinned (OpenSpec.ofChange eventPartsWrong)

/-- 'hemiolalaw11.EventCanonical': WHATEVER THE INPUT: true; the input reads as it did. -/
def eventCanonicalSpec : ChangeSpec := { name := "eventCanonical", fn := fun _ => fun
  | [d] => { results := [.lit (.bool true)], args := [d] }
  | _ => none }
def eventCanonicalRow : OpenClaim := { program := "ytneadapfoaccmaa", sum := "2dc95faf394b3505c3a4ec94aa74c1d843ff07d386921b0f593bbe35e56cb8a6", func := "hemiola/hemiolalaw11.EventCanonical", spec := "eventCanonical", unfollowed := true, recurses := true, apart := false }
def EventCanonicalSaid : Prop := eventCanonicalRow.holds Try.pinned (OpenSpec.ofChange eventCanonicalSpec)

/-- ITS FALSE NEIGHBOUR: 'it returns false'. Refute it at one input. -/
def eventCanonicalWrong : ChangeSpec := { name := "eventCanonical", fn := fun _ => fun
  | [d] => { results := [.lit (.bool false)], args := [d] }
  | _ => none }
def EventCanonicalWrongFalsely : Prop := eventCanonicalRow.holds Try.pinned (OpenSpec.ofChange eventCanonicalWrong)

/-- 'hemiolalaw11.EventRemoves': WHATEVER THE INPUT: true; the input reads as it did. -/
def eventRemovesSpec : ChangeSpec := { name := "eventRemoves", fn := fun _ => fun
  | [d1, d2] => { results := [.lit (.bool true)], args := [d1, d2] }
  | _ => none }
def eventRemovesRow : OpenClaim := { program := "ytneadapfoaccmaa", sum := "2dc95faf394b3505c3a4ec94aa74c1d843ff07d386921b0f593bbe35e56cb8a6", func := "hemiola/hemiolalaw11.EventRemoves", spec := "eventRemoves", unfollowed := true, recurses := true, apart := false }
def EventRemovesSaid : Prop := eventRemovesRow.holds Try.pinned (OpenSpec.ofChange eventRemovesSpec)

/-- ITS FALSE NEIGHBOUR: 'it returns false'. Refute it at one input. -/
def eventRemovesWrong : ChangeSpec := { name := "eventRemoves", fn := fun _ => fun
  | [d1, d2] => { results := [.lit (.bool false)], args := [d1, d2] }
  | _ => none }
def EventRemovesWrongFalsely : Prop := eventRemovesRow.holds Try.pinned (OpenSpec.ofChange eventRemovesWrong)

/-- 'hemiolalaw11.EventEquals': WHATEVER THE INPUT: true; the input reads as it did. -/
def eventEqualsSpec : ChangeSpec := { name := "eventEquals", fn := fun _ => fun
  | [d1, d2] => { results := [.lit (.bool true)], args := [d1, d2] }
  | _ => none }
def eventEqualsRow : OpenClaim := { program := "ytneadapfoaccmaa", sum := "2dc95faf394b3505c3a4ec94aa74c1d843ff07d386921b0f593bbe35e56cb8a6", func := "hemiola/hemiolalaw11.EventEquals", spec := "eventEquals", unfollowed := true, recurses := true, apart := false }
def EventEqualsSaid : Prop := eventEqualsRow.holds Try.pinned (OpenSpec.ofChange eventEqualsSpec)

/-- ITS FALSE NEIGHBOUR: 'it returns false'. Refute it at one input. -/
def eventEqualsWrong : ChangeSpec := { name := "eventEquals", fn := fun _ => fun
  | [d1, d2] => { results := [.lit (.bool false)], args := [d1, d2] }
  | _ => none }
def EventEqualsWrongFalsely : Prop := eventEqualsRow.holds Try.pinned (OpenSpec.ofChange eventEqualsWrong)

/-- 'hemiolalaw11.EventMakes': WHATEVER THE INPUT: true; the input reads as it did. -/
def eventMakesSpec : ChangeSpec := { name := "eventMakes", fn := fun _ => fun
  | [d1, d2, d3] => { results := [.lit (.bool true)], args := [d1, d2, d3] }
  | _ => none }
def eventMakesRow : OpenClaim := { program := "ytneadapfoaccmaa", sum := "2dc95faf394b3505c3a4ec94aa74c1d843ff07d386921b0f593bbe35e56cb8a6", func := "hemiola/hemiolalaw11.EventMakes", spec := "eventMakes", unfollowed := true, recurses := true, apart := false }
def EventMakesSaid : Prop := eventMakesRow.holds Try.pinned (OpenSpec.ofChange eventMakesSpec)

/-- ITS FALSE NEIGHBOUR: 'it returns false'. Refute it at one input. -/
def eventMakesWrong : ChangeSpec := { name := "eventMakes", fn := fun _ => fun
  | [d1, d2, d3] => { results := [.lit (.bool false)], args := [d1, d2, d3] }
  | _ => none }
def EventMakesWrongFalsely : Prop := eventMakesRow.holds Try.pinned (OpenSpec.ofChange eventMakesWrong)

/-- 'hemiolalaw11.EventFinds': WHATEVER THE INPUT: true; the input reads as it did. -/
def eventFindsSpec : ChangeSpec := { name := "eventFinds", fn := fun _ => fun
  | [d1, d2] => { results := [.lit (.bool true)], args := [d1, d2] }
  | _ => none }
def eventFindsRow : OpenClaim := { program := "ytneadapfoaccmaa", sum := "2dc95faf394b3505c3a4ec94aa74c1d843ff07d386921b0f593bbe35e56cb8a6", func := "hemiola/hemiolalaw11.EventFinds", spec := "eventFinds", unfollowed := true, recurses := true, apart := false }
def EventFindsSaid : Prop := eventFindsRow.holds Try.pinned (OpenSpec.ofChange eventFindsSpec)

/-- ITS FALSE NEIGHBOUR: 'it returns false'. Refute it at one input. -/
def eventFindsWrong : ChangeSpec := { name := "eventFinds", fn := fun _ => fun
  | [d1, d2] => { results := [.lit (.bool false)], args := [d1, d2] }
  | _ => none }
def EventFindsWrongFalsely : Prop := eventFindsRow.holds Try.pinned (OpenSpec.ofChange eventFindsWrong)

/-- 'hemiolalaw11.EventWritten': WHATEVER THE INPUT: true; the input reads as it did. -/
def eventWrittenSpec : ChangeSpec := { name := "eventWritten", fn := fun _ => fun
  | [d] => { results := [.lit (.bool true)], args := [d] }
  | _ => none }
def eventWrittenRow : OpenClaim := { program := "ytneadapfoaccmaa", sum := "2dc95faf394b3505c3a4ec94aa74c1d843ff07d386921b0f593bbe35e56cb8a6", func := "hemiola/hemiolalaw11.EventWritten", spec := "eventWritten", unfollowed := true, recurses := true, apart := false }
def EventWrittenSaid : Prop := eventWrittenRow.holds Try.pinned (OpenSpec.ofChange eventWrittenSpec)

/-- ITS FALSE NEIGHBOUR: 'it returns false'. Refute it at one input. -/
def eventWrittenWrong : ChangeSpec := { name := "eventWritten", fn := fun _ => fun
  | [d] => { results := [.lit (.bool false)], args := [d] }
  | _ => none }
def EventWrittenWrongFalsely : Prop := eventWrittenRow.holds Try.pinned (OpenSpec.ofChange eventWrittenWrong)

/-- 'hemiolalaw11.EventTies': WHATEVER THE INPUT: true; the input reads as it did. -/
def eventTiesSpec : ChangeSpec := { name := "eventTies", fn := fun _ => fun
  | [d1, d2] => { results := [.lit (.bool true)], args := [d1, d2] }
  | _ => none }
def eventTiesRow : OpenClaim := { program := "ytneadapfoaccmaa", sum := "2dc95faf394b3505c3a4ec94aa74c1d843ff07d386921b0f593bbe35e56cb8a6", func := "hemiola/hemiolalaw11.EventTies", spec := "eventTies", unfollowed := true, recurses := true, apart := false }
def EventTiesSaid : Prop := eventTiesRow.holds Try.pinned (OpenSpec.ofChange eventTiesSpec)

/-- ITS FALSE NEIGHBOUR: 'it returns false'. Refute it at one input. -/
def eventTiesWrong : ChangeSpec := { name := "eventTies", fn := fun _ => fun
  | [d1, d2] => { results := [.lit (.bool false)], args := [d1, d2] }
  | _ => none }
def EventTiesWrongFalsely : Prop := eventTiesRow.holds Try.pinned (OpenSpec.ofChange eventTiesWrong)

/-- 'hemiolalaw11.EventAdds': WHATEVER THE INPUT: true; the input reads as it did. -/
def eventAddsSpec : ChangeSpec := { name := "eventAdds", fn := fun _ => fun
  | [d1, d2] => { results := [.lit (.bool true)], args := [d1, d2] }
  | _ => none }
def eventAddsRow : OpenClaim := { program := "ytneadapfoaccmaa", sum := "2dc95faf394b3505c3a4ec94aa74c1d843ff07d386921b0f593bbe35e56cb8a6", func := "hemiola/hemiolalaw11.EventAdds", spec := "eventAdds", unfollowed := true, recurses := true, apart := false }
def EventAddsSaid : Prop := eventAddsRow.holds Try.pinned (OpenSpec.ofChange eventAddsSpec)

/-- ITS FALSE NEIGHBOUR: 'it returns false'. Refute it at one input. -/
def eventAddsWrong : ChangeSpec := { name := "eventAdds", fn := fun _ => fun
  | [d1, d2] => { results := [.lit (.bool false)], args := [d1, d2] }
  | _ => none }
def EventAddsWrongFalsely : Prop := eventAddsRow.holds Try.pinned (OpenSpec.ofChange eventAddsWrong)

/- THE SECOND FORM. 'bulk': how many values and letters a reading holds, each counted each time it is reached (what is shared counts as often as it is met; a slice's spare places count too). A statement '..UptoSaid' is the law's where the arguments, and the package variables that the reading takes, are together of bulk at most 1048576: NARROWER than '..Said'. Prove '..Said' where nothing that the law and all that it calls make is longer than what came in: it says more and counts as full. Else prove '..UptoSaid'. A law counts once. -/
mutual
def uptoBulk {H : Type} : DataW H → Nat
  | .lit (.string bytes) => bytes.length + 1
  | .lit _ => 1
  | .nil => 1
  | .ptr d => uptoBulk d + 1
  | .slice elems spare => uptoBulkAll elems + uptoBulkAll spare + 1
  | .agg parts => uptoBulkAll parts + 1
  | .iface _ d => uptoBulk d + 1
  | .map entries => uptoBulkEntries entries + 1
  | .held _ => 1
def uptoBulkAll {H : Type} : List (DataW H) → Nat
  | [] => 0
  | d :: r => uptoBulk d + uptoBulkAll r
def uptoBulkEntries {H : Type} : List (Lit × DataW H) → Nat
  | [] => 0
  | x :: r => uptoBulkEntry x + uptoBulkEntries r
def uptoBulkEntry {H : Type} : Lit × DataW H → Nat
  | (.string bytes, d) => bytes.length + uptoBulk d + 1
  | (_, d) => uptoBulk d + 1
 end
def uptoSmall : (H : Type) → List (DataW H) → Bool := fun _ ds => decide (uptoBulkAll ds ≤ 1048576)
def OpenSpec.upto (s : _root_.Go.ChangeSpec) : _root_.Go.OpenSpec := { _root_.Go.OpenSpec.ofChange s with cond := some uptoSmall }

/-- 'hemiolalaw11.EventChecks', WHERE WHAT IT READS IS OF BULK AT MOST 1048576: true; the input reads as it did. -/
def eventChecksUptoRow : OpenClaim := { program := "ytneadapfoaccmaa", sum := "2dc95faf394b3505c3a4ec94aa74c1d843ff07d386921b0f593bbe35e56cb8a6", func := "hemiola/hemiolalaw11.EventChecks", spec := "eventChecks", unfollowed := true, recurses := true, apart := false, narrowed := true }
def EventChecksUptoSaid : Prop := eventChecksUptoRow.holds Try.pinned (OpenSpec.upto eventChecksSpec)

/-- 'hemiolalaw11.EventParts', WHERE WHAT IT READS IS OF BULK AT MOST 1048576: true; the input reads as it did. -/
def eventPartsUptoRow : OpenClaim := { program := "ytneadapfoaccmaa", sum := "2dc95faf394b3505c3a4ec94aa74c1d843ff07d386921b0f593bbe35e56cb8a6", func := "hemiola/hemiolalaw11.EventParts", spec := "eventParts", unfollowed := true, recurses := true, apart := false, narrowed := true }
def EventPartsUptoSaid : Prop := eventPartsUptoRow.holds Try.pinned (OpenSpec.upto eventPartsSpec)

/-- 'hemiolalaw11.EventCanonical', WHERE WHAT IT READS IS OF BULK AT MOST 1048576: true; the input reads as it did. -/
def eventCanonicalUptoRow : OpenClaim := { program := "ytneadapfoaccmaa", sum := "2dc95faf394b3505c3a4ec94aa74c1d843ff07d386921b0f593bbe35e56cb8a6", func := "hemiola/hemiolalaw11.EventCanonical", spec := "eventCanonical", unfollowed := true, recurses := true, apart := false, narrowed := true }
def EventCanonicalUptoSaid : Prop := eventCanonicalUptoRow.holds Try.pinned (OpenSpec.upto eventCanonicalSpec)

/-- 'hemiolalaw11.EventRemoves', WHERE WHAT IT READS IS OF BULK AT MOST 1048576: true; the input reads as it did. -/
def eventRemovesUptoRow : OpenClaim := { program := "ytneadapfoaccmaa", sum := "2dc95faf394b3505c3a4ec94aa74c1d843ff07d386921b0f593bbe35e56cb8a6", func := "hemiola/hemiolalaw11.EventRemoves", spec := "eventRemoves", unfollowed := true, recurses := true, apart := false, narrowed := true }
def EventRemovesUptoSaid : Prop := eventRemovesUptoRow.holds Try.pinned (OpenSpec.upto eventRemovesSpec)

/-- 'hemiolalaw11.EventEquals', WHERE WHAT IT READS IS OF BULK AT MOST 1048576: true; the input reads as it did. -/
def eventEqualsUptoRow : OpenClaim := { program := "ytneadapfoaccmaa", sum := "2dc95faf394b3505c3a4ec94aa74c1d843ff07d386921b0f593bbe35e56cb8a6", func := "hemiola/hemiolalaw11.EventEquals", spec := "eventEquals", unfollowed := true, recurses := true, apart := false, narrowed := true }
def EventEqualsUptoSaid : Prop := eventEqualsUptoRow.holds Try.pinned (OpenSpec.upto eventEqualsSpec)

/-- 'hemiolalaw11.EventMakes', WHERE WHAT IT READS IS OF BULK AT MOST 1048576: true; the input reads as it did. -/
def eventMakesUptoRow : OpenClaim := { program := "ytneadapfoaccmaa", sum := "2dc95faf394b3505c3a4ec94aa74c1d843ff07d386921b0f593bbe35e56cb8a6", func := "hemiola/hemiolalaw11.EventMakes", spec := "eventMakes", unfollowed := true, recurses := true, apart := false, narrowed := true }
def EventMakesUptoSaid : Prop := eventMakesUptoRow.holds Try.pinned (OpenSpec.upto eventMakesSpec)

/-- 'hemiolalaw11.EventFinds', WHERE WHAT IT READS IS OF BULK AT MOST 1048576: true; the input reads as it did. -/
def eventFindsUptoRow : OpenClaim := { program := "ytneadapfoaccmaa", sum := "2dc95faf394b3505c3a4ec94aa74c1d843ff07d386921b0f593bbe35e56cb8a6", func := "hemiola/hemiolalaw11.EventFinds", spec := "eventFinds", unfollowed := true, recurses := true, apart := false, narrowed := true }
def EventFindsUptoSaid : Prop := eventFindsUptoRow.holds Try.pinned (OpenSpec.upto eventFindsSpec)

/-- 'hemiolalaw11.EventWritten', WHERE WHAT IT READS IS OF BULK AT MOST 1048576: true; the input reads as it did. -/
def eventWrittenUptoRow : OpenClaim := { program := "ytneadapfoaccmaa", sum := "2dc95faf394b3505c3a4ec94aa74c1d843ff07d386921b0f593bbe35e56cb8a6", func := "hemiola/hemiolalaw11.EventWritten", spec := "eventWritten", unfollowed := true, recurses := true, apart := false, narrowed := true }
def EventWrittenUptoSaid : Prop := eventWrittenUptoRow.holds Try.pinned (OpenSpec.upto eventWrittenSpec)

/-- 'hemiolalaw11.EventTies', WHERE WHAT IT READS IS OF BULK AT MOST 1048576: true; the input reads as it did. -/
def eventTiesUptoRow : OpenClaim := { program := "ytneadapfoaccmaa", sum := "2dc95faf394b3505c3a4ec94aa74c1d843ff07d386921b0f593bbe35e56cb8a6", func := "hemiola/hemiolalaw11.EventTies", spec := "eventTies", unfollowed := true, recurses := true, apart := false, narrowed := true }
def EventTiesUptoSaid : Prop := eventTiesUptoRow.holds Try.pinned (OpenSpec.upto eventTiesSpec)

/-- 'hemiolalaw11.EventAdds', WHERE WHAT IT READS IS OF BULK AT MOST 1048576: true; the input reads as it did. -/
def eventAddsUptoRow : OpenClaim := { program := "ytneadapfoaccmaa", sum := "2dc95faf394b3505c3a4ec94aa74c1d843ff07d386921b0f593bbe35e56cb8a6", func := "hemiola/hemiolalaw11.EventAdds", spec := "eventAdds", unfollowed := true, recurses := true, apart := false, narrowed := true }
def EventAddsUptoSaid : Prop := eventAddsUptoRow.holds Try.pinned (OpenSpec.upto eventAddsSpec)

end Rows
end Go.Proofs.Ytneadapfoaccmaa
