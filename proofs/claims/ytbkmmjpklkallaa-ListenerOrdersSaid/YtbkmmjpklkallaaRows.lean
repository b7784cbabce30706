/-
  No cell of these rows narrows 'for every input' (looked for: loops, veiled, ifaces, maps, wideKeys, modest, calm, conditions, laid).
  DERIVED. THE GIVEN ROWS OF THIS SEAT. 9 by the template 'for every input the law returns true; each argument reads behind the call as it read before'; 0 by the template 'total and deterministic' (their statements: YtbkmmjpklkallaaTotals.lean).
  GIVEN WITH THE SEED: the statements are not yours to turn. If you find one false, say at which input.
  Laid BY PROGRAM, IN A SANDBOX (cutbox-rows.mjs): the forced cells as the released guide's own fill.sh prints them over the translation cea331a8db8b545d… (all of the seat's roots in one cut). By AI agents, Wed Nov 11 2026. No macro, syntax, notation, axiom, sorry.
-/
import Derived.Test.YtbkmmjpklkallaaChecked
import GoSem.Claim
import GoSem.ClaimJoined
import GoSem.ClaimMapViews
import Derived.JoinedTies
import Derived.KernelRfl
namespace Go.Proofs.Ytbkmmjpklkallaa
/- THE CELL 'sum', in the pinned program and in every row, IS THE sha256 OF THE DUMP (.gsa) THAT YtbkmmjpklkallaaProg.lean LOADS. Nothing in Lean hashes anything: it is a label: what it is worth is what the hold of that sum in a sandbox is worth. -/
noncomputable def Try.pinned : Pinned := { name := "ytbkmmjpklkallaa", sum := "cea331a8db8b545d6382d0a506dc137241f0669907bfe214161e68ec0063f072", checked := Try.checked }
namespace Rows
def none {H : Type} : Left H := { results := [], args := [] }

/-- 'hemiolalaw47.ListenerAligns': WHATEVER THE INPUT: true; the input reads as it did. -/
def listenerAlignsSpec : ChangeSpec := { name := "listenerAligns", fn := fun _ => fun
  | [d1, d2] => { results := [.lit (.bool true)], args := [d1, d2] }
  | _ => none }
def listenerAlignsRow : OpenClaim := { program := "ytbkmmjpklkallaa", sum := "cea331a8db8b545d6382d0a506dc137241f0669907bfe214161e68ec0063f072", func := "hemiola/hemiolalaw47.ListenerAligns", spec := "listenerAligns", apart := false }
def ListenerAlignsSaid : Prop := listenerAlignsRow.holds Try.pinned (OpenSpec.ofChange listenerAlignsSpec)

/-- ITS FALSE NEIGHBOUR: 'it returns false'. Refute it at one input. -/
def listenerAlignsWrong : ChangeSpec := { name := "listenerAligns", fn := fun _ => fun
  | [d1, d2] => { results := [.lit (.bool false)], args := [d1, d2] }
  | _ => none }
def ListenerAlignsWrongFalsely : Prop := listenerAlignsRow.holds Try.pinned (OpenSpec.ofChange listenerAlignsWrong)

/-- 'hemiolalaw47.ListenerItself': WHATEVER THE INPUT: true; the input reads as it did. -/
def listenerItselfSpec : ChangeSpec := { name := "listenerItself", fn := fun _ => fun
  | [d1, d2] => { results := [.lit (.bool true)], args := [d1, d2] }
  | _ => none }
def listenerItselfRow : OpenClaim := { program := "ytbkmmjpklkallaa", sum := "cea331a8db8b545d6382d0a506dc137241f0669907bfe214161e68ec0063f072", func := "hemiola/hemiolalaw47.ListenerItself", spec := "listenerItself", apart := false }
def ListenerItselfSaid : Prop := listenerItselfRow.holds Try.pinned (OpenSpec.ofChange listenerItselfSpec)

/-- ITS FALSE NEIGHBOUR: 'it returns false'. Refute it at one input. -/
def listenerItselfWrong : ChangeSpec := { name := "listenerItself", fn := fun _ => fun
  | [d1, d2] => { results := [.lit (.bool false)], args := [d1, d2] }
  | _ => none }
def ListenerItselfWrongFalsely : Prop := listenerItselfRow.holds Try.pinned (OpenSpec.ofChange listenerItselfWrong)

/-- 'hemiolalaw47.ListenerMissing': WHATEVER THE INPUT: true; the input reads as it did. -/
def listenerMissingSpec : ChangeSpec := { name := "listenerMissing", fn := fun _ => fun
  | [d1, d2, d3] => { results := [.lit (.bool true)], args := [d1, d2, d3] }
  | _ => none }
def listenerMissingRow : OpenClaim := { program := "ytbkmmjpklkallaa", sum := "cea331a8db8b545d6382d0a506dc137241f0669907bfe214161e68ec0063f072", func := "hemiola/hemiolalaw47.ListenerMissing", spec := "listenerMissing", apart := false }
def ListenerMissingSaid : Prop := listenerMissingRow.holds Try.pinned (OpenSpec.ofChange listenerMissingSpec)

/-- ITS FALSE NEIGHBOUR: 'it returns false'. Refute it at one input. -/
def listenerMissingWrong : ChangeSpec := { name := "listenerMissing", fn := fun _ => fun
  | [d1, d2, d3] => { results := [.lit (.bool false)], args := [d1, d2, d3] }
  | _ => none }
def ListenerMissingWrongFalsely : Prop := listenerMissingRow.holds Try.pinned (OpenSpec.ofChange listenerMissingWrong)

/-- 'hemiolalaw47.ListenerBest': WHATEVER THE INPUT: true; the input reads as it did. -/
def listenerBestSpec : ChangeSpec := { name := "listenerBest", fn := fun _ => fun
  | [d1, d2, d3] => { results := [.lit (.bool true)], args := [d1, d2, d3] }
  | _ => none }
def listenerBestRow : OpenClaim := { program := "ytbkmmjpklkallaa", sum := "cea331a8db8b545d6382d0a506dc137241f0669907bfe214161e68ec0063f072", func := "hemiola/hemiolalaw47.ListenerBest", spec := "listenerBest", apart := false }
def ListenerBestSaid : Prop := listenerBestRow.holds Try.pinned (OpenSpec.ofChange listenerBestSpec)

/-- ITS FALSE NEIGHBOUR: 'it returns false'. Refute it at one input. -/
def listenerBestWrong : ChangeSpec := { name := "listenerBest", fn := fun _ => fun
  | [d1, d2, d3] => { results := [.lit (.bool false)], args := [d1, d2, d3] }
  | _ => none }
def ListenerBestWrongFalsely : Prop := listenerBestRow.holds Try.pinned (OpenSpec.ofChange listenerBestWrong)

/-- 'hemiolalaw47.ListenerChecks': WHATEVER THE INPUT: true; the input reads as it did. -/
def listenerChecksSpec : ChangeSpec := { name := "listenerChecks", fn := fun _ => fun
  | [d1, d2, d3] => { results := [.lit (.bool true)], args := [d1, d2, d3] }
  | _ => none }
def listenerChecksRow : OpenClaim := { program := "ytbkmmjpklkallaa", sum := "cea331a8db8b545d6382d0a506dc137241f0669907bfe214161e68ec0063f072", func := "hemiola/hemiolalaw47.ListenerChecks", spec := "listenerChecks", apart := false }
def ListenerChecksSaid : Prop := listenerChecksRow.holds Try.pinned (OpenSpec.ofChange listenerChecksSpec)

/-- ITS FALSE NEIGHBOUR: 'it returns false'. Refute it at one input. -/
def listenerChecksWrong : ChangeSpec := { name := "listenerChecks", fn := fun _ => fun
  | [d1, d2, d3] => { results := [.lit (.bool false)], args := [d1, d2, d3] }
  | _ => none }
def ListenerChecksWrongFalsely : Prop := listenerChecksRow.holds Try.pinned (OpenSpec.ofChange listenerChecksWrong)

/-- 'hemiolalaw47.ListenerFollows': WHATEVER THE INPUT: true; the input reads as it did. -/
def listenerFollowsSpec : ChangeSpec := { name := "listenerFollows", fn := fun _ => fun
  | [d1, d2] => { results := [.lit (.bool true)], args := [d1, d2] }
  | _ => none }
def listenerFollowsRow : OpenClaim := { program := "ytbkmmjpklkallaa", sum := "cea331a8db8b545d6382d0a506dc137241f0669907bfe214161e68ec0063f072", func := "hemiola/hemiolalaw47.ListenerFollows", spec := "listenerFollows", apart := false }
def ListenerFollowsSaid : Prop := listenerFollowsRow.holds Try.pinned (OpenSpec.ofChange listenerFollowsSpec)

/-- ITS FALSE NEIGHBOUR: 'it returns false'. Refute it at one input. -/
def listenerFollowsWrong : ChangeSpec := { name := "listenerFollows", fn := fun _ => fun
  | [d1, d2] => { results := [.lit (.bool false)], args := [d1, d2] }
  | _ => none }
def ListenerFollowsWrongFalsely : Prop := listenerFollowsRow.holds Try.pinned (OpenSpec.ofChange listenerFollowsWrong)

/-- 'hemiolalaw47.ListenerLimits': WHATEVER THE INPUT: true; the input reads as it did. -/
def listenerLimitsSpec : ChangeSpec := { name := "listenerLimits", fn := fun _ => fun
  | [d] => { results := [.lit (.bool true)], args := [d] }
  | _ => none }
def listenerLimitsRow : OpenClaim := { program := "ytbkmmjpklkallaa", sum := "cea331a8db8b545d6382d0a506dc137241f0669907bfe214161e68ec0063f072", func := "hemiola/hemiolalaw47.ListenerLimits", spec := "listenerLimits", apart := false }
def ListenerLimitsSaid : Prop := listenerLimitsRow.holds Try.pinned (OpenSpec.ofChange listenerLimitsSpec)

/-- ITS FALSE NEIGHBOUR: 'it returns false'. Refute it at one input. -/
def listenerLimitsWrong : ChangeSpec := { name := "listenerLimits", fn := fun _ => fun
  | [d] => { results := [.lit (.bool false)], args := [d] }
  | _ => none }
def ListenerLimitsWrongFalsely : Prop := listenerLimitsRow.holds Try.pinned (OpenSpec.ofChange listenerLimitsWrong)

/-- 'hemiolalaw47.ListenerTempo': WHATEVER THE INPUT: true; the input reads as it did. -/
def listenerTempoSpec : ChangeSpec := { name := "listenerTempo", fn := fun _ => fun
  | [d1, d2, d3] => { results := [.lit (.bool true)], args := [d1, d2, d3] }
  | _ => none }
def listenerTempoRow : OpenClaim := { program := "ytbkmmjpklkallaa", sum := "cea331a8db8b545d6382d0a506dc137241f0669907bfe214161e68ec0063f072", func := "hemiola/hemiolalaw47.ListenerTempo", spec := "listenerTempo", unfollowed := true, recurses := true, apart := false }
def ListenerTempoSaid : Prop := listenerTempoRow.holds Try.pinned (OpenSpec.ofChange listenerTempoSpec)

/-- ITS FALSE NEIGHBOUR: 'it returns false'. Refute it at one input. -/
def listenerTempoWrong : ChangeSpec := { name := "listenerTempo", fn := fun _ => fun
  | [d1, d2, d3] => { results := [.lit (.bool false)], args := [d1, d2, d3] }
  | _ => none }
def ListenerTempoWrongFalsely : Prop := listenerTempoRow.holds Try.pinned (OpenSpec.ofChange listenerTempoWrong)

/-- 'hemiolalaw47.ListenerOrders': WHATEVER THE INPUT: true; the input reads as it did. -/
def listenerOrdersSpec : ChangeSpec := { name := "listenerOrders", fn := fun _ => fun
  | [d] => { results := [.lit (.bool true)], args := [d] }
  | _ => none }
def listenerOrdersRow : OpenClaim := { program := "ytbkmmjpklkallaa", sum := "cea331a8db8b545d6382d0a506dc137241f0669907bfe214161e68ec0063f072", func := "hemiola/hemiolalaw47.ListenerOrders", spec := "listenerOrders", unfollowed := true, recurses := true, apart := false }
def ListenerOrdersSaid : Prop := listenerOrdersRow.holds Try.pinned (OpenSpec.ofChange listenerOrdersSpec)

/-- ITS FALSE NEIGHBOUR: 'it returns false'. Refute it at one input. -/
def listenerOrdersWrong : ChangeSpec := { name := "listenerOrders", fn := fun _ => fun
  | [d] => { results := [.lit (.bool false)], args := [d] }
  | _ => none }
def ListenerOrdersWrongFalsely : Prop := listenerOrdersRow.holds Try.pinned (OpenSpec.ofChange listenerOrdersWrong)

/- THE SECOND FORM. 'bulk': how many values and letters a reading holds, each counted each time it is reached (what is shared counts as often as it is met; a slice's spare places count too). A statement '..UptoSaid' is the law's where the arguments, and the package variables that the reading takes, are together of bulk at most 1048576: NARROWER than '..Said'. Prove '..Said' where nothing that the law and all that it calls make is longer than what came in: it says more and counts as full. Else prove '..UptoSaid'. A law counts once. -/
mutual
def uptoBulk {H : Type} : DataW H → Nat
  | .lit (.string bytes) => bytes.length + 1
  | .lit _ => 1
  | .nil => 1
  | .ptr d => uptoBulk d + 1
  | .slice elems spare => uptoBulkAll elems + uptoBulkAll spare + 1
  | .agg parts => uptoBulkAll parts + 1
  | .iface _ d => uptoBulk d + 1
  | .map entries => uptoBulkEntries entries + 1
  | .held _ => 1
def uptoBulkAll {H : Type} : List (DataW H) → Nat
  | [] => 0
  | d :: r => uptoBulk d + uptoBulkAll r
def uptoBulkEntries {H : Type} : List (Lit × DataW H) → Nat
  | [] => 0
  | x :: r => uptoBulkEntry x + uptoBulkEntries r
def uptoBulkEntry {H : Type} : Lit × DataW H → Nat
  | (.string bytes, d) => bytes.length + uptoBulk d + 1
  | (_, d) => uptoBulk d + 1
 end
def uptoSmall : (H : Type) → List (DataW H) → Bool := fun _ ds => decide (uptoBulkAll ds ≤ 1048576)
def OpenSpec.upto (s : _root_.Go.ChangeSpec) : _root_.Go.OpenSpec := { _root_.Go.OpenSpec.ofChange s with cond := some uptoSmall }

/-- 'hemiolalaw47.ListenerAligns', WHERE WHAT IT READS IS OF BULK AT MOST 1048576: true; the input reads as it did. -/
def listenerAlignsUptoRow : OpenClaim := { program := "ytbkmmjpklkallaa", sum := "cea331a8db8b545d6382d0a506dc137241f0669907bfe214161e68ec0063f072", func := "hemiola/hemiolalaw47.ListenerAligns", spec := "listenerAligns", apart := false, narrowed := true }
def ListenerAlignsUptoSaid : Prop := listenerAlignsUptoRow.holds Try.pinned (OpenSpec.upto listenerAlignsSpec)

/-- 'hemiolalaw47.ListenerItself', WHERE WHAT IT READS IS OF BULK AT MOST 1048576: true; the input reads as it did. -/
def listenerItselfUptoRow : OpenClaim := { program := "ytbkmmjpklkallaa", sum := "cea331a8db8b545d6382d0a506dc137241f0669907bfe214161e68ec0063f072", func := "hemiola/hemiolalaw47.ListenerItself", spec := "listenerItself", apart := false, narrowed := true }
def ListenerItselfUptoSaid : Prop := listenerItselfUptoRow.holds Try.pinned (OpenSpec.upto listenerItselfSpec)

/-- 'hemiolalaw47.ListenerMissing', WHERE WHAT IT READS IS OF BULK AT MOST 1048576: true; the input reads as it did. -/
def listenerMissingUptoRow : OpenClaim := { program := "ytbkmmjpklkallaa", sum := "cea331a8db8b545d6382d0a506dc137241f0669907bfe214161e68ec0063f072", func := "hemiola/hemiolalaw47.ListenerMissing", spec := "listenerMissing", apart := false, narrowed := true }
def ListenerMissingUptoSaid : Prop := listenerMissingUptoRow.holds Try.pinned (OpenSpec.upto listenerMissingSpec)

/-- 'hemiolalaw47.ListenerBest', WHERE WHAT IT READS IS OF BULK AT MOST 1048576: true; the input reads as it did. -/
def listenerBestUptoRow : OpenClaim := { program := "ytbkmmjpklkallaa", sum := "cea331a8db8b545d6382d0a506dc137241f0669907bfe214161e68ec0063f072", func := "hemiola/hemiolalaw47.ListenerBest", spec := "listenerBest", apart := false, narrowed := true }
def ListenerBestUptoSaid : Prop := listenerBestUptoRow.holds Try.pinned (OpenSpec.upto listenerBestSpec)

/-- 'hemiolalaw47.ListenerChecks', WHERE WHAT IT READS IS OF BULK AT MOST 1048576: true; the input reads as it did. -/
def listenerChecksUptoRow : OpenClaim := { program := "ytbkmmjpklkallaa", sum := "cea331a8db8b545d6382d0a506dc137241f0669907bfe214161e68ec0063f072", func := "hemiola/hemiolalaw47.ListenerChecks", spec := "listenerChecks", apart := false, narrowed := true }
def ListenerChecksUptoSaid : Prop := listenerChecksUptoRow.holds Try.pinned (OpenSpec.upto listenerChecksSpec)

/-- 'hemiolalaw47.ListenerFollows', WHERE WHAT IT READS IS OF BULK AT MOST 1048576: true; the input reads as it did. -/
def listenerFollowsUptoRow : OpenClaim := { program := "ytbkmmjpklkallaa", sum := "cea331a8db8b545d6382d0a506dc137241f0669907bfe214161e68ec0063f072", func := "hemiola/hemiolalaw47.ListenerFollows", spec := "listenerFollows", apart := false, narrowed := true }
def ListenerFollowsUptoSaid : Prop := listenerFollowsUptoRow.holds Try.pinned (OpenSpec.upto listenerFollowsSpec)

/-- 'hemiolalaw47.ListenerLimits', WHERE WHAT IT READS IS OF BULK AT MOST 1048576: true; the input reads as it did. -/
def listenerLimitsUptoRow : OpenClaim := { program := "ytbkmmjpklkallaa", sum := "cea331a8db8b545d6382d0a506dc137241f0669907bfe214161e68ec0063f072", func := "hemiola/hemiolalaw47.ListenerLimits", spec := "listenerLimits", apart := false, narrowed := true }
def ListenerLimitsUptoSaid : Prop := listenerLimitsUptoRow.holds Try.pinned (OpenSpec.upto listenerLimitsSpec)

/-- 'hemiolalaw47.ListenerTempo', WHERE WHAT IT READS IS OF BULK AT MOST 1048576: true; the input reads as it did. -/
def listenerTempoUptoRow : OpenClaim := { program := "ytbkmmjpklkallaa", sum := "cea331a8db8b545d6382d0a506dc137241f0669907bfe214161e68ec0063f072", func := "hemiola/hemiolalaw47.ListenerTempo", spec := "listenerTempo", unfollowed := true, recurses := true, apart := false, narrowed := true }
def ListenerTempoUptoSaid : Prop := listenerTempoUptoRow.holds Try.pinned (OpenSpec.upto listenerTempoSpec)

/-- 'hemiolalaw47.ListenerOrders', WHERE WHAT IT READS IS OF BULK AT MOST 1048576: true; the input reads as it did. -/
def listenerOrdersUptoRow : OpenClaim := { program := "ytbkmmjpklkallaa", sum := "cea331a8db8b545d6382d0a506dc137241f0669907bfe214161e68ec0063f072", func := "hemiola/hemiolalaw47.ListenerOrders", spec := "listenerOrders", unfollowed := true, recurses := true, apart := false, narrowed := true }
def ListenerOrdersUptoSaid : Prop := listenerOrdersUptoRow.holds Try.pinned (OpenSpec.upto listenerOrdersSpec)

end Rows
end Go.Proofs.Ytbkmmjpklkallaa
