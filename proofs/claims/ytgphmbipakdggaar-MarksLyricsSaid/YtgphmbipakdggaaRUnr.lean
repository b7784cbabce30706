/- A loop of few rounds, round by round. Nothing here speaks of one program. -/
import Derived.Test.YtgphmbipakdggaaRCore
import Derived.LoopN
set_option linter.unusedSimpArgs false
set_option linter.unusedVariables false
namespace Go.Proofs.YtgphmbipakdggaaR
namespace Hr
open Go Go.RowKit
section
variable {P : Program} {fn : Func} {R : Ending → World → Prop} {X : Nat → Prop} {W : World} {n : Nat} {k : List K} {S : St}
theorem run_rounds {c : Code} (m : Nat) (h : Run P fn R X W n (.stop (Code.rounds P c (post P fn R k) m) :: k) S) : Run P fn R X W n (.code (.loop c) :: k) S :=
  fun a w hs => wp_loop_rounds m (h a w hs)
theorem run_round {c : Code} {m : Nat} (h : Run P fn R X W n (.code c :: .stop (Code.rounds P c (post P fn R k) m) :: k) S) : Run P fn R X W n (.stop (Code.rounds P c (post P fn R k) (m + 1)) :: k) S := fun a w hs => by
  show Code.rounds P c (post P fn R k) (m + 1) a w
  rw [rounds_succ]
  refine Code.wp_mono ?_ (h a w hs)
  intro e a' w' q
  cases e with
  | normal => exact q
  | _ => exact q
end
end Hr
end Go.Proofs.YtgphmbipakdggaaR
