/- The law on sides. -/
import Derived.Test.YtomhegnaojejnaaM2
set_option linter.unusedSimpArgs false
set_option linter.unusedVariables false
namespace Go.Proofs.Ytomhegnaojejnaa
open Go Go.RowKit Hr



theorem law9_just (h : Int) (up : Bool) (v0 v1 : Int) (W : World) : Calls Try.prog 9 #[.int .i64 h, .bool up, .agg #[.int .i64 v0, .int .i64 v1]] W (Hr.Just W (.bool true)) := by
  by_cases hr : 1 ≤ h ∧ h ≤ 10
  · obtain ⟨n, rfl⟩ : ∃ n : Nat, h = (n : Int) := ⟨h.toNat, by omega⟩
    have hr : 1 ≤ n ∧ n ≤ 10 := by omega
    by_cases hc : 2 ≤ v1
    · by_cases hd : v0 = 0
      · exact law9_1t n up v0 v1 W hr hc hd
      · exact law9_0t n up v0 v1 W hr hc hd
    · cases up
      · exact law9_3t n v0 v1 W hr (by omega)
      · exact law9_2t n v0 v1 W hr (by omega)
  · by_cases hc : 2 ≤ v1
    · by_cases hd : v0 = 0
      · exact law9_1f h up v0 v1 W hr hc hd
      · exact law9_0f h up v0 v1 W hr hc hd
    · cases up
      · exact law9_3f h v0 v1 W hr (by omega)
      · exact law9_2f h v0 v1 W hr (by omega)

end Go.Proofs.Ytomhegnaojejnaa
