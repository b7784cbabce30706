/- Regions that draw their order, walked order by order: what a heavy operation has made may be read by the quiet ones that wait for it. -/
import Derived.Test.YtgphmbipakdggaaRFork
set_option linter.unusedSimpArgs false
set_option linter.unusedVariables false
namespace Go.Proofs.YtgphmbipakdggaaR
namespace Hr
open Go Go.RowKit

section
variable {P : Program} {fn : Func} {R : Ending → World → Prop} {X : Nat → Prop} {W : World} {n : Nat} {k : List K} {S : St} {env : List (Nat × Value)} {mem : List Res} {M0 : List Res} {ops : Array Oper} {listed : Array Bool} {m : Nat}
theorem AnyU.rebase {M1 : List Res} (hM : MemSub M1 M0) {Q : Act → World → Prop} {E : Exit → Act → World → Prop} : ∀ {m : Nat} {listed : Array Bool} {a : Act} {w : World}, Core X W M1 w → AnyU P ops (Dk X W M1) Q E m listed a w → AnyU P ops (Dk X W M0) Q E m listed a w
  | 0, _, _, _, _, h => h
  | m + 1, _, _, w, hC, h => fun w1 hk1 => by
    obtain ⟨h1, h2⟩ := h w1 hk1
    have hC1 := hC.up hk1
    refine ⟨h1, fun i hi => wpOp_mono (fun a' w' h' => ?_) (h2 i hi)⟩
    have hC' : Core X W M1 w' := h'.1 hC1
    exact ⟨fun _ => ⟨hC'.1, (hM _ _ _ hC'.2).1⟩, AnyU.rebase hM hC' h'.2⟩
theorem b_hN {i : Nat} {o : Oper} {ι : Type} {φ : ι → Prop} {next : ι → St} (hi : ops[i]? = some o) (hw : Want ops env o true) (h : H1 P X W n ⟨env, mem⟩ o φ next) (hM : ∀ j, φ j → MemSub (next j).mem M0)
    (hk : ∀ j, φ j → RunB P fn R X W n k (next j).mem ops m (listed.setIfInBounds i true) (next j)) : Take P fn R X W n k M0 ops m listed i ⟨env, mem⟩ := by
  intro hsel hcl hcl' a w hs hC
  unfold wpOp
  simp only [hi]
  rw [if_pos (hw.eq hs)]
  refine .inl (h a w hs _ _ fun i' a' w' hφ hs' => ?_)
  have hC1 : Core X W (next i').mem w' := ⟨hs'.kept, hs'.mem⟩
  have hC' : Core X W M0 w' := ⟨hs'.kept, (hM i' hφ _ _ _ hs'.mem).1⟩
  exact ⟨fun _ => hC', AnyU.rebase (hM i' hφ) hC1 (hk i' hφ hsel hcl' a' w' hs' hC1)⟩
end
end Hr
end Go.Proofs.YtgphmbipakdggaaR
