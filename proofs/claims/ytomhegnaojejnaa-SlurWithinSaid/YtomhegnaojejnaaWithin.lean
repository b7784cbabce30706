/- The samples of a curve of a mark: within its box, from left to right. Plain law. -/
import Derived.Test.YtomhegnaojejnaaSamp
set_option linter.unusedSimpArgs false
set_option linter.unusedVariables false
namespace Go.Proofs.Ytomhegnaojejnaa
open Go Go.RowKit Hr

theorem wt64 : ∀ k : Nat, k < 65 → nth (wts (((64 : Nat) : Int) - k) k) 0 + nth (wts (((64 : Nat) : Int) - k) k) 1 + nth (wts (((64 : Nat) : Int) - k) k) 2 + nth (wts (((64 : Nat) : Int) - k) k) 3 = 262144 ∧ 0 ≤ nth (wts (((64 : Nat) : Int) - k) k) 0 ∧ 0 ≤ nth (wts (((64 : Nat) : Int) - k) k) 1 ∧ 0 ≤ nth (wts (((64 : Nat) : Int) - k) k) 2 ∧ 0 ≤ nth (wts (((64 : Nat) : Int) - k) k) 3 ∧ nth (wts (((64 : Nat) : Int) - k) k) 1 + nth (wts (((64 : Nat) : Int) - k) k) 2 ≤ 196608 := by
  decide +kernel
theorem wt64s : ∀ k : Nat, k < 64 → nth (wts (((64 : Nat) : Int) - k) k) 3 ≤ nth (wts (((64 : Nat) : Int) - ((k + 1 : Nat) : Int)) ((k + 1 : Nat) : Int)) 3
    ∧ nth (wts (((64 : Nat) : Int) - k) k) 2 + nth (wts (((64 : Nat) : Int) - k) k) 3 ≤ nth (wts (((64 : Nat) : Int) - ((k + 1 : Nat) : Int)) ((k + 1 : Nat) : Int)) 2 + nth (wts (((64 : Nat) : Int) - ((k + 1 : Nat) : Int)) ((k + 1 : Nat) : Int)) 3
    ∧ nth (wts (((64 : Nat) : Int) - ((k + 1 : Nat) : Int)) ((k + 1 : Nat) : Int)) 0 ≤ nth (wts (((64 : Nat) : Int) - k) k) 0 := by
  decide +kernel
theorem sumX_eq {d w n f : Int} {v : List Int} : sumX [⟨5, n⟩, ⟨5 + d, f⟩, ⟨5 + w - d, f⟩, ⟨5 + w, n⟩] v 4 = 5 * (nth v 0 + nth v 1 + nth v 2 + nth v 3) + (d * (nth v 1 + nth v 2 + nth v 3) + (w - 2 * d) * (nth v 2 + nth v 3) + d * nth v 3) := by
  show 0 + nth v 0 * 5 + nth v 1 * (5 + d) + nth v 2 * (5 + w - d) + nth v 3 * (5 + w) = _
  generalize nth v 0 = a
  generalize nth v 1 = b
  generalize nth v 2 = c
  generalize nth v 3 = e
  have h1 := Int.mul_comm d b
  have h2 := Int.mul_comm d c
  have h3 := Int.mul_comm d e
  have h4 := Int.mul_comm w c
  have h5 := Int.mul_comm w e
  have h6 := Int.mul_assoc 2 d c
  have h7 := Int.mul_assoc 2 d e
  simp only [Int.mul_add, Int.mul_sub, Int.sub_mul, Int.add_mul]
  omega
theorem sumY_eq {d w n f : Int} {v : List Int} : sumY [⟨5, n⟩, ⟨5 + d, f⟩, ⟨5 + w - d, f⟩, ⟨5 + w, n⟩] v 4 = n * (nth v 0 + nth v 1 + nth v 2 + nth v 3) + (f - n) * (nth v 1 + nth v 2) := by
  show 0 + nth v 0 * n + nth v 1 * f + nth v 2 * f + nth v 3 * n = _
  generalize nth v 0 = a
  generalize nth v 1 = b
  generalize nth v 2 = c
  generalize nth v 3 = e
  have h1 := Int.mul_comm n a
  have h2 := Int.mul_comm n b
  have h3 := Int.mul_comm n c
  have h4 := Int.mul_comm n e
  have h5 := Int.mul_comm f b
  have h6 := Int.mul_comm f c
  simp only [Int.mul_add, Int.sub_mul]
  omega
theorem n64 : ((64 : Nat) : Int) * ((64 : Nat) : Int) * ((64 : Nat) : Int) = 262144 := by decide
theorem smp_x {d w n f : Int} {k : Nat} (hd : 0 ≤ d ∧ 2 * d ≤ w) (hk : k < 65) : 5 ≤ (nth (smps [⟨5, n⟩, ⟨5 + d, f⟩, ⟨5 + w - d, f⟩, ⟨5 + w, n⟩] 64 (64 + 1)) k).x ∧ (nth (smps [⟨5, n⟩, ⟨5 + d, f⟩, ⟨5 + w - d, f⟩, ⟨5 + w, n⟩] 64 (64 + 1)) k).x ≤ 5 + w := by
  rw [smps_nth (by omega), smpP]
  show 5 ≤ sumX _ _ 4 / _ ∧ sumX _ _ 4 / _ ≤ 5 + w
  rw [sumX_eq, n64]
  obtain ⟨h0, h1, h2, h3, h4, h5⟩ := wt64 k hk
  have m1 := mulb (A := d) (B := 262144) ⟨hd.1, Int.le_refl _⟩ (show 0 ≤ nth (wts (((64 : Nat) : Int) - k) k) 1 + nth (wts (((64 : Nat) : Int) - k) k) 2 + nth (wts (((64 : Nat) : Int) - k) k) 3 ∧ _ by omega)
  have m2 := mulb (a := w - 2 * d) (A := w - 2 * d) (B := 262144) ⟨by omega, Int.le_refl _⟩ (show 0 ≤ nth (wts (((64 : Nat) : Int) - k) k) 2 + nth (wts (((64 : Nat) : Int) - k) k) 3 ∧ _ by omega)
  have m3 := mulb (A := d) (B := 262144) ⟨hd.1, Int.le_refl _⟩ (show 0 ≤ nth (wts (((64 : Nat) : Int) - k) k) 3 ∧ _ by omega)
  rw [h0]
  omega
theorem smp_mono {d w n f : Int} {k : Nat} (hd : 0 ≤ d ∧ 2 * d ≤ w) (hk : k < 64) : (nth (smps [⟨5, n⟩, ⟨5 + d, f⟩, ⟨5 + w - d, f⟩, ⟨5 + w, n⟩] 64 (64 + 1)) k).x ≤ (nth (smps [⟨5, n⟩, ⟨5 + d, f⟩, ⟨5 + w - d, f⟩, ⟨5 + w, n⟩] 64 (64 + 1)) (k + 1)).x := by
  rw [smps_nth (by omega), smps_nth (by omega), smpP, smpP]
  show sumX _ _ 4 / _ ≤ sumX _ _ 4 / _
  rw [sumX_eq, sumX_eq, n64]
  obtain ⟨h0, h1, h2, h3, h4, h5⟩ := wt64 k (by omega)
  obtain ⟨i0, i1, i2, i3, i4, i5⟩ := wt64 (k + 1) (by omega)
  obtain ⟨j1, j2, j3⟩ := wt64s k hk
  have m1 := Int.mul_le_mul_of_nonneg_left (show nth (wts (((64 : Nat) : Int) - k) k) 1 + nth (wts (((64 : Nat) : Int) - k) k) 2 + nth (wts (((64 : Nat) : Int) - k) k) 3 ≤ nth (wts (((64 : Nat) : Int) - ((k + 1 : Nat) : Int)) ((k + 1 : Nat) : Int)) 1 + nth (wts (((64 : Nat) : Int) - ((k + 1 : Nat) : Int)) ((k + 1 : Nat) : Int)) 2 + nth (wts (((64 : Nat) : Int) - ((k + 1 : Nat) : Int)) ((k + 1 : Nat) : Int)) 3 by omega) hd.1
  have m2 := Int.mul_le_mul_of_nonneg_left j2 (show 0 ≤ w - 2 * d by omega)
  have m3 := Int.mul_le_mul_of_nonneg_left j1 hd.1
  rw [h0, i0]
  omega
theorem smp_y {d w n f s h : Int} {k : Nat} (hs : 0 ≤ h ∧ 3 * h ≤ 4 * s) (hk : k < 65) (hf : (n = 10 ∧ f = 10 + h) ∨ (n = 10 + s ∧ f = 10 + s - h)) : 10 ≤ (nth (smps [⟨5, n⟩, ⟨5 + d, f⟩, ⟨5 + w - d, f⟩, ⟨5 + w, n⟩] 64 (64 + 1)) k).y ∧ (nth (smps [⟨5, n⟩, ⟨5 + d, f⟩, ⟨5 + w - d, f⟩, ⟨5 + w, n⟩] 64 (64 + 1)) k).y ≤ 10 + s := by
  rw [smps_nth (by omega), smpP]
  show 10 ≤ sumY _ _ 4 / _ ∧ sumY _ _ 4 / _ ≤ 10 + s
  rw [sumY_eq, n64]
  obtain ⟨h0, h1, h2, h3, h4, h5⟩ := wt64 k hk
  have m1 := mulb (A := h) (B := 196608) ⟨hs.1, Int.le_refl _⟩ (show 0 ≤ nth (wts (((64 : Nat) : Int) - k) k) 1 + nth (wts (((64 : Nat) : Int) - k) k) 2 ∧ _ by omega)
  rw [h0]
  rcases hf with ⟨rfl, rfl⟩ | ⟨rfl, rfl⟩
  · rw [show 10 + h - 10 = h by omega]; omega
  · rw [show 10 + s - h - (10 + s) = -h by omega, Int.neg_mul]; omega
theorem smp_0 {d w n f : Int} : nth (smps [⟨5, n⟩, ⟨5 + d, f⟩, ⟨5 + w - d, f⟩, ⟨5 + w, n⟩] 64 (64 + 1)) 0 = ⟨5, n⟩ := by
  rw [smps_nth (by omega), smpP, sumX_eq, sumY_eq, n64]
  have e0 : nth (wts (((64 : Nat) : Int) - ((0 : Nat) : Int)) ((0 : Nat) : Int)) 0 = 262144 := by decide
  have e1 : nth (wts (((64 : Nat) : Int) - ((0 : Nat) : Int)) ((0 : Nat) : Int)) 1 = 0 := by decide
  have e2 : nth (wts (((64 : Nat) : Int) - ((0 : Nat) : Int)) ((0 : Nat) : Int)) 2 = 0 := by decide
  have e3 : nth (wts (((64 : Nat) : Int) - ((0 : Nat) : Int)) ((0 : Nat) : Int)) 3 = 0 := by decide
  rw [e0, e1, e2, e3]
  congr 1 <;> omega
theorem smp_64 {d w n f : Int} : nth (smps [⟨5, n⟩, ⟨5 + d, f⟩, ⟨5 + w - d, f⟩, ⟨5 + w, n⟩] 64 (64 + 1)) 64 = ⟨5 + w, n⟩ := by
  rw [smps_nth (by omega), smpP, sumX_eq, sumY_eq, n64]
  have e0 : nth (wts (((64 : Nat) : Int) - ((64 : Nat) : Int)) ((64 : Nat) : Int)) 0 = 0 := by decide
  have e1 : nth (wts (((64 : Nat) : Int) - ((64 : Nat) : Int)) ((64 : Nat) : Int)) 1 = 0 := by decide
  have e2 : nth (wts (((64 : Nat) : Int) - ((64 : Nat) : Int)) ((64 : Nat) : Int)) 2 = 0 := by decide
  have e3 : nth (wts (((64 : Nat) : Int) - ((64 : Nat) : Int)) ((64 : Nat) : Int)) 3 = 262144 := by decide
  rw [e0, e1, e2, e3]
  congr 1 <;> omega
theorem crv_ok {d w n f : Int} (hd : 0 ≤ d ∧ 2 * d ≤ w ∧ w ≤ 4000) (hn : 0 ≤ n ∧ n ≤ 2000) (hf : -2000 ≤ f ∧ f ≤ 4000) : ∀ j, j < 4 → okP (nth [⟨5, n⟩, ⟨5 + d, f⟩, ⟨5 + w - d, f⟩, ⟨5 + w, n⟩] j)
  | 0, _ => by show ((-33554432 : Int) ≤ 5 ∧ (5 : Int) ≤ 33554432) ∧ (-33554432 ≤ n ∧ n ≤ 33554432); omega
  | 1, _ => by show (-33554432 ≤ 5 + d ∧ 5 + d ≤ 33554432) ∧ (-33554432 ≤ f ∧ f ≤ 33554432); omega
  | 2, _ => by show (-33554432 ≤ 5 + w - d ∧ 5 + w - d ≤ 33554432) ∧ (-33554432 ≤ f ∧ f ≤ 33554432); omega
  | 3, _ => by show (-33554432 ≤ 5 + w ∧ 5 + w ≤ 33554432) ∧ (-33554432 ≤ n ∧ n ≤ 33554432); omega
end Go.Proofs.Ytomhegnaojejnaa
