/- K: walks on abstract states. -/
import Derived.Test.YtbckibbgajfihaaGreatJ
set_option linter.unusedVariables false
set_option linter.unusedSimpArgs false
namespace Go.Proofs.YtbckibbgajfihaaGreat
open Go.RowKit Go.Sea
theorem bo_4 : boD Tryz.prog 4 = true := by kernel_rfl
theorem fnok_6 : fnOk Tryz.prog 6 = true := by kernel_rfl
theorem fnok_43 : fnOk Tryz.prog 43 = true := by kernel_rfl
theorem fnok_5 : fnOk Tryz.prog 5 = true := by kernel_rfl

theorem at_eq (a : Nat → Acc) (t : Int) : ∀ k, atA a t k = lastA (fN a t k) a
  | 0 => rfl
  | k + 1 => by
    simp only [atA, fN]
    by_cases h : (a k).frm ≤ t
    · rw [if_pos h, if_neg (by omega)]; simp [lastA]
    · rw [if_neg h, if_pos (by omega)]; exact at_eq a t k
theorem fN_eq {a : Nat → Acc} {t u : Int} : ∀ k, (∀ i, i < k → ¬ (min t u < (a i).frm ∧ (a i).frm ≤ max t u)) → fN a t k = fN a u k
  | 0, _ => rfl
  | k + 1, h => by
    have h0 := h k (by omega)
    have ih := fN_eq (a := a) (t := t) (u := u) k fun i hi => h i (by omega)
    simp only [fN]
    by_cases h1 : t < (a k).frm
    · rw [if_pos h1, if_pos (by omega)]; exact ih
    · rw [if_neg h1, if_neg (by omega)]
theorem of_ge {sh : Nat → Nat → Int} {x y : Int} : ∀ k, (∀ i, i < k → 1 ≤ sh i 0 ∧ sh i 0 ≤ 20) → ∀ i, i < k → hasB (sh i 1) (sh i 2) (sh i 3) (sh i 4) x y = true → 0 < ofF sh x y k ∧ ofF sh x y k ≤ sh i 0
  | 0, _, i, hi, _ => absurd hi (Nat.not_lt_zero _)
  | k + 1, hb, i, hi, hh => by
    have b0 := ofF_bd (sh := sh) (x := x) (y := y) k fun j hj => hb j (by omega)
    have bk := hb k (by omega)
    simp only [ofF]
    rcases Nat.lt_or_ge i k with h1 | h1
    · have ih := of_ge k (fun j hj => hb j (by omega)) i h1 hh
      split
      · rename_i h; omega
      · exact ih
    · obtain rfl : i = k := by omega
      by_cases h : hasB (sh i 1) (sh i 2) (sh i 3) (sh i 4) x y = true ∧ (ofF sh x y i = 0 ∨ sh i 0 < ofF sh x y i)
      · rw [if_pos h]; omega
      · rw [if_neg h]
        have : ¬ (ofF sh x y i = 0 ∨ sh i 0 < ofF sh x y i) := fun h' => h ⟨hh, h'⟩
        omega
theorem of_ex {sh : Nat → Nat → Int} {x y : Int} : ∀ k, ofF sh x y k ≠ 0 → ∃ i, i < k ∧ hasB (sh i 1) (sh i 2) (sh i 3) (sh i 4) x y = true ∧ sh i 0 = ofF sh x y k
  | 0, h => absurd rfl h
  | k + 1, h => by
    simp only [ofF] at h ⊢
    by_cases h1 : hasB (sh k 1) (sh k 2) (sh k 3) (sh k 4) x y = true ∧ (ofF sh x y k = 0 ∨ sh k 0 < ofF sh x y k)
    · rw [if_pos h1]; exact ⟨k, by omega, h1.1, rfl⟩
    · rw [if_neg h1] at h ⊢
      obtain ⟨i, h2, h3⟩ := of_ex k h
      exact ⟨i, by omega, h3⟩
def fndK (n : Nat) (a : Nat → Acc) (x y t : Int) (k : Nat) : Bool := decide (ownV n a x y t = 0 ∨ ∃ i, i < k ∧ hasB ((atA a t n).sh i 1) ((atA a t n).sh i 2) ((atA a t n).sh i 3) ((atA a t n).sh i 4) x y = true ∧ (atA a t n).sh i 0 = ownV n a x y t)
end Go.Proofs.YtbckibbgajfihaaGreat
