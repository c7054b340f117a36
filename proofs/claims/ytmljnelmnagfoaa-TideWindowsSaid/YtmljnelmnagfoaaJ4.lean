/- Tide: which minutes lie in a window. -/
import Derived.Test.YtmljnelmnagfoaaJ5
set_option linter.unusedVariables false
set_option linter.unusedSimpArgs false
namespace Go.Proofs.Ytmljnelmnagfoaa
open Go.RowKit
attribute [local go_sem] World.cell?_alloc_some frozen_alloc_some isSome_alloc isSome_setCell

def inW (ws : List (Int × Int)) (time : Int) (k : Nat) : Bool := decide (∃ j, j < k ∧ L1 ws j ≤ time ∧ time ≤ L2 ws j)
theorem below_drewN (W : World) (k : Nat) : Below W.heap.size W (W.drewN k) := ⟨rfl, rfl, rfl, Nat.le_refl _, fun _ _ => rfl⟩
theorem inW_0 (ws : List (Int × Int)) (time : Int) : inW ws time 0 = false := decide_eq_false (fun ⟨j, hj, _⟩ => absurd hj (Nat.not_lt_zero _))
theorem inW_s (ws : List (Int × Int)) (time : Int) (k : Nat) : inW ws time (k + 1) = (inW ws time k || (decide (L1 ws k ≤ time) && decide (time ≤ L2 ws k))) := by
  rw [Bool.eq_iff_iff]
  simp only [inW, Bool.or_eq_true, Bool.and_eq_true, decide_eq_true_eq]
  constructor
  · rintro ⟨j, hj, h⟩
    by_cases e : j = k
    · subst e; exact Or.inr h
    · exact Or.inl ⟨j, by omega, h⟩
  · rintro (⟨j, hj, h⟩ | h)
    · exact ⟨j, by omega, h⟩
    · exact ⟨k, by omega, h⟩
theorem in_high {s st : Int} {n : Nat} {lo hi : Nat → Int} {need time : Int} (hv : tval s st n lo hi = true) (hn : nd need = true) : inW (WS s st n lo hi need) time (WS s st n lo hi need).length = (decide (HE s st n lo hi time time = 0) && decide (need ≤ HL s st n lo hi time time)) := by
  have W := ws_wn hv hn
  have hv' := tval_tv hv
  have hs0 := hv'.s0
  have hl := hv'.last
  rw [Bool.eq_iff_iff]
  simp only [inW, Bool.and_eq_true, decide_eq_true_eq]
  constructor
  · rintro ⟨j, hj, h⟩
    obtain ⟨a1, a2, a3⟩ := (W.cov time).1 ⟨_, ws_mem hj, h.1, h.2⟩
    have he : HE s st n lo hi time time = 0 := he_in hv (by omega)
    obtain ⟨_, _, m, _, _⟩ := he_ok he
    obtain ⟨t, t1, t2, t3⟩ := m.2
    have : t = time := by omega
    subst this
    exact ⟨he, by omega⟩
  · rintro ⟨he, h⟩
    obtain ⟨_, bd, m, _, _⟩ := he_ok he
    have := m.1 time (Int.le_refl _) (Int.le_refl _)
    obtain ⟨w, hw, w1, w2⟩ := (W.cov time).2 ⟨by omega, by omega, by omega⟩
    obtain ⟨j, hj, e1, e2⟩ := ws_get hw
    exact ⟨j, hj, by omega, by omega⟩
theorem we_nd {s st : Int} {n : Nat} {lo hi : Nat → Int} {need : Int} (h : WE s st n lo hi need = 0) : tval s st n lo hi = true ∧ nd need = true := by
  unfold WE at h
  cases k : (tval s st n lo hi && nd need) with
  | true => exact Bool.and_eq_true_iff.1 k
  | false => rw [k] at h; cases h

end Go.Proofs.Ytmljnelmnagfoaa
