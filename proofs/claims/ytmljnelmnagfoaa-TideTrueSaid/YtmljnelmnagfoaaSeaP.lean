/- Loops whose states are told by lists of slots and blocks. -/
import Derived.Test.YtmljnelmnagfoaaSeaO
set_option linter.unusedVariables false
set_option linter.unusedSimpArgs false
namespace Go.Sea
open Go.RowKit

def okB (H : List (Option (List CV))) (i : Nat) : Prop := (hget H i).isSome = true
def okL (H : List (Option (List CV))) (e : List (Nat × AV)) : List (Nat × AV) → Prop
  | [] => True
  | (k, v) :: r => (lk e k = v ∧ v.ok (okB H)) ∧ okL H e r
theorem okL_E {H : List (Option (List CV))} {e : List (Nat × AV)} : ∀ {r : List (Nat × AV)}, okL H e r → okE H e r
  | [], _ => fun p hp => by cases hp
  | (k, v) :: r, ⟨h1, h2⟩ => fun p hp => by
    rcases List.mem_cons.1 hp with rfl | hp
    · exact h1
    · exact okL_E h2 p hp
theorem Weak.lit {s : AS} {N : Nat} {E : List (Nat × AV)} {H : List (Option (List CV))} (hN : N = s.N) (hg : s.gh = []) (h1 : okL H s.env E) (h2 : wkH (okB H) s.heap H) : Weak s ⟨E, H, N, []⟩ :=
  Weak.of hN ⟨hg.symm, fun t => by rw [hg]; trivial⟩ (okL_E h1) h2
theorem AW_loopL {P : Program} {s : AS} {Q : Exit → AS → Prop} {c : Code} {ι : Type} (E : ι → List (Nat × AV)) (H : ι → List (Option (List CV))) (I : ι → Prop) (μ : ι → Nat) (i0 : ι) {N : Nat} (hN : N = s.N) (hg : s.gh = [])
    (h1 : okL (H i0) s.env (E i0)) (h2 : wkH (okB (H i0)) s.heap (H i0)) (hi : I i0)
    (round : ∀ i, I i → AW P c ⟨E i, H i, N, []⟩ (thenA (fun s' => N = s'.N ∧ s'.gh = [] ∧ ∃ j, I j ∧ μ j < μ i ∧ okL (H j) s'.env (E j) ∧ wkH (okB (H j)) s'.heap (H j)) Q)) : AW P (.loop c) s Q := by
  refine AW_loop (fun n s => ∃ i, I i ∧ n = μ i ∧ s = ⟨E i, H i, N, []⟩) (μ i0) ⟨_, Weak.lit hN hg h1 h2, i0, hi, rfl, rfl⟩ ?_
  rintro n s ⟨i, hI, rfl, rfl⟩
  refine (round i hI).mono fun e s' h => ?_
  cases e with
  | normal =>
    obtain ⟨g1, g2, j, g3, g4, g5, g6⟩ := h
    exact ⟨μ j, _, g4, Weak.lit g1 g2 g5 g6, j, g3, rfl, rfl⟩
  | _ => exact h
end Go.Sea
