/- Tide: what Shift leaves. -/
import Derived.Test.YtmljnelmnagfoaaJ5
import Derived.Test.YtmljnelmnagfoaaS
import Derived.Test.YtmljnelmnagfoaaE3
set_option linter.unusedVariables false
set_option linter.unusedSimpArgs false
namespace Go.Proofs.Ytmljnelmnagfoaa
open Go.RowKit
attribute [local go_sem] World.cell?_alloc_some frozen_alloc_some isSome_alloc isSome_setCell

def sl (lo hi : Nat → Int) (b0 b1 : Int) (i : Nat) : Int := aL (lo i) (hi i) b0 b1
def sh (lo hi : Nat → Int) (b0 b1 : Int) (i : Nat) : Int := aH (lo i) (hi i) b0 b1
theorem shift_bad (s st : Int) (p : Option Addr) (n c : Nat) (lo hi : Nat → Int) (b0 b1 : Int) (w : World) (hL : Lie w p n lo hi) (h : (tval s st n lo hi && sv b0 b1) = false) : Calls Try.prog 21 #[tv s st p n c, sp b0 b1] w fun e w' => e = .returned (.tuple #[tv 0 0 none 0 0, .int .i64 1]) ∧ Below w.heap.size w w' := by
  cases h1 : tval s st n lo hi with
  | false => cases h2 : sv b0 b1 with
    | false => exact shift_b1 s st p n c lo hi b0 b1 w hL h1 h2
    | true => exact shift_b2 s st p n c lo hi b0 b1 w hL h1 h2
  | true => cases h2 : sv b0 b1 with
    | false => exact shift_b3 s st p n c lo hi b0 b1 w hL h1 h2
    | true => rw [h1, h2] at h; cases h
theorem shift_no (s st : Int) (p : Option Addr) (n c : Nat) (lo hi : Nat → Int) (b0 b1 : Int) (w : World) (hL : Lie w p n lo hi) (h1 : tval s st n lo hi = true) (h2 : sv b0 b1 = true) (h : ¬ ∀ i, i < n → gd lo hi b0 b1 i) : Calls Try.prog 21 #[tv s st p n c, sp b0 b1] w fun e w' => e = .returned (.tuple #[tv 0 0 none 0 0, .int .i64 3]) ∧ Below w.heap.size w w' := by
  refine (shift_ok s st p n c lo hi b0 b1 w hL h1 h2).mono ?_
  rintro e w' ⟨⟨g, _⟩ | ⟨_, rfl⟩, hb⟩
  · exact absurd g h
  · exact ⟨rfl, hb⟩
theorem shift_yes (s st : Int) (p : Option Addr) (n c : Nat) (lo hi : Nat → Int) (b0 b1 : Int) (w : World) (hL : Lie w p n lo hi) (h1 : tval s st n lo hi = true) (h2 : sv b0 b1 = true) (h : ∀ i, i < n → gd lo hi b0 b1 i) : Calls Try.prog 21 #[tv s st p n c, sp b0 b1] w fun e w' => (∃ p2 c2, e = .returned (.tuple #[tv s st p2 n c2, .int .i64 0]) ∧ Lie w' p2 n (sl lo hi b0 b1) (sh lo hi b0 b1)) ∧ Below w.heap.size w w' := by
  refine (shift_ok s st p n c lo hi b0 b1 w hL h1 h2).mono ?_
  rintro e w' ⟨⟨_, p2, c2, rfl, hl⟩ | ⟨⟨i, hi', hn⟩, _⟩, hb⟩
  · exact ⟨⟨p2, c2, rfl, hl⟩, hb⟩
  · exact absurd (h i hi') hn
theorem gd_eq {lo hi : Nat → Int} {b0 b1 : Int} {i : Nat} (h : gd lo hi b0 b1 i) : sl lo hi b0 b1 i = lo i + b0 ∧ sh lo hi b0 b1 i = hi i + b1 ∧ hv (sl lo hi b0 b1 i) (sh lo hi b0 b1 i) = true := by
  obtain ⟨h1, h2⟩ := h
  refine ⟨?_, ?_, h2⟩
  all_goals
    unfold aE at h1
    cases k : (sv (lo i) (hi i) && sv b0 b1) with
    | false => rw [k] at h1; cases h1
    | true => cases k2 : sv (lo i + b0) (hi i + b1) with
      | false => rw [k, k2] at h1; cases h1
      | true => simp [sl, sh, aL, aH, k, k2]
theorem tval_shift {s st : Int} {n : Nat} {lo hi : Nat → Int} {b0 b1 : Int} (h1 : tval s st n lo hi = true) (h : ∀ i, i < n → gd lo hi b0 b1 i) : tval s st n (sl lo hi b0 b1) (sh lo hi b0 b1) = true := by
  unfold tval at h1 ⊢
  rw [Bool.and_eq_true] at h1 ⊢
  exact ⟨h1.1, decide_eq_true fun i hi' => (gd_eq (h i hi')).2.2⟩
theorem he_shift {s st : Int} {n : Nat} {lo hi : Nat → Int} {b0 b1 : Int} (h1 : tval s st n lo hi = true) (h : ∀ i, i < n → gd lo hi b0 b1 i) (f u : Int) : HE s st n (sl lo hi b0 b1) (sh lo hi b0 b1) f u = HE s st n lo hi f u := by
  unfold HE; rw [tval_shift h1 h, h1]
/-- At a minute of the table only its own rows are asked. -/
theorem idx {s st x : Int} {n : Nat} (h : 1 ≤ st) (hn : 1 ≤ n) (h1 : s ≤ x) (h2 : x ≤ s + ((n : Int) - 1) * st) : ((x - s) / st).toNat < n ∧ (¬ (x - s) % st = 0 → ((x - s) / st).toNat + 1 < n) := by
  have e := Int.mul_ediv_add_emod (x - s) st
  have m0 := Int.emod_nonneg (x - s) (show st ≠ 0 by omega)
  have d0 : 0 ≤ (x - s) / st := Int.ediv_nonneg (by omega) (by omega)
  have le : (x - s) / st ≤ (n : Int) - 1 := by
    apply Int.le_of_lt_add_one
    apply Int.ediv_lt_of_lt_mul (by omega)
    rw [Int.add_mul, Int.one_mul]; omega
  refine ⟨by omega, fun hne => ?_⟩
  rcases Int.lt_or_le ((x - s) / st) ((n : Int) - 1) with k | k
  · omega
  · exfalso
    have e2 : (x - s) / st = (n : Int) - 1 := by omega
    rw [e2, Int.mul_comm] at e
    omega
theorem hL_shift {s st : Int} {n : Nat} {lo hi : Nat → Int} {b0 b1 : Int} (hv : Tv s st n lo hi) (h : ∀ i, i < n → gd lo hi b0 b1 i) {x : Int} (h1 : s ≤ x) (h2 : x ≤ s + ((n : Int) - 1) * st) : hL s st (sl lo hi b0 b1) x = hL s st lo x + b0 := by
  obtain ⟨k1, k2⟩ := idx hv.st0 hv.n0 h1 h2
  unfold hL
  split
  · exact (gd_eq (h _ k1)).1
  · rename_i hne
    rw [(gd_eq (h _ k1)).1, (gd_eq (h _ (k2 hne))).1]; omega
theorem hH_shift {s st : Int} {n : Nat} {lo hi : Nat → Int} {b0 b1 : Int} (hv : Tv s st n lo hi) (h : ∀ i, i < n → gd lo hi b0 b1 i) {x : Int} (h1 : s ≤ x) (h2 : x ≤ s + ((n : Int) - 1) * st) : hH s st (sh lo hi b0 b1) x = hH s st hi x + b1 := by
  obtain ⟨k1, k2⟩ := idx hv.st0 hv.n0 h1 h2
  unfold hH
  split
  · exact (gd_eq (h _ k1)).2.1
  · rename_i hne
    rw [(gd_eq (h _ k1)).2.1, (gd_eq (h _ (k2 hne))).2.1]; omega
theorem hl_shift {s st : Int} {n : Nat} {lo hi : Nat → Int} {b0 b1 f u : Int} (h1 : tval s st n lo hi = true) (h : ∀ i, i < n → gd lo hi b0 b1 i) (h2 : HE s st n lo hi f u = 0) : HL s st n (sl lo hi b0 b1) (sh lo hi b0 b1) f u = HL s st n lo hi f u + b0 ∧ HH s st n (sl lo hi b0 b1) (sh lo hi b0 b1) f u = HH s st n lo hi f u + b1 ∧ -100000 ≤ HL s st n (sl lo hi b0 b1) (sh lo hi b0 b1) f u ∧ HL s st n (sl lo hi b0 b1) (sh lo hi b0 b1) f u ≤ HH s st n (sl lo hi b0 b1) (sh lo hi b0 b1) f u ∧ HH s st n (sl lo hi b0 b1) (sh lo hi b0 b1) f u ≤ 100000 := by
  obtain ⟨hv, bd, m1, M1, r1⟩ := he_ok h2
  obtain ⟨_, _, m2, M2, r2⟩ := he_ok ((he_shift h1 h f u).trans h2)
  have e1 : IsMin (hL s st (sl lo hi b0 b1)) f u (HL s st n lo hi f u + b0) := by
    obtain ⟨a, t, t1, t2, t3⟩ := m1
    refine ⟨fun y y1 y2 => ?_, t, t1, t2, ?_⟩
    · rw [hL_shift hv h (by omega) (by omega)]; have := a y y1 y2; omega
    · rw [hL_shift hv h (by omega) (by omega), t3]
  have e2 : IsMax (hH s st (sh lo hi b0 b1)) f u (HH s st n lo hi f u + b1) := by
    obtain ⟨a, t, t1, t2, t3⟩ := M1
    refine ⟨fun y y1 y2 => ?_, t, t1, t2, ?_⟩
    · rw [hH_shift hv h (by omega) (by omega)]; have := a y y1 y2; omega
    · rw [hH_shift hv h (by omega) (by omega), t3]
  exact ⟨m2.uniq e1, M2.uniq e2, r2⟩
theorem ws_shift {s st : Int} {n : Nat} {lo hi : Nat → Int} {b0 b1 need : Int} (h1 : tval s st n lo hi = true) (h : ∀ i, i < n → gd lo hi b0 b1 i) (n1 : nd need = true) (n2 : nd (need - b0) = true) : WS s st n lo hi (need - b0) = WS s st n (sl lo hi b0 b1) (sh lo hi b0 b1) need := by
  have hv := tval_tv h1
  refine (ws_wn h1 n2).uniq ⟨fun t => ((ws_wn (tval_shift h1 h) n1).cov t).trans ⟨fun ⟨a1, a2, a3⟩ => ⟨a1, a2, ?_⟩, fun ⟨a1, a2, a3⟩ => ⟨a1, a2, ?_⟩⟩, (ws_wn (tval_shift h1 h) n1).ok, (ws_wn (tval_shift h1 h) n1).gap⟩
  · rw [hL_shift hv h a1 (by omega)] at a3; omega
  · rw [hL_shift hv h a1 (by omega)]; omega
theorem add_shift {a b c d b0 b1 : Int} (hs : sv b0 b1 = true) (r1 : -100000 ≤ a ∧ a ≤ b ∧ b ≤ 100000) (e1 : c = a + b0) (e2 : d = b + b1) (r2 : -100000 ≤ c ∧ c ≤ d ∧ d ≤ 100000) : aE a b b0 b1 = 0 ∧ Hid (aL a b b0 b1 = c) ∧ Hid (aH a b b0 b1 = d) := by
  have k1 : sv a b = true := sv_t (by omega)
  have k2 : sv (a + b0) (b + b1) = true := sv_t (by omega)
  refine ⟨by simp [aE, k1, hs, k2], Lib.hid (by simp [aL, k1, hs, k2, e1]), Lib.hid (by simp [aH, k1, hs, k2, e2])⟩
theorem sameL_refl (ws : List (Int × Int)) : sameL ws.length ws.length (L1 ws) (L2 ws) (L1 ws) (L2 ws) = true := decide_eq_true ⟨rfl, fun _ _ => ⟨rfl, rfl⟩⟩

end Go.Proofs.Ytmljnelmnagfoaa
