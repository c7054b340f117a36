/- Tide: the last time, and whether a table is valid. -/
import Derived.Test.YtmljnelmnagfoaaD
set_option linter.unusedVariables false
set_option linter.unusedSimpArgs false
namespace Go.Proofs.Ytmljnelmnagfoaa
open Go.RowKit
attribute [local go_sem] World.cell?_alloc_some frozen_alloc_some isSome_alloc isSome_setCell

theorem prod_bd {n : Nat} {st : Int} (h1 : 1 ≤ n) (h2 : n ≤ 200) (h3 : 1 ≤ st) (h4 : st ≤ 1000) : 0 ≤ ((n : Int) - 1) * st ∧ ((n : Int) - 1) * st ≤ 199000 := by
  have a : 0 ≤ ((n : Int) - 1) * st := Int.mul_nonneg (by omega) (by omega)
  have b : ((n : Int) - 1) * st ≤ 199 * 1000 := Int.mul_le_mul (by omega) h4 (by omega) (by omega)
  omega

set_option maxHeartbeats 1600000 in
theorem last_any (s st : Int) (p : Option Addr) (n c : Nat) (w : World) (s0 : 0 ≤ s) (s1 : s ≤ 10000000) (h1 : 1 ≤ n) (h2 : n ≤ 200) (h3 : 1 ≤ st) (h4 : st ≤ 1000) :
    Calls Try.prog 39 #[tv s st p n c] w fun e w' => e = .returned (.int .i64 (s + ((n : Int) - 1) * st)) ∧ Below w.heap.size w w' := by
  obtain ⟨p0, p1⟩ := prod_bd h1 h2 h3 h4
  go_enter Try.func39, Try.ntmps39
  go_wp2_with fail
  all_goals
    go_ret
    refine ⟨ri (by first | rfl | omega), ?_⟩
    (repeat' (first | (with_reducible assumption) | (with_reducible exact Below.refl _ _) | (with_reducible exact Cels.nil _) | (with_reducible refine Cels.cons ?_ ?_) | (with_reducible refine Own.mk ?_ ?_ ?_ ?_) | ((with_reducible refine Cel.new ?_ rfl); first | (with_reducible rfl) | omega | (simp; done) | (simp; omega)) | (with_reducible refine Cel.alloc ?_ _) | (with_reducible refine Cel.drew ?_) | (with_reducible refine Cel.setS ?_ _) | (with_reducible refine Has.set ?_ _ _) | (with_reducible exact Has.of (by assumption)) | (with_reducible refine Cel.setO ?_ ?_ _) | (with_reducible refine Cel.keep (by assumption) ?_) | (with_reducible refine Below.alloc ?_ ?_ _) | (with_reducible refine Below.drew ?_) | (with_reducible refine Below.setCell ?_ ?_ _) | (with_reducible refine below_keep ?_ ?_ (by assumption)) | omega | (simp; done) | (simp; omega)))

set_option maxHeartbeats 1600000 in
theorem rlast_any (s st : Int) (p : Option Addr) (n c : Nat) (w : World) (s0 : 0 ≤ s) (s1 : s ≤ 10000000) (h1 : 1 ≤ n) (h2 : n ≤ 200) (h3 : 1 ≤ st) (h4 : st ≤ 1000) :
    Calls Try.prog 14 #[tv s st p n c] w fun e w' => e = .returned (.int .i64 (s + ((n : Int) - 1) * st)) ∧ Below w.heap.size w w' := by
  obtain ⟨p0, p1⟩ := prod_bd h1 h2 h3 h4
  go_enter Try.func14, Try.ntmps14
  go_wp2_with fail
  all_goals
    go_ret
    refine ⟨ri (by first | rfl | omega), ?_⟩
    (repeat' (first | (with_reducible assumption) | (with_reducible exact Below.refl _ _) | (with_reducible exact Cels.nil _) | (with_reducible refine Cels.cons ?_ ?_) | (with_reducible refine Own.mk ?_ ?_ ?_ ?_) | ((with_reducible refine Cel.new ?_ rfl); first | (with_reducible rfl) | omega | (simp; done) | (simp; omega)) | (with_reducible refine Cel.alloc ?_ _) | (with_reducible refine Cel.drew ?_) | (with_reducible refine Cel.setS ?_ _) | (with_reducible refine Has.set ?_ _ _) | (with_reducible exact Has.of (by assumption)) | (with_reducible refine Cel.setO ?_ ?_ _) | (with_reducible refine Cel.keep (by assumption) ?_) | (with_reducible refine Below.alloc ?_ ?_ _) | (with_reducible refine Below.drew ?_) | (with_reducible refine Below.setCell ?_ ?_ _) | (with_reducible refine below_keep ?_ ?_ (by assumption)) | omega | (simp; done) | (simp; omega)))

set_option maxHeartbeats 1600000 in
theorem few_any (s st : Int) (p : Option Addr) (n c : Nat) (w : World)  :
    Calls Try.prog 12 #[tv s st p n c] w fun e w' => e = .returned (.bool (decide (n ≤ 12 ∧ st ≤ 60))) ∧ Below w.heap.size w w' := by
  go_enter Try.func12, Try.ntmps12
  go_wp2_with fail
  all_goals
    go_ret
    refine ⟨rb (by rw [Bool.eq_iff_iff]; simp; omega), ?_⟩
    (repeat' (first | (with_reducible assumption) | (with_reducible exact Below.refl _ _) | (with_reducible exact Cels.nil _) | (with_reducible refine Cels.cons ?_ ?_) | (with_reducible refine Own.mk ?_ ?_ ?_ ?_) | ((with_reducible refine Cel.new ?_ rfl); first | (with_reducible rfl) | omega | (simp; done) | (simp; omega)) | (with_reducible refine Cel.alloc ?_ _) | (with_reducible refine Cel.drew ?_) | (with_reducible refine Cel.setS ?_ _) | (with_reducible refine Has.set ?_ _ _) | (with_reducible exact Has.of (by assumption)) | (with_reducible refine Cel.setO ?_ ?_ _) | (with_reducible refine Cel.keep (by assumption) ?_) | (with_reducible refine Below.alloc ?_ ?_ _) | (with_reducible refine Below.drew ?_) | (with_reducible refine Below.setCell ?_ ?_ _) | (with_reducible refine below_keep ?_ ?_ (by assumption)) | omega | (simp; done) | (simp; omega)))

set_option maxHeartbeats 1600000 in
theorem alike_any (s st : Int) (p : Option Addr) (n c : Nat) (s' st' : Int) (p' : Option Addr) (n' c' : Nat) (w : World)  :
    Calls Try.prog 48 #[tv s st p n c, tv s' st' p' n' c'] w fun e w' => e = .returned (.bool (decide (s = s' ∧ st = st' ∧ n = n'))) ∧ Below w.heap.size w w' := by
  go_enter Try.func48, Try.ntmps48
  go_wp2_with fail
  all_goals
    go_ret
    refine ⟨rb (by rw [Bool.eq_iff_iff]; simp; omega), ?_⟩
    (repeat' (first | (with_reducible assumption) | (with_reducible exact Below.refl _ _) | (with_reducible exact Cels.nil _) | (with_reducible refine Cels.cons ?_ ?_) | (with_reducible refine Own.mk ?_ ?_ ?_ ?_) | ((with_reducible refine Cel.new ?_ rfl); first | (with_reducible rfl) | omega | (simp; done) | (simp; omega)) | (with_reducible refine Cel.alloc ?_ _) | (with_reducible refine Cel.drew ?_) | (with_reducible refine Cel.setS ?_ _) | (with_reducible refine Has.set ?_ _ _) | (with_reducible exact Has.of (by assumption)) | (with_reducible refine Cel.setO ?_ ?_ _) | (with_reducible refine Cel.keep (by assumption) ?_) | (with_reducible refine Below.alloc ?_ ?_ _) | (with_reducible refine Below.drew ?_) | (with_reducible refine Below.setCell ?_ ?_ _) | (with_reducible refine below_keep ?_ ?_ (by assumption)) | omega | (simp; done) | (simp; omega)))

theorem tm_bd {t : Int} (h : tm t = true) : 0 ≤ t ∧ t ≤ 10000000 := of_decide_eq_true h

set_option maxHeartbeats 1600000 in
theorem valid_b0 (s st : Int) (p : Option Addr) (n c : Nat) (lo hi : Nat → Int) (w : World) (q1 : tm s = false) :
    Calls Try.prog 24 #[tv s st p n c] w fun e w' => e = .returned (.bool false) ∧ Below w.heap.size w w' := by
  go_enter Try.func24, Try.ntmps24
  go_wp2_with (first | (go_at_call 38; refine (isTime_any _ _).mono ?_; rintro e w' ⟨rfl, rfl⟩))
  all_goals
    go_ret
    refine ⟨rfl, ?_⟩
    (repeat' (first | (with_reducible assumption) | (with_reducible exact Below.refl _ _) | (with_reducible exact Cels.nil _) | (with_reducible refine Cels.cons ?_ ?_) | (with_reducible refine Own.mk ?_ ?_ ?_ ?_) | ((with_reducible refine Cel.new ?_ rfl); first | (with_reducible rfl) | omega | (simp; done) | (simp; omega)) | (with_reducible refine Cel.alloc ?_ _) | (with_reducible refine Cel.drew ?_) | (with_reducible refine Cel.setS ?_ _) | (with_reducible refine Has.set ?_ _ _) | (with_reducible exact Has.of (by assumption)) | (with_reducible refine Cel.setO ?_ ?_ _) | (with_reducible refine Cel.keep (by assumption) ?_) | (with_reducible refine Below.alloc ?_ ?_ _) | (with_reducible refine Below.drew ?_) | (with_reducible refine Below.setCell ?_ ?_ _) | (with_reducible refine below_keep ?_ ?_ (by assumption)) | omega | (simp; done) | (simp; omega)))

set_option maxHeartbeats 1600000 in
theorem valid_b1 (s st : Int) (p : Option Addr) (n c : Nat) (lo hi : Nat → Int) (w : World) (q1 : tm s = true) (q2 : st < 1) :
    Calls Try.prog 24 #[tv s st p n c] w fun e w' => e = .returned (.bool false) ∧ Below w.heap.size w w' := by
  go_enter Try.func24, Try.ntmps24
  go_wp2_with (first | (go_at_call 38; refine (isTime_any _ _).mono ?_; rintro e w' ⟨rfl, rfl⟩))
  all_goals
    go_ret
    refine ⟨rfl, ?_⟩
    (repeat' (first | (with_reducible assumption) | (with_reducible exact Below.refl _ _) | (with_reducible exact Cels.nil _) | (with_reducible refine Cels.cons ?_ ?_) | (with_reducible refine Own.mk ?_ ?_ ?_ ?_) | ((with_reducible refine Cel.new ?_ rfl); first | (with_reducible rfl) | omega | (simp; done) | (simp; omega)) | (with_reducible refine Cel.alloc ?_ _) | (with_reducible refine Cel.drew ?_) | (with_reducible refine Cel.setS ?_ _) | (with_reducible refine Has.set ?_ _ _) | (with_reducible exact Has.of (by assumption)) | (with_reducible refine Cel.setO ?_ ?_ _) | (with_reducible refine Cel.keep (by assumption) ?_) | (with_reducible refine Below.alloc ?_ ?_ _) | (with_reducible refine Below.drew ?_) | (with_reducible refine Below.setCell ?_ ?_ _) | (with_reducible refine below_keep ?_ ?_ (by assumption)) | omega | (simp; done) | (simp; omega)))

set_option maxHeartbeats 1600000 in
theorem valid_b2 (s st : Int) (p : Option Addr) (n c : Nat) (lo hi : Nat → Int) (w : World) (q1 : tm s = true) (q2 : ¬ st < 1) (q3 : 1000 < st) :
    Calls Try.prog 24 #[tv s st p n c] w fun e w' => e = .returned (.bool false) ∧ Below w.heap.size w w' := by
  go_enter Try.func24, Try.ntmps24
  go_wp2_with (first | (go_at_call 38; refine (isTime_any _ _).mono ?_; rintro e w' ⟨rfl, rfl⟩))
  all_goals
    go_ret
    refine ⟨rfl, ?_⟩
    (repeat' (first | (with_reducible assumption) | (with_reducible exact Below.refl _ _) | (with_reducible exact Cels.nil _) | (with_reducible refine Cels.cons ?_ ?_) | (with_reducible refine Own.mk ?_ ?_ ?_ ?_) | ((with_reducible refine Cel.new ?_ rfl); first | (with_reducible rfl) | omega | (simp; done) | (simp; omega)) | (with_reducible refine Cel.alloc ?_ _) | (with_reducible refine Cel.drew ?_) | (with_reducible refine Cel.setS ?_ _) | (with_reducible refine Has.set ?_ _ _) | (with_reducible exact Has.of (by assumption)) | (with_reducible refine Cel.setO ?_ ?_ _) | (with_reducible refine Cel.keep (by assumption) ?_) | (with_reducible refine Below.alloc ?_ ?_ _) | (with_reducible refine Below.drew ?_) | (with_reducible refine Below.setCell ?_ ?_ _) | (with_reducible refine below_keep ?_ ?_ (by assumption)) | omega | (simp; done) | (simp; omega)))

set_option maxHeartbeats 1600000 in
theorem valid_b3 (s st : Int) (p : Option Addr) (n c : Nat) (lo hi : Nat → Int) (w : World) (q1 : tm s = true) (q2 : ¬ st < 1) (q3 : ¬ 1000 < st) (q4 : n = 0) :
    Calls Try.prog 24 #[tv s st p n c] w fun e w' => e = .returned (.bool false) ∧ Below w.heap.size w w' := by
  subst q4
  go_enter Try.func24, Try.ntmps24
  go_wp2_with (first | (go_at_call 38; refine (isTime_any _ _).mono ?_; rintro e w' ⟨rfl, rfl⟩))
  all_goals
    go_ret
    refine ⟨rfl, ?_⟩
    (repeat' (first | (with_reducible assumption) | (with_reducible exact Below.refl _ _) | (with_reducible exact Cels.nil _) | (with_reducible refine Cels.cons ?_ ?_) | (with_reducible refine Own.mk ?_ ?_ ?_ ?_) | ((with_reducible refine Cel.new ?_ rfl); first | (with_reducible rfl) | omega | (simp; done) | (simp; omega)) | (with_reducible refine Cel.alloc ?_ _) | (with_reducible refine Cel.drew ?_) | (with_reducible refine Cel.setS ?_ _) | (with_reducible refine Has.set ?_ _ _) | (with_reducible exact Has.of (by assumption)) | (with_reducible refine Cel.setO ?_ ?_ _) | (with_reducible refine Cel.keep (by assumption) ?_) | (with_reducible refine Below.alloc ?_ ?_ _) | (with_reducible refine Below.drew ?_) | (with_reducible refine Below.setCell ?_ ?_ _) | (with_reducible refine below_keep ?_ ?_ (by assumption)) | omega | (simp; done) | (simp; omega)))

set_option maxHeartbeats 1600000 in
theorem valid_b4 (s st : Int) (p : Option Addr) (n c : Nat) (lo hi : Nat → Int) (w : World) (q1 : tm s = true) (q2 : ¬ st < 1) (q3 : ¬ 1000 < st) (q4 : 1 ≤ n) (q5 : 200 < n) :
    Calls Try.prog 24 #[tv s st p n c] w fun e w' => e = .returned (.bool false) ∧ Below w.heap.size w w' := by
  go_enter Try.func24, Try.ntmps24
  go_wp2_with (first | (go_at_call 38; refine (isTime_any _ _).mono ?_; rintro e w' ⟨rfl, rfl⟩))
  all_goals
    go_ret
    refine ⟨rfl, ?_⟩
    (repeat' (first | (with_reducible assumption) | (with_reducible exact Below.refl _ _) | (with_reducible exact Cels.nil _) | (with_reducible refine Cels.cons ?_ ?_) | (with_reducible refine Own.mk ?_ ?_ ?_ ?_) | ((with_reducible refine Cel.new ?_ rfl); first | (with_reducible rfl) | omega | (simp; done) | (simp; omega)) | (with_reducible refine Cel.alloc ?_ _) | (with_reducible refine Cel.drew ?_) | (with_reducible refine Cel.setS ?_ _) | (with_reducible refine Has.set ?_ _ _) | (with_reducible exact Has.of (by assumption)) | (with_reducible refine Cel.setO ?_ ?_ _) | (with_reducible refine Cel.keep (by assumption) ?_) | (with_reducible refine Below.alloc ?_ ?_ _) | (with_reducible refine Below.drew ?_) | (with_reducible refine Below.setCell ?_ ?_ _) | (with_reducible refine below_keep ?_ ?_ (by assumption)) | omega | (simp; done) | (simp; omega)))

set_option maxHeartbeats 1600000 in
theorem valid_b5 (s st : Int) (p : Option Addr) (n c : Nat) (lo hi : Nat → Int) (w : World) (q1 : tm s = true) (q2 : ¬ st < 1) (q3 : ¬ 1000 < st) (h1 : 1 ≤ n) (h2 : n ≤ 200) (q6 : 10000000 < s + ((n : Int) - 1) * st) :
    Calls Try.prog 24 #[tv s st p n c] w fun e w' => e = .returned (.bool false) ∧ Below w.heap.size w w' := by
  obtain ⟨s0, s1⟩ := tm_bd q1
  have h3 : 1 ≤ st := by omega
  have h4 : st ≤ 1000 := by omega
  have q4 : ((n : Int) == 0) = false := by simp; omega
  have q4b : ¬ ((n : Int) < 1) := by omega
  have q5 : ¬ (200 < (n : Int)) := by omega
  obtain ⟨p0, p1⟩ := prod_bd h1 h2 h3 h4
  have tl : tm (s + ((n : Int) - 1) * st) = false := decide_eq_false (by omega)
  go_enter Try.func24, Try.ntmps24
  go_wp2_with (first | (go_at_call 38; refine (isTime_any _ _).mono ?_; rintro e w' ⟨rfl, rfl⟩) | (go_at_call 39; refine (last_any s st p n c _ s0 s1 h1 h2 h3 h4).mono ?_; rintro e w' ⟨rfl, hb⟩; have hs := hb.size; (try simp at hs); have O : Own w (w.heap.size + 1) w' [(w.heap.size, 0, .int .i64 s), (w.heap.size, 1, .int .i64 st), (w.heap.size, 2, .slice p n c)] := (by first | exact Own.keep (by assumption) hb | (repeat' (first | (with_reducible assumption) | (with_reducible exact Below.refl _ _) | (with_reducible exact Cels.nil _) | (with_reducible refine Cels.cons ?_ ?_) | (with_reducible refine Own.mk ?_ ?_ ?_ ?_) | ((with_reducible refine Cel.new ?_ rfl); first | (with_reducible rfl) | omega | (simp; done) | (simp; omega)) | (with_reducible refine Cel.alloc ?_ _) | (with_reducible refine Cel.drew ?_) | (with_reducible refine Cel.setS ?_ _) | (with_reducible refine Has.set ?_ _ _) | (with_reducible exact Has.of (by assumption)) | (with_reducible refine Cel.setO ?_ ?_ _) | (with_reducible refine Cel.keep (by assumption) ?_) | (with_reducible refine Below.alloc ?_ ?_ _) | (with_reducible refine Below.drew ?_) | (with_reducible refine Below.setCell ?_ ?_ _) | (with_reducible refine below_keep ?_ ?_ (by assumption)) | omega | (simp; done) | (simp; omega)))); have hB := O.below; have hz := O.size; have S0 : Cel w' (w.heap.size) 0 (.int .i64 s) := O.cels.1; have S1 : Cel w' (w.heap.size) 1 (.int .i64 st) := O.cels.2.1; have S2 : Cel w' (w.heap.size) 2 (.slice p n c) := O.cels.2.2.1))
  all_goals
    go_ret
    refine ⟨rfl, ?_⟩
    (repeat' (first | (with_reducible assumption) | (with_reducible exact Below.refl _ _) | (with_reducible exact Cels.nil _) | (with_reducible refine Cels.cons ?_ ?_) | (with_reducible refine Own.mk ?_ ?_ ?_ ?_) | ((with_reducible refine Cel.new ?_ rfl); first | (with_reducible rfl) | omega | (simp; done) | (simp; omega)) | (with_reducible refine Cel.alloc ?_ _) | (with_reducible refine Cel.drew ?_) | (with_reducible refine Cel.setS ?_ _) | (with_reducible refine Has.set ?_ _ _) | (with_reducible exact Has.of (by assumption)) | (with_reducible refine Cel.setO ?_ ?_ _) | (with_reducible refine Cel.keep (by assumption) ?_) | (with_reducible refine Below.alloc ?_ ?_ _) | (with_reducible refine Below.drew ?_) | (with_reducible refine Below.setCell ?_ ?_ _) | (with_reducible refine below_keep ?_ ?_ (by assumption)) | omega | (simp; done) | (simp; omega)))

set_option maxHeartbeats 3200000 in
theorem valid_ok (s st : Int) (p : Option Addr) (n c : Nat) (lo hi : Nat → Int) (w : World) (q1 : tm s = true) (q2 : ¬ st < 1) (q3 : ¬ 1000 < st) (h1 : 1 ≤ n) (h2 : n ≤ 200) (q6 : s + ((n : Int) - 1) * st ≤ 10000000) (hL : Lie w p n lo hi) :
    Calls Try.prog 24 #[tv s st p n c] w fun e w' => e = .returned (.bool (allH n lo hi)) ∧ Below w.heap.size w w' := by
  obtain ⟨s0, s1⟩ := tm_bd q1
  have h3 : 1 ≤ st := by omega
  have h4 : st ≤ 1000 := by omega
  have q4 : ((n : Int) == 0) = false := by simp; omega
  have q4b : ¬ ((n : Int) < 1) := by omega
  have q5 : ¬ (200 < (n : Int)) := by omega
  obtain ⟨p0, p1⟩ := prod_bd h1 h2 h3 h4
  have tl : tm (s + ((n : Int) - 1) * st) = true := decide_eq_true (by omega)
  go_enter Try.func24, Try.ntmps24
  go_wp2_with (first | (go_at_call 38; refine (isTime_any _ _).mono ?_; rintro e w' ⟨rfl, rfl⟩) | (go_at_call 39; refine (last_any s st p n c _ s0 s1 h1 h2 h3 h4).mono ?_; rintro e w' ⟨rfl, hb⟩; have hs := hb.size; (try simp at hs); have O : Own w (w.heap.size + 1) w' [(w.heap.size, 0, .int .i64 s), (w.heap.size, 1, .int .i64 st), (w.heap.size, 2, .slice p n c)] := (by first | exact Own.keep (by assumption) hb | (repeat' (first | (with_reducible assumption) | (with_reducible exact Below.refl _ _) | (with_reducible exact Cels.nil _) | (with_reducible refine Cels.cons ?_ ?_) | (with_reducible refine Own.mk ?_ ?_ ?_ ?_) | ((with_reducible refine Cel.new ?_ rfl); first | (with_reducible rfl) | omega | (simp; done) | (simp; omega)) | (with_reducible refine Cel.alloc ?_ _) | (with_reducible refine Cel.drew ?_) | (with_reducible refine Cel.setS ?_ _) | (with_reducible refine Has.set ?_ _ _) | (with_reducible exact Has.of (by assumption)) | (with_reducible refine Cel.setO ?_ ?_ _) | (with_reducible refine Cel.keep (by assumption) ?_) | (with_reducible refine Below.alloc ?_ ?_ _) | (with_reducible refine Below.drew ?_) | (with_reducible refine Below.setCell ?_ ?_ _) | (with_reducible refine below_keep ?_ ?_ (by assumption)) | omega | (simp; done) | (simp; omega)))); have hB := O.below; have hz := O.size; have S0 : Cel w' (w.heap.size) 0 (.int .i64 s) := O.cels.1; have S1 : Cel w' (w.heap.size) 1 (.int .i64 st) := O.cels.2.1; have S2 : Cel w' (w.heap.size) 2 (.slice p n c) := O.cels.2.2.1))
  go_loopw [40] (fun i wr => ∃ k : Nat, k ≤ n ∧ i = .int .i64 k ∧ (∀ j, j < k → hv (lo j) (hi j) = true) ∧ Own w (w.heap.size + 1) wr [(w.heap.size, 0, .int .i64 s), (w.heap.size, 1, .int .i64 st), (w.heap.size, 2, .slice p n c)]) (fun i _ => n - (intOf i).toNat)
  case atStart => exact ⟨0, Nat.zero_le _, rfl, fun j hj => absurd hj (Nat.not_lt_zero _), by (repeat' (first | (with_reducible assumption) | (with_reducible exact Below.refl _ _) | (with_reducible exact Cels.nil _) | (with_reducible refine Cels.cons ?_ ?_) | (with_reducible refine Own.mk ?_ ?_ ?_ ?_) | ((with_reducible refine Cel.new ?_ rfl); first | (with_reducible rfl) | omega | (simp; done) | (simp; omega)) | (with_reducible refine Cel.alloc ?_ _) | (with_reducible refine Cel.drew ?_) | (with_reducible refine Cel.setS ?_ _) | (with_reducible refine Has.set ?_ _ _) | (with_reducible exact Has.of (by assumption)) | (with_reducible refine Cel.setO ?_ ?_ _) | (with_reducible refine Cel.keep (by assumption) ?_) | (with_reducible refine Below.alloc ?_ ?_ _) | (with_reducible refine Below.drew ?_) | (with_reducible refine Below.setCell ?_ ?_ _) | (with_reducible refine below_keep ?_ ?_ (by assumption)) | omega | (simp; done) | (simp; omega)))⟩
  case round =>
    obtain ⟨k, hk, rfl, hall, O⟩ := hrel
    have hL2 := hL.keep O.below
    have hB := O.below; have hz := O.size; have S0 : Cel wr (w.heap.size) 0 (.int .i64 s) := O.cels.1; have S1 : Cel wr (w.heap.size) 1 (.int .i64 st) := O.cels.2.1; have S2 : Cel wr (w.heap.size) 2 (.slice p n c) := O.cels.2.2.1
    rcases Nat.lt_or_ge k n with hlt | hge
    · obtain hn0 | ⟨b, off, rfl, hc⟩ := hL2
      · omega
      have c0 := (hc k hlt).1
      have c1 := (hc k hlt).2
      clear hc
      cases hv0 : hv (lo k) (hi k) with
      | false =>
        go_wp2_with (go_at_call 42; refine (isHeight_any (lo k) (hi k) _).mono ?_; rintro e w' ⟨rfl, hb⟩; rw [hv0])
        go_ret
        refine ⟨rb ?_, ?_⟩
        · symm; exact decide_eq_false (fun hh => by rw [hh k hlt] at hv0; cases hv0)
        · (repeat' (first | (with_reducible assumption) | (with_reducible exact Below.refl _ _) | (with_reducible exact Cels.nil _) | (with_reducible refine Cels.cons ?_ ?_) | (with_reducible refine Own.mk ?_ ?_ ?_ ?_) | ((with_reducible refine Cel.new ?_ rfl); first | (with_reducible rfl) | omega | (simp; done) | (simp; omega)) | (with_reducible refine Cel.alloc ?_ _) | (with_reducible refine Cel.drew ?_) | (with_reducible refine Cel.setS ?_ _) | (with_reducible refine Has.set ?_ _ _) | (with_reducible exact Has.of (by assumption)) | (with_reducible refine Cel.setO ?_ ?_ _) | (with_reducible refine Cel.keep (by assumption) ?_) | (with_reducible refine Below.alloc ?_ ?_ _) | (with_reducible refine Below.drew ?_) | (with_reducible refine Below.setCell ?_ ?_ _) | (with_reducible refine below_keep ?_ ?_ (by assumption)) | omega | (simp; done) | (simp; omega)))
      | true =>
        go_wp2_with (go_at_call 42; refine (isHeight_any (lo k) (hi k) _).mono ?_; rintro e w' ⟨rfl, hb⟩; rw [hv0])
        go_roundw
        case rel =>
          refine ⟨k + 1, by omega, by go_num, fun j hj => ?_, ?_⟩
          · rcases Nat.lt_or_ge j k with h | h
            · exact hall j h
            · obtain rfl : j = k := by omega
              exact hv0
          · first | exact Own.keep (by (repeat' (first | (with_reducible assumption) | (with_reducible exact Below.refl _ _) | (with_reducible exact Cels.nil _) | (with_reducible refine Cels.cons ?_ ?_) | (with_reducible refine Own.mk ?_ ?_ ?_ ?_) | ((with_reducible refine Cel.new ?_ rfl); first | (with_reducible rfl) | omega | (simp; done) | (simp; omega)) | (with_reducible refine Cel.alloc ?_ _) | (with_reducible refine Cel.drew ?_) | (with_reducible refine Cel.setS ?_ _) | (with_reducible refine Has.set ?_ _ _) | (with_reducible exact Has.of (by assumption)) | (with_reducible refine Cel.setO ?_ ?_ _) | (with_reducible refine Cel.keep (by assumption) ?_) | (with_reducible refine Below.alloc ?_ ?_ _) | (with_reducible refine Below.drew ?_) | (with_reducible refine Below.setCell ?_ ?_ _) | (with_reducible refine below_keep ?_ ?_ (by assumption)) | omega | (simp; done) | (simp; omega)))) hb | (repeat' (first | (with_reducible assumption) | (with_reducible exact Below.refl _ _) | (with_reducible exact Cels.nil _) | (with_reducible refine Cels.cons ?_ ?_) | (with_reducible refine Own.mk ?_ ?_ ?_ ?_) | ((with_reducible refine Cel.new ?_ rfl); first | (with_reducible rfl) | omega | (simp; done) | (simp; omega)) | (with_reducible refine Cel.alloc ?_ _) | (with_reducible refine Cel.drew ?_) | (with_reducible refine Cel.setS ?_ _) | (with_reducible refine Has.set ?_ _ _) | (with_reducible exact Has.of (by assumption)) | (with_reducible refine Cel.setO ?_ ?_ _) | (with_reducible refine Cel.keep (by assumption) ?_) | (with_reducible refine Below.alloc ?_ ?_ _) | (with_reducible refine Below.drew ?_) | (with_reducible refine Below.setCell ?_ ?_ _) | (with_reducible refine below_keep ?_ ?_ (by assumption)) | omega | (simp; done) | (simp; omega)))
        case measure => simp [intOf]; omega
    · obtain rfl : k = n := by omega
      go_wp2_with fail
      go_ret
      refine ⟨rb ?_, ?_⟩
      · symm; exact decide_eq_true hall
      · (repeat' (first | (with_reducible assumption) | (with_reducible exact Below.refl _ _) | (with_reducible exact Cels.nil _) | (with_reducible refine Cels.cons ?_ ?_) | (with_reducible refine Own.mk ?_ ?_ ?_ ?_) | ((with_reducible refine Cel.new ?_ rfl); first | (with_reducible rfl) | omega | (simp; done) | (simp; omega)) | (with_reducible refine Cel.alloc ?_ _) | (with_reducible refine Cel.drew ?_) | (with_reducible refine Cel.setS ?_ _) | (with_reducible refine Has.set ?_ _ _) | (with_reducible exact Has.of (by assumption)) | (with_reducible refine Cel.setO ?_ ?_ _) | (with_reducible refine Cel.keep (by assumption) ?_) | (with_reducible refine Below.alloc ?_ ?_ _) | (with_reducible refine Below.drew ?_) | (with_reducible refine Below.setCell ?_ ?_ _) | (with_reducible refine below_keep ?_ ?_ (by assumption)) | omega | (simp; done) | (simp; omega)))

theorem valid_any (s st : Int) (p : Option Addr) (n c : Nat) (lo hi : Nat → Int) (w : World) (hL : Lie w p n lo hi) :
    Calls Try.prog 24 #[tv s st p n c] w fun e w' => e = .returned (.bool (tval s st n lo hi)) ∧ Below w.heap.size w w' := by
  by_cases g : 0 ≤ s ∧ s ≤ 10000000 ∧ 1 ≤ st ∧ st ≤ 1000 ∧ 1 ≤ n ∧ n ≤ 200 ∧ s + ((n : Int) - 1) * st ≤ 10000000
  · rw [tval, decide_eq_true g, Bool.true_and]
    obtain ⟨g1, g2, g3, g4, g5, g6, g7⟩ := g
    exact valid_ok s st p n c lo hi w (decide_eq_true ⟨g1, g2⟩) (by omega) (by omega) g5 g6 g7 hL
  · rw [tval, decide_eq_false g, Bool.false_and]
    cases q1 : tm s with
    | false => exact valid_b0 s st p n c lo hi w q1
    | true =>
      by_cases q2 : st < 1
      · exact valid_b1 s st p n c lo hi w q1 q2
      by_cases q3 : 1000 < st
      · exact valid_b2 s st p n c lo hi w q1 q2 q3
      by_cases q4 : n = 0
      · exact valid_b3 s st p n c lo hi w q1 q2 q3 q4
      by_cases q5 : 200 < n
      · exact valid_b4 s st p n c lo hi w q1 q2 q3 (by omega) q5
      exact valid_b5 s st p n c lo hi w q1 q2 q3 (by omega) (by omega) (by obtain ⟨a, b⟩ := tm_bd q1; omega)

end Go.Proofs.Ytmljnelmnagfoaa
