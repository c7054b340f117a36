/- Tide: whether a table is valid, of the other text. -/
import Derived.Test.YtmljnelmnagfoaaE
set_option linter.unusedVariables false
set_option linter.unusedSimpArgs false
namespace Go.Proofs.Ytmljnelmnagfoaa
open Go.RowKit
attribute [local go_sem] World.cell?_alloc_some frozen_alloc_some isSome_alloc isSome_setCell

set_option maxHeartbeats 1600000 in
theorem rvalid_b0 (s st : Int) (p : Option Addr) (n c : Nat) (lo hi : Nat → Int) (w : World) (q1 : tm s = false) :
    Calls Try.prog 13 #[tv s st p n c] w fun e w' => e = .returned (.bool false) ∧ Below w.heap.size w w' := by
  go_enter Try.func13, Try.ntmps13
  go_wp2_with (first | (go_at_call 19; refine (rTime_any _ _).mono ?_; rintro e w' ⟨rfl, rfl⟩))
  all_goals
    go_ret
    refine ⟨rfl, ?_⟩
    (repeat' (first | (with_reducible assumption) | (with_reducible exact Below.refl _ _) | (with_reducible exact Cels.nil _) | (with_reducible refine Cels.cons ?_ ?_) | (with_reducible refine Own.mk ?_ ?_ ?_ ?_) | ((with_reducible refine Cel.new ?_ rfl); first | (with_reducible rfl) | omega | (simp; done) | (simp; omega)) | (with_reducible refine Cel.alloc ?_ _) | (with_reducible refine Cel.drew ?_) | (with_reducible refine Cel.setS ?_ _) | (with_reducible refine Has.set ?_ _ _) | (with_reducible exact Has.of (by assumption)) | (with_reducible refine Cel.setO ?_ ?_ _) | (with_reducible refine Cel.keep (by assumption) ?_) | (with_reducible refine Below.alloc ?_ ?_ _) | (with_reducible refine Below.drew ?_) | (with_reducible refine Below.setCell ?_ ?_ _) | (with_reducible refine below_keep ?_ ?_ (by assumption)) | omega | (simp; done) | (simp; omega)))

set_option maxHeartbeats 1600000 in
theorem rvalid_b1 (s st : Int) (p : Option Addr) (n c : Nat) (lo hi : Nat → Int) (w : World) (q1 : tm s = true) (q2 : st < 1) :
    Calls Try.prog 13 #[tv s st p n c] w fun e w' => e = .returned (.bool false) ∧ Below w.heap.size w w' := by
  go_enter Try.func13, Try.ntmps13
  go_wp2_with (first | (go_at_call 19; refine (rTime_any _ _).mono ?_; rintro e w' ⟨rfl, rfl⟩))
  all_goals
    go_ret
    refine ⟨rfl, ?_⟩
    (repeat' (first | (with_reducible assumption) | (with_reducible exact Below.refl _ _) | (with_reducible exact Cels.nil _) | (with_reducible refine Cels.cons ?_ ?_) | (with_reducible refine Own.mk ?_ ?_ ?_ ?_) | ((with_reducible refine Cel.new ?_ rfl); first | (with_reducible rfl) | omega | (simp; done) | (simp; omega)) | (with_reducible refine Cel.alloc ?_ _) | (with_reducible refine Cel.drew ?_) | (with_reducible refine Cel.setS ?_ _) | (with_reducible refine Has.set ?_ _ _) | (with_reducible exact Has.of (by assumption)) | (with_reducible refine Cel.setO ?_ ?_ _) | (with_reducible refine Cel.keep (by assumption) ?_) | (with_reducible refine Below.alloc ?_ ?_ _) | (with_reducible refine Below.drew ?_) | (with_reducible refine Below.setCell ?_ ?_ _) | (with_reducible refine below_keep ?_ ?_ (by assumption)) | omega | (simp; done) | (simp; omega)))

set_option maxHeartbeats 1600000 in
theorem rvalid_b2 (s st : Int) (p : Option Addr) (n c : Nat) (lo hi : Nat → Int) (w : World) (q1 : tm s = true) (q2 : ¬ st < 1) (q3 : 1000 < st) :
    Calls Try.prog 13 #[tv s st p n c] w fun e w' => e = .returned (.bool false) ∧ Below w.heap.size w w' := by
  go_enter Try.func13, Try.ntmps13
  go_wp2_with (first | (go_at_call 19; refine (rTime_any _ _).mono ?_; rintro e w' ⟨rfl, rfl⟩))
  all_goals
    go_ret
    refine ⟨rfl, ?_⟩
    (repeat' (first | (with_reducible assumption) | (with_reducible exact Below.refl _ _) | (with_reducible exact Cels.nil _) | (with_reducible refine Cels.cons ?_ ?_) | (with_reducible refine Own.mk ?_ ?_ ?_ ?_) | ((with_reducible refine Cel.new ?_ rfl); first | (with_reducible rfl) | omega | (simp; done) | (simp; omega)) | (with_reducible refine Cel.alloc ?_ _) | (with_reducible refine Cel.drew ?_) | (with_reducible refine Cel.setS ?_ _) | (with_reducible refine Has.set ?_ _ _) | (with_reducible exact Has.of (by assumption)) | (with_reducible refine Cel.setO ?_ ?_ _) | (with_reducible refine Cel.keep (by assumption) ?_) | (with_reducible refine Below.alloc ?_ ?_ _) | (with_reducible refine Below.drew ?_) | (with_reducible refine Below.setCell ?_ ?_ _) | (with_reducible refine below_keep ?_ ?_ (by assumption)) | omega | (simp; done) | (simp; omega)))

set_option maxHeartbeats 1600000 in
theorem rvalid_b3 (s st : Int) (p : Option Addr) (n c : Nat) (lo hi : Nat → Int) (w : World) (q1 : tm s = true) (q2 : ¬ st < 1) (q3 : ¬ 1000 < st) (q4 : n = 0) :
    Calls Try.prog 13 #[tv s st p n c] w fun e w' => e = .returned (.bool false) ∧ Below w.heap.size w w' := by
  subst q4
  go_enter Try.func13, Try.ntmps13
  go_wp2_with (first | (go_at_call 19; refine (rTime_any _ _).mono ?_; rintro e w' ⟨rfl, rfl⟩))
  all_goals
    go_ret
    refine ⟨rfl, ?_⟩
    (repeat' (first | (with_reducible assumption) | (with_reducible exact Below.refl _ _) | (with_reducible exact Cels.nil _) | (with_reducible refine Cels.cons ?_ ?_) | (with_reducible refine Own.mk ?_ ?_ ?_ ?_) | ((with_reducible refine Cel.new ?_ rfl); first | (with_reducible rfl) | omega | (simp; done) | (simp; omega)) | (with_reducible refine Cel.alloc ?_ _) | (with_reducible refine Cel.drew ?_) | (with_reducible refine Cel.setS ?_ _) | (with_reducible refine Has.set ?_ _ _) | (with_reducible exact Has.of (by assumption)) | (with_reducible refine Cel.setO ?_ ?_ _) | (with_reducible refine Cel.keep (by assumption) ?_) | (with_reducible refine Below.alloc ?_ ?_ _) | (with_reducible refine Below.drew ?_) | (with_reducible refine Below.setCell ?_ ?_ _) | (with_reducible refine below_keep ?_ ?_ (by assumption)) | omega | (simp; done) | (simp; omega)))

set_option maxHeartbeats 1600000 in
theorem rvalid_b4 (s st : Int) (p : Option Addr) (n c : Nat) (lo hi : Nat → Int) (w : World) (q1 : tm s = true) (q2 : ¬ st < 1) (q3 : ¬ 1000 < st) (q4 : 1 ≤ n) (q5 : 200 < n) :
    Calls Try.prog 13 #[tv s st p n c] w fun e w' => e = .returned (.bool false) ∧ Below w.heap.size w w' := by
  go_enter Try.func13, Try.ntmps13
  go_wp2_with (first | (go_at_call 19; refine (rTime_any _ _).mono ?_; rintro e w' ⟨rfl, rfl⟩))
  all_goals
    go_ret
    refine ⟨rfl, ?_⟩
    (repeat' (first | (with_reducible assumption) | (with_reducible exact Below.refl _ _) | (with_reducible exact Cels.nil _) | (with_reducible refine Cels.cons ?_ ?_) | (with_reducible refine Own.mk ?_ ?_ ?_ ?_) | ((with_reducible refine Cel.new ?_ rfl); first | (with_reducible rfl) | omega | (simp; done) | (simp; omega)) | (with_reducible refine Cel.alloc ?_ _) | (with_reducible refine Cel.drew ?_) | (with_reducible refine Cel.setS ?_ _) | (with_reducible refine Has.set ?_ _ _) | (with_reducible exact Has.of (by assumption)) | (with_reducible refine Cel.setO ?_ ?_ _) | (with_reducible refine Cel.keep (by assumption) ?_) | (with_reducible refine Below.alloc ?_ ?_ _) | (with_reducible refine Below.drew ?_) | (with_reducible refine Below.setCell ?_ ?_ _) | (with_reducible refine below_keep ?_ ?_ (by assumption)) | omega | (simp; done) | (simp; omega)))

set_option maxHeartbeats 1600000 in
theorem rvalid_b5 (s st : Int) (p : Option Addr) (n c : Nat) (lo hi : Nat → Int) (w : World) (q1 : tm s = true) (q2 : ¬ st < 1) (q3 : ¬ 1000 < st) (h1 : 1 ≤ n) (h2 : n ≤ 200) (q6 : 10000000 < s + ((n : Int) - 1) * st) :
    Calls Try.prog 13 #[tv s st p n c] w fun e w' => e = .returned (.bool false) ∧ Below w.heap.size w w' := by
  obtain ⟨s0, s1⟩ := tm_bd q1
  have h3 : 1 ≤ st := by omega
  have h4 : st ≤ 1000 := by omega
  have q4 : ((n : Int) == 0) = false := by simp; omega
  have q4b : ¬ ((n : Int) < 1) := by omega
  have q5 : ¬ (200 < (n : Int)) := by omega
  obtain ⟨p0, p1⟩ := prod_bd h1 h2 h3 h4
  go_enter Try.func13, Try.ntmps13
  go_wp2_with (first | (go_at_call 19; refine (rTime_any _ _).mono ?_; rintro e w' ⟨rfl, rfl⟩))
  all_goals
    go_ret
    refine ⟨rfl, ?_⟩
    (repeat' (first | (with_reducible assumption) | (with_reducible exact Below.refl _ _) | (with_reducible exact Cels.nil _) | (with_reducible refine Cels.cons ?_ ?_) | (with_reducible refine Own.mk ?_ ?_ ?_ ?_) | ((with_reducible refine Cel.new ?_ rfl); first | (with_reducible rfl) | omega | (simp; done) | (simp; omega)) | (with_reducible refine Cel.alloc ?_ _) | (with_reducible refine Cel.drew ?_) | (with_reducible refine Cel.setS ?_ _) | (with_reducible refine Has.set ?_ _ _) | (with_reducible exact Has.of (by assumption)) | (with_reducible refine Cel.setO ?_ ?_ _) | (with_reducible refine Cel.keep (by assumption) ?_) | (with_reducible refine Below.alloc ?_ ?_ _) | (with_reducible refine Below.drew ?_) | (with_reducible refine Below.setCell ?_ ?_ _) | (with_reducible refine below_keep ?_ ?_ (by assumption)) | omega | (simp; done) | (simp; omega)))

set_option maxHeartbeats 3200000 in
theorem rvalid_ok (s st : Int) (p : Option Addr) (n c : Nat) (lo hi : Nat → Int) (w : World) (q1 : tm s = true) (q2 : ¬ st < 1) (q3 : ¬ 1000 < st) (h1 : 1 ≤ n) (h2 : n ≤ 200) (q6 : s + ((n : Int) - 1) * st ≤ 10000000) (hL : Lie w p n lo hi) :
    Calls Try.prog 13 #[tv s st p n c] w fun e w' => e = .returned (.bool (allH n lo hi)) ∧ Below w.heap.size w w' := by
  obtain ⟨s0, s1⟩ := tm_bd q1
  have h3 : 1 ≤ st := by omega
  have h4 : st ≤ 1000 := by omega
  have q4 : ((n : Int) == 0) = false := by simp; omega
  have q4b : ¬ ((n : Int) < 1) := by omega
  have q5 : ¬ (200 < (n : Int)) := by omega
  obtain ⟨p0, p1⟩ := prod_bd h1 h2 h3 h4
  go_enter Try.func13, Try.ntmps13
  go_wp2_with (first | (go_at_call 19; refine (rTime_any _ _).mono ?_; rintro e w' ⟨rfl, rfl⟩))
  go_loopw [5] (fun i wr => ∃ k : Nat, k ≤ n ∧ i = .int .i64 k ∧ (∀ j, j < k → hv (lo j) (hi j) = true) ∧ Own w (w.heap.size + 1) wr [(w.heap.size, 0, .int .i64 s), (w.heap.size, 1, .int .i64 st), (w.heap.size, 2, .slice p n c)]) (fun i _ => n - (intOf i).toNat)
  case atStart => exact ⟨0, Nat.zero_le _, rfl, fun j hj => absurd hj (Nat.not_lt_zero _), by (repeat' (first | (with_reducible assumption) | (with_reducible exact Below.refl _ _) | (with_reducible exact Cels.nil _) | (with_reducible refine Cels.cons ?_ ?_) | (with_reducible refine Own.mk ?_ ?_ ?_ ?_) | ((with_reducible refine Cel.new ?_ rfl); first | (with_reducible rfl) | omega | (simp; done) | (simp; omega)) | (with_reducible refine Cel.alloc ?_ _) | (with_reducible refine Cel.drew ?_) | (with_reducible refine Cel.setS ?_ _) | (with_reducible refine Has.set ?_ _ _) | (with_reducible exact Has.of (by assumption)) | (with_reducible refine Cel.setO ?_ ?_ _) | (with_reducible refine Cel.keep (by assumption) ?_) | (with_reducible refine Below.alloc ?_ ?_ _) | (with_reducible refine Below.drew ?_) | (with_reducible refine Below.setCell ?_ ?_ _) | (with_reducible refine below_keep ?_ ?_ (by assumption)) | omega | (simp; done) | (simp; omega)))⟩
  case round =>
    obtain ⟨k, hk, rfl, hall, O⟩ := hrel
    have hL2 := hL.keep O.below
    have hB := O.below; have hz := O.size; have S0 : Cel wr (w.heap.size) 0 (.int .i64 s) := O.cels.1; have S1 : Cel wr (w.heap.size) 1 (.int .i64 st) := O.cels.2.1; have S2 : Cel wr (w.heap.size) 2 (.slice p n c) := O.cels.2.2.1
    rcases Nat.lt_or_ge k n with hlt | hge
    · obtain hn0 | ⟨b, off, rfl, hc⟩ := hL2
      · omega
      have c0 := (hc k hlt).1
      have c1 := (hc k hlt).2
      clear hc
      cases hv0 : hv (lo k) (hi k) with
      | false =>
        go_wp2_with (go_at_call 37; refine (rheight_any (lo k) (hi k) _).mono ?_; rintro e w' ⟨rfl, hb⟩; rw [hv0])
        go_ret
        refine ⟨rb ?_, ?_⟩
        · symm; exact decide_eq_false (fun hh => by rw [hh k hlt] at hv0; cases hv0)
        · (repeat' (first | (with_reducible assumption) | (with_reducible exact Below.refl _ _) | (with_reducible exact Cels.nil _) | (with_reducible refine Cels.cons ?_ ?_) | (with_reducible refine Own.mk ?_ ?_ ?_ ?_) | ((with_reducible refine Cel.new ?_ rfl); first | (with_reducible rfl) | omega | (simp; done) | (simp; omega)) | (with_reducible refine Cel.alloc ?_ _) | (with_reducible refine Cel.drew ?_) | (with_reducible refine Cel.setS ?_ _) | (with_reducible refine Has.set ?_ _ _) | (with_reducible exact Has.of (by assumption)) | (with_reducible refine Cel.setO ?_ ?_ _) | (with_reducible refine Cel.keep (by assumption) ?_) | (with_reducible refine Below.alloc ?_ ?_ _) | (with_reducible refine Below.drew ?_) | (with_reducible refine Below.setCell ?_ ?_ _) | (with_reducible refine below_keep ?_ ?_ (by assumption)) | omega | (simp; done) | (simp; omega)))
      | true =>
        go_wp2_with (go_at_call 37; refine (rheight_any (lo k) (hi k) _).mono ?_; rintro e w' ⟨rfl, hb⟩; rw [hv0])
        go_roundw
        case rel =>
          refine ⟨k + 1, by omega, by go_num, fun j hj => ?_, ?_⟩
          · rcases Nat.lt_or_ge j k with h | h
            · exact hall j h
            · obtain rfl : j = k := by omega
              exact hv0
          · first | exact Own.keep (by (repeat' (first | (with_reducible assumption) | (with_reducible exact Below.refl _ _) | (with_reducible exact Cels.nil _) | (with_reducible refine Cels.cons ?_ ?_) | (with_reducible refine Own.mk ?_ ?_ ?_ ?_) | ((with_reducible refine Cel.new ?_ rfl); first | (with_reducible rfl) | omega | (simp; done) | (simp; omega)) | (with_reducible refine Cel.alloc ?_ _) | (with_reducible refine Cel.drew ?_) | (with_reducible refine Cel.setS ?_ _) | (with_reducible refine Has.set ?_ _ _) | (with_reducible exact Has.of (by assumption)) | (with_reducible refine Cel.setO ?_ ?_ _) | (with_reducible refine Cel.keep (by assumption) ?_) | (with_reducible refine Below.alloc ?_ ?_ _) | (with_reducible refine Below.drew ?_) | (with_reducible refine Below.setCell ?_ ?_ _) | (with_reducible refine below_keep ?_ ?_ (by assumption)) | omega | (simp; done) | (simp; omega)))) hb | (repeat' (first | (with_reducible assumption) | (with_reducible exact Below.refl _ _) | (with_reducible exact Cels.nil _) | (with_reducible refine Cels.cons ?_ ?_) | (with_reducible refine Own.mk ?_ ?_ ?_ ?_) | ((with_reducible refine Cel.new ?_ rfl); first | (with_reducible rfl) | omega | (simp; done) | (simp; omega)) | (with_reducible refine Cel.alloc ?_ _) | (with_reducible refine Cel.drew ?_) | (with_reducible refine Cel.setS ?_ _) | (with_reducible refine Has.set ?_ _ _) | (with_reducible exact Has.of (by assumption)) | (with_reducible refine Cel.setO ?_ ?_ _) | (with_reducible refine Cel.keep (by assumption) ?_) | (with_reducible refine Below.alloc ?_ ?_ _) | (with_reducible refine Below.drew ?_) | (with_reducible refine Below.setCell ?_ ?_ _) | (with_reducible refine below_keep ?_ ?_ (by assumption)) | omega | (simp; done) | (simp; omega)))
        case measure => simp [intOf]; omega
    · obtain rfl : k = n := by omega
      go_wp2_with fail
      go_ret
      refine ⟨rb ?_, ?_⟩
      · symm; exact decide_eq_true hall
      · (repeat' (first | (with_reducible assumption) | (with_reducible exact Below.refl _ _) | (with_reducible exact Cels.nil _) | (with_reducible refine Cels.cons ?_ ?_) | (with_reducible refine Own.mk ?_ ?_ ?_ ?_) | ((with_reducible refine Cel.new ?_ rfl); first | (with_reducible rfl) | omega | (simp; done) | (simp; omega)) | (with_reducible refine Cel.alloc ?_ _) | (with_reducible refine Cel.drew ?_) | (with_reducible refine Cel.setS ?_ _) | (with_reducible refine Has.set ?_ _ _) | (with_reducible exact Has.of (by assumption)) | (with_reducible refine Cel.setO ?_ ?_ _) | (with_reducible refine Cel.keep (by assumption) ?_) | (with_reducible refine Below.alloc ?_ ?_ _) | (with_reducible refine Below.drew ?_) | (with_reducible refine Below.setCell ?_ ?_ _) | (with_reducible refine below_keep ?_ ?_ (by assumption)) | omega | (simp; done) | (simp; omega)))

theorem rvalid_any (s st : Int) (p : Option Addr) (n c : Nat) (lo hi : Nat → Int) (w : World) (hL : Lie w p n lo hi) :
    Calls Try.prog 13 #[tv s st p n c] w fun e w' => e = .returned (.bool (tval s st n lo hi)) ∧ Below w.heap.size w w' := by
  by_cases g : 0 ≤ s ∧ s ≤ 10000000 ∧ 1 ≤ st ∧ st ≤ 1000 ∧ 1 ≤ n ∧ n ≤ 200 ∧ s + ((n : Int) - 1) * st ≤ 10000000
  · rw [tval, decide_eq_true g, Bool.true_and]
    obtain ⟨g1, g2, g3, g4, g5, g6, g7⟩ := g
    exact rvalid_ok s st p n c lo hi w (decide_eq_true ⟨g1, g2⟩) (by omega) (by omega) g5 g6 g7 hL
  · rw [tval, decide_eq_false g, Bool.false_and]
    cases q1 : tm s with
    | false => exact rvalid_b0 s st p n c lo hi w q1
    | true =>
      by_cases q2 : st < 1
      · exact rvalid_b1 s st p n c lo hi w q1 q2
      by_cases q3 : 1000 < st
      · exact rvalid_b2 s st p n c lo hi w q1 q2 q3
      by_cases q4 : n = 0
      · exact rvalid_b3 s st p n c lo hi w q1 q2 q3 q4
      by_cases q5 : 200 < n
      · exact rvalid_b4 s st p n c lo hi w q1 q2 q3 (by omega) q5
      exact rvalid_b5 s st p n c lo hi w q1 q2 q3 (by omega) (by omega) (by obtain ⟨a, b⟩ := tm_bd q1; omega)

end Go.Proofs.Ytmljnelmnagfoaa
