/- Walks: Passed and Gap, of both texts. -/
import Derived.Test.YtphmfkellojecaaG
import Derived.Test.YtphmfkellojecaaH
set_option linter.unusedVariables false
set_option linter.unusedSimpArgs false
namespace Go.Proofs.Ytphmfkellojecaa
open Go.RowKit
attribute [local go_sem] World.cell?_alloc_some frozen_alloc_some isSome_alloc isSome_setCell

def pE (a l u d r t : Int) : Int := if tm t = true then tE a l u d r else 1
def pV (a l u d r t : Int) : Int := if tm t = true ∧ tE a l u d r = 0 then (if t ≤ tLo a l u d r then 1 else if tHi a l u d r < t then -1 else 0) else 0
def gV (a l u d r : Int) : Int := if tE a l u d r = 0 then tHi a l u d r - tLo a l u d r + 1 else 0
theorem ri2 {a b a' b' : Int} (h1 : a = a') (h2 : b = b') : Ending.returned (.tuple #[.int .i64 a, .int .i64 b]) = .returned (.tuple #[.int .i64 a', .int .i64 b']) := by rw [h1, h2]
theorem t_bd (a l u d r : Int) : 0 ≤ tLo a l u d r ∧ tLo a l u d r ≤ 10000000 ∧ 0 ≤ tHi a l u d r ∧ tHi a l u d r ≤ 10000000 ∧ tLo a l u d r ≤ tHi a l u d r := by
  cases h : tOk a l u d r with
  | false => obtain ⟨e1, e2, e3⟩ := t_bad h; omega
  | true =>
    by_cases h4 : max 0 (r + l - slip a d r) ≤ min 10000000 (r + u + slip a d r)
    · obtain ⟨e1, e2, e3⟩ := t_ok h h4; omega
    · obtain ⟨e1, e2, e3⟩ := t_none h (by omega); omega
theorem tE_01 (a l u d r : Int) : tE a l u d r = 0 ∨ tE a l u d r = 1 ∨ tE a l u d r = 4 := by
  unfold tE; split
  · split <;> simp
  · simp

set_option maxHeartbeats 1600000 in
theorem passed_any (a l u d r t : Int) (w : World) :
    Calls Try.prog 18 #[ck a l u d, .int .i64 r, .int .i64 t] w fun e w' => e = .returned (.tuple #[.int .i64 (pV a l u d r t), .int .i64 (pE a l u d r t)]) ∧ Below w.heap.size w w' := by
  obtain ⟨b1, b2, b3, b4, b5⟩ := t_bd a l u d r
  cases h1 : tm t
  all_goals by_cases h2 : tE a l u d r = 0
  all_goals
    go_enter Try.func18, Try.ntmps18
    go_wp2_with (first | (go_at_call 14; refine (true_any _ _ _ _ _ _).mono ?_; rintro e w1 ⟨rfl, hb⟩; have hs := hb.size; (try simp at hs); have O : Own w (w.heap.size + 1) w1 [(w.heap.size, 0, .int .i64 a), (w.heap.size, 1, .int .i64 l), (w.heap.size, 2, .int .i64 u), (w.heap.size, 3, .int .i64 d)] := (by first | exact Own.keep (by assumption) hb | (repeat' (first | (with_reducible assumption) | (with_reducible exact Below.refl _ _) | (with_reducible exact Cels.nil _) | (with_reducible refine Cels.cons ?_ ?_) | (with_reducible refine Own.mk ?_ ?_ ?_ ?_) | ((with_reducible refine Cel.new ?_ rfl); first | (with_reducible rfl) | omega | (simp; done) | (simp; omega)) | (with_reducible refine Cel.alloc ?_ _) | (with_reducible refine Cel.drew ?_) | (with_reducible refine Cel.setS ?_ _) | (with_reducible refine Has.set ?_ _ _) | (with_reducible exact Has.of (by assumption)) | (with_reducible refine Cel.setO ?_ ?_ _) | (with_reducible refine Cel.keep (by assumption) ?_) | (with_reducible refine Below.alloc ?_ ?_ _) | (with_reducible refine Below.drew ?_) | (with_reducible refine Below.setCell ?_ ?_ _) | (with_reducible refine below_keep ?_ ?_ (by assumption)) | omega | (simp; done) | (simp; omega)))); have hB := O.below; have hz := O.size; have S0 : Cel w1 (w.heap.size) 0 (.int .i64 a) := O.cels.1; have S1 : Cel w1 (w.heap.size) 1 (.int .i64 l) := O.cels.2.1; have S2 : Cel w1 (w.heap.size) 2 (.int .i64 u) := O.cels.2.2.1; have S3 : Cel w1 (w.heap.size) 3 (.int .i64 d) := O.cels.2.2.2.1) | (go_at_call 29; refine (moment_any _ _).mono ?_; rintro e w' ⟨rfl, rfl⟩))
  all_goals
    go_ret2
    refine ⟨ri2 ?_ ?_, ?_⟩
    · simp only [pV, h1, h2] <;> (first | rfl | (simp_all; done) | (simp_all; omega) | omega)
    · simp only [pE, h1, h2] <;> (first | rfl | (simp_all; done) | (simp_all; omega) | omega)
    · (repeat' (first | (with_reducible assumption) | (with_reducible exact Below.refl _ _) | (with_reducible exact Cels.nil _) | (with_reducible refine Cels.cons ?_ ?_) | (with_reducible refine Own.mk ?_ ?_ ?_ ?_) | ((with_reducible refine Cel.new ?_ rfl); first | (with_reducible rfl) | omega | (simp; done) | (simp; omega)) | (with_reducible refine Cel.alloc ?_ _) | (with_reducible refine Cel.drew ?_) | (with_reducible refine Cel.setS ?_ _) | (with_reducible refine Has.set ?_ _ _) | (with_reducible exact Has.of (by assumption)) | (with_reducible refine Cel.setO ?_ ?_ _) | (with_reducible refine Cel.keep (by assumption) ?_) | (with_reducible refine Below.alloc ?_ ?_ _) | (with_reducible refine Below.drew ?_) | (with_reducible refine Below.setCell ?_ ?_ _) | (with_reducible refine below_keep ?_ ?_ (by assumption)) | omega | (simp; done) | (simp; omega)))

set_option maxHeartbeats 1600000 in
theorem rpassed_any (a l u d r t : Int) (w : World) :
    Calls Try.prog 19 #[ck a l u d, .int .i64 r, .int .i64 t] w fun e w' => e = .returned (.tuple #[.int .i64 (pV a l u d r t), .int .i64 (pE a l u d r t)]) ∧ Below w.heap.size w w' := by
  obtain ⟨b1, b2, b3, b4, b5⟩ := t_bd a l u d r
  cases h1 : tm t
  all_goals by_cases h2 : tE a l u d r = 0
  all_goals
    go_enter Try.func19, Try.ntmps19
    go_wp2_with (first | (go_at_call 15; refine (rtrue_any _ _ _ _ _ _).mono ?_; rintro e w1 ⟨rfl, hb⟩; have hs := hb.size; (try simp at hs); have O : Own w (w.heap.size + 1) w1 [(w.heap.size, 0, .int .i64 a), (w.heap.size, 1, .int .i64 l), (w.heap.size, 2, .int .i64 u), (w.heap.size, 3, .int .i64 d)] := (by first | exact Own.keep (by assumption) hb | (repeat' (first | (with_reducible assumption) | (with_reducible exact Below.refl _ _) | (with_reducible exact Cels.nil _) | (with_reducible refine Cels.cons ?_ ?_) | (with_reducible refine Own.mk ?_ ?_ ?_ ?_) | ((with_reducible refine Cel.new ?_ rfl); first | (with_reducible rfl) | omega | (simp; done) | (simp; omega)) | (with_reducible refine Cel.alloc ?_ _) | (with_reducible refine Cel.drew ?_) | (with_reducible refine Cel.setS ?_ _) | (with_reducible refine Has.set ?_ _ _) | (with_reducible exact Has.of (by assumption)) | (with_reducible refine Cel.setO ?_ ?_ _) | (with_reducible refine Cel.keep (by assumption) ?_) | (with_reducible refine Below.alloc ?_ ?_ _) | (with_reducible refine Below.drew ?_) | (with_reducible refine Below.setCell ?_ ?_ _) | (with_reducible refine below_keep ?_ ?_ (by assumption)) | omega | (simp; done) | (simp; omega)))); have hB := O.below; have hz := O.size; have S0 : Cel w1 (w.heap.size) 0 (.int .i64 a) := O.cels.1; have S1 : Cel w1 (w.heap.size) 1 (.int .i64 l) := O.cels.2.1; have S2 : Cel w1 (w.heap.size) 2 (.int .i64 u) := O.cels.2.2.1; have S3 : Cel w1 (w.heap.size) 3 (.int .i64 d) := O.cels.2.2.2.1) | (go_at_call 30; refine (rmoment_any _ _).mono ?_; rintro e w' ⟨rfl, rfl⟩))
  all_goals
    go_ret2
    refine ⟨ri2 ?_ ?_, ?_⟩
    · simp only [pV, h1, h2] <;> (first | rfl | (simp_all; done) | (simp_all; omega) | omega)
    · simp only [pE, h1, h2] <;> (first | rfl | (simp_all; done) | (simp_all; omega) | omega)
    · (repeat' (first | (with_reducible assumption) | (with_reducible exact Below.refl _ _) | (with_reducible exact Cels.nil _) | (with_reducible refine Cels.cons ?_ ?_) | (with_reducible refine Own.mk ?_ ?_ ?_ ?_) | ((with_reducible refine Cel.new ?_ rfl); first | (with_reducible rfl) | omega | (simp; done) | (simp; omega)) | (with_reducible refine Cel.alloc ?_ _) | (with_reducible refine Cel.drew ?_) | (with_reducible refine Cel.setS ?_ _) | (with_reducible refine Has.set ?_ _ _) | (with_reducible exact Has.of (by assumption)) | (with_reducible refine Cel.setO ?_ ?_ _) | (with_reducible refine Cel.keep (by assumption) ?_) | (with_reducible refine Below.alloc ?_ ?_ _) | (with_reducible refine Below.drew ?_) | (with_reducible refine Below.setCell ?_ ?_ _) | (with_reducible refine below_keep ?_ ?_ (by assumption)) | omega | (simp; done) | (simp; omega)))

set_option maxHeartbeats 1600000 in
theorem gap_any (a l u d r : Int) (w : World) :
    Calls Try.prog 22 #[ck a l u d, .int .i64 r] w fun e w' => e = .returned (.tuple #[.int .i64 (gV a l u d r), .int .i64 (tE a l u d r)]) ∧ Below w.heap.size w w' := by
  obtain ⟨b1, b2, b3, b4, b5⟩ := t_bd a l u d r
  by_cases h2 : tE a l u d r = 0
  all_goals
    go_enter Try.func22, Try.ntmps22
    go_wp2_with (go_at_call 14; refine (true_any _ _ _ _ _ _).mono ?_; rintro e w1 ⟨rfl, hb⟩; have hs := hb.size; (try simp at hs); have O : Own w (w.heap.size + 1) w1 [(w.heap.size, 0, .int .i64 a), (w.heap.size, 1, .int .i64 l), (w.heap.size, 2, .int .i64 u), (w.heap.size, 3, .int .i64 d)] := (by first | exact Own.keep (by assumption) hb | (repeat' (first | (with_reducible assumption) | (with_reducible exact Below.refl _ _) | (with_reducible exact Cels.nil _) | (with_reducible refine Cels.cons ?_ ?_) | (with_reducible refine Own.mk ?_ ?_ ?_ ?_) | ((with_reducible refine Cel.new ?_ rfl); first | (with_reducible rfl) | omega | (simp; done) | (simp; omega)) | (with_reducible refine Cel.alloc ?_ _) | (with_reducible refine Cel.drew ?_) | (with_reducible refine Cel.setS ?_ _) | (with_reducible refine Has.set ?_ _ _) | (with_reducible exact Has.of (by assumption)) | (with_reducible refine Cel.setO ?_ ?_ _) | (with_reducible refine Cel.keep (by assumption) ?_) | (with_reducible refine Below.alloc ?_ ?_ _) | (with_reducible refine Below.drew ?_) | (with_reducible refine Below.setCell ?_ ?_ _) | (with_reducible refine below_keep ?_ ?_ (by assumption)) | omega | (simp; done) | (simp; omega)))); have hB := O.below; have hz := O.size; have S0 : Cel w1 (w.heap.size) 0 (.int .i64 a) := O.cels.1; have S1 : Cel w1 (w.heap.size) 1 (.int .i64 l) := O.cels.2.1; have S2 : Cel w1 (w.heap.size) 2 (.int .i64 u) := O.cels.2.2.1; have S3 : Cel w1 (w.heap.size) 3 (.int .i64 d) := O.cels.2.2.2.1)
  all_goals
    go_ret2
    refine ⟨ri2 ?_ ?_, ?_⟩
    · simp only [gV, h2] <;> (first | rfl | (simp_all; done) | (simp_all; omega) | omega)
    · first | rfl | exact h2.symm | simp [h2]
    · (repeat' (first | (with_reducible assumption) | (with_reducible exact Below.refl _ _) | (with_reducible exact Cels.nil _) | (with_reducible refine Cels.cons ?_ ?_) | (with_reducible refine Own.mk ?_ ?_ ?_ ?_) | ((with_reducible refine Cel.new ?_ rfl); first | (with_reducible rfl) | omega | (simp; done) | (simp; omega)) | (with_reducible refine Cel.alloc ?_ _) | (with_reducible refine Cel.drew ?_) | (with_reducible refine Cel.setS ?_ _) | (with_reducible refine Has.set ?_ _ _) | (with_reducible exact Has.of (by assumption)) | (with_reducible refine Cel.setO ?_ ?_ _) | (with_reducible refine Cel.keep (by assumption) ?_) | (with_reducible refine Below.alloc ?_ ?_ _) | (with_reducible refine Below.drew ?_) | (with_reducible refine Below.setCell ?_ ?_ _) | (with_reducible refine below_keep ?_ ?_ (by assumption)) | omega | (simp; done) | (simp; omega)))

set_option maxHeartbeats 1600000 in
theorem rgap_any (a l u d r : Int) (w : World) :
    Calls Try.prog 23 #[ck a l u d, .int .i64 r] w fun e w' => e = .returned (.tuple #[.int .i64 (gV a l u d r), .int .i64 (tE a l u d r)]) ∧ Below w.heap.size w w' := by
  obtain ⟨b1, b2, b3, b4, b5⟩ := t_bd a l u d r
  by_cases h2 : tE a l u d r = 0
  all_goals
    go_enter Try.func23, Try.ntmps23
    go_wp2_with (go_at_call 15; refine (rtrue_any _ _ _ _ _ _).mono ?_; rintro e w1 ⟨rfl, hb⟩; have hs := hb.size; (try simp at hs); have O : Own w (w.heap.size + 1) w1 [(w.heap.size, 0, .int .i64 a), (w.heap.size, 1, .int .i64 l), (w.heap.size, 2, .int .i64 u), (w.heap.size, 3, .int .i64 d)] := (by first | exact Own.keep (by assumption) hb | (repeat' (first | (with_reducible assumption) | (with_reducible exact Below.refl _ _) | (with_reducible exact Cels.nil _) | (with_reducible refine Cels.cons ?_ ?_) | (with_reducible refine Own.mk ?_ ?_ ?_ ?_) | ((with_reducible refine Cel.new ?_ rfl); first | (with_reducible rfl) | omega | (simp; done) | (simp; omega)) | (with_reducible refine Cel.alloc ?_ _) | (with_reducible refine Cel.drew ?_) | (with_reducible refine Cel.setS ?_ _) | (with_reducible refine Has.set ?_ _ _) | (with_reducible exact Has.of (by assumption)) | (with_reducible refine Cel.setO ?_ ?_ _) | (with_reducible refine Cel.keep (by assumption) ?_) | (with_reducible refine Below.alloc ?_ ?_ _) | (with_reducible refine Below.drew ?_) | (with_reducible refine Below.setCell ?_ ?_ _) | (with_reducible refine below_keep ?_ ?_ (by assumption)) | omega | (simp; done) | (simp; omega)))); have hB := O.below; have hz := O.size; have S0 : Cel w1 (w.heap.size) 0 (.int .i64 a) := O.cels.1; have S1 : Cel w1 (w.heap.size) 1 (.int .i64 l) := O.cels.2.1; have S2 : Cel w1 (w.heap.size) 2 (.int .i64 u) := O.cels.2.2.1; have S3 : Cel w1 (w.heap.size) 3 (.int .i64 d) := O.cels.2.2.2.1)
  all_goals
    go_ret2
    refine ⟨ri2 ?_ ?_, ?_⟩
    · simp only [gV, h2] <;> (first | rfl | (simp_all; done) | (simp_all; omega) | omega)
    · first | rfl | exact h2.symm | simp [h2]
    · (repeat' (first | (with_reducible assumption) | (with_reducible exact Below.refl _ _) | (with_reducible exact Cels.nil _) | (with_reducible refine Cels.cons ?_ ?_) | (with_reducible refine Own.mk ?_ ?_ ?_ ?_) | ((with_reducible refine Cel.new ?_ rfl); first | (with_reducible rfl) | omega | (simp; done) | (simp; omega)) | (with_reducible refine Cel.alloc ?_ _) | (with_reducible refine Cel.drew ?_) | (with_reducible refine Cel.setS ?_ _) | (with_reducible refine Has.set ?_ _ _) | (with_reducible exact Has.of (by assumption)) | (with_reducible refine Cel.setO ?_ ?_ _) | (with_reducible refine Cel.keep (by assumption) ?_) | (with_reducible refine Below.alloc ?_ ?_ _) | (with_reducible refine Below.drew ?_) | (with_reducible refine Below.setCell ?_ ?_ _) | (with_reducible refine below_keep ?_ ?_ (by assumption)) | omega | (simp; done) | (simp; omega)))

end Go.Proofs.Ytphmfkellojecaa
