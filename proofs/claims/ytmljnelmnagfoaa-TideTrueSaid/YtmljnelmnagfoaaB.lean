/- Tide: walks over the functions on spans. -/
import Derived.Test.YtmljnelmnagfoaaA
set_option linter.unusedVariables false
set_option linter.unusedSimpArgs false
namespace Go.Proofs.Ytmljnelmnagfoaa
open Go.RowKit
attribute [local go_sem] World.cell?_alloc_some frozen_alloc_some isSome_alloc isSome_setCell
abbrev se (l u e : Int) : Value := .tuple #[sp l u, .int .i64 e]
def jE (s0 s1 t0 t1 : Int) : Int := bif sv s0 s1 && sv t0 t1 then 0 else 1
def jL (s0 s1 t0 t1 : Int) : Int := bif sv s0 s1 && sv t0 t1 then min s0 t0 else 0
def jH (s0 s1 t0 t1 : Int) : Int := bif sv s0 s1 && sv t0 t1 then max s1 t1 else 0
def aE (s0 s1 t0 t1 : Int) : Int := bif sv s0 s1 && sv t0 t1 then (bif sv (s0 + t0) (s1 + t1) then 0 else 3) else 1
def aL (s0 s1 t0 t1 : Int) : Int := bif sv s0 s1 && sv t0 t1 && sv (s0 + t0) (s1 + t1) then s0 + t0 else 0
def aH (s0 s1 t0 t1 : Int) : Int := bif sv s0 s1 && sv t0 t1 && sv (s0 + t0) (s1 + t1) then s1 + t1 else 0
def mE (s0 s1 t0 t1 : Int) : Int := bif sv s0 s1 && sv t0 t1 then (bif decide (min s1 t1 < max s0 t0) then 4 else 0) else 1
def mL (s0 s1 t0 t1 : Int) : Int := bif sv s0 s1 && sv t0 t1 && !decide (min s1 t1 < max s0 t0) then max s0 t0 else 0
def mH (s0 s1 t0 t1 : Int) : Int := bif sv s0 s1 && sv t0 t1 && !decide (min s1 t1 < max s0 t0) then min s1 t1 else 0
theorem ree {a b c a' b' c' : Int} (u : a = a') (v : b = b') (x : c = c') : Ending.returned (se a b c) = .returned (se a' b' c') := by rw [u, v, x]
theorem sv_bd {l u : Int} (h : sv l u = true) : -1000000000000 ≤ l ∧ l ≤ u ∧ u ≤ 1000000000000 := of_decide_eq_true h
theorem sv_t {l u : Int} (h : -1000000000000 ≤ l ∧ l ≤ u ∧ u ≤ 1000000000000) : sv l u = true := decide_eq_true h
theorem kpt {l u : Int} (w : World) : True := trivial
set_option maxHeartbeats 400000 in
theorem ends_any (a b : Int) (w : World) : Calls Try.prog 53 #[.int .i64 a, .int .i64 b] w fun e w' => e = .returned (.tuple #[.int .i64 (min a b), .int .i64 (max a b)]) ∧ w = w' := by
  go_enter Try.func53, Try.ntmps53
  by_cases h : a < b
  · have h2 : ¬ b < a := by omega
    go_wp2
    go_ret2
    have e1 : min a b = a := by omega
    have e2 : max a b = b := by omega
    rw [e1, e2]; exact ⟨rfl, rfl⟩
  · by_cases h2 : b < a
    · go_wp2
      go_ret2
      have e1 : min a b = b := by omega
      have e2 : max a b = a := by omega
      rw [e1, e2]; exact ⟨rfl, rfl⟩
    · obtain rfl : a = b := by omega
      go_wp2
      go_ret2
      simp

set_option maxHeartbeats 1600000 in
theorem kept_t (l u : Int) (w : World) (h1 : sv l u = true) :
    Calls Try.prog 43 #[sp l u] w fun e w' => e = .returned (se l u 0) ∧ Below w.heap.size w w' := by
  go_enter Try.func43, Try.ntmps43
  go_wp2_with (first | (go_at_call 41; refine (spanValid_any _ _ _).mono ?_; rintro e w' ⟨rfl, hb⟩; have hs := hb.size; (try simp at hs); have O : Own w (w.heap.size + 2) w' [(w.heap.size, 0, .int .i64 l), (w.heap.size, 1, .int .i64 u), (w.heap.size + 1, 0, .int .i64 0), (w.heap.size + 1, 1, .int .i64 0)] := (by first | exact Own.keep (by assumption) hb | (repeat' (first | (with_reducible assumption) | (with_reducible exact Below.refl _ _) | (with_reducible exact Cels.nil _) | (with_reducible refine Cels.cons ?_ ?_) | (with_reducible refine Own.mk ?_ ?_ ?_ ?_) | ((with_reducible refine Cel.new ?_ rfl); first | (with_reducible rfl) | omega | (simp; done) | (simp; omega)) | (with_reducible refine Cel.alloc ?_ _) | (with_reducible refine Cel.drew ?_) | (with_reducible refine Cel.setS ?_ _) | (with_reducible refine Has.set ?_ _ _) | (with_reducible exact Has.of (by assumption)) | (with_reducible refine Cel.setO ?_ ?_ _) | (with_reducible refine Cel.keep (by assumption) ?_) | (with_reducible refine Below.alloc ?_ ?_ _) | (with_reducible refine Below.drew ?_) | (with_reducible refine Below.setCell ?_ ?_ _) | (with_reducible refine below_keep ?_ ?_ (by assumption)) | omega | (simp; done) | (simp; omega)))); have hB := O.below; have hz := O.size; have S0 : Cel w' (w.heap.size) 0 (.int .i64 l) := O.cels.1; have S1 : Cel w' (w.heap.size) 1 (.int .i64 u) := O.cels.2.1; have S2 : Cel w' (w.heap.size + 1) 0 (.int .i64 0) := O.cels.2.2.1; have S3 : Cel w' (w.heap.size + 1) 1 (.int .i64 0) := O.cels.2.2.2.1))
  all_goals
    refine bodyPost_ret (v := se l u 0) (by simp [results, Try.results43, go_sem, *] <;> omega) rfl ⟨rfl, ?_⟩
    (repeat' (first | (with_reducible assumption) | (with_reducible exact Below.refl _ _) | (with_reducible exact Cels.nil _) | (with_reducible refine Cels.cons ?_ ?_) | (with_reducible refine Own.mk ?_ ?_ ?_ ?_) | ((with_reducible refine Cel.new ?_ rfl); first | (with_reducible rfl) | omega | (simp; done) | (simp; omega)) | (with_reducible refine Cel.alloc ?_ _) | (with_reducible refine Cel.drew ?_) | (with_reducible refine Cel.setS ?_ _) | (with_reducible refine Has.set ?_ _ _) | (with_reducible exact Has.of (by assumption)) | (with_reducible refine Cel.setO ?_ ?_ _) | (with_reducible refine Cel.keep (by assumption) ?_) | (with_reducible refine Below.alloc ?_ ?_ _) | (with_reducible refine Below.drew ?_) | (with_reducible refine Below.setCell ?_ ?_ _) | (with_reducible refine below_keep ?_ ?_ (by assumption)) | omega | (simp; done) | (simp; omega)))

set_option maxHeartbeats 1600000 in
theorem kept_f (l u : Int) (w : World) (h1 : sv l u = false) :
    Calls Try.prog 43 #[sp l u] w fun e w' => e = .returned (se 0 0 3) ∧ Below w.heap.size w w' := by
  go_enter Try.func43, Try.ntmps43
  go_wp2_with (first | (go_at_call 41; refine (spanValid_any _ _ _).mono ?_; rintro e w' ⟨rfl, hb⟩; have hs := hb.size; (try simp at hs); have O : Own w (w.heap.size + 2) w' [(w.heap.size, 0, .int .i64 l), (w.heap.size, 1, .int .i64 u), (w.heap.size + 1, 0, .int .i64 0), (w.heap.size + 1, 1, .int .i64 0)] := (by first | exact Own.keep (by assumption) hb | (repeat' (first | (with_reducible assumption) | (with_reducible exact Below.refl _ _) | (with_reducible exact Cels.nil _) | (with_reducible refine Cels.cons ?_ ?_) | (with_reducible refine Own.mk ?_ ?_ ?_ ?_) | ((with_reducible refine Cel.new ?_ rfl); first | (with_reducible rfl) | omega | (simp; done) | (simp; omega)) | (with_reducible refine Cel.alloc ?_ _) | (with_reducible refine Cel.drew ?_) | (with_reducible refine Cel.setS ?_ _) | (with_reducible refine Has.set ?_ _ _) | (with_reducible exact Has.of (by assumption)) | (with_reducible refine Cel.setO ?_ ?_ _) | (with_reducible refine Cel.keep (by assumption) ?_) | (with_reducible refine Below.alloc ?_ ?_ _) | (with_reducible refine Below.drew ?_) | (with_reducible refine Below.setCell ?_ ?_ _) | (with_reducible refine below_keep ?_ ?_ (by assumption)) | omega | (simp; done) | (simp; omega)))); have hB := O.below; have hz := O.size; have S0 : Cel w' (w.heap.size) 0 (.int .i64 l) := O.cels.1; have S1 : Cel w' (w.heap.size) 1 (.int .i64 u) := O.cels.2.1; have S2 : Cel w' (w.heap.size + 1) 0 (.int .i64 0) := O.cels.2.2.1; have S3 : Cel w' (w.heap.size + 1) 1 (.int .i64 0) := O.cels.2.2.2.1))
  all_goals
    refine bodyPost_ret (v := se 0 0 3) (by simp [results, Try.results43, go_sem, *] <;> omega) rfl ⟨rfl, ?_⟩
    (repeat' (first | (with_reducible assumption) | (with_reducible exact Below.refl _ _) | (with_reducible exact Cels.nil _) | (with_reducible refine Cels.cons ?_ ?_) | (with_reducible refine Own.mk ?_ ?_ ?_ ?_) | ((with_reducible refine Cel.new ?_ rfl); first | (with_reducible rfl) | omega | (simp; done) | (simp; omega)) | (with_reducible refine Cel.alloc ?_ _) | (with_reducible refine Cel.drew ?_) | (with_reducible refine Cel.setS ?_ _) | (with_reducible refine Has.set ?_ _ _) | (with_reducible exact Has.of (by assumption)) | (with_reducible refine Cel.setO ?_ ?_ _) | (with_reducible refine Cel.keep (by assumption) ?_) | (with_reducible refine Below.alloc ?_ ?_ _) | (with_reducible refine Below.drew ?_) | (with_reducible refine Below.setCell ?_ ?_ _) | (with_reducible refine below_keep ?_ ?_ (by assumption)) | omega | (simp; done) | (simp; omega)))

theorem kept_any (l u : Int) (w : World) : Calls Try.prog 43 #[sp l u] w fun e w' => e = .returned (se (bif sv l u then l else 0) (bif sv l u then u else 0) (bif sv l u then 0 else 3)) ∧ Below w.heap.size w w' := by
  cases h : sv l u with
  | true => exact kept_t l u w h
  | false => exact kept_f l u w h

set_option maxHeartbeats 1600000 in
theorem bounded_t (l u : Int) (w : World) (h1 : sv l u = true) :
    Calls Try.prog 58 #[sp l u] w fun e w' => e = .returned (se l u 0) ∧ Below w.heap.size w w' := by
  go_enter Try.func58, Try.ntmps58
  go_wp2_with (first | (go_at_call 51; refine (rspanValid_any _ _ _).mono ?_; rintro e w' ⟨rfl, hb⟩; have hs := hb.size; (try simp at hs); have O : Own w (w.heap.size + 2) w' [(w.heap.size, 0, .int .i64 l), (w.heap.size, 1, .int .i64 u), (w.heap.size + 1, 0, .int .i64 0), (w.heap.size + 1, 1, .int .i64 0)] := (by first | exact Own.keep (by assumption) hb | (repeat' (first | (with_reducible assumption) | (with_reducible exact Below.refl _ _) | (with_reducible exact Cels.nil _) | (with_reducible refine Cels.cons ?_ ?_) | (with_reducible refine Own.mk ?_ ?_ ?_ ?_) | ((with_reducible refine Cel.new ?_ rfl); first | (with_reducible rfl) | omega | (simp; done) | (simp; omega)) | (with_reducible refine Cel.alloc ?_ _) | (with_reducible refine Cel.drew ?_) | (with_reducible refine Cel.setS ?_ _) | (with_reducible refine Has.set ?_ _ _) | (with_reducible exact Has.of (by assumption)) | (with_reducible refine Cel.setO ?_ ?_ _) | (with_reducible refine Cel.keep (by assumption) ?_) | (with_reducible refine Below.alloc ?_ ?_ _) | (with_reducible refine Below.drew ?_) | (with_reducible refine Below.setCell ?_ ?_ _) | (with_reducible refine below_keep ?_ ?_ (by assumption)) | omega | (simp; done) | (simp; omega)))); have hB := O.below; have hz := O.size; have S0 : Cel w' (w.heap.size) 0 (.int .i64 l) := O.cels.1; have S1 : Cel w' (w.heap.size) 1 (.int .i64 u) := O.cels.2.1; have S2 : Cel w' (w.heap.size + 1) 0 (.int .i64 0) := O.cels.2.2.1; have S3 : Cel w' (w.heap.size + 1) 1 (.int .i64 0) := O.cels.2.2.2.1))
  all_goals
    refine bodyPost_ret (v := se l u 0) (by simp [results, Try.results58, go_sem, *] <;> omega) rfl ⟨rfl, ?_⟩
    (repeat' (first | (with_reducible assumption) | (with_reducible exact Below.refl _ _) | (with_reducible exact Cels.nil _) | (with_reducible refine Cels.cons ?_ ?_) | (with_reducible refine Own.mk ?_ ?_ ?_ ?_) | ((with_reducible refine Cel.new ?_ rfl); first | (with_reducible rfl) | omega | (simp; done) | (simp; omega)) | (with_reducible refine Cel.alloc ?_ _) | (with_reducible refine Cel.drew ?_) | (with_reducible refine Cel.setS ?_ _) | (with_reducible refine Has.set ?_ _ _) | (with_reducible exact Has.of (by assumption)) | (with_reducible refine Cel.setO ?_ ?_ _) | (with_reducible refine Cel.keep (by assumption) ?_) | (with_reducible refine Below.alloc ?_ ?_ _) | (with_reducible refine Below.drew ?_) | (with_reducible refine Below.setCell ?_ ?_ _) | (with_reducible refine below_keep ?_ ?_ (by assumption)) | omega | (simp; done) | (simp; omega)))

set_option maxHeartbeats 1600000 in
theorem bounded_f (l u : Int) (w : World) (h1 : sv l u = false) :
    Calls Try.prog 58 #[sp l u] w fun e w' => e = .returned (se 0 0 3) ∧ Below w.heap.size w w' := by
  go_enter Try.func58, Try.ntmps58
  go_wp2_with (first | (go_at_call 51; refine (rspanValid_any _ _ _).mono ?_; rintro e w' ⟨rfl, hb⟩; have hs := hb.size; (try simp at hs); have O : Own w (w.heap.size + 2) w' [(w.heap.size, 0, .int .i64 l), (w.heap.size, 1, .int .i64 u), (w.heap.size + 1, 0, .int .i64 0), (w.heap.size + 1, 1, .int .i64 0)] := (by first | exact Own.keep (by assumption) hb | (repeat' (first | (with_reducible assumption) | (with_reducible exact Below.refl _ _) | (with_reducible exact Cels.nil _) | (with_reducible refine Cels.cons ?_ ?_) | (with_reducible refine Own.mk ?_ ?_ ?_ ?_) | ((with_reducible refine Cel.new ?_ rfl); first | (with_reducible rfl) | omega | (simp; done) | (simp; omega)) | (with_reducible refine Cel.alloc ?_ _) | (with_reducible refine Cel.drew ?_) | (with_reducible refine Cel.setS ?_ _) | (with_reducible refine Has.set ?_ _ _) | (with_reducible exact Has.of (by assumption)) | (with_reducible refine Cel.setO ?_ ?_ _) | (with_reducible refine Cel.keep (by assumption) ?_) | (with_reducible refine Below.alloc ?_ ?_ _) | (with_reducible refine Below.drew ?_) | (with_reducible refine Below.setCell ?_ ?_ _) | (with_reducible refine below_keep ?_ ?_ (by assumption)) | omega | (simp; done) | (simp; omega)))); have hB := O.below; have hz := O.size; have S0 : Cel w' (w.heap.size) 0 (.int .i64 l) := O.cels.1; have S1 : Cel w' (w.heap.size) 1 (.int .i64 u) := O.cels.2.1; have S2 : Cel w' (w.heap.size + 1) 0 (.int .i64 0) := O.cels.2.2.1; have S3 : Cel w' (w.heap.size + 1) 1 (.int .i64 0) := O.cels.2.2.2.1))
  all_goals
    refine bodyPost_ret (v := se 0 0 3) (by simp [results, Try.results58, go_sem, *] <;> omega) rfl ⟨rfl, ?_⟩
    (repeat' (first | (with_reducible assumption) | (with_reducible exact Below.refl _ _) | (with_reducible exact Cels.nil _) | (with_reducible refine Cels.cons ?_ ?_) | (with_reducible refine Own.mk ?_ ?_ ?_ ?_) | ((with_reducible refine Cel.new ?_ rfl); first | (with_reducible rfl) | omega | (simp; done) | (simp; omega)) | (with_reducible refine Cel.alloc ?_ _) | (with_reducible refine Cel.drew ?_) | (with_reducible refine Cel.setS ?_ _) | (with_reducible refine Has.set ?_ _ _) | (with_reducible exact Has.of (by assumption)) | (with_reducible refine Cel.setO ?_ ?_ _) | (with_reducible refine Cel.keep (by assumption) ?_) | (with_reducible refine Below.alloc ?_ ?_ _) | (with_reducible refine Below.drew ?_) | (with_reducible refine Below.setCell ?_ ?_ _) | (with_reducible refine below_keep ?_ ?_ (by assumption)) | omega | (simp; done) | (simp; omega)))

theorem bounded_any (l u : Int) (w : World) : Calls Try.prog 58 #[sp l u] w fun e w' => e = .returned (se (bif sv l u then l else 0) (bif sv l u then u else 0) (bif sv l u then 0 else 3)) ∧ Below w.heap.size w w' := by
  cases h : sv l u with
  | true => exact bounded_t l u w h
  | false => exact bounded_f l u w h

theorem both_fin {a b : Bool} : (bif a then b else false) = (a && b) := by cases a <;> rfl

set_option maxHeartbeats 1600000 in
theorem both_0 (s0 s1 t0 t1 : Int) (w : World) (h1 : sv s0 s1 = true) (h2 : sv t0 t1 = true) :
    Calls Try.prog 55 #[sp s0 s1, sp t0 t1] w fun e w' => e = .returned (.bool true) ∧ Below w.heap.size w w' := by
  go_enter Try.func55, Try.ntmps55
  go_wp2_with (first | (go_at_call 51; refine (rspanValid_any _ _ _).mono ?_; rintro e w' ⟨rfl, hb⟩; have hs := hb.size; (try simp at hs); have O : Own w (w.heap.size + 2) w' [(w.heap.size, 0, .int .i64 s0), (w.heap.size, 1, .int .i64 s1), (w.heap.size + 1, 0, .int .i64 t0), (w.heap.size + 1, 1, .int .i64 t1)] := (by first | exact Own.keep (by assumption) hb | (repeat' (first | (with_reducible assumption) | (with_reducible exact Below.refl _ _) | (with_reducible exact Cels.nil _) | (with_reducible refine Cels.cons ?_ ?_) | (with_reducible refine Own.mk ?_ ?_ ?_ ?_) | ((with_reducible refine Cel.new ?_ rfl); first | (with_reducible rfl) | omega | (simp; done) | (simp; omega)) | (with_reducible refine Cel.alloc ?_ _) | (with_reducible refine Cel.drew ?_) | (with_reducible refine Cel.setS ?_ _) | (with_reducible refine Has.set ?_ _ _) | (with_reducible exact Has.of (by assumption)) | (with_reducible refine Cel.setO ?_ ?_ _) | (with_reducible refine Cel.keep (by assumption) ?_) | (with_reducible refine Below.alloc ?_ ?_ _) | (with_reducible refine Below.drew ?_) | (with_reducible refine Below.setCell ?_ ?_ _) | (with_reducible refine below_keep ?_ ?_ (by assumption)) | omega | (simp; done) | (simp; omega)))); have hB := O.below; have hz := O.size; have S0 : Cel w' (w.heap.size) 0 (.int .i64 s0) := O.cels.1; have S1 : Cel w' (w.heap.size) 1 (.int .i64 s1) := O.cels.2.1; have S2 : Cel w' (w.heap.size + 1) 0 (.int .i64 t0) := O.cels.2.2.1; have S3 : Cel w' (w.heap.size + 1) 1 (.int .i64 t1) := O.cels.2.2.2.1))
  all_goals
    go_ret
    refine ⟨rfl, ?_⟩
    (repeat' (first | (with_reducible assumption) | (with_reducible exact Below.refl _ _) | (with_reducible exact Cels.nil _) | (with_reducible refine Cels.cons ?_ ?_) | (with_reducible refine Own.mk ?_ ?_ ?_ ?_) | ((with_reducible refine Cel.new ?_ rfl); first | (with_reducible rfl) | omega | (simp; done) | (simp; omega)) | (with_reducible refine Cel.alloc ?_ _) | (with_reducible refine Cel.drew ?_) | (with_reducible refine Cel.setS ?_ _) | (with_reducible refine Has.set ?_ _ _) | (with_reducible exact Has.of (by assumption)) | (with_reducible refine Cel.setO ?_ ?_ _) | (with_reducible refine Cel.keep (by assumption) ?_) | (with_reducible refine Below.alloc ?_ ?_ _) | (with_reducible refine Below.drew ?_) | (with_reducible refine Below.setCell ?_ ?_ _) | (with_reducible refine below_keep ?_ ?_ (by assumption)) | omega | (simp; done) | (simp; omega)))

set_option maxHeartbeats 1600000 in
theorem both_1 (s0 s1 t0 t1 : Int) (w : World) (h1 : sv s0 s1 = true) (h2 : sv t0 t1 = false) :
    Calls Try.prog 55 #[sp s0 s1, sp t0 t1] w fun e w' => e = .returned (.bool false) ∧ Below w.heap.size w w' := by
  go_enter Try.func55, Try.ntmps55
  go_wp2_with (first | (go_at_call 51; refine (rspanValid_any _ _ _).mono ?_; rintro e w' ⟨rfl, hb⟩; have hs := hb.size; (try simp at hs); have O : Own w (w.heap.size + 2) w' [(w.heap.size, 0, .int .i64 s0), (w.heap.size, 1, .int .i64 s1), (w.heap.size + 1, 0, .int .i64 t0), (w.heap.size + 1, 1, .int .i64 t1)] := (by first | exact Own.keep (by assumption) hb | (repeat' (first | (with_reducible assumption) | (with_reducible exact Below.refl _ _) | (with_reducible exact Cels.nil _) | (with_reducible refine Cels.cons ?_ ?_) | (with_reducible refine Own.mk ?_ ?_ ?_ ?_) | ((with_reducible refine Cel.new ?_ rfl); first | (with_reducible rfl) | omega | (simp; done) | (simp; omega)) | (with_reducible refine Cel.alloc ?_ _) | (with_reducible refine Cel.drew ?_) | (with_reducible refine Cel.setS ?_ _) | (with_reducible refine Has.set ?_ _ _) | (with_reducible exact Has.of (by assumption)) | (with_reducible refine Cel.setO ?_ ?_ _) | (with_reducible refine Cel.keep (by assumption) ?_) | (with_reducible refine Below.alloc ?_ ?_ _) | (with_reducible refine Below.drew ?_) | (with_reducible refine Below.setCell ?_ ?_ _) | (with_reducible refine below_keep ?_ ?_ (by assumption)) | omega | (simp; done) | (simp; omega)))); have hB := O.below; have hz := O.size; have S0 : Cel w' (w.heap.size) 0 (.int .i64 s0) := O.cels.1; have S1 : Cel w' (w.heap.size) 1 (.int .i64 s1) := O.cels.2.1; have S2 : Cel w' (w.heap.size + 1) 0 (.int .i64 t0) := O.cels.2.2.1; have S3 : Cel w' (w.heap.size + 1) 1 (.int .i64 t1) := O.cels.2.2.2.1))
  all_goals
    go_ret
    refine ⟨rfl, ?_⟩
    (repeat' (first | (with_reducible assumption) | (with_reducible exact Below.refl _ _) | (with_reducible exact Cels.nil _) | (with_reducible refine Cels.cons ?_ ?_) | (with_reducible refine Own.mk ?_ ?_ ?_ ?_) | ((with_reducible refine Cel.new ?_ rfl); first | (with_reducible rfl) | omega | (simp; done) | (simp; omega)) | (with_reducible refine Cel.alloc ?_ _) | (with_reducible refine Cel.drew ?_) | (with_reducible refine Cel.setS ?_ _) | (with_reducible refine Has.set ?_ _ _) | (with_reducible exact Has.of (by assumption)) | (with_reducible refine Cel.setO ?_ ?_ _) | (with_reducible refine Cel.keep (by assumption) ?_) | (with_reducible refine Below.alloc ?_ ?_ _) | (with_reducible refine Below.drew ?_) | (with_reducible refine Below.setCell ?_ ?_ _) | (with_reducible refine below_keep ?_ ?_ (by assumption)) | omega | (simp; done) | (simp; omega)))

set_option maxHeartbeats 1600000 in
theorem both_2 (s0 s1 t0 t1 : Int) (w : World) (h1 : sv s0 s1 = false) (h2 : sv t0 t1 = true) :
    Calls Try.prog 55 #[sp s0 s1, sp t0 t1] w fun e w' => e = .returned (.bool false) ∧ Below w.heap.size w w' := by
  go_enter Try.func55, Try.ntmps55
  go_wp2_with (first | (go_at_call 51; refine (rspanValid_any _ _ _).mono ?_; rintro e w' ⟨rfl, hb⟩; have hs := hb.size; (try simp at hs); have O : Own w (w.heap.size + 2) w' [(w.heap.size, 0, .int .i64 s0), (w.heap.size, 1, .int .i64 s1), (w.heap.size + 1, 0, .int .i64 t0), (w.heap.size + 1, 1, .int .i64 t1)] := (by first | exact Own.keep (by assumption) hb | (repeat' (first | (with_reducible assumption) | (with_reducible exact Below.refl _ _) | (with_reducible exact Cels.nil _) | (with_reducible refine Cels.cons ?_ ?_) | (with_reducible refine Own.mk ?_ ?_ ?_ ?_) | ((with_reducible refine Cel.new ?_ rfl); first | (with_reducible rfl) | omega | (simp; done) | (simp; omega)) | (with_reducible refine Cel.alloc ?_ _) | (with_reducible refine Cel.drew ?_) | (with_reducible refine Cel.setS ?_ _) | (with_reducible refine Has.set ?_ _ _) | (with_reducible exact Has.of (by assumption)) | (with_reducible refine Cel.setO ?_ ?_ _) | (with_reducible refine Cel.keep (by assumption) ?_) | (with_reducible refine Below.alloc ?_ ?_ _) | (with_reducible refine Below.drew ?_) | (with_reducible refine Below.setCell ?_ ?_ _) | (with_reducible refine below_keep ?_ ?_ (by assumption)) | omega | (simp; done) | (simp; omega)))); have hB := O.below; have hz := O.size; have S0 : Cel w' (w.heap.size) 0 (.int .i64 s0) := O.cels.1; have S1 : Cel w' (w.heap.size) 1 (.int .i64 s1) := O.cels.2.1; have S2 : Cel w' (w.heap.size + 1) 0 (.int .i64 t0) := O.cels.2.2.1; have S3 : Cel w' (w.heap.size + 1) 1 (.int .i64 t1) := O.cels.2.2.2.1))
  all_goals
    go_ret
    refine ⟨rfl, ?_⟩
    (repeat' (first | (with_reducible assumption) | (with_reducible exact Below.refl _ _) | (with_reducible exact Cels.nil _) | (with_reducible refine Cels.cons ?_ ?_) | (with_reducible refine Own.mk ?_ ?_ ?_ ?_) | ((with_reducible refine Cel.new ?_ rfl); first | (with_reducible rfl) | omega | (simp; done) | (simp; omega)) | (with_reducible refine Cel.alloc ?_ _) | (with_reducible refine Cel.drew ?_) | (with_reducible refine Cel.setS ?_ _) | (with_reducible refine Has.set ?_ _ _) | (with_reducible exact Has.of (by assumption)) | (with_reducible refine Cel.setO ?_ ?_ _) | (with_reducible refine Cel.keep (by assumption) ?_) | (with_reducible refine Below.alloc ?_ ?_ _) | (with_reducible refine Below.drew ?_) | (with_reducible refine Below.setCell ?_ ?_ _) | (with_reducible refine below_keep ?_ ?_ (by assumption)) | omega | (simp; done) | (simp; omega)))

set_option maxHeartbeats 1600000 in
theorem both_3 (s0 s1 t0 t1 : Int) (w : World) (h1 : sv s0 s1 = false) (h2 : sv t0 t1 = false) :
    Calls Try.prog 55 #[sp s0 s1, sp t0 t1] w fun e w' => e = .returned (.bool false) ∧ Below w.heap.size w w' := by
  go_enter Try.func55, Try.ntmps55
  go_wp2_with (first | (go_at_call 51; refine (rspanValid_any _ _ _).mono ?_; rintro e w' ⟨rfl, hb⟩; have hs := hb.size; (try simp at hs); have O : Own w (w.heap.size + 2) w' [(w.heap.size, 0, .int .i64 s0), (w.heap.size, 1, .int .i64 s1), (w.heap.size + 1, 0, .int .i64 t0), (w.heap.size + 1, 1, .int .i64 t1)] := (by first | exact Own.keep (by assumption) hb | (repeat' (first | (with_reducible assumption) | (with_reducible exact Below.refl _ _) | (with_reducible exact Cels.nil _) | (with_reducible refine Cels.cons ?_ ?_) | (with_reducible refine Own.mk ?_ ?_ ?_ ?_) | ((with_reducible refine Cel.new ?_ rfl); first | (with_reducible rfl) | omega | (simp; done) | (simp; omega)) | (with_reducible refine Cel.alloc ?_ _) | (with_reducible refine Cel.drew ?_) | (with_reducible refine Cel.setS ?_ _) | (with_reducible refine Has.set ?_ _ _) | (with_reducible exact Has.of (by assumption)) | (with_reducible refine Cel.setO ?_ ?_ _) | (with_reducible refine Cel.keep (by assumption) ?_) | (with_reducible refine Below.alloc ?_ ?_ _) | (with_reducible refine Below.drew ?_) | (with_reducible refine Below.setCell ?_ ?_ _) | (with_reducible refine below_keep ?_ ?_ (by assumption)) | omega | (simp; done) | (simp; omega)))); have hB := O.below; have hz := O.size; have S0 : Cel w' (w.heap.size) 0 (.int .i64 s0) := O.cels.1; have S1 : Cel w' (w.heap.size) 1 (.int .i64 s1) := O.cels.2.1; have S2 : Cel w' (w.heap.size + 1) 0 (.int .i64 t0) := O.cels.2.2.1; have S3 : Cel w' (w.heap.size + 1) 1 (.int .i64 t1) := O.cels.2.2.2.1))
  all_goals
    go_ret
    refine ⟨rfl, ?_⟩
    (repeat' (first | (with_reducible assumption) | (with_reducible exact Below.refl _ _) | (with_reducible exact Cels.nil _) | (with_reducible refine Cels.cons ?_ ?_) | (with_reducible refine Own.mk ?_ ?_ ?_ ?_) | ((with_reducible refine Cel.new ?_ rfl); first | (with_reducible rfl) | omega | (simp; done) | (simp; omega)) | (with_reducible refine Cel.alloc ?_ _) | (with_reducible refine Cel.drew ?_) | (with_reducible refine Cel.setS ?_ _) | (with_reducible refine Has.set ?_ _ _) | (with_reducible exact Has.of (by assumption)) | (with_reducible refine Cel.setO ?_ ?_ _) | (with_reducible refine Cel.keep (by assumption) ?_) | (with_reducible refine Below.alloc ?_ ?_ _) | (with_reducible refine Below.drew ?_) | (with_reducible refine Below.setCell ?_ ?_ _) | (with_reducible refine below_keep ?_ ?_ (by assumption)) | omega | (simp; done) | (simp; omega)))

theorem both_any (s0 s1 t0 t1 : Int) (w : World) : Calls Try.prog 55 #[sp s0 s1, sp t0 t1] w fun e w' => e = .returned (.bool (sv s0 s1 && sv t0 t1)) ∧ Below w.heap.size w w' := by
  cases h1 : sv s0 s1 <;> cases h2 : sv t0 t1
  · exact both_3 s0 s1 t0 t1 w h1 h2
  · exact both_2 s0 s1 t0 t1 w h1 h2
  · exact both_1 s0 s1 t0 t1 w h1 h2
  · exact both_0 s0 s1 t0 t1 w h1 h2

end Go.Proofs.Ytmljnelmnagfoaa
