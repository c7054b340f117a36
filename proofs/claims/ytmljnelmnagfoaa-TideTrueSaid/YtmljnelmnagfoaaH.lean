/- Tide: Height, where it is refused. -/
import Derived.Test.YtmljnelmnagfoaaG
import Derived.RangeFuncBound
import Derived.RangeFuncCalls
import Derived.RangeFuncLeaves
import Derived.Shelf.Abstract
import Derived.Shelf.RegionOpen
import Derived.TacticsInMore
import Derived.LoopNIn
import Derived.LoopIn
set_option linter.unusedVariables false
set_option linter.unusedSimpArgs false
namespace Go.Proofs.Ytmljnelmnagfoaa
open Go.RowKit Go.Shelf
attribute [local go_sem] Oper.semAt_some World.cell?_alloc_some frozen_alloc_some isSome_alloc isSome_setCell

set_option maxHeartbeats 4000000 in
theorem height_b0 (s st : Int) (p : Option Addr) (n c : Nat) (lo hi : Nat → Int) (f u : Int) (w : World) (hL : Lie w p n lo hi) (ht : tval s st n lo hi = false) :
    Calls Try.prog 15 #[tv s st p n c, .int .i64 f, .int .i64 u] w fun e w' => e = .returned (se 0 0 1) ∧ Below w.heap.size w w' := by
  go_enter Try.func15, Try.ntmps15
  go_wp2_with (first | (go_at_call 24; refine (valid_any s st p n c lo hi _ (hL.keep (by (repeat' (first | (with_reducible assumption) | (with_reducible exact Below.refl _ _) | (with_reducible exact Cels.nil _) | (with_reducible refine Cels.cons ?_ ?_) | (with_reducible refine Own.mk ?_ ?_ ?_ ?_) | ((with_reducible refine Cel.new ?_ rfl); first | (with_reducible rfl) | omega | (simp; done) | (simp; omega)) | (with_reducible refine Cel.alloc ?_ _) | (with_reducible refine Cel.drew ?_) | (with_reducible refine Cel.setS ?_ _) | (with_reducible refine Has.set ?_ _ _) | (with_reducible exact Has.of (by assumption)) | (with_reducible refine Cel.setO ?_ ?_ _) | (with_reducible refine Cel.keep (by assumption) ?_) | (with_reducible refine Below.alloc ?_ ?_ _) | (with_reducible refine Below.drew ?_) | (with_reducible refine Below.setCell ?_ ?_ _) | (with_reducible refine below_keep ?_ ?_ (by assumption)) | omega | (simp; done) | (simp; omega)))))).mono ?_; rintro e w' ⟨rfl, hb⟩; have hs := hb.size; (try simp at hs); have O : Own w (w.heap.size + 4) w' [(w.heap.size, 0, .int .i64 s), (w.heap.size, 1, .int .i64 st), (w.heap.size, 2, .slice p n c), (w.heap.size + 1, 0, .int .i64 f), (w.heap.size + 1 + 1, 0, .int .i64 u), (w.heap.size + 1 + 1 + 1, 0, .int .i64 0), (w.heap.size + 1 + 1 + 1, 1, .int .i64 0)] := (by first | exact Own.keep (by assumption) hb | (repeat' (first | (with_reducible assumption) | (with_reducible exact Below.refl _ _) | (with_reducible exact Cels.nil _) | (with_reducible refine Cels.cons ?_ ?_) | (with_reducible refine Own.mk ?_ ?_ ?_ ?_) | ((with_reducible refine Cel.new ?_ rfl); first | (with_reducible rfl) | omega | (simp; done) | (simp; omega)) | (with_reducible refine Cel.alloc ?_ _) | (with_reducible refine Cel.drew ?_) | (with_reducible refine Cel.setS ?_ _) | (with_reducible refine Has.set ?_ _ _) | (with_reducible exact Has.of (by assumption)) | (with_reducible refine Cel.setO ?_ ?_ _) | (with_reducible refine Cel.keep (by assumption) ?_) | (with_reducible refine Below.alloc ?_ ?_ _) | (with_reducible refine Below.drew ?_) | (with_reducible refine Below.setCell ?_ ?_ _) | (with_reducible refine below_keep ?_ ?_ (by assumption)) | omega | (simp; done) | (simp; omega)))); have hB := O.below; have hz := O.size; have S0 : Cel w' (w.heap.size) 0 (.int .i64 s) := O.cels.1; have S1 : Cel w' (w.heap.size) 1 (.int .i64 st) := O.cels.2.1; have S2 : Cel w' (w.heap.size) 2 (.slice p n c) := O.cels.2.2.1; have S3 : Cel w' (w.heap.size + 1) 0 (.int .i64 f) := O.cels.2.2.2.1; have S4 : Cel w' (w.heap.size + 1 + 1) 0 (.int .i64 u) := O.cels.2.2.2.2.1; have S5 : Cel w' (w.heap.size + 1 + 1 + 1) 0 (.int .i64 0) := O.cels.2.2.2.2.2.1; have S6 : Cel w' (w.heap.size + 1 + 1 + 1) 1 (.int .i64 0) := O.cels.2.2.2.2.2.2.1) | (go_at_call 38; refine (isTime_any _ _).mono ?_; rintro e w' ⟨rfl, rfl⟩))
  all_goals
    refine bodyPost_ret (v := se 0 0 1) (by simp [results, Try.results15, go_sem, *] <;> omega) rfl ⟨rfl, ?_⟩
    (repeat' (first | (with_reducible assumption) | (with_reducible exact Below.refl _ _) | (with_reducible exact Cels.nil _) | (with_reducible refine Cels.cons ?_ ?_) | (with_reducible refine Own.mk ?_ ?_ ?_ ?_) | ((with_reducible refine Cel.new ?_ rfl); first | (with_reducible rfl) | omega | (simp; done) | (simp; omega)) | (with_reducible refine Cel.alloc ?_ _) | (with_reducible refine Cel.drew ?_) | (with_reducible refine Cel.setS ?_ _) | (with_reducible refine Has.set ?_ _ _) | (with_reducible exact Has.of (by assumption)) | (with_reducible refine Cel.setO ?_ ?_ _) | (with_reducible refine Cel.keep (by assumption) ?_) | (with_reducible refine Below.alloc ?_ ?_ _) | (with_reducible refine Below.drew ?_) | (with_reducible refine Below.setCell ?_ ?_ _) | (with_reducible refine below_keep ?_ ?_ (by assumption)) | omega | (simp; done) | (simp; omega)))

set_option maxHeartbeats 4000000 in
theorem height_b1 (s st : Int) (p : Option Addr) (n c : Nat) (lo hi : Nat → Int) (f u : Int) (w : World) (hL : Lie w p n lo hi) (ht : tval s st n lo hi = true) (hf : tm f = false) :
    Calls Try.prog 15 #[tv s st p n c, .int .i64 f, .int .i64 u] w fun e w' => e = .returned (se 0 0 1) ∧ Below w.heap.size w w' := by
  go_enter Try.func15, Try.ntmps15
  go_wp2_with (first | (go_at_call 24; refine (valid_any s st p n c lo hi _ (hL.keep (by (repeat' (first | (with_reducible assumption) | (with_reducible exact Below.refl _ _) | (with_reducible exact Cels.nil _) | (with_reducible refine Cels.cons ?_ ?_) | (with_reducible refine Own.mk ?_ ?_ ?_ ?_) | ((with_reducible refine Cel.new ?_ rfl); first | (with_reducible rfl) | omega | (simp; done) | (simp; omega)) | (with_reducible refine Cel.alloc ?_ _) | (with_reducible refine Cel.drew ?_) | (with_reducible refine Cel.setS ?_ _) | (with_reducible refine Has.set ?_ _ _) | (with_reducible exact Has.of (by assumption)) | (with_reducible refine Cel.setO ?_ ?_ _) | (with_reducible refine Cel.keep (by assumption) ?_) | (with_reducible refine Below.alloc ?_ ?_ _) | (with_reducible refine Below.drew ?_) | (with_reducible refine Below.setCell ?_ ?_ _) | (with_reducible refine below_keep ?_ ?_ (by assumption)) | omega | (simp; done) | (simp; omega)))))).mono ?_; rintro e w' ⟨rfl, hb⟩; have hs := hb.size; (try simp at hs); have O : Own w (w.heap.size + 4) w' [(w.heap.size, 0, .int .i64 s), (w.heap.size, 1, .int .i64 st), (w.heap.size, 2, .slice p n c), (w.heap.size + 1, 0, .int .i64 f), (w.heap.size + 1 + 1, 0, .int .i64 u), (w.heap.size + 1 + 1 + 1, 0, .int .i64 0), (w.heap.size + 1 + 1 + 1, 1, .int .i64 0)] := (by first | exact Own.keep (by assumption) hb | (repeat' (first | (with_reducible assumption) | (with_reducible exact Below.refl _ _) | (with_reducible exact Cels.nil _) | (with_reducible refine Cels.cons ?_ ?_) | (with_reducible refine Own.mk ?_ ?_ ?_ ?_) | ((with_reducible refine Cel.new ?_ rfl); first | (with_reducible rfl) | omega | (simp; done) | (simp; omega)) | (with_reducible refine Cel.alloc ?_ _) | (with_reducible refine Cel.drew ?_) | (with_reducible refine Cel.setS ?_ _) | (with_reducible refine Has.set ?_ _ _) | (with_reducible exact Has.of (by assumption)) | (with_reducible refine Cel.setO ?_ ?_ _) | (with_reducible refine Cel.keep (by assumption) ?_) | (with_reducible refine Below.alloc ?_ ?_ _) | (with_reducible refine Below.drew ?_) | (with_reducible refine Below.setCell ?_ ?_ _) | (with_reducible refine below_keep ?_ ?_ (by assumption)) | omega | (simp; done) | (simp; omega)))); have hB := O.below; have hz := O.size; have S0 : Cel w' (w.heap.size) 0 (.int .i64 s) := O.cels.1; have S1 : Cel w' (w.heap.size) 1 (.int .i64 st) := O.cels.2.1; have S2 : Cel w' (w.heap.size) 2 (.slice p n c) := O.cels.2.2.1; have S3 : Cel w' (w.heap.size + 1) 0 (.int .i64 f) := O.cels.2.2.2.1; have S4 : Cel w' (w.heap.size + 1 + 1) 0 (.int .i64 u) := O.cels.2.2.2.2.1; have S5 : Cel w' (w.heap.size + 1 + 1 + 1) 0 (.int .i64 0) := O.cels.2.2.2.2.2.1; have S6 : Cel w' (w.heap.size + 1 + 1 + 1) 1 (.int .i64 0) := O.cels.2.2.2.2.2.2.1) | (go_at_call 38; refine (isTime_any _ _).mono ?_; rintro e w' ⟨rfl, rfl⟩))
  all_goals
    refine bodyPost_ret (v := se 0 0 1) (by simp [results, Try.results15, go_sem, *] <;> omega) rfl ⟨rfl, ?_⟩
    (repeat' (first | (with_reducible assumption) | (with_reducible exact Below.refl _ _) | (with_reducible exact Cels.nil _) | (with_reducible refine Cels.cons ?_ ?_) | (with_reducible refine Own.mk ?_ ?_ ?_ ?_) | ((with_reducible refine Cel.new ?_ rfl); first | (with_reducible rfl) | omega | (simp; done) | (simp; omega)) | (with_reducible refine Cel.alloc ?_ _) | (with_reducible refine Cel.drew ?_) | (with_reducible refine Cel.setS ?_ _) | (with_reducible refine Has.set ?_ _ _) | (with_reducible exact Has.of (by assumption)) | (with_reducible refine Cel.setO ?_ ?_ _) | (with_reducible refine Cel.keep (by assumption) ?_) | (with_reducible refine Below.alloc ?_ ?_ _) | (with_reducible refine Below.drew ?_) | (with_reducible refine Below.setCell ?_ ?_ _) | (with_reducible refine below_keep ?_ ?_ (by assumption)) | omega | (simp; done) | (simp; omega)))

set_option maxHeartbeats 4000000 in
theorem height_b2 (s st : Int) (p : Option Addr) (n c : Nat) (lo hi : Nat → Int) (f u : Int) (w : World) (hL : Lie w p n lo hi) (ht : tval s st n lo hi = true) (hf : tm f = true) (hu : tm u = false) :
    Calls Try.prog 15 #[tv s st p n c, .int .i64 f, .int .i64 u] w fun e w' => e = .returned (se 0 0 1) ∧ Below w.heap.size w w' := by
  go_enter Try.func15, Try.ntmps15
  go_wp2_with (first | (go_at_call 24; refine (valid_any s st p n c lo hi _ (hL.keep (by (repeat' (first | (with_reducible assumption) | (with_reducible exact Below.refl _ _) | (with_reducible exact Cels.nil _) | (with_reducible refine Cels.cons ?_ ?_) | (with_reducible refine Own.mk ?_ ?_ ?_ ?_) | ((with_reducible refine Cel.new ?_ rfl); first | (with_reducible rfl) | omega | (simp; done) | (simp; omega)) | (with_reducible refine Cel.alloc ?_ _) | (with_reducible refine Cel.drew ?_) | (with_reducible refine Cel.setS ?_ _) | (with_reducible refine Has.set ?_ _ _) | (with_reducible exact Has.of (by assumption)) | (with_reducible refine Cel.setO ?_ ?_ _) | (with_reducible refine Cel.keep (by assumption) ?_) | (with_reducible refine Below.alloc ?_ ?_ _) | (with_reducible refine Below.drew ?_) | (with_reducible refine Below.setCell ?_ ?_ _) | (with_reducible refine below_keep ?_ ?_ (by assumption)) | omega | (simp; done) | (simp; omega)))))).mono ?_; rintro e w' ⟨rfl, hb⟩; have hs := hb.size; (try simp at hs); have O : Own w (w.heap.size + 4) w' [(w.heap.size, 0, .int .i64 s), (w.heap.size, 1, .int .i64 st), (w.heap.size, 2, .slice p n c), (w.heap.size + 1, 0, .int .i64 f), (w.heap.size + 1 + 1, 0, .int .i64 u), (w.heap.size + 1 + 1 + 1, 0, .int .i64 0), (w.heap.size + 1 + 1 + 1, 1, .int .i64 0)] := (by first | exact Own.keep (by assumption) hb | (repeat' (first | (with_reducible assumption) | (with_reducible exact Below.refl _ _) | (with_reducible exact Cels.nil _) | (with_reducible refine Cels.cons ?_ ?_) | (with_reducible refine Own.mk ?_ ?_ ?_ ?_) | ((with_reducible refine Cel.new ?_ rfl); first | (with_reducible rfl) | omega | (simp; done) | (simp; omega)) | (with_reducible refine Cel.alloc ?_ _) | (with_reducible refine Cel.drew ?_) | (with_reducible refine Cel.setS ?_ _) | (with_reducible refine Has.set ?_ _ _) | (with_reducible exact Has.of (by assumption)) | (with_reducible refine Cel.setO ?_ ?_ _) | (with_reducible refine Cel.keep (by assumption) ?_) | (with_reducible refine Below.alloc ?_ ?_ _) | (with_reducible refine Below.drew ?_) | (with_reducible refine Below.setCell ?_ ?_ _) | (with_reducible refine below_keep ?_ ?_ (by assumption)) | omega | (simp; done) | (simp; omega)))); have hB := O.below; have hz := O.size; have S0 : Cel w' (w.heap.size) 0 (.int .i64 s) := O.cels.1; have S1 : Cel w' (w.heap.size) 1 (.int .i64 st) := O.cels.2.1; have S2 : Cel w' (w.heap.size) 2 (.slice p n c) := O.cels.2.2.1; have S3 : Cel w' (w.heap.size + 1) 0 (.int .i64 f) := O.cels.2.2.2.1; have S4 : Cel w' (w.heap.size + 1 + 1) 0 (.int .i64 u) := O.cels.2.2.2.2.1; have S5 : Cel w' (w.heap.size + 1 + 1 + 1) 0 (.int .i64 0) := O.cels.2.2.2.2.2.1; have S6 : Cel w' (w.heap.size + 1 + 1 + 1) 1 (.int .i64 0) := O.cels.2.2.2.2.2.2.1) | (go_at_call 38; refine (isTime_any _ _).mono ?_; rintro e w' ⟨rfl, rfl⟩))
  all_goals
    refine bodyPost_ret (v := se 0 0 1) (by simp [results, Try.results15, go_sem, *] <;> omega) rfl ⟨rfl, ?_⟩
    (repeat' (first | (with_reducible assumption) | (with_reducible exact Below.refl _ _) | (with_reducible exact Cels.nil _) | (with_reducible refine Cels.cons ?_ ?_) | (with_reducible refine Own.mk ?_ ?_ ?_ ?_) | ((with_reducible refine Cel.new ?_ rfl); first | (with_reducible rfl) | omega | (simp; done) | (simp; omega)) | (with_reducible refine Cel.alloc ?_ _) | (with_reducible refine Cel.drew ?_) | (with_reducible refine Cel.setS ?_ _) | (with_reducible refine Has.set ?_ _ _) | (with_reducible exact Has.of (by assumption)) | (with_reducible refine Cel.setO ?_ ?_ _) | (with_reducible refine Cel.keep (by assumption) ?_) | (with_reducible refine Below.alloc ?_ ?_ _) | (with_reducible refine Below.drew ?_) | (with_reducible refine Below.setCell ?_ ?_ _) | (with_reducible refine below_keep ?_ ?_ (by assumption)) | omega | (simp; done) | (simp; omega)))

set_option maxHeartbeats 4000000 in
theorem height_b3 (s st : Int) (p : Option Addr) (n c : Nat) (lo hi : Nat → Int) (f u : Int) (w : World) (hL : Lie w p n lo hi) (ht : tval s st n lo hi = true) (hf : tm f = true) (hu : tm u = true) (h1 : u < f) :
    Calls Try.prog 15 #[tv s st p n c, .int .i64 f, .int .i64 u] w fun e w' => e = .returned (se 0 0 1) ∧ Below w.heap.size w w' := by
  obtain ⟨f0, f1⟩ := tm_bd hf
  obtain ⟨u0, u1⟩ := tm_bd hu
  go_enter Try.func15, Try.ntmps15
  go_wp2_with (first | (go_at_call 24; refine (valid_any s st p n c lo hi _ (hL.keep (by (repeat' (first | (with_reducible assumption) | (with_reducible exact Below.refl _ _) | (with_reducible exact Cels.nil _) | (with_reducible refine Cels.cons ?_ ?_) | (with_reducible refine Own.mk ?_ ?_ ?_ ?_) | ((with_reducible refine Cel.new ?_ rfl); first | (with_reducible rfl) | omega | (simp; done) | (simp; omega)) | (with_reducible refine Cel.alloc ?_ _) | (with_reducible refine Cel.drew ?_) | (with_reducible refine Cel.setS ?_ _) | (with_reducible refine Has.set ?_ _ _) | (with_reducible exact Has.of (by assumption)) | (with_reducible refine Cel.setO ?_ ?_ _) | (with_reducible refine Cel.keep (by assumption) ?_) | (with_reducible refine Below.alloc ?_ ?_ _) | (with_reducible refine Below.drew ?_) | (with_reducible refine Below.setCell ?_ ?_ _) | (with_reducible refine below_keep ?_ ?_ (by assumption)) | omega | (simp; done) | (simp; omega)))))).mono ?_; rintro e w' ⟨rfl, hb⟩; have hs := hb.size; (try simp at hs); have O : Own w (w.heap.size + 4) w' [(w.heap.size, 0, .int .i64 s), (w.heap.size, 1, .int .i64 st), (w.heap.size, 2, .slice p n c), (w.heap.size + 1, 0, .int .i64 f), (w.heap.size + 1 + 1, 0, .int .i64 u), (w.heap.size + 1 + 1 + 1, 0, .int .i64 0), (w.heap.size + 1 + 1 + 1, 1, .int .i64 0)] := (by first | exact Own.keep (by assumption) hb | (repeat' (first | (with_reducible assumption) | (with_reducible exact Below.refl _ _) | (with_reducible exact Cels.nil _) | (with_reducible refine Cels.cons ?_ ?_) | (with_reducible refine Own.mk ?_ ?_ ?_ ?_) | ((with_reducible refine Cel.new ?_ rfl); first | (with_reducible rfl) | omega | (simp; done) | (simp; omega)) | (with_reducible refine Cel.alloc ?_ _) | (with_reducible refine Cel.drew ?_) | (with_reducible refine Cel.setS ?_ _) | (with_reducible refine Has.set ?_ _ _) | (with_reducible exact Has.of (by assumption)) | (with_reducible refine Cel.setO ?_ ?_ _) | (with_reducible refine Cel.keep (by assumption) ?_) | (with_reducible refine Below.alloc ?_ ?_ _) | (with_reducible refine Below.drew ?_) | (with_reducible refine Below.setCell ?_ ?_ _) | (with_reducible refine below_keep ?_ ?_ (by assumption)) | omega | (simp; done) | (simp; omega)))); have hB := O.below; have hz := O.size; have S0 : Cel w' (w.heap.size) 0 (.int .i64 s) := O.cels.1; have S1 : Cel w' (w.heap.size) 1 (.int .i64 st) := O.cels.2.1; have S2 : Cel w' (w.heap.size) 2 (.slice p n c) := O.cels.2.2.1; have S3 : Cel w' (w.heap.size + 1) 0 (.int .i64 f) := O.cels.2.2.2.1; have S4 : Cel w' (w.heap.size + 1 + 1) 0 (.int .i64 u) := O.cels.2.2.2.2.1; have S5 : Cel w' (w.heap.size + 1 + 1 + 1) 0 (.int .i64 0) := O.cels.2.2.2.2.2.1; have S6 : Cel w' (w.heap.size + 1 + 1 + 1) 1 (.int .i64 0) := O.cels.2.2.2.2.2.2.1) | (go_at_call 38; refine (isTime_any _ _).mono ?_; rintro e w' ⟨rfl, rfl⟩))
  all_goals
    refine bodyPost_ret (v := se 0 0 1) (by simp [results, Try.results15, go_sem, *] <;> omega) rfl ⟨rfl, ?_⟩
    (repeat' (first | (with_reducible assumption) | (with_reducible exact Below.refl _ _) | (with_reducible exact Cels.nil _) | (with_reducible refine Cels.cons ?_ ?_) | (with_reducible refine Own.mk ?_ ?_ ?_ ?_) | ((with_reducible refine Cel.new ?_ rfl); first | (with_reducible rfl) | omega | (simp; done) | (simp; omega)) | (with_reducible refine Cel.alloc ?_ _) | (with_reducible refine Cel.drew ?_) | (with_reducible refine Cel.setS ?_ _) | (with_reducible refine Has.set ?_ _ _) | (with_reducible exact Has.of (by assumption)) | (with_reducible refine Cel.setO ?_ ?_ _) | (with_reducible refine Cel.keep (by assumption) ?_) | (with_reducible refine Below.alloc ?_ ?_ _) | (with_reducible refine Below.drew ?_) | (with_reducible refine Below.setCell ?_ ?_ _) | (with_reducible refine below_keep ?_ ?_ (by assumption)) | omega | (simp; done) | (simp; omega)))

set_option maxHeartbeats 4000000 in
theorem height_b4 (s st : Int) (p : Option Addr) (n c : Nat) (lo hi : Nat → Int) (f u : Int) (w : World) (hL : Lie w p n lo hi) (ht : tval s st n lo hi = true) (hf : tm f = true) (hu : tm u = true) (h1 : ¬ u < f) (h2 : f < s) :
    Calls Try.prog 15 #[tv s st p n c, .int .i64 f, .int .i64 u] w fun e w' => e = .returned (se 0 0 4) ∧ Below w.heap.size w w' := by
  have hv := tval_tv ht
  obtain ⟨f0, f1⟩ := tm_bd hf
  obtain ⟨u0, u1⟩ := tm_bd hu
  go_enter Try.func15, Try.ntmps15
  go_wp2_with (first | (go_at_call 24; refine (valid_any s st p n c lo hi _ (hL.keep (by (repeat' (first | (with_reducible assumption) | (with_reducible exact Below.refl _ _) | (with_reducible exact Cels.nil _) | (with_reducible refine Cels.cons ?_ ?_) | (with_reducible refine Own.mk ?_ ?_ ?_ ?_) | ((with_reducible refine Cel.new ?_ rfl); first | (with_reducible rfl) | omega | (simp; done) | (simp; omega)) | (with_reducible refine Cel.alloc ?_ _) | (with_reducible refine Cel.drew ?_) | (with_reducible refine Cel.setS ?_ _) | (with_reducible refine Has.set ?_ _ _) | (with_reducible exact Has.of (by assumption)) | (with_reducible refine Cel.setO ?_ ?_ _) | (with_reducible refine Cel.keep (by assumption) ?_) | (with_reducible refine Below.alloc ?_ ?_ _) | (with_reducible refine Below.drew ?_) | (with_reducible refine Below.setCell ?_ ?_ _) | (with_reducible refine below_keep ?_ ?_ (by assumption)) | omega | (simp; done) | (simp; omega)))))).mono ?_; rintro e w' ⟨rfl, hb⟩; have hs := hb.size; (try simp at hs); have O : Own w (w.heap.size + 4) w' [(w.heap.size, 0, .int .i64 s), (w.heap.size, 1, .int .i64 st), (w.heap.size, 2, .slice p n c), (w.heap.size + 1, 0, .int .i64 f), (w.heap.size + 1 + 1, 0, .int .i64 u), (w.heap.size + 1 + 1 + 1, 0, .int .i64 0), (w.heap.size + 1 + 1 + 1, 1, .int .i64 0)] := (by first | exact Own.keep (by assumption) hb | (repeat' (first | (with_reducible assumption) | (with_reducible exact Below.refl _ _) | (with_reducible exact Cels.nil _) | (with_reducible refine Cels.cons ?_ ?_) | (with_reducible refine Own.mk ?_ ?_ ?_ ?_) | ((with_reducible refine Cel.new ?_ rfl); first | (with_reducible rfl) | omega | (simp; done) | (simp; omega)) | (with_reducible refine Cel.alloc ?_ _) | (with_reducible refine Cel.drew ?_) | (with_reducible refine Cel.setS ?_ _) | (with_reducible refine Has.set ?_ _ _) | (with_reducible exact Has.of (by assumption)) | (with_reducible refine Cel.setO ?_ ?_ _) | (with_reducible refine Cel.keep (by assumption) ?_) | (with_reducible refine Below.alloc ?_ ?_ _) | (with_reducible refine Below.drew ?_) | (with_reducible refine Below.setCell ?_ ?_ _) | (with_reducible refine below_keep ?_ ?_ (by assumption)) | omega | (simp; done) | (simp; omega)))); have hB := O.below; have hz := O.size; have S0 : Cel w' (w.heap.size) 0 (.int .i64 s) := O.cels.1; have S1 : Cel w' (w.heap.size) 1 (.int .i64 st) := O.cels.2.1; have S2 : Cel w' (w.heap.size) 2 (.slice p n c) := O.cels.2.2.1; have S3 : Cel w' (w.heap.size + 1) 0 (.int .i64 f) := O.cels.2.2.2.1; have S4 : Cel w' (w.heap.size + 1 + 1) 0 (.int .i64 u) := O.cels.2.2.2.2.1; have S5 : Cel w' (w.heap.size + 1 + 1 + 1) 0 (.int .i64 0) := O.cels.2.2.2.2.2.1; have S6 : Cel w' (w.heap.size + 1 + 1 + 1) 1 (.int .i64 0) := O.cels.2.2.2.2.2.2.1) | (go_at_call 38; refine (isTime_any _ _).mono ?_; rintro e w' ⟨rfl, rfl⟩))
  refine wp_region_by (fun a0 L a' w' => a' = pcs a0 [(30, L 0, .int .i64 f), (31, L 1, .pointer (some ⟨w.heap.size, 0, none⟩)), (32, L 2, .int .i64 s), (33, L 3, .bool true), (34, L 4, .bool true), (35, L 5, undef), (36, L 6, undef), (37, L 7, undef), (38, L 8, undef), (39, L 9, .bool true)] ∧ Own w (w.heap.size + 4) w' [(w.heap.size, 0, .int .i64 s), (w.heap.size, 1, .int .i64 st), (w.heap.size, 2, .slice p n c), (w.heap.size + 1, 0, .int .i64 f), (w.heap.size + 1 + 1, 0, .int .i64 u), (w.heap.size + 1 + 1 + 1, 0, .int .i64 0), (w.heap.size + 1 + 1 + 1, 1, .int .i64 0)]) (by kernel_rfl) (by kernel_rfl) ?_ ?_ ?_
  · exact ⟨(pcs_start _ _ (by simp)).symm, by (repeat' (first | (with_reducible assumption) | (with_reducible exact Below.refl _ _) | (with_reducible exact Cels.nil _) | (with_reducible refine Cels.cons ?_ ?_) | (with_reducible refine Own.mk ?_ ?_ ?_ ?_) | ((with_reducible refine Cel.new ?_ rfl); first | (with_reducible rfl) | omega | (simp; done) | (simp; omega)) | (with_reducible refine Cel.alloc ?_ _) | (with_reducible refine Cel.drew ?_) | (with_reducible refine Cel.setS ?_ _) | (with_reducible refine Has.set ?_ _ _) | (with_reducible exact Has.of (by assumption)) | (with_reducible refine Cel.setO ?_ ?_ _) | (with_reducible refine Cel.keep (by assumption) ?_) | (with_reducible refine Below.alloc ?_ ?_ _) | (with_reducible refine Below.drew ?_) | (with_reducible refine Below.setCell ?_ ?_ _) | (with_reducible refine below_keep ?_ ?_ (by assumption)) | omega | (simp; done) | (simp; omega)))⟩
  · refine ⟨?_, ?_, ?_, ?_, ?_, ?_, ?_, ?_, ?_, ?_, trivial⟩
    · rintro L a' v ⟨rfl, O⟩ hL hd hcl K hK
      have HK := Lib.hid hK
      clear hK
      have hB := O.below; have hz := O.size; have S0 : Cel v (w.heap.size) 0 (.int .i64 s) := O.cels.1; have S1 : Cel v (w.heap.size) 1 (.int .i64 st) := O.cels.2.1; have S2 : Cel v (w.heap.size) 2 (.slice p n c) := O.cels.2.2.1; have S3 : Cel v (w.heap.size + 1) 0 (.int .i64 f) := O.cels.2.2.2.1; have S4 : Cel v (w.heap.size + 1 + 1) 0 (.int .i64 u) := O.cels.2.2.2.2.1; have S5 : Cel v (w.heap.size + 1 + 1 + 1) 0 (.int .i64 0) := O.cels.2.2.2.2.2.1; have S6 : Cel v (w.heap.size + 1 + 1 + 1) 1 (.int .i64 0) := O.cels.2.2.2.2.2.2.1
      simp [Region.binds] at hd
      simp only [pcs, List.foldl_cons, List.foldl_nil, Act.put]
      go_simp
      exact HK.out _ _ ⟨by simp [pcs, Act.put, upd, gomax, gomin, *] <;> omega, O⟩
    · rintro L a' v ⟨rfl, O⟩ hL hd hcl K hK
      have HK := Lib.hid hK
      clear hK
      have hB := O.below; have hz := O.size; have S0 : Cel v (w.heap.size) 0 (.int .i64 s) := O.cels.1; have S1 : Cel v (w.heap.size) 1 (.int .i64 st) := O.cels.2.1; have S2 : Cel v (w.heap.size) 2 (.slice p n c) := O.cels.2.2.1; have S3 : Cel v (w.heap.size + 1) 0 (.int .i64 f) := O.cels.2.2.2.1; have S4 : Cel v (w.heap.size + 1 + 1) 0 (.int .i64 u) := O.cels.2.2.2.2.1; have S5 : Cel v (w.heap.size + 1 + 1 + 1) 0 (.int .i64 0) := O.cels.2.2.2.2.2.1; have S6 : Cel v (w.heap.size + 1 + 1 + 1) 1 (.int .i64 0) := O.cels.2.2.2.2.2.2.1
      simp [Region.binds] at hd
      simp only [pcs, List.foldl_cons, List.foldl_nil, Act.put]
      go_simp
      exact HK.out _ _ ⟨by simp [pcs, Act.put, upd, gomax, gomin, *] <;> omega, O⟩
    · rintro L a' v ⟨rfl, O⟩ hL hd hcl K hK
      have HK := Lib.hid hK
      clear hK
      have hB := O.below; have hz := O.size; have S0 : Cel v (w.heap.size) 0 (.int .i64 s) := O.cels.1; have S1 : Cel v (w.heap.size) 1 (.int .i64 st) := O.cels.2.1; have S2 : Cel v (w.heap.size) 2 (.slice p n c) := O.cels.2.2.1; have S3 : Cel v (w.heap.size + 1) 0 (.int .i64 f) := O.cels.2.2.2.1; have S4 : Cel v (w.heap.size + 1 + 1) 0 (.int .i64 u) := O.cels.2.2.2.2.1; have S5 : Cel v (w.heap.size + 1 + 1 + 1) 0 (.int .i64 0) := O.cels.2.2.2.2.2.1; have S6 : Cel v (w.heap.size + 1 + 1 + 1) 1 (.int .i64 0) := O.cels.2.2.2.2.2.2.1
      simp [Region.binds] at hd
      simp only [pcs, List.foldl_cons, List.foldl_nil, Act.put]
      go_simp
      exact HK.out _ _ ⟨by simp [pcs, Act.put, upd, gomax, gomin, *] <;> omega, O⟩
    · rintro L a' v ⟨rfl, O⟩ hL hd hcl K hK
      have HK := Lib.hid hK
      clear hK
      have hB := O.below; have hz := O.size; have S0 : Cel v (w.heap.size) 0 (.int .i64 s) := O.cels.1; have S1 : Cel v (w.heap.size) 1 (.int .i64 st) := O.cels.2.1; have S2 : Cel v (w.heap.size) 2 (.slice p n c) := O.cels.2.2.1; have S3 : Cel v (w.heap.size + 1) 0 (.int .i64 f) := O.cels.2.2.2.1; have S4 : Cel v (w.heap.size + 1 + 1) 0 (.int .i64 u) := O.cels.2.2.2.2.1; have S5 : Cel v (w.heap.size + 1 + 1 + 1) 0 (.int .i64 0) := O.cels.2.2.2.2.2.1; have S6 : Cel v (w.heap.size + 1 + 1 + 1) 1 (.int .i64 0) := O.cels.2.2.2.2.2.2.1
      simp [Region.binds] at hd
      simp only [pcs, List.foldl_cons, List.foldl_nil, Act.put]
      go_simp
      exact HK.out _ _ ⟨by simp [pcs, Act.put, upd, gomax, gomin, *] <;> omega, O⟩
    · rintro L a' v ⟨rfl, O⟩ hL hd hcl K hK
      have HK := Lib.hid hK
      clear hK
      have hB := O.below; have hz := O.size; have S0 : Cel v (w.heap.size) 0 (.int .i64 s) := O.cels.1; have S1 : Cel v (w.heap.size) 1 (.int .i64 st) := O.cels.2.1; have S2 : Cel v (w.heap.size) 2 (.slice p n c) := O.cels.2.2.1; have S3 : Cel v (w.heap.size + 1) 0 (.int .i64 f) := O.cels.2.2.2.1; have S4 : Cel v (w.heap.size + 1 + 1) 0 (.int .i64 u) := O.cels.2.2.2.2.1; have S5 : Cel v (w.heap.size + 1 + 1 + 1) 0 (.int .i64 0) := O.cels.2.2.2.2.2.1; have S6 : Cel v (w.heap.size + 1 + 1 + 1) 1 (.int .i64 0) := O.cels.2.2.2.2.2.2.1
      simp [Region.binds] at hd
      simp only [pcs, List.foldl_cons, List.foldl_nil, Act.put]
      go_simp
      exact HK.out _ _ ⟨by simp [pcs, Act.put, upd, gomax, gomin, *] <;> omega, O⟩
    · rintro L a' v ⟨rfl, O⟩ hL hd hcl K hK
      have HK := Lib.hid hK
      clear hK
      have hB := O.below; have hz := O.size; have S0 : Cel v (w.heap.size) 0 (.int .i64 s) := O.cels.1; have S1 : Cel v (w.heap.size) 1 (.int .i64 st) := O.cels.2.1; have S2 : Cel v (w.heap.size) 2 (.slice p n c) := O.cels.2.2.1; have S3 : Cel v (w.heap.size + 1) 0 (.int .i64 f) := O.cels.2.2.2.1; have S4 : Cel v (w.heap.size + 1 + 1) 0 (.int .i64 u) := O.cels.2.2.2.2.1; have S5 : Cel v (w.heap.size + 1 + 1 + 1) 0 (.int .i64 0) := O.cels.2.2.2.2.2.1; have S6 : Cel v (w.heap.size + 1 + 1 + 1) 1 (.int .i64 0) := O.cels.2.2.2.2.2.2.1
      simp [Region.binds] at hd
      simp only [pcs, List.foldl_cons, List.foldl_nil, Act.put]
      go_simp
      exact HK.out _ _ ⟨by simp [pcs, Act.put, upd, gomax, gomin, *] <;> omega, O⟩
    · rintro L a' v ⟨rfl, O⟩ hL hd hcl K hK
      have HK := Lib.hid hK
      clear hK
      have hB := O.below; have hz := O.size; have S0 : Cel v (w.heap.size) 0 (.int .i64 s) := O.cels.1; have S1 : Cel v (w.heap.size) 1 (.int .i64 st) := O.cels.2.1; have S2 : Cel v (w.heap.size) 2 (.slice p n c) := O.cels.2.2.1; have S3 : Cel v (w.heap.size + 1) 0 (.int .i64 f) := O.cels.2.2.2.1; have S4 : Cel v (w.heap.size + 1 + 1) 0 (.int .i64 u) := O.cels.2.2.2.2.1; have S5 : Cel v (w.heap.size + 1 + 1 + 1) 0 (.int .i64 0) := O.cels.2.2.2.2.2.1; have S6 : Cel v (w.heap.size + 1 + 1 + 1) 1 (.int .i64 0) := O.cels.2.2.2.2.2.2.1
      simp [Region.binds] at hd
      simp only [pcs, List.foldl_cons, List.foldl_nil, Act.put]
      go_simp
      exact HK.out _ _ ⟨by simp [pcs, Act.put, upd, gomax, gomin, *] <;> omega, O⟩
    · rintro L a' v ⟨rfl, O⟩ hL hd hcl K hK
      have HK := Lib.hid hK
      clear hK
      have hB := O.below; have hz := O.size; have S0 : Cel v (w.heap.size) 0 (.int .i64 s) := O.cels.1; have S1 : Cel v (w.heap.size) 1 (.int .i64 st) := O.cels.2.1; have S2 : Cel v (w.heap.size) 2 (.slice p n c) := O.cels.2.2.1; have S3 : Cel v (w.heap.size + 1) 0 (.int .i64 f) := O.cels.2.2.2.1; have S4 : Cel v (w.heap.size + 1 + 1) 0 (.int .i64 u) := O.cels.2.2.2.2.1; have S5 : Cel v (w.heap.size + 1 + 1 + 1) 0 (.int .i64 0) := O.cels.2.2.2.2.2.1; have S6 : Cel v (w.heap.size + 1 + 1 + 1) 1 (.int .i64 0) := O.cels.2.2.2.2.2.2.1
      simp [Region.binds] at hd
      simp only [pcs, List.foldl_cons, List.foldl_nil, Act.put]
      go_simp
      exact HK.out _ _ ⟨by simp [pcs, Act.put, upd, gomax, gomin, *] <;> omega, O⟩
    · rintro L a' v ⟨rfl, O⟩ hL hd hcl K hK
      have HK := Lib.hid hK
      clear hK
      have hB := O.below; have hz := O.size; have S0 : Cel v (w.heap.size) 0 (.int .i64 s) := O.cels.1; have S1 : Cel v (w.heap.size) 1 (.int .i64 st) := O.cels.2.1; have S2 : Cel v (w.heap.size) 2 (.slice p n c) := O.cels.2.2.1; have S3 : Cel v (w.heap.size + 1) 0 (.int .i64 f) := O.cels.2.2.2.1; have S4 : Cel v (w.heap.size + 1 + 1) 0 (.int .i64 u) := O.cels.2.2.2.2.1; have S5 : Cel v (w.heap.size + 1 + 1 + 1) 0 (.int .i64 0) := O.cels.2.2.2.2.2.1; have S6 : Cel v (w.heap.size + 1 + 1 + 1) 1 (.int .i64 0) := O.cels.2.2.2.2.2.2.1
      simp [Region.binds] at hd
      simp only [pcs, List.foldl_cons, List.foldl_nil, Act.put]
      go_simp
      exact HK.out _ _ ⟨by simp [pcs, Act.put, upd, gomax, gomin, *] <;> omega, O⟩
    · rintro L a' v ⟨rfl, O⟩ hL hd hcl K hK
      have HK := Lib.hid hK
      clear hK
      have hB := O.below; have hz := O.size; have S0 : Cel v (w.heap.size) 0 (.int .i64 s) := O.cels.1; have S1 : Cel v (w.heap.size) 1 (.int .i64 st) := O.cels.2.1; have S2 : Cel v (w.heap.size) 2 (.slice p n c) := O.cels.2.2.1; have S3 : Cel v (w.heap.size + 1) 0 (.int .i64 f) := O.cels.2.2.2.1; have S4 : Cel v (w.heap.size + 1 + 1) 0 (.int .i64 u) := O.cels.2.2.2.2.1; have S5 : Cel v (w.heap.size + 1 + 1 + 1) 0 (.int .i64 0) := O.cels.2.2.2.2.2.1; have S6 : Cel v (w.heap.size + 1 + 1 + 1) 1 (.int .i64 0) := O.cels.2.2.2.2.2.2.1
      simp [Region.binds] at hd
      simp only [pcs, List.foldl_cons, List.foldl_nil, Act.put]
      go_simp
      exact HK.out _ _ ⟨by simp [pcs, Act.put, upd, gomax, gomin, *] <;> omega, O⟩
  rintro L a' w3 hL ⟨ea, OO⟩
  have L0 := hL 0 (by decide); have L1 := hL 1 (by decide); have L2 := hL 2 (by decide); have L3 := hL 3 (by decide); have L4 := hL 4 (by decide); have L5 := hL 5 (by decide); have L6 := hL 6 (by decide); have L7 := hL 7 (by decide); have L8 := hL 8 (by decide); have L9 := hL 9 (by decide)
  have hB3 := OO.below; have hz3 := OO.size; have hl3 := OO.le; have S3_0 : Cel w3 (w.heap.size) 0 (.int .i64 s) := OO.cels.1; have S3_1 : Cel w3 (w.heap.size) 1 (.int .i64 st) := OO.cels.2.1; have S3_2 : Cel w3 (w.heap.size) 2 (.slice p n c) := OO.cels.2.2.1; have S3_3 : Cel w3 (w.heap.size + 1) 0 (.int .i64 f) := OO.cels.2.2.2.1; have S3_4 : Cel w3 (w.heap.size + 1 + 1) 0 (.int .i64 u) := OO.cels.2.2.2.2.1; have S3_5 : Cel w3 (w.heap.size + 1 + 1 + 1) 0 (.int .i64 0) := OO.cels.2.2.2.2.2.1; have S3_6 : Cel w3 (w.heap.size + 1 + 1 + 1) 1 (.int .i64 0) := OO.cels.2.2.2.2.2.2.1
  simp [pcs, Act.put, L0, L1, L2, L3, L4, L5, L6, L7, L8, L9] at ea
  subst ea
  clear hL L0 L1 L2 L3 L4 L5 L6 L7 L8 L9
  have O3 : Own w (w3.heap.size) w3 [(w.heap.size, 0, .int .i64 s), (w.heap.size, 1, .int .i64 st), (w.heap.size, 2, .slice p n c), (w.heap.size + 1, 0, .int .i64 f), (w.heap.size + 1 + 1, 0, .int .i64 u), (w.heap.size + 1 + 1 + 1, 0, .int .i64 0), (w.heap.size + 1 + 1 + 1, 1, .int .i64 0)] := ⟨hB3, Nat.le_refl _, (by (repeat' (first | (with_reducible assumption) | (with_reducible exact Below.refl _ _) | (with_reducible exact Cels.nil _) | (with_reducible refine Cels.cons ?_ ?_) | (with_reducible refine Own.mk ?_ ?_ ?_ ?_) | ((with_reducible refine Cel.new ?_ rfl); first | (with_reducible rfl) | omega | (simp; done) | (simp; omega)) | (with_reducible refine Cel.alloc ?_ _) | (with_reducible refine Cel.drew ?_) | (with_reducible refine Cel.setS ?_ _) | (with_reducible refine Has.set ?_ _ _) | (with_reducible exact Has.of (by assumption)) | (with_reducible refine Cel.setO ?_ ?_ _) | (with_reducible refine Cel.keep (by assumption) ?_) | (with_reducible refine Below.alloc ?_ ?_ _) | (with_reducible refine Below.drew ?_) | (with_reducible refine Below.setCell ?_ ?_ _) | (with_reducible refine below_keep ?_ ?_ (by assumption)) | omega | (simp; done) | (simp; omega)))), hB3.size⟩
  clear OO
  go_wp2_with fail
  all_goals
    refine bodyPost_ret (v := se 0 0 4) (by simp [results, Try.results15, go_sem, *] <;> omega) rfl ⟨rfl, ?_⟩
    (repeat' (first | (with_reducible assumption) | (with_reducible exact Below.refl _ _) | (with_reducible exact Cels.nil _) | (with_reducible refine Cels.cons ?_ ?_) | (with_reducible refine Own.mk ?_ ?_ ?_ ?_) | ((with_reducible refine Cel.new ?_ rfl); first | (with_reducible rfl) | omega | (simp; done) | (simp; omega)) | (with_reducible refine Cel.alloc ?_ _) | (with_reducible refine Cel.drew ?_) | (with_reducible refine Cel.setS ?_ _) | (with_reducible refine Has.set ?_ _ _) | (with_reducible exact Has.of (by assumption)) | (with_reducible refine Cel.setO ?_ ?_ _) | (with_reducible refine Cel.keep (by assumption) ?_) | (with_reducible refine Below.alloc ?_ ?_ _) | (with_reducible refine Below.drew ?_) | (with_reducible refine Below.setCell ?_ ?_ _) | (with_reducible refine below_keep ?_ ?_ (by assumption)) | omega | (simp; done) | (simp; omega)))

set_option maxHeartbeats 4000000 in
theorem height_b5 (s st : Int) (p : Option Addr) (n c : Nat) (lo hi : Nat → Int) (f u : Int) (w : World) (hL : Lie w p n lo hi) (ht : tval s st n lo hi = true) (hf : tm f = true) (hu : tm u = true) (h1 : ¬ u < f) (h2 : ¬ f < s) (h3 : s + ((n : Int) - 1) * st < u) :
    Calls Try.prog 15 #[tv s st p n c, .int .i64 f, .int .i64 u] w fun e w' => e = .returned (se 0 0 4) ∧ Below w.heap.size w w' := by
  have hv := tval_tv ht
  obtain ⟨f0, f1⟩ := tm_bd hf
  obtain ⟨u0, u1⟩ := tm_bd hu
  obtain ⟨p0, p1⟩ := prod_bd hv.n0 hv.n1 hv.st0 hv.st1
  go_enter Try.func15, Try.ntmps15
  go_wp2_with (first | (go_at_call 24; refine (valid_any s st p n c lo hi _ (hL.keep (by (repeat' (first | (with_reducible assumption) | (with_reducible exact Below.refl _ _) | (with_reducible exact Cels.nil _) | (with_reducible refine Cels.cons ?_ ?_) | (with_reducible refine Own.mk ?_ ?_ ?_ ?_) | ((with_reducible refine Cel.new ?_ rfl); first | (with_reducible rfl) | omega | (simp; done) | (simp; omega)) | (with_reducible refine Cel.alloc ?_ _) | (with_reducible refine Cel.drew ?_) | (with_reducible refine Cel.setS ?_ _) | (with_reducible refine Has.set ?_ _ _) | (with_reducible exact Has.of (by assumption)) | (with_reducible refine Cel.setO ?_ ?_ _) | (with_reducible refine Cel.keep (by assumption) ?_) | (with_reducible refine Below.alloc ?_ ?_ _) | (with_reducible refine Below.drew ?_) | (with_reducible refine Below.setCell ?_ ?_ _) | (with_reducible refine below_keep ?_ ?_ (by assumption)) | omega | (simp; done) | (simp; omega)))))).mono ?_; rintro e w' ⟨rfl, hb⟩; have hs := hb.size; (try simp at hs); have O : Own w (w.heap.size + 4) w' [(w.heap.size, 0, .int .i64 s), (w.heap.size, 1, .int .i64 st), (w.heap.size, 2, .slice p n c), (w.heap.size + 1, 0, .int .i64 f), (w.heap.size + 1 + 1, 0, .int .i64 u), (w.heap.size + 1 + 1 + 1, 0, .int .i64 0), (w.heap.size + 1 + 1 + 1, 1, .int .i64 0)] := (by first | exact Own.keep (by assumption) hb | (repeat' (first | (with_reducible assumption) | (with_reducible exact Below.refl _ _) | (with_reducible exact Cels.nil _) | (with_reducible refine Cels.cons ?_ ?_) | (with_reducible refine Own.mk ?_ ?_ ?_ ?_) | ((with_reducible refine Cel.new ?_ rfl); first | (with_reducible rfl) | omega | (simp; done) | (simp; omega)) | (with_reducible refine Cel.alloc ?_ _) | (with_reducible refine Cel.drew ?_) | (with_reducible refine Cel.setS ?_ _) | (with_reducible refine Has.set ?_ _ _) | (with_reducible exact Has.of (by assumption)) | (with_reducible refine Cel.setO ?_ ?_ _) | (with_reducible refine Cel.keep (by assumption) ?_) | (with_reducible refine Below.alloc ?_ ?_ _) | (with_reducible refine Below.drew ?_) | (with_reducible refine Below.setCell ?_ ?_ _) | (with_reducible refine below_keep ?_ ?_ (by assumption)) | omega | (simp; done) | (simp; omega)))); have hB := O.below; have hz := O.size; have S0 : Cel w' (w.heap.size) 0 (.int .i64 s) := O.cels.1; have S1 : Cel w' (w.heap.size) 1 (.int .i64 st) := O.cels.2.1; have S2 : Cel w' (w.heap.size) 2 (.slice p n c) := O.cels.2.2.1; have S3 : Cel w' (w.heap.size + 1) 0 (.int .i64 f) := O.cels.2.2.2.1; have S4 : Cel w' (w.heap.size + 1 + 1) 0 (.int .i64 u) := O.cels.2.2.2.2.1; have S5 : Cel w' (w.heap.size + 1 + 1 + 1) 0 (.int .i64 0) := O.cels.2.2.2.2.2.1; have S6 : Cel w' (w.heap.size + 1 + 1 + 1) 1 (.int .i64 0) := O.cels.2.2.2.2.2.2.1) | (go_at_call 38; refine (isTime_any _ _).mono ?_; rintro e w' ⟨rfl, rfl⟩))
  refine wp_region_by (fun a0 L a' w' => a' = pcs a0 [(30, L 0, .int .i64 f), (31, L 1, .pointer (some ⟨w.heap.size, 0, none⟩)), (32, L 2, .int .i64 s), (33, L 3, .bool false), (34, L 4, .bool false), (35, L 5, .int .i64 u), (36, L 6, tv s st p n c), (37, L 7, .int .i64 (s + ((n : Int) - 1) * st)), (38, L 8, .bool true), (39, L 9, .bool true)] ∧ Own w (w.heap.size + 4) w' [(w.heap.size, 0, .int .i64 s), (w.heap.size, 1, .int .i64 st), (w.heap.size, 2, .slice p n c), (w.heap.size + 1, 0, .int .i64 f), (w.heap.size + 1 + 1, 0, .int .i64 u), (w.heap.size + 1 + 1 + 1, 0, .int .i64 0), (w.heap.size + 1 + 1 + 1, 1, .int .i64 0)]) (by kernel_rfl) (by kernel_rfl) ?_ ?_ ?_
  · exact ⟨(pcs_start _ _ (by simp)).symm, by (repeat' (first | (with_reducible assumption) | (with_reducible exact Below.refl _ _) | (with_reducible exact Cels.nil _) | (with_reducible refine Cels.cons ?_ ?_) | (with_reducible refine Own.mk ?_ ?_ ?_ ?_) | ((with_reducible refine Cel.new ?_ rfl); first | (with_reducible rfl) | omega | (simp; done) | (simp; omega)) | (with_reducible refine Cel.alloc ?_ _) | (with_reducible refine Cel.drew ?_) | (with_reducible refine Cel.setS ?_ _) | (with_reducible refine Has.set ?_ _ _) | (with_reducible exact Has.of (by assumption)) | (with_reducible refine Cel.setO ?_ ?_ _) | (with_reducible refine Cel.keep (by assumption) ?_) | (with_reducible refine Below.alloc ?_ ?_ _) | (with_reducible refine Below.drew ?_) | (with_reducible refine Below.setCell ?_ ?_ _) | (with_reducible refine below_keep ?_ ?_ (by assumption)) | omega | (simp; done) | (simp; omega)))⟩
  · refine ⟨?_, ?_, ?_, ?_, ?_, ?_, ?_, ?_, ?_, ?_, trivial⟩
    · rintro L a' v ⟨rfl, O⟩ hL hd hcl K hK
      have HK := Lib.hid hK
      clear hK
      have hB := O.below; have hz := O.size; have S0 : Cel v (w.heap.size) 0 (.int .i64 s) := O.cels.1; have S1 : Cel v (w.heap.size) 1 (.int .i64 st) := O.cels.2.1; have S2 : Cel v (w.heap.size) 2 (.slice p n c) := O.cels.2.2.1; have S3 : Cel v (w.heap.size + 1) 0 (.int .i64 f) := O.cels.2.2.2.1; have S4 : Cel v (w.heap.size + 1 + 1) 0 (.int .i64 u) := O.cels.2.2.2.2.1; have S5 : Cel v (w.heap.size + 1 + 1 + 1) 0 (.int .i64 0) := O.cels.2.2.2.2.2.1; have S6 : Cel v (w.heap.size + 1 + 1 + 1) 1 (.int .i64 0) := O.cels.2.2.2.2.2.2.1
      simp [Region.binds] at hd
      simp only [pcs, List.foldl_cons, List.foldl_nil, Act.put]
      go_simp
      exact HK.out _ _ ⟨by simp [pcs, Act.put, upd, gomax, gomin, *] <;> omega, O⟩
    · rintro L a' v ⟨rfl, O⟩ hL hd hcl K hK
      have HK := Lib.hid hK
      clear hK
      have hB := O.below; have hz := O.size; have S0 : Cel v (w.heap.size) 0 (.int .i64 s) := O.cels.1; have S1 : Cel v (w.heap.size) 1 (.int .i64 st) := O.cels.2.1; have S2 : Cel v (w.heap.size) 2 (.slice p n c) := O.cels.2.2.1; have S3 : Cel v (w.heap.size + 1) 0 (.int .i64 f) := O.cels.2.2.2.1; have S4 : Cel v (w.heap.size + 1 + 1) 0 (.int .i64 u) := O.cels.2.2.2.2.1; have S5 : Cel v (w.heap.size + 1 + 1 + 1) 0 (.int .i64 0) := O.cels.2.2.2.2.2.1; have S6 : Cel v (w.heap.size + 1 + 1 + 1) 1 (.int .i64 0) := O.cels.2.2.2.2.2.2.1
      simp [Region.binds] at hd
      simp only [pcs, List.foldl_cons, List.foldl_nil, Act.put]
      go_simp
      exact HK.out _ _ ⟨by simp [pcs, Act.put, upd, gomax, gomin, *] <;> omega, O⟩
    · rintro L a' v ⟨rfl, O⟩ hL hd hcl K hK
      have HK := Lib.hid hK
      clear hK
      have hB := O.below; have hz := O.size; have S0 : Cel v (w.heap.size) 0 (.int .i64 s) := O.cels.1; have S1 : Cel v (w.heap.size) 1 (.int .i64 st) := O.cels.2.1; have S2 : Cel v (w.heap.size) 2 (.slice p n c) := O.cels.2.2.1; have S3 : Cel v (w.heap.size + 1) 0 (.int .i64 f) := O.cels.2.2.2.1; have S4 : Cel v (w.heap.size + 1 + 1) 0 (.int .i64 u) := O.cels.2.2.2.2.1; have S5 : Cel v (w.heap.size + 1 + 1 + 1) 0 (.int .i64 0) := O.cels.2.2.2.2.2.1; have S6 : Cel v (w.heap.size + 1 + 1 + 1) 1 (.int .i64 0) := O.cels.2.2.2.2.2.2.1
      simp [Region.binds] at hd
      simp only [pcs, List.foldl_cons, List.foldl_nil, Act.put]
      go_simp
      exact HK.out _ _ ⟨by simp [pcs, Act.put, upd, gomax, gomin, *] <;> omega, O⟩
    · rintro L a' v ⟨rfl, O⟩ hL hd hcl K hK
      have HK := Lib.hid hK
      clear hK
      have hB := O.below; have hz := O.size; have S0 : Cel v (w.heap.size) 0 (.int .i64 s) := O.cels.1; have S1 : Cel v (w.heap.size) 1 (.int .i64 st) := O.cels.2.1; have S2 : Cel v (w.heap.size) 2 (.slice p n c) := O.cels.2.2.1; have S3 : Cel v (w.heap.size + 1) 0 (.int .i64 f) := O.cels.2.2.2.1; have S4 : Cel v (w.heap.size + 1 + 1) 0 (.int .i64 u) := O.cels.2.2.2.2.1; have S5 : Cel v (w.heap.size + 1 + 1 + 1) 0 (.int .i64 0) := O.cels.2.2.2.2.2.1; have S6 : Cel v (w.heap.size + 1 + 1 + 1) 1 (.int .i64 0) := O.cels.2.2.2.2.2.2.1
      simp [Region.binds] at hd
      simp only [pcs, List.foldl_cons, List.foldl_nil, Act.put]
      go_simp
      exact HK.out _ _ ⟨by simp [pcs, Act.put, upd, gomax, gomin, *] <;> omega, O⟩
    · rintro L a' v ⟨rfl, O⟩ hL hd hcl K hK
      have HK := Lib.hid hK
      clear hK
      have hB := O.below; have hz := O.size; have S0 : Cel v (w.heap.size) 0 (.int .i64 s) := O.cels.1; have S1 : Cel v (w.heap.size) 1 (.int .i64 st) := O.cels.2.1; have S2 : Cel v (w.heap.size) 2 (.slice p n c) := O.cels.2.2.1; have S3 : Cel v (w.heap.size + 1) 0 (.int .i64 f) := O.cels.2.2.2.1; have S4 : Cel v (w.heap.size + 1 + 1) 0 (.int .i64 u) := O.cels.2.2.2.2.1; have S5 : Cel v (w.heap.size + 1 + 1 + 1) 0 (.int .i64 0) := O.cels.2.2.2.2.2.1; have S6 : Cel v (w.heap.size + 1 + 1 + 1) 1 (.int .i64 0) := O.cels.2.2.2.2.2.2.1
      simp [Region.binds] at hd
      simp only [pcs, List.foldl_cons, List.foldl_nil, Act.put]
      go_simp
      exact HK.out _ _ ⟨by simp [pcs, Act.put, upd, gomax, gomin, *] <;> omega, O⟩
    · rintro L a' v ⟨rfl, O⟩ hL hd hcl K hK
      have HK := Lib.hid hK
      clear hK
      have hB := O.below; have hz := O.size; have S0 : Cel v (w.heap.size) 0 (.int .i64 s) := O.cels.1; have S1 : Cel v (w.heap.size) 1 (.int .i64 st) := O.cels.2.1; have S2 : Cel v (w.heap.size) 2 (.slice p n c) := O.cels.2.2.1; have S3 : Cel v (w.heap.size + 1) 0 (.int .i64 f) := O.cels.2.2.2.1; have S4 : Cel v (w.heap.size + 1 + 1) 0 (.int .i64 u) := O.cels.2.2.2.2.1; have S5 : Cel v (w.heap.size + 1 + 1 + 1) 0 (.int .i64 0) := O.cels.2.2.2.2.2.1; have S6 : Cel v (w.heap.size + 1 + 1 + 1) 1 (.int .i64 0) := O.cels.2.2.2.2.2.2.1
      simp [Region.binds] at hd
      simp only [pcs, List.foldl_cons, List.foldl_nil, Act.put]
      go_simp
      exact HK.out _ _ ⟨by simp [pcs, Act.put, upd, gomax, gomin, *] <;> omega, O⟩
    · rintro L a' v ⟨rfl, O⟩ hL hd hcl K hK
      have HK := Lib.hid hK
      clear hK
      have hB := O.below; have hz := O.size; have S0 : Cel v (w.heap.size) 0 (.int .i64 s) := O.cels.1; have S1 : Cel v (w.heap.size) 1 (.int .i64 st) := O.cels.2.1; have S2 : Cel v (w.heap.size) 2 (.slice p n c) := O.cels.2.2.1; have S3 : Cel v (w.heap.size + 1) 0 (.int .i64 f) := O.cels.2.2.2.1; have S4 : Cel v (w.heap.size + 1 + 1) 0 (.int .i64 u) := O.cels.2.2.2.2.1; have S5 : Cel v (w.heap.size + 1 + 1 + 1) 0 (.int .i64 0) := O.cels.2.2.2.2.2.1; have S6 : Cel v (w.heap.size + 1 + 1 + 1) 1 (.int .i64 0) := O.cels.2.2.2.2.2.2.1
      simp [Region.binds] at hd
      simp only [pcs, List.foldl_cons, List.foldl_nil, Act.put]
      go_simp
      exact HK.out _ _ ⟨by simp [pcs, Act.put, upd, gomax, gomin, *] <;> omega, O⟩
    · rintro L a' v ⟨rfl, O⟩ hL hd hcl K hK
      have HK := Lib.hid hK
      clear hK
      have hB := O.below; have hz := O.size; have S0 : Cel v (w.heap.size) 0 (.int .i64 s) := O.cels.1; have S1 : Cel v (w.heap.size) 1 (.int .i64 st) := O.cels.2.1; have S2 : Cel v (w.heap.size) 2 (.slice p n c) := O.cels.2.2.1; have S3 : Cel v (w.heap.size + 1) 0 (.int .i64 f) := O.cels.2.2.2.1; have S4 : Cel v (w.heap.size + 1 + 1) 0 (.int .i64 u) := O.cels.2.2.2.2.1; have S5 : Cel v (w.heap.size + 1 + 1 + 1) 0 (.int .i64 0) := O.cels.2.2.2.2.2.1; have S6 : Cel v (w.heap.size + 1 + 1 + 1) 1 (.int .i64 0) := O.cels.2.2.2.2.2.2.1
      simp [Region.binds] at hd
      simp only [pcs, List.foldl_cons, List.foldl_nil, Act.put]
      go_simp
      refine (last_any s st p n c _ hv.s0 hv.s1 hv.n0 hv.n1 hv.st0 hv.st1).mono ?_
      rintro e v' ⟨rfl, hb⟩
      go_simp
      exact HK.out _ _ ⟨by simp [pcs, Act.put, upd, gomax, gomin, *] <;> omega, O.keep hb⟩
    · rintro L a' v ⟨rfl, O⟩ hL hd hcl K hK
      have HK := Lib.hid hK
      clear hK
      have hB := O.below; have hz := O.size; have S0 : Cel v (w.heap.size) 0 (.int .i64 s) := O.cels.1; have S1 : Cel v (w.heap.size) 1 (.int .i64 st) := O.cels.2.1; have S2 : Cel v (w.heap.size) 2 (.slice p n c) := O.cels.2.2.1; have S3 : Cel v (w.heap.size + 1) 0 (.int .i64 f) := O.cels.2.2.2.1; have S4 : Cel v (w.heap.size + 1 + 1) 0 (.int .i64 u) := O.cels.2.2.2.2.1; have S5 : Cel v (w.heap.size + 1 + 1 + 1) 0 (.int .i64 0) := O.cels.2.2.2.2.2.1; have S6 : Cel v (w.heap.size + 1 + 1 + 1) 1 (.int .i64 0) := O.cels.2.2.2.2.2.2.1
      simp [Region.binds] at hd
      simp only [pcs, List.foldl_cons, List.foldl_nil, Act.put]
      go_simp
      exact HK.out _ _ ⟨by simp [pcs, Act.put, upd, gomax, gomin, *] <;> omega, O⟩
    · rintro L a' v ⟨rfl, O⟩ hL hd hcl K hK
      have HK := Lib.hid hK
      clear hK
      have hB := O.below; have hz := O.size; have S0 : Cel v (w.heap.size) 0 (.int .i64 s) := O.cels.1; have S1 : Cel v (w.heap.size) 1 (.int .i64 st) := O.cels.2.1; have S2 : Cel v (w.heap.size) 2 (.slice p n c) := O.cels.2.2.1; have S3 : Cel v (w.heap.size + 1) 0 (.int .i64 f) := O.cels.2.2.2.1; have S4 : Cel v (w.heap.size + 1 + 1) 0 (.int .i64 u) := O.cels.2.2.2.2.1; have S5 : Cel v (w.heap.size + 1 + 1 + 1) 0 (.int .i64 0) := O.cels.2.2.2.2.2.1; have S6 : Cel v (w.heap.size + 1 + 1 + 1) 1 (.int .i64 0) := O.cels.2.2.2.2.2.2.1
      simp [Region.binds] at hd
      simp only [pcs, List.foldl_cons, List.foldl_nil, Act.put]
      go_simp
      exact HK.out _ _ ⟨by simp [pcs, Act.put, upd, gomax, gomin, *] <;> omega, O⟩
  rintro L a' w3 hL ⟨ea, OO⟩
  have L0 := hL 0 (by decide); have L1 := hL 1 (by decide); have L2 := hL 2 (by decide); have L3 := hL 3 (by decide); have L4 := hL 4 (by decide); have L5 := hL 5 (by decide); have L6 := hL 6 (by decide); have L7 := hL 7 (by decide); have L8 := hL 8 (by decide); have L9 := hL 9 (by decide)
  have hB3 := OO.below; have hz3 := OO.size; have hl3 := OO.le; have S3_0 : Cel w3 (w.heap.size) 0 (.int .i64 s) := OO.cels.1; have S3_1 : Cel w3 (w.heap.size) 1 (.int .i64 st) := OO.cels.2.1; have S3_2 : Cel w3 (w.heap.size) 2 (.slice p n c) := OO.cels.2.2.1; have S3_3 : Cel w3 (w.heap.size + 1) 0 (.int .i64 f) := OO.cels.2.2.2.1; have S3_4 : Cel w3 (w.heap.size + 1 + 1) 0 (.int .i64 u) := OO.cels.2.2.2.2.1; have S3_5 : Cel w3 (w.heap.size + 1 + 1 + 1) 0 (.int .i64 0) := OO.cels.2.2.2.2.2.1; have S3_6 : Cel w3 (w.heap.size + 1 + 1 + 1) 1 (.int .i64 0) := OO.cels.2.2.2.2.2.2.1
  simp [pcs, Act.put, L0, L1, L2, L3, L4, L5, L6, L7, L8, L9] at ea
  subst ea
  clear hL L0 L1 L2 L3 L4 L5 L6 L7 L8 L9
  have O3 : Own w (w3.heap.size) w3 [(w.heap.size, 0, .int .i64 s), (w.heap.size, 1, .int .i64 st), (w.heap.size, 2, .slice p n c), (w.heap.size + 1, 0, .int .i64 f), (w.heap.size + 1 + 1, 0, .int .i64 u), (w.heap.size + 1 + 1 + 1, 0, .int .i64 0), (w.heap.size + 1 + 1 + 1, 1, .int .i64 0)] := ⟨hB3, Nat.le_refl _, (by (repeat' (first | (with_reducible assumption) | (with_reducible exact Below.refl _ _) | (with_reducible exact Cels.nil _) | (with_reducible refine Cels.cons ?_ ?_) | (with_reducible refine Own.mk ?_ ?_ ?_ ?_) | ((with_reducible refine Cel.new ?_ rfl); first | (with_reducible rfl) | omega | (simp; done) | (simp; omega)) | (with_reducible refine Cel.alloc ?_ _) | (with_reducible refine Cel.drew ?_) | (with_reducible refine Cel.setS ?_ _) | (with_reducible refine Has.set ?_ _ _) | (with_reducible exact Has.of (by assumption)) | (with_reducible refine Cel.setO ?_ ?_ _) | (with_reducible refine Cel.keep (by assumption) ?_) | (with_reducible refine Below.alloc ?_ ?_ _) | (with_reducible refine Below.drew ?_) | (with_reducible refine Below.setCell ?_ ?_ _) | (with_reducible refine below_keep ?_ ?_ (by assumption)) | omega | (simp; done) | (simp; omega)))), hB3.size⟩
  clear OO
  go_wp2_with fail
  all_goals
    refine bodyPost_ret (v := se 0 0 4) (by simp [results, Try.results15, go_sem, *] <;> omega) rfl ⟨rfl, ?_⟩
    (repeat' (first | (with_reducible assumption) | (with_reducible exact Below.refl _ _) | (with_reducible exact Cels.nil _) | (with_reducible refine Cels.cons ?_ ?_) | (with_reducible refine Own.mk ?_ ?_ ?_ ?_) | ((with_reducible refine Cel.new ?_ rfl); first | (with_reducible rfl) | omega | (simp; done) | (simp; omega)) | (with_reducible refine Cel.alloc ?_ _) | (with_reducible refine Cel.drew ?_) | (with_reducible refine Cel.setS ?_ _) | (with_reducible refine Has.set ?_ _ _) | (with_reducible exact Has.of (by assumption)) | (with_reducible refine Cel.setO ?_ ?_ _) | (with_reducible refine Cel.keep (by assumption) ?_) | (with_reducible refine Below.alloc ?_ ?_ _) | (with_reducible refine Below.drew ?_) | (with_reducible refine Below.setCell ?_ ?_ _) | (with_reducible refine below_keep ?_ ?_ (by assumption)) | omega | (simp; done) | (simp; omega)))

end Go.Proofs.Ytmljnelmnagfoaa
