/- TideNext. -/
import Derived.Test.YtmljnelmnagfoaaU
import Derived.Test.YtmljnelmnagfoaaJ5
import Derived.Test.YtmljnelmnagfoaaE2
set_option linter.unusedVariables false
set_option linter.unusedSimpArgs false
namespace Go.Proofs.Ytmljnelmnagfoaa
open Go.RowKit
attribute [local go_sem] World.cell?_alloc_some frozen_alloc_some isSome_alloc isSome_setCell

set_option maxRecDepth 100000 in
set_option maxHeartbeats 16000000 in
theorem law5_a0 (s st : Int) (p : Option Addr) (n c : Nat) (lo hi : Nat → Int) (need f long other : Int) (w : World) (hL : Lie w p n lo hi) (k0 : (decide (n ≤ 12 ∧ st ≤ 60)) = false) : Calls Try.prog 5 #[tv s st p n c, .int .i64 need, .int .i64 f, .int .i64 long, .int .i64 other] w fun e w' => e = .returned (.bool true) ∧ Below w.heap.size w w' := by
  go_enter Try.func5, Try.ntmps5
  go_wp2_with fail
  refine (head_any _).mono ?_
  rintro e w1 ⟨rfl, hb1⟩
  have hL := hL.keep (W := w) (w1 := w1) (by (repeat' (first | (with_reducible assumption) | (with_reducible exact Below.refl _ _) | (with_reducible refine Below.alloc ?_ ?_ _) | (with_reducible refine Below.drew ?_) | (with_reducible refine Below.setCell ?_ ?_ _) | (with_reducible refine below_keep ?_ ?_ (by assumption)) | omega | (simp; done) | (simp; omega))))
  have hs1 := hb1.size; (try simp at hs1)
  have O1 : Own w (w.heap.size + 1) w1 [(w.heap.size, 0, .int .i64 s), (w.heap.size, 1, .int .i64 st), (w.heap.size, 2, .slice p n c)] := (by (repeat' (first | (with_reducible assumption) | (with_reducible exact Below.refl _ _) | (with_reducible exact Cels.nil _) | (with_reducible refine Cels.cons ?_ ?_) | (with_reducible refine Own.mk ?_ ?_ ?_ ?_) | ((with_reducible refine Cel.new ?_ rfl); first | (with_reducible rfl) | omega | (simp; done) | (simp; omega)) | (with_reducible refine Cel.alloc ?_ _) | (with_reducible refine Cel.drew ?_) | (with_reducible refine Cel.setS ?_ _) | (with_reducible refine Has.set ?_ _ _) | (with_reducible exact Has.of (by assumption)) | (with_reducible refine Cel.setO ?_ ?_ _) | (with_reducible refine Cel.keep (by assumption) ?_) | (with_reducible refine Below.alloc ?_ ?_ _) | (with_reducible refine Below.drew ?_) | (with_reducible refine Below.setCell ?_ ?_ _) | (with_reducible refine below_keep ?_ ?_ (by assumption)) | omega | (simp; done) | (simp; omega))))
  have hB1 := O1.below; have hz1 := O1.size; have hl1 := O1.le; have S1_0 : Cel w1 (w.heap.size) 0 (.int .i64 s) := O1.cels.1; have S1_1 : Cel w1 (w.heap.size) 1 (.int .i64 st) := O1.cels.2.1; have S1_2 : Cel w1 (w.heap.size) 2 (.slice p n c) := O1.cels.2.2.1
  clear hb1
  go_wp2_with fail
  refine (few_any s st p n c _).mono ?_
  rintro e w2 ⟨rfl, hb2⟩
  have hL := hL.keep (W := w1) (w1 := w2) (by (repeat' (first | (with_reducible assumption) | (with_reducible exact Below.refl _ _) | (with_reducible refine Below.alloc ?_ ?_ _) | (with_reducible refine Below.drew ?_) | (with_reducible refine Below.setCell ?_ ?_ _) | (with_reducible refine below_keep ?_ ?_ (by assumption)) | omega | (simp; done) | (simp; omega))))
  have hs2 := hb2.size; (try simp at hs2)
  have O2 : Own w (w.heap.size + 1) w2 [(w.heap.size, 0, .int .i64 s), (w.heap.size, 1, .int .i64 st), (w.heap.size, 2, .slice p n c)] := (by (repeat' (first | (with_reducible assumption) | (with_reducible exact Below.refl _ _) | (with_reducible exact Cels.nil _) | (with_reducible refine Cels.cons ?_ ?_) | (with_reducible refine Own.mk ?_ ?_ ?_ ?_) | ((with_reducible refine Cel.new ?_ rfl); first | (with_reducible rfl) | omega | (simp; done) | (simp; omega)) | (with_reducible refine Cel.alloc ?_ _) | (with_reducible refine Cel.drew ?_) | (with_reducible refine Cel.setS ?_ _) | (with_reducible refine Has.set ?_ _ _) | (with_reducible exact Has.of (by assumption)) | (with_reducible refine Cel.setO ?_ ?_ _) | (with_reducible refine Cel.keep (by assumption) ?_) | (with_reducible refine Below.alloc ?_ ?_ _) | (with_reducible refine Below.drew ?_) | (with_reducible refine Below.setCell ?_ ?_ _) | (with_reducible refine below_keep ?_ ?_ (by assumption)) | omega | (simp; done) | (simp; omega))))
  have hB2 := O2.below; have hz2 := O2.size; have hl2 := O2.le; have S2_0 : Cel w2 (w.heap.size) 0 (.int .i64 s) := O2.cels.1; have S2_1 : Cel w2 (w.heap.size) 1 (.int .i64 st) := O2.cels.2.1; have S2_2 : Cel w2 (w.heap.size) 2 (.slice p n c) := O2.cels.2.2.1
  clear O1 S1_0 S1_1 S1_2
  clear hb2
  go_wp2
  all_goals
    go_ret
    exact ⟨rb (by first | rfl | (simp; done) | (simp; omega)), by (repeat' (first | (with_reducible assumption) | (with_reducible exact Below.refl _ _) | (with_reducible exact Cels.nil _) | (with_reducible refine Cels.cons ?_ ?_) | (with_reducible refine Own.mk ?_ ?_ ?_ ?_) | ((with_reducible refine Cel.new ?_ rfl); first | (with_reducible rfl) | omega | (simp; done) | (simp; omega)) | (with_reducible refine Cel.alloc ?_ _) | (with_reducible refine Cel.drew ?_) | (with_reducible refine Cel.setS ?_ _) | (with_reducible refine Has.set ?_ _ _) | (with_reducible exact Has.of (by assumption)) | (with_reducible refine Cel.setO ?_ ?_ _) | (with_reducible refine Cel.keep (by assumption) ?_) | (with_reducible refine Below.alloc ?_ ?_ _) | (with_reducible refine Below.drew ?_) | (with_reducible refine Below.setCell ?_ ?_ _) | (with_reducible refine below_keep ?_ ?_ (by assumption)) | omega | (simp; done) | (simp; omega)))⟩

set_option maxRecDepth 100000 in
set_option maxHeartbeats 16000000 in
theorem law5_a1 (s st : Int) (p : Option Addr) (n c : Nat) (lo hi : Nat → Int) (need f long other : Int) (w : World) (hL : Lie w p n lo hi) (k0 : (decide (n ≤ 12 ∧ st ≤ 60)) = true) (k1 : (nd need) = false) : Calls Try.prog 5 #[tv s st p n c, .int .i64 need, .int .i64 f, .int .i64 long, .int .i64 other] w fun e w' => e = .returned (.bool true) ∧ Below w.heap.size w w' := by
  go_enter Try.func5, Try.ntmps5
  go_wp2_with fail
  refine (head_any _).mono ?_
  rintro e w1 ⟨rfl, hb1⟩
  have hL := hL.keep (W := w) (w1 := w1) (by (repeat' (first | (with_reducible assumption) | (with_reducible exact Below.refl _ _) | (with_reducible refine Below.alloc ?_ ?_ _) | (with_reducible refine Below.drew ?_) | (with_reducible refine Below.setCell ?_ ?_ _) | (with_reducible refine below_keep ?_ ?_ (by assumption)) | omega | (simp; done) | (simp; omega))))
  have hs1 := hb1.size; (try simp at hs1)
  have O1 : Own w (w.heap.size + 1) w1 [(w.heap.size, 0, .int .i64 s), (w.heap.size, 1, .int .i64 st), (w.heap.size, 2, .slice p n c)] := (by (repeat' (first | (with_reducible assumption) | (with_reducible exact Below.refl _ _) | (with_reducible exact Cels.nil _) | (with_reducible refine Cels.cons ?_ ?_) | (with_reducible refine Own.mk ?_ ?_ ?_ ?_) | ((with_reducible refine Cel.new ?_ rfl); first | (with_reducible rfl) | omega | (simp; done) | (simp; omega)) | (with_reducible refine Cel.alloc ?_ _) | (with_reducible refine Cel.drew ?_) | (with_reducible refine Cel.setS ?_ _) | (with_reducible refine Has.set ?_ _ _) | (with_reducible exact Has.of (by assumption)) | (with_reducible refine Cel.setO ?_ ?_ _) | (with_reducible refine Cel.keep (by assumption) ?_) | (with_reducible refine Below.alloc ?_ ?_ _) | (with_reducible refine Below.drew ?_) | (with_reducible refine Below.setCell ?_ ?_ _) | (with_reducible refine below_keep ?_ ?_ (by assumption)) | omega | (simp; done) | (simp; omega))))
  have hB1 := O1.below; have hz1 := O1.size; have hl1 := O1.le; have S1_0 : Cel w1 (w.heap.size) 0 (.int .i64 s) := O1.cels.1; have S1_1 : Cel w1 (w.heap.size) 1 (.int .i64 st) := O1.cels.2.1; have S1_2 : Cel w1 (w.heap.size) 2 (.slice p n c) := O1.cels.2.2.1
  clear hb1
  go_wp2_with fail
  refine (few_any s st p n c _).mono ?_
  rintro e w2 ⟨rfl, hb2⟩
  have hL := hL.keep (W := w1) (w1 := w2) (by (repeat' (first | (with_reducible assumption) | (with_reducible exact Below.refl _ _) | (with_reducible refine Below.alloc ?_ ?_ _) | (with_reducible refine Below.drew ?_) | (with_reducible refine Below.setCell ?_ ?_ _) | (with_reducible refine below_keep ?_ ?_ (by assumption)) | omega | (simp; done) | (simp; omega))))
  have hs2 := hb2.size; (try simp at hs2)
  have O2 : Own w (w.heap.size + 1) w2 [(w.heap.size, 0, .int .i64 s), (w.heap.size, 1, .int .i64 st), (w.heap.size, 2, .slice p n c)] := (by (repeat' (first | (with_reducible assumption) | (with_reducible exact Below.refl _ _) | (with_reducible exact Cels.nil _) | (with_reducible refine Cels.cons ?_ ?_) | (with_reducible refine Own.mk ?_ ?_ ?_ ?_) | ((with_reducible refine Cel.new ?_ rfl); first | (with_reducible rfl) | omega | (simp; done) | (simp; omega)) | (with_reducible refine Cel.alloc ?_ _) | (with_reducible refine Cel.drew ?_) | (with_reducible refine Cel.setS ?_ _) | (with_reducible refine Has.set ?_ _ _) | (with_reducible exact Has.of (by assumption)) | (with_reducible refine Cel.setO ?_ ?_ _) | (with_reducible refine Cel.keep (by assumption) ?_) | (with_reducible refine Below.alloc ?_ ?_ _) | (with_reducible refine Below.drew ?_) | (with_reducible refine Below.setCell ?_ ?_ _) | (with_reducible refine below_keep ?_ ?_ (by assumption)) | omega | (simp; done) | (simp; omega))))
  have hB2 := O2.below; have hz2 := O2.size; have hl2 := O2.le; have S2_0 : Cel w2 (w.heap.size) 0 (.int .i64 s) := O2.cels.1; have S2_1 : Cel w2 (w.heap.size) 1 (.int .i64 st) := O2.cels.2.1; have S2_2 : Cel w2 (w.heap.size) 2 (.slice p n c) := O2.cels.2.2.1
  clear O1 S1_0 S1_1 S1_2
  clear hb2
  go_wp2_with fail
  refine (need_nd need _).mono ?_
  rintro e w' ⟨rfl, rfl⟩
  go_wp2
  all_goals
    go_ret
    exact ⟨rb (by first | rfl | (simp; done) | (simp; omega)), by (repeat' (first | (with_reducible assumption) | (with_reducible exact Below.refl _ _) | (with_reducible exact Cels.nil _) | (with_reducible refine Cels.cons ?_ ?_) | (with_reducible refine Own.mk ?_ ?_ ?_ ?_) | ((with_reducible refine Cel.new ?_ rfl); first | (with_reducible rfl) | omega | (simp; done) | (simp; omega)) | (with_reducible refine Cel.alloc ?_ _) | (with_reducible refine Cel.drew ?_) | (with_reducible refine Cel.setS ?_ _) | (with_reducible refine Has.set ?_ _ _) | (with_reducible exact Has.of (by assumption)) | (with_reducible refine Cel.setO ?_ ?_ _) | (with_reducible refine Cel.keep (by assumption) ?_) | (with_reducible refine Below.alloc ?_ ?_ _) | (with_reducible refine Below.drew ?_) | (with_reducible refine Below.setCell ?_ ?_ _) | (with_reducible refine below_keep ?_ ?_ (by assumption)) | omega | (simp; done) | (simp; omega)))⟩

set_option maxRecDepth 100000 in
set_option maxHeartbeats 16000000 in
theorem law5_a2 (s st : Int) (p : Option Addr) (n c : Nat) (lo hi : Nat → Int) (need f long other : Int) (w : World) (hL : Lie w p n lo hi) (k0 : (decide (n ≤ 12 ∧ st ≤ 60)) = true) (k1 : (nd need) = true) (k2 : (tm f) = false) : Calls Try.prog 5 #[tv s st p n c, .int .i64 need, .int .i64 f, .int .i64 long, .int .i64 other] w fun e w' => e = .returned (.bool true) ∧ Below w.heap.size w w' := by
  go_enter Try.func5, Try.ntmps5
  go_wp2_with fail
  refine (head_any _).mono ?_
  rintro e w1 ⟨rfl, hb1⟩
  have hL := hL.keep (W := w) (w1 := w1) (by (repeat' (first | (with_reducible assumption) | (with_reducible exact Below.refl _ _) | (with_reducible refine Below.alloc ?_ ?_ _) | (with_reducible refine Below.drew ?_) | (with_reducible refine Below.setCell ?_ ?_ _) | (with_reducible refine below_keep ?_ ?_ (by assumption)) | omega | (simp; done) | (simp; omega))))
  have hs1 := hb1.size; (try simp at hs1)
  have O1 : Own w (w.heap.size + 1) w1 [(w.heap.size, 0, .int .i64 s), (w.heap.size, 1, .int .i64 st), (w.heap.size, 2, .slice p n c)] := (by (repeat' (first | (with_reducible assumption) | (with_reducible exact Below.refl _ _) | (with_reducible exact Cels.nil _) | (with_reducible refine Cels.cons ?_ ?_) | (with_reducible refine Own.mk ?_ ?_ ?_ ?_) | ((with_reducible refine Cel.new ?_ rfl); first | (with_reducible rfl) | omega | (simp; done) | (simp; omega)) | (with_reducible refine Cel.alloc ?_ _) | (with_reducible refine Cel.drew ?_) | (with_reducible refine Cel.setS ?_ _) | (with_reducible refine Has.set ?_ _ _) | (with_reducible exact Has.of (by assumption)) | (with_reducible refine Cel.setO ?_ ?_ _) | (with_reducible refine Cel.keep (by assumption) ?_) | (with_reducible refine Below.alloc ?_ ?_ _) | (with_reducible refine Below.drew ?_) | (with_reducible refine Below.setCell ?_ ?_ _) | (with_reducible refine below_keep ?_ ?_ (by assumption)) | omega | (simp; done) | (simp; omega))))
  have hB1 := O1.below; have hz1 := O1.size; have hl1 := O1.le; have S1_0 : Cel w1 (w.heap.size) 0 (.int .i64 s) := O1.cels.1; have S1_1 : Cel w1 (w.heap.size) 1 (.int .i64 st) := O1.cels.2.1; have S1_2 : Cel w1 (w.heap.size) 2 (.slice p n c) := O1.cels.2.2.1
  clear hb1
  go_wp2_with fail
  refine (few_any s st p n c _).mono ?_
  rintro e w2 ⟨rfl, hb2⟩
  have hL := hL.keep (W := w1) (w1 := w2) (by (repeat' (first | (with_reducible assumption) | (with_reducible exact Below.refl _ _) | (with_reducible refine Below.alloc ?_ ?_ _) | (with_reducible refine Below.drew ?_) | (with_reducible refine Below.setCell ?_ ?_ _) | (with_reducible refine below_keep ?_ ?_ (by assumption)) | omega | (simp; done) | (simp; omega))))
  have hs2 := hb2.size; (try simp at hs2)
  have O2 : Own w (w.heap.size + 1) w2 [(w.heap.size, 0, .int .i64 s), (w.heap.size, 1, .int .i64 st), (w.heap.size, 2, .slice p n c)] := (by (repeat' (first | (with_reducible assumption) | (with_reducible exact Below.refl _ _) | (with_reducible exact Cels.nil _) | (with_reducible refine Cels.cons ?_ ?_) | (with_reducible refine Own.mk ?_ ?_ ?_ ?_) | ((with_reducible refine Cel.new ?_ rfl); first | (with_reducible rfl) | omega | (simp; done) | (simp; omega)) | (with_reducible refine Cel.alloc ?_ _) | (with_reducible refine Cel.drew ?_) | (with_reducible refine Cel.setS ?_ _) | (with_reducible refine Has.set ?_ _ _) | (with_reducible exact Has.of (by assumption)) | (with_reducible refine Cel.setO ?_ ?_ _) | (with_reducible refine Cel.keep (by assumption) ?_) | (with_reducible refine Below.alloc ?_ ?_ _) | (with_reducible refine Below.drew ?_) | (with_reducible refine Below.setCell ?_ ?_ _) | (with_reducible refine below_keep ?_ ?_ (by assumption)) | omega | (simp; done) | (simp; omega))))
  have hB2 := O2.below; have hz2 := O2.size; have hl2 := O2.le; have S2_0 : Cel w2 (w.heap.size) 0 (.int .i64 s) := O2.cels.1; have S2_1 : Cel w2 (w.heap.size) 1 (.int .i64 st) := O2.cels.2.1; have S2_2 : Cel w2 (w.heap.size) 2 (.slice p n c) := O2.cels.2.2.1
  clear O1 S1_0 S1_1 S1_2
  clear hb2
  go_wp2_with fail
  refine (need_nd need _).mono ?_
  rintro e w' ⟨rfl, rfl⟩
  go_wp2_with fail
  refine (rTime_any f _).mono ?_
  rintro e w' ⟨rfl, rfl⟩
  go_wp2
  all_goals
    go_ret
    exact ⟨rb (by first | rfl | (simp; done) | (simp; omega)), by (repeat' (first | (with_reducible assumption) | (with_reducible exact Below.refl _ _) | (with_reducible exact Cels.nil _) | (with_reducible refine Cels.cons ?_ ?_) | (with_reducible refine Own.mk ?_ ?_ ?_ ?_) | ((with_reducible refine Cel.new ?_ rfl); first | (with_reducible rfl) | omega | (simp; done) | (simp; omega)) | (with_reducible refine Cel.alloc ?_ _) | (with_reducible refine Cel.drew ?_) | (with_reducible refine Cel.setS ?_ _) | (with_reducible refine Has.set ?_ _ _) | (with_reducible exact Has.of (by assumption)) | (with_reducible refine Cel.setO ?_ ?_ _) | (with_reducible refine Cel.keep (by assumption) ?_) | (with_reducible refine Below.alloc ?_ ?_ _) | (with_reducible refine Below.drew ?_) | (with_reducible refine Below.setCell ?_ ?_ _) | (with_reducible refine below_keep ?_ ?_ (by assumption)) | omega | (simp; done) | (simp; omega)))⟩

set_option maxRecDepth 100000 in
set_option maxHeartbeats 16000000 in
theorem law5_a3 (s st : Int) (p : Option Addr) (n c : Nat) (lo hi : Nat → Int) (need f long other : Int) (w : World) (hL : Lie w p n lo hi) (k0 : (decide (n ≤ 12 ∧ st ≤ 60)) = true) (k1 : (nd need) = true) (k2 : (tm f) = true) (k3 : (tm long) = false) : Calls Try.prog 5 #[tv s st p n c, .int .i64 need, .int .i64 f, .int .i64 long, .int .i64 other] w fun e w' => e = .returned (.bool true) ∧ Below w.heap.size w w' := by
  go_enter Try.func5, Try.ntmps5
  go_wp2_with fail
  refine (head_any _).mono ?_
  rintro e w1 ⟨rfl, hb1⟩
  have hL := hL.keep (W := w) (w1 := w1) (by (repeat' (first | (with_reducible assumption) | (with_reducible exact Below.refl _ _) | (with_reducible refine Below.alloc ?_ ?_ _) | (with_reducible refine Below.drew ?_) | (with_reducible refine Below.setCell ?_ ?_ _) | (with_reducible refine below_keep ?_ ?_ (by assumption)) | omega | (simp; done) | (simp; omega))))
  have hs1 := hb1.size; (try simp at hs1)
  have O1 : Own w (w.heap.size + 1) w1 [(w.heap.size, 0, .int .i64 s), (w.heap.size, 1, .int .i64 st), (w.heap.size, 2, .slice p n c)] := (by (repeat' (first | (with_reducible assumption) | (with_reducible exact Below.refl _ _) | (with_reducible exact Cels.nil _) | (with_reducible refine Cels.cons ?_ ?_) | (with_reducible refine Own.mk ?_ ?_ ?_ ?_) | ((with_reducible refine Cel.new ?_ rfl); first | (with_reducible rfl) | omega | (simp; done) | (simp; omega)) | (with_reducible refine Cel.alloc ?_ _) | (with_reducible refine Cel.drew ?_) | (with_reducible refine Cel.setS ?_ _) | (with_reducible refine Has.set ?_ _ _) | (with_reducible exact Has.of (by assumption)) | (with_reducible refine Cel.setO ?_ ?_ _) | (with_reducible refine Cel.keep (by assumption) ?_) | (with_reducible refine Below.alloc ?_ ?_ _) | (with_reducible refine Below.drew ?_) | (with_reducible refine Below.setCell ?_ ?_ _) | (with_reducible refine below_keep ?_ ?_ (by assumption)) | omega | (simp; done) | (simp; omega))))
  have hB1 := O1.below; have hz1 := O1.size; have hl1 := O1.le; have S1_0 : Cel w1 (w.heap.size) 0 (.int .i64 s) := O1.cels.1; have S1_1 : Cel w1 (w.heap.size) 1 (.int .i64 st) := O1.cels.2.1; have S1_2 : Cel w1 (w.heap.size) 2 (.slice p n c) := O1.cels.2.2.1
  clear hb1
  go_wp2_with fail
  refine (few_any s st p n c _).mono ?_
  rintro e w2 ⟨rfl, hb2⟩
  have hL := hL.keep (W := w1) (w1 := w2) (by (repeat' (first | (with_reducible assumption) | (with_reducible exact Below.refl _ _) | (with_reducible refine Below.alloc ?_ ?_ _) | (with_reducible refine Below.drew ?_) | (with_reducible refine Below.setCell ?_ ?_ _) | (with_reducible refine below_keep ?_ ?_ (by assumption)) | omega | (simp; done) | (simp; omega))))
  have hs2 := hb2.size; (try simp at hs2)
  have O2 : Own w (w.heap.size + 1) w2 [(w.heap.size, 0, .int .i64 s), (w.heap.size, 1, .int .i64 st), (w.heap.size, 2, .slice p n c)] := (by (repeat' (first | (with_reducible assumption) | (with_reducible exact Below.refl _ _) | (with_reducible exact Cels.nil _) | (with_reducible refine Cels.cons ?_ ?_) | (with_reducible refine Own.mk ?_ ?_ ?_ ?_) | ((with_reducible refine Cel.new ?_ rfl); first | (with_reducible rfl) | omega | (simp; done) | (simp; omega)) | (with_reducible refine Cel.alloc ?_ _) | (with_reducible refine Cel.drew ?_) | (with_reducible refine Cel.setS ?_ _) | (with_reducible refine Has.set ?_ _ _) | (with_reducible exact Has.of (by assumption)) | (with_reducible refine Cel.setO ?_ ?_ _) | (with_reducible refine Cel.keep (by assumption) ?_) | (with_reducible refine Below.alloc ?_ ?_ _) | (with_reducible refine Below.drew ?_) | (with_reducible refine Below.setCell ?_ ?_ _) | (with_reducible refine below_keep ?_ ?_ (by assumption)) | omega | (simp; done) | (simp; omega))))
  have hB2 := O2.below; have hz2 := O2.size; have hl2 := O2.le; have S2_0 : Cel w2 (w.heap.size) 0 (.int .i64 s) := O2.cels.1; have S2_1 : Cel w2 (w.heap.size) 1 (.int .i64 st) := O2.cels.2.1; have S2_2 : Cel w2 (w.heap.size) 2 (.slice p n c) := O2.cels.2.2.1
  clear O1 S1_0 S1_1 S1_2
  clear hb2
  go_wp2_with fail
  refine (need_nd need _).mono ?_
  rintro e w' ⟨rfl, rfl⟩
  go_wp2_with fail
  refine (rTime_any f _).mono ?_
  rintro e w' ⟨rfl, rfl⟩
  go_wp2_with fail
  refine (rTime_any long _).mono ?_
  rintro e w' ⟨rfl, rfl⟩
  go_wp2
  all_goals
    go_ret
    exact ⟨rb (by first | rfl | (simp; done) | (simp; omega)), by (repeat' (first | (with_reducible assumption) | (with_reducible exact Below.refl _ _) | (with_reducible exact Cels.nil _) | (with_reducible refine Cels.cons ?_ ?_) | (with_reducible refine Own.mk ?_ ?_ ?_ ?_) | ((with_reducible refine Cel.new ?_ rfl); first | (with_reducible rfl) | omega | (simp; done) | (simp; omega)) | (with_reducible refine Cel.alloc ?_ _) | (with_reducible refine Cel.drew ?_) | (with_reducible refine Cel.setS ?_ _) | (with_reducible refine Has.set ?_ _ _) | (with_reducible exact Has.of (by assumption)) | (with_reducible refine Cel.setO ?_ ?_ _) | (with_reducible refine Cel.keep (by assumption) ?_) | (with_reducible refine Below.alloc ?_ ?_ _) | (with_reducible refine Below.drew ?_) | (with_reducible refine Below.setCell ?_ ?_ _) | (with_reducible refine below_keep ?_ ?_ (by assumption)) | omega | (simp; done) | (simp; omega)))⟩

set_option maxRecDepth 100000 in
set_option maxHeartbeats 16000000 in
theorem law5_a4 (s st : Int) (p : Option Addr) (n c : Nat) (lo hi : Nat → Int) (need f long other : Int) (w : World) (hL : Lie w p n lo hi) (k0 : (decide (n ≤ 12 ∧ st ≤ 60)) = true) (k1 : (nd need) = true) (k2 : (tm f) = true) (k3 : (tm long) = true) (k4 : (tval s st n lo hi) = false) : Calls Try.prog 5 #[tv s st p n c, .int .i64 need, .int .i64 f, .int .i64 long, .int .i64 other] w fun e w' => e = .returned (.bool true) ∧ Below w.heap.size w w' := by
  go_enter Try.func5, Try.ntmps5
  go_wp2_with fail
  refine (head_any _).mono ?_
  rintro e w1 ⟨rfl, hb1⟩
  have hL := hL.keep (W := w) (w1 := w1) (by (repeat' (first | (with_reducible assumption) | (with_reducible exact Below.refl _ _) | (with_reducible refine Below.alloc ?_ ?_ _) | (with_reducible refine Below.drew ?_) | (with_reducible refine Below.setCell ?_ ?_ _) | (with_reducible refine below_keep ?_ ?_ (by assumption)) | omega | (simp; done) | (simp; omega))))
  have hs1 := hb1.size; (try simp at hs1)
  have O1 : Own w (w.heap.size + 1) w1 [(w.heap.size, 0, .int .i64 s), (w.heap.size, 1, .int .i64 st), (w.heap.size, 2, .slice p n c)] := (by (repeat' (first | (with_reducible assumption) | (with_reducible exact Below.refl _ _) | (with_reducible exact Cels.nil _) | (with_reducible refine Cels.cons ?_ ?_) | (with_reducible refine Own.mk ?_ ?_ ?_ ?_) | ((with_reducible refine Cel.new ?_ rfl); first | (with_reducible rfl) | omega | (simp; done) | (simp; omega)) | (with_reducible refine Cel.alloc ?_ _) | (with_reducible refine Cel.drew ?_) | (with_reducible refine Cel.setS ?_ _) | (with_reducible refine Has.set ?_ _ _) | (with_reducible exact Has.of (by assumption)) | (with_reducible refine Cel.setO ?_ ?_ _) | (with_reducible refine Cel.keep (by assumption) ?_) | (with_reducible refine Below.alloc ?_ ?_ _) | (with_reducible refine Below.drew ?_) | (with_reducible refine Below.setCell ?_ ?_ _) | (with_reducible refine below_keep ?_ ?_ (by assumption)) | omega | (simp; done) | (simp; omega))))
  have hB1 := O1.below; have hz1 := O1.size; have hl1 := O1.le; have S1_0 : Cel w1 (w.heap.size) 0 (.int .i64 s) := O1.cels.1; have S1_1 : Cel w1 (w.heap.size) 1 (.int .i64 st) := O1.cels.2.1; have S1_2 : Cel w1 (w.heap.size) 2 (.slice p n c) := O1.cels.2.2.1
  clear hb1
  go_wp2_with fail
  refine (few_any s st p n c _).mono ?_
  rintro e w2 ⟨rfl, hb2⟩
  have hL := hL.keep (W := w1) (w1 := w2) (by (repeat' (first | (with_reducible assumption) | (with_reducible exact Below.refl _ _) | (with_reducible refine Below.alloc ?_ ?_ _) | (with_reducible refine Below.drew ?_) | (with_reducible refine Below.setCell ?_ ?_ _) | (with_reducible refine below_keep ?_ ?_ (by assumption)) | omega | (simp; done) | (simp; omega))))
  have hs2 := hb2.size; (try simp at hs2)
  have O2 : Own w (w.heap.size + 1) w2 [(w.heap.size, 0, .int .i64 s), (w.heap.size, 1, .int .i64 st), (w.heap.size, 2, .slice p n c)] := (by (repeat' (first | (with_reducible assumption) | (with_reducible exact Below.refl _ _) | (with_reducible exact Cels.nil _) | (with_reducible refine Cels.cons ?_ ?_) | (with_reducible refine Own.mk ?_ ?_ ?_ ?_) | ((with_reducible refine Cel.new ?_ rfl); first | (with_reducible rfl) | omega | (simp; done) | (simp; omega)) | (with_reducible refine Cel.alloc ?_ _) | (with_reducible refine Cel.drew ?_) | (with_reducible refine Cel.setS ?_ _) | (with_reducible refine Has.set ?_ _ _) | (with_reducible exact Has.of (by assumption)) | (with_reducible refine Cel.setO ?_ ?_ _) | (with_reducible refine Cel.keep (by assumption) ?_) | (with_reducible refine Below.alloc ?_ ?_ _) | (with_reducible refine Below.drew ?_) | (with_reducible refine Below.setCell ?_ ?_ _) | (with_reducible refine below_keep ?_ ?_ (by assumption)) | omega | (simp; done) | (simp; omega))))
  have hB2 := O2.below; have hz2 := O2.size; have hl2 := O2.le; have S2_0 : Cel w2 (w.heap.size) 0 (.int .i64 s) := O2.cels.1; have S2_1 : Cel w2 (w.heap.size) 1 (.int .i64 st) := O2.cels.2.1; have S2_2 : Cel w2 (w.heap.size) 2 (.slice p n c) := O2.cels.2.2.1
  clear O1 S1_0 S1_1 S1_2
  clear hb2
  go_wp2_with fail
  refine (need_nd need _).mono ?_
  rintro e w' ⟨rfl, rfl⟩
  go_wp2_with fail
  refine (rTime_any f _).mono ?_
  rintro e w' ⟨rfl, rfl⟩
  go_wp2_with fail
  refine (rTime_any long _).mono ?_
  rintro e w' ⟨rfl, rfl⟩
  go_wp2_with fail
  refine (rvalid_any s st p n c lo hi _ (hL.keep (by (repeat' (first | (with_reducible assumption) | (with_reducible exact Below.refl _ _) | (with_reducible refine Below.alloc ?_ ?_ _) | (with_reducible refine Below.drew ?_) | (with_reducible refine Below.setCell ?_ ?_ _) | (with_reducible refine below_keep ?_ ?_ (by assumption)) | omega | (simp; done) | (simp; omega)))))).mono ?_
  rintro e w6 ⟨rfl, hb6⟩
  have hs6 := hb6.size; (try simp at hs6)
  have O6 : Own w (w.heap.size + 1) w6 [] := (by (repeat' (first | (with_reducible assumption) | (with_reducible exact Below.refl _ _) | (with_reducible exact Cels.nil _) | (with_reducible refine Cels.cons ?_ ?_) | (with_reducible refine Own.mk ?_ ?_ ?_ ?_) | ((with_reducible refine Cel.new ?_ rfl); first | (with_reducible rfl) | omega | (simp; done) | (simp; omega)) | (with_reducible refine Cel.alloc ?_ _) | (with_reducible refine Cel.drew ?_) | (with_reducible refine Cel.setS ?_ _) | (with_reducible refine Has.set ?_ _ _) | (with_reducible exact Has.of (by assumption)) | (with_reducible refine Cel.setO ?_ ?_ _) | (with_reducible refine Cel.keep (by assumption) ?_) | (with_reducible refine Below.alloc ?_ ?_ _) | (with_reducible refine Below.drew ?_) | (with_reducible refine Below.setCell ?_ ?_ _) | (with_reducible refine below_keep ?_ ?_ (by assumption)) | omega | (simp; done) | (simp; omega))))
  have hB6 := O6.below; have hz6 := O6.size; have hl6 := O6.le
  clear O2 S2_0 S2_1 S2_2
  clear hb6
  go_wp2
  all_goals
    go_ret
    exact ⟨rb (by first | rfl | (simp; done) | (simp; omega)), by (repeat' (first | (with_reducible assumption) | (with_reducible exact Below.refl _ _) | (with_reducible exact Cels.nil _) | (with_reducible refine Cels.cons ?_ ?_) | (with_reducible refine Own.mk ?_ ?_ ?_ ?_) | ((with_reducible refine Cel.new ?_ rfl); first | (with_reducible rfl) | omega | (simp; done) | (simp; omega)) | (with_reducible refine Cel.alloc ?_ _) | (with_reducible refine Cel.drew ?_) | (with_reducible refine Cel.setS ?_ _) | (with_reducible refine Has.set ?_ _ _) | (with_reducible exact Has.of (by assumption)) | (with_reducible refine Cel.setO ?_ ?_ _) | (with_reducible refine Cel.keep (by assumption) ?_) | (with_reducible refine Below.alloc ?_ ?_ _) | (with_reducible refine Below.drew ?_) | (with_reducible refine Below.setCell ?_ ?_ _) | (with_reducible refine below_keep ?_ ?_ (by assumption)) | omega | (simp; done) | (simp; omega)))⟩

set_option maxRecDepth 100000 in
set_option maxHeartbeats 16000000 in
theorem law5_y0 (s st : Int) (p : Option Addr) (n c : Nat) (lo hi : Nat → Int) (need f long other : Int) (w : World) (hL : Lie w p n lo hi) (k0 : (decide (n ≤ 12 ∧ st ≤ 60)) = true) (k1 : (nd need) = true) (k2 : (tm f) = true) (k3 : (tm long) = true) (k4 : (tval s st n lo hi) = true) (e0 : NE s st n lo hi need f long = 0) (y1 : HE s st n lo hi (NV s st n lo hi need f long) (NV s st n lo hi need f long + long) = 0) (y2 : need ≤ HL s st n lo hi (NV s st n lo hi need f long) (NV s st n lo hi need f long + long)) (y3 : f ≤ NV s st n lo hi need f long) (y4 : NV s st n lo hi need f long + long ≤ 10000000) (r1 : other < f) : Calls Try.prog 5 #[tv s st p n c, .int .i64 need, .int .i64 f, .int .i64 long, .int .i64 other] w fun e w' => e = .returned (.bool true) ∧ Below w.heap.size w w' := by
  obtain ⟨f0, f1⟩ := tm_bd k2
  obtain ⟨g0, g1⟩ := tm_bd k3
  go_enter Try.func5, Try.ntmps5
  go_wp2_with fail
  refine (head_any _).mono ?_
  rintro e w1 ⟨rfl, hb1⟩
  have hL := hL.keep (W := w) (w1 := w1) (by (repeat' (first | (with_reducible assumption) | (with_reducible exact Below.refl _ _) | (with_reducible refine Below.alloc ?_ ?_ _) | (with_reducible refine Below.drew ?_) | (with_reducible refine Below.setCell ?_ ?_ _) | (with_reducible refine below_keep ?_ ?_ (by assumption)) | omega | (simp; done) | (simp; omega))))
  have hs1 := hb1.size; (try simp at hs1)
  have O1 : Own w (w.heap.size + 1) w1 [(w.heap.size, 0, .int .i64 s), (w.heap.size, 1, .int .i64 st), (w.heap.size, 2, .slice p n c)] := (by (repeat' (first | (with_reducible assumption) | (with_reducible exact Below.refl _ _) | (with_reducible exact Cels.nil _) | (with_reducible refine Cels.cons ?_ ?_) | (with_reducible refine Own.mk ?_ ?_ ?_ ?_) | ((with_reducible refine Cel.new ?_ rfl); first | (with_reducible rfl) | omega | (simp; done) | (simp; omega)) | (with_reducible refine Cel.alloc ?_ _) | (with_reducible refine Cel.drew ?_) | (with_reducible refine Cel.setS ?_ _) | (with_reducible refine Has.set ?_ _ _) | (with_reducible exact Has.of (by assumption)) | (with_reducible refine Cel.setO ?_ ?_ _) | (with_reducible refine Cel.keep (by assumption) ?_) | (with_reducible refine Below.alloc ?_ ?_ _) | (with_reducible refine Below.drew ?_) | (with_reducible refine Below.setCell ?_ ?_ _) | (with_reducible refine below_keep ?_ ?_ (by assumption)) | omega | (simp; done) | (simp; omega))))
  have hB1 := O1.below; have hz1 := O1.size; have hl1 := O1.le; have S1_0 : Cel w1 (w.heap.size) 0 (.int .i64 s) := O1.cels.1; have S1_1 : Cel w1 (w.heap.size) 1 (.int .i64 st) := O1.cels.2.1; have S1_2 : Cel w1 (w.heap.size) 2 (.slice p n c) := O1.cels.2.2.1
  clear hb1
  go_wp2_with fail
  refine (few_any s st p n c _).mono ?_
  rintro e w2 ⟨rfl, hb2⟩
  have hL := hL.keep (W := w1) (w1 := w2) (by (repeat' (first | (with_reducible assumption) | (with_reducible exact Below.refl _ _) | (with_reducible refine Below.alloc ?_ ?_ _) | (with_reducible refine Below.drew ?_) | (with_reducible refine Below.setCell ?_ ?_ _) | (with_reducible refine below_keep ?_ ?_ (by assumption)) | omega | (simp; done) | (simp; omega))))
  have hs2 := hb2.size; (try simp at hs2)
  have O2 : Own w (w.heap.size + 1) w2 [(w.heap.size, 0, .int .i64 s), (w.heap.size, 1, .int .i64 st), (w.heap.size, 2, .slice p n c)] := (by (repeat' (first | (with_reducible assumption) | (with_reducible exact Below.refl _ _) | (with_reducible exact Cels.nil _) | (with_reducible refine Cels.cons ?_ ?_) | (with_reducible refine Own.mk ?_ ?_ ?_ ?_) | ((with_reducible refine Cel.new ?_ rfl); first | (with_reducible rfl) | omega | (simp; done) | (simp; omega)) | (with_reducible refine Cel.alloc ?_ _) | (with_reducible refine Cel.drew ?_) | (with_reducible refine Cel.setS ?_ _) | (with_reducible refine Has.set ?_ _ _) | (with_reducible exact Has.of (by assumption)) | (with_reducible refine Cel.setO ?_ ?_ _) | (with_reducible refine Cel.keep (by assumption) ?_) | (with_reducible refine Below.alloc ?_ ?_ _) | (with_reducible refine Below.drew ?_) | (with_reducible refine Below.setCell ?_ ?_ _) | (with_reducible refine below_keep ?_ ?_ (by assumption)) | omega | (simp; done) | (simp; omega))))
  have hB2 := O2.below; have hz2 := O2.size; have hl2 := O2.le; have S2_0 : Cel w2 (w.heap.size) 0 (.int .i64 s) := O2.cels.1; have S2_1 : Cel w2 (w.heap.size) 1 (.int .i64 st) := O2.cels.2.1; have S2_2 : Cel w2 (w.heap.size) 2 (.slice p n c) := O2.cels.2.2.1
  clear O1 S1_0 S1_1 S1_2
  clear hb2
  go_wp2_with fail
  refine (need_nd need _).mono ?_
  rintro e w' ⟨rfl, rfl⟩
  go_wp2_with fail
  refine (rTime_any f _).mono ?_
  rintro e w' ⟨rfl, rfl⟩
  go_wp2_with fail
  refine (rTime_any long _).mono ?_
  rintro e w' ⟨rfl, rfl⟩
  go_wp2_with fail
  refine (rvalid_any s st p n c lo hi _ (hL.keep (by (repeat' (first | (with_reducible assumption) | (with_reducible exact Below.refl _ _) | (with_reducible refine Below.alloc ?_ ?_ _) | (with_reducible refine Below.drew ?_) | (with_reducible refine Below.setCell ?_ ?_ _) | (with_reducible refine below_keep ?_ ?_ (by assumption)) | omega | (simp; done) | (simp; omega)))))).mono ?_
  rintro e w6 ⟨rfl, hb6⟩
  have hL := hL.keep (W := w2) (w1 := w6) (by (repeat' (first | (with_reducible assumption) | (with_reducible exact Below.refl _ _) | (with_reducible refine Below.alloc ?_ ?_ _) | (with_reducible refine Below.drew ?_) | (with_reducible refine Below.setCell ?_ ?_ _) | (with_reducible refine below_keep ?_ ?_ (by assumption)) | omega | (simp; done) | (simp; omega))))
  have hs6 := hb6.size; (try simp at hs6)
  have O6 : Own w (w.heap.size + 1) w6 [(w.heap.size, 0, .int .i64 s), (w.heap.size, 1, .int .i64 st), (w.heap.size, 2, .slice p n c)] := (by (repeat' (first | (with_reducible assumption) | (with_reducible exact Below.refl _ _) | (with_reducible exact Cels.nil _) | (with_reducible refine Cels.cons ?_ ?_) | (with_reducible refine Own.mk ?_ ?_ ?_ ?_) | ((with_reducible refine Cel.new ?_ rfl); first | (with_reducible rfl) | omega | (simp; done) | (simp; omega)) | (with_reducible refine Cel.alloc ?_ _) | (with_reducible refine Cel.drew ?_) | (with_reducible refine Cel.setS ?_ _) | (with_reducible refine Has.set ?_ _ _) | (with_reducible exact Has.of (by assumption)) | (with_reducible refine Cel.setO ?_ ?_ _) | (with_reducible refine Cel.keep (by assumption) ?_) | (with_reducible refine Below.alloc ?_ ?_ _) | (with_reducible refine Below.drew ?_) | (with_reducible refine Below.setCell ?_ ?_ _) | (with_reducible refine below_keep ?_ ?_ (by assumption)) | omega | (simp; done) | (simp; omega))))
  have hB6 := O6.below; have hz6 := O6.size; have hl6 := O6.le; have S6_0 : Cel w6 (w.heap.size) 0 (.int .i64 s) := O6.cels.1; have S6_1 : Cel w6 (w.heap.size) 1 (.int .i64 st) := O6.cels.2.1; have S6_2 : Cel w6 (w.heap.size) 2 (.slice p n c) := O6.cels.2.2.1
  clear O2 S2_0 S2_1 S2_2
  clear hb6
  go_wp2_with fail
  refine (next_any s st p n c lo hi need f long _ (hL.keep (by (repeat' (first | (with_reducible assumption) | (with_reducible exact Below.refl _ _) | (with_reducible refine Below.alloc ?_ ?_ _) | (with_reducible refine Below.drew ?_) | (with_reducible refine Below.setCell ?_ ?_ _) | (with_reducible refine below_keep ?_ ?_ (by assumption)) | omega | (simp; done) | (simp; omega)))))).mono ?_
  rintro e w7 ⟨rfl, hb7⟩
  have hL := hL.keep (W := w6) (w1 := w7) (by (repeat' (first | (with_reducible assumption) | (with_reducible exact Below.refl _ _) | (with_reducible refine Below.alloc ?_ ?_ _) | (with_reducible refine Below.drew ?_) | (with_reducible refine Below.setCell ?_ ?_ _) | (with_reducible refine below_keep ?_ ?_ (by assumption)) | omega | (simp; done) | (simp; omega))))
  have hs7 := hb7.size; (try simp at hs7)
  have O7 : Own w (w.heap.size + 1) w7 [(w.heap.size, 0, .int .i64 s), (w.heap.size, 1, .int .i64 st), (w.heap.size, 2, .slice p n c)] := (by (repeat' (first | (with_reducible assumption) | (with_reducible exact Below.refl _ _) | (with_reducible exact Cels.nil _) | (with_reducible refine Cels.cons ?_ ?_) | (with_reducible refine Own.mk ?_ ?_ ?_ ?_) | ((with_reducible refine Cel.new ?_ rfl); first | (with_reducible rfl) | omega | (simp; done) | (simp; omega)) | (with_reducible refine Cel.alloc ?_ _) | (with_reducible refine Cel.drew ?_) | (with_reducible refine Cel.setS ?_ _) | (with_reducible refine Has.set ?_ _ _) | (with_reducible exact Has.of (by assumption)) | (with_reducible refine Cel.setO ?_ ?_ _) | (with_reducible refine Cel.keep (by assumption) ?_) | (with_reducible refine Below.alloc ?_ ?_ _) | (with_reducible refine Below.drew ?_) | (with_reducible refine Below.setCell ?_ ?_ _) | (with_reducible refine below_keep ?_ ?_ (by assumption)) | omega | (simp; done) | (simp; omega))))
  have hB7 := O7.below; have hz7 := O7.size; have hl7 := O7.le; have S7_0 : Cel w7 (w.heap.size) 0 (.int .i64 s) := O7.cels.1; have S7_1 : Cel w7 (w.heap.size) 1 (.int .i64 st) := O7.cels.2.1; have S7_2 : Cel w7 (w.heap.size) 2 (.slice p n c) := O7.cels.2.2.1
  clear O6 S6_0 S6_1 S6_2
  clear hb7
  go_wp2_with fail
  refine (height_any s st p n c lo hi (NV s st n lo hi need f long) (NV s st n lo hi need f long + long) _ (hL.keep (by (repeat' (first | (with_reducible assumption) | (with_reducible exact Below.refl _ _) | (with_reducible refine Below.alloc ?_ ?_ _) | (with_reducible refine Below.drew ?_) | (with_reducible refine Below.setCell ?_ ?_ _) | (with_reducible refine below_keep ?_ ?_ (by assumption)) | omega | (simp; done) | (simp; omega)))))).mono ?_
  rintro e w8 ⟨rfl, hb8⟩
  have hs8 := hb8.size; (try simp at hs8)
  have O8 : Own w (w.heap.size + 1) w8 [] := (by (repeat' (first | (with_reducible assumption) | (with_reducible exact Below.refl _ _) | (with_reducible exact Cels.nil _) | (with_reducible refine Cels.cons ?_ ?_) | (with_reducible refine Own.mk ?_ ?_ ?_ ?_) | ((with_reducible refine Cel.new ?_ rfl); first | (with_reducible rfl) | omega | (simp; done) | (simp; omega)) | (with_reducible refine Cel.alloc ?_ _) | (with_reducible refine Cel.drew ?_) | (with_reducible refine Cel.setS ?_ _) | (with_reducible refine Has.set ?_ _ _) | (with_reducible exact Has.of (by assumption)) | (with_reducible refine Cel.setO ?_ ?_ _) | (with_reducible refine Cel.keep (by assumption) ?_) | (with_reducible refine Below.alloc ?_ ?_ _) | (with_reducible refine Below.drew ?_) | (with_reducible refine Below.setCell ?_ ?_ _) | (with_reducible refine below_keep ?_ ?_ (by assumption)) | omega | (simp; done) | (simp; omega))))
  have hB8 := O8.below; have hz8 := O8.size; have hl8 := O8.le
  clear O7 S7_0 S7_1 S7_2
  clear hb8
  go_wp2
  all_goals
    go_ret
    exact ⟨rb (by first | rfl | (simp; done) | (simp; omega)), by (repeat' (first | (with_reducible assumption) | (with_reducible exact Below.refl _ _) | (with_reducible exact Cels.nil _) | (with_reducible refine Cels.cons ?_ ?_) | (with_reducible refine Own.mk ?_ ?_ ?_ ?_) | ((with_reducible refine Cel.new ?_ rfl); first | (with_reducible rfl) | omega | (simp; done) | (simp; omega)) | (with_reducible refine Cel.alloc ?_ _) | (with_reducible refine Cel.drew ?_) | (with_reducible refine Cel.setS ?_ _) | (with_reducible refine Has.set ?_ _ _) | (with_reducible exact Has.of (by assumption)) | (with_reducible refine Cel.setO ?_ ?_ _) | (with_reducible refine Cel.keep (by assumption) ?_) | (with_reducible refine Below.alloc ?_ ?_ _) | (with_reducible refine Below.drew ?_) | (with_reducible refine Below.setCell ?_ ?_ _) | (with_reducible refine below_keep ?_ ?_ (by assumption)) | omega | (simp; done) | (simp; omega)))⟩

set_option maxRecDepth 100000 in
set_option maxHeartbeats 16000000 in
theorem law5_y1 (s st : Int) (p : Option Addr) (n c : Nat) (lo hi : Nat → Int) (need f long other : Int) (w : World) (hL : Lie w p n lo hi) (k0 : (decide (n ≤ 12 ∧ st ≤ 60)) = true) (k1 : (nd need) = true) (k2 : (tm f) = true) (k3 : (tm long) = true) (k4 : (tval s st n lo hi) = true) (e0 : NE s st n lo hi need f long = 0) (y1 : HE s st n lo hi (NV s st n lo hi need f long) (NV s st n lo hi need f long + long) = 0) (y2 : need ≤ HL s st n lo hi (NV s st n lo hi need f long) (NV s st n lo hi need f long + long)) (y3 : f ≤ NV s st n lo hi need f long) (y4 : NV s st n lo hi need f long + long ≤ 10000000) (r1 : ¬ other < f) (r2 : 10000000 - long < other) : Calls Try.prog 5 #[tv s st p n c, .int .i64 need, .int .i64 f, .int .i64 long, .int .i64 other] w fun e w' => e = .returned (.bool true) ∧ Below w.heap.size w w' := by
  obtain ⟨f0, f1⟩ := tm_bd k2
  obtain ⟨g0, g1⟩ := tm_bd k3
  go_enter Try.func5, Try.ntmps5
  go_wp2_with fail
  refine (head_any _).mono ?_
  rintro e w1 ⟨rfl, hb1⟩
  have hL := hL.keep (W := w) (w1 := w1) (by (repeat' (first | (with_reducible assumption) | (with_reducible exact Below.refl _ _) | (with_reducible refine Below.alloc ?_ ?_ _) | (with_reducible refine Below.drew ?_) | (with_reducible refine Below.setCell ?_ ?_ _) | (with_reducible refine below_keep ?_ ?_ (by assumption)) | omega | (simp; done) | (simp; omega))))
  have hs1 := hb1.size; (try simp at hs1)
  have O1 : Own w (w.heap.size + 1) w1 [(w.heap.size, 0, .int .i64 s), (w.heap.size, 1, .int .i64 st), (w.heap.size, 2, .slice p n c)] := (by (repeat' (first | (with_reducible assumption) | (with_reducible exact Below.refl _ _) | (with_reducible exact Cels.nil _) | (with_reducible refine Cels.cons ?_ ?_) | (with_reducible refine Own.mk ?_ ?_ ?_ ?_) | ((with_reducible refine Cel.new ?_ rfl); first | (with_reducible rfl) | omega | (simp; done) | (simp; omega)) | (with_reducible refine Cel.alloc ?_ _) | (with_reducible refine Cel.drew ?_) | (with_reducible refine Cel.setS ?_ _) | (with_reducible refine Has.set ?_ _ _) | (with_reducible exact Has.of (by assumption)) | (with_reducible refine Cel.setO ?_ ?_ _) | (with_reducible refine Cel.keep (by assumption) ?_) | (with_reducible refine Below.alloc ?_ ?_ _) | (with_reducible refine Below.drew ?_) | (with_reducible refine Below.setCell ?_ ?_ _) | (with_reducible refine below_keep ?_ ?_ (by assumption)) | omega | (simp; done) | (simp; omega))))
  have hB1 := O1.below; have hz1 := O1.size; have hl1 := O1.le; have S1_0 : Cel w1 (w.heap.size) 0 (.int .i64 s) := O1.cels.1; have S1_1 : Cel w1 (w.heap.size) 1 (.int .i64 st) := O1.cels.2.1; have S1_2 : Cel w1 (w.heap.size) 2 (.slice p n c) := O1.cels.2.2.1
  clear hb1
  go_wp2_with fail
  refine (few_any s st p n c _).mono ?_
  rintro e w2 ⟨rfl, hb2⟩
  have hL := hL.keep (W := w1) (w1 := w2) (by (repeat' (first | (with_reducible assumption) | (with_reducible exact Below.refl _ _) | (with_reducible refine Below.alloc ?_ ?_ _) | (with_reducible refine Below.drew ?_) | (with_reducible refine Below.setCell ?_ ?_ _) | (with_reducible refine below_keep ?_ ?_ (by assumption)) | omega | (simp; done) | (simp; omega))))
  have hs2 := hb2.size; (try simp at hs2)
  have O2 : Own w (w.heap.size + 1) w2 [(w.heap.size, 0, .int .i64 s), (w.heap.size, 1, .int .i64 st), (w.heap.size, 2, .slice p n c)] := (by (repeat' (first | (with_reducible assumption) | (with_reducible exact Below.refl _ _) | (with_reducible exact Cels.nil _) | (with_reducible refine Cels.cons ?_ ?_) | (with_reducible refine Own.mk ?_ ?_ ?_ ?_) | ((with_reducible refine Cel.new ?_ rfl); first | (with_reducible rfl) | omega | (simp; done) | (simp; omega)) | (with_reducible refine Cel.alloc ?_ _) | (with_reducible refine Cel.drew ?_) | (with_reducible refine Cel.setS ?_ _) | (with_reducible refine Has.set ?_ _ _) | (with_reducible exact Has.of (by assumption)) | (with_reducible refine Cel.setO ?_ ?_ _) | (with_reducible refine Cel.keep (by assumption) ?_) | (with_reducible refine Below.alloc ?_ ?_ _) | (with_reducible refine Below.drew ?_) | (with_reducible refine Below.setCell ?_ ?_ _) | (with_reducible refine below_keep ?_ ?_ (by assumption)) | omega | (simp; done) | (simp; omega))))
  have hB2 := O2.below; have hz2 := O2.size; have hl2 := O2.le; have S2_0 : Cel w2 (w.heap.size) 0 (.int .i64 s) := O2.cels.1; have S2_1 : Cel w2 (w.heap.size) 1 (.int .i64 st) := O2.cels.2.1; have S2_2 : Cel w2 (w.heap.size) 2 (.slice p n c) := O2.cels.2.2.1
  clear O1 S1_0 S1_1 S1_2
  clear hb2
  go_wp2_with fail
  refine (need_nd need _).mono ?_
  rintro e w' ⟨rfl, rfl⟩
  go_wp2_with fail
  refine (rTime_any f _).mono ?_
  rintro e w' ⟨rfl, rfl⟩
  go_wp2_with fail
  refine (rTime_any long _).mono ?_
  rintro e w' ⟨rfl, rfl⟩
  go_wp2_with fail
  refine (rvalid_any s st p n c lo hi _ (hL.keep (by (repeat' (first | (with_reducible assumption) | (with_reducible exact Below.refl _ _) | (with_reducible refine Below.alloc ?_ ?_ _) | (with_reducible refine Below.drew ?_) | (with_reducible refine Below.setCell ?_ ?_ _) | (with_reducible refine below_keep ?_ ?_ (by assumption)) | omega | (simp; done) | (simp; omega)))))).mono ?_
  rintro e w6 ⟨rfl, hb6⟩
  have hL := hL.keep (W := w2) (w1 := w6) (by (repeat' (first | (with_reducible assumption) | (with_reducible exact Below.refl _ _) | (with_reducible refine Below.alloc ?_ ?_ _) | (with_reducible refine Below.drew ?_) | (with_reducible refine Below.setCell ?_ ?_ _) | (with_reducible refine below_keep ?_ ?_ (by assumption)) | omega | (simp; done) | (simp; omega))))
  have hs6 := hb6.size; (try simp at hs6)
  have O6 : Own w (w.heap.size + 1) w6 [(w.heap.size, 0, .int .i64 s), (w.heap.size, 1, .int .i64 st), (w.heap.size, 2, .slice p n c)] := (by (repeat' (first | (with_reducible assumption) | (with_reducible exact Below.refl _ _) | (with_reducible exact Cels.nil _) | (with_reducible refine Cels.cons ?_ ?_) | (with_reducible refine Own.mk ?_ ?_ ?_ ?_) | ((with_reducible refine Cel.new ?_ rfl); first | (with_reducible rfl) | omega | (simp; done) | (simp; omega)) | (with_reducible refine Cel.alloc ?_ _) | (with_reducible refine Cel.drew ?_) | (with_reducible refine Cel.setS ?_ _) | (with_reducible refine Has.set ?_ _ _) | (with_reducible exact Has.of (by assumption)) | (with_reducible refine Cel.setO ?_ ?_ _) | (with_reducible refine Cel.keep (by assumption) ?_) | (with_reducible refine Below.alloc ?_ ?_ _) | (with_reducible refine Below.drew ?_) | (with_reducible refine Below.setCell ?_ ?_ _) | (with_reducible refine below_keep ?_ ?_ (by assumption)) | omega | (simp; done) | (simp; omega))))
  have hB6 := O6.below; have hz6 := O6.size; have hl6 := O6.le; have S6_0 : Cel w6 (w.heap.size) 0 (.int .i64 s) := O6.cels.1; have S6_1 : Cel w6 (w.heap.size) 1 (.int .i64 st) := O6.cels.2.1; have S6_2 : Cel w6 (w.heap.size) 2 (.slice p n c) := O6.cels.2.2.1
  clear O2 S2_0 S2_1 S2_2
  clear hb6
  go_wp2_with fail
  refine (next_any s st p n c lo hi need f long _ (hL.keep (by (repeat' (first | (with_reducible assumption) | (with_reducible exact Below.refl _ _) | (with_reducible refine Below.alloc ?_ ?_ _) | (with_reducible refine Below.drew ?_) | (with_reducible refine Below.setCell ?_ ?_ _) | (with_reducible refine below_keep ?_ ?_ (by assumption)) | omega | (simp; done) | (simp; omega)))))).mono ?_
  rintro e w7 ⟨rfl, hb7⟩
  have hL := hL.keep (W := w6) (w1 := w7) (by (repeat' (first | (with_reducible assumption) | (with_reducible exact Below.refl _ _) | (with_reducible refine Below.alloc ?_ ?_ _) | (with_reducible refine Below.drew ?_) | (with_reducible refine Below.setCell ?_ ?_ _) | (with_reducible refine below_keep ?_ ?_ (by assumption)) | omega | (simp; done) | (simp; omega))))
  have hs7 := hb7.size; (try simp at hs7)
  have O7 : Own w (w.heap.size + 1) w7 [(w.heap.size, 0, .int .i64 s), (w.heap.size, 1, .int .i64 st), (w.heap.size, 2, .slice p n c)] := (by (repeat' (first | (with_reducible assumption) | (with_reducible exact Below.refl _ _) | (with_reducible exact Cels.nil _) | (with_reducible refine Cels.cons ?_ ?_) | (with_reducible refine Own.mk ?_ ?_ ?_ ?_) | ((with_reducible refine Cel.new ?_ rfl); first | (with_reducible rfl) | omega | (simp; done) | (simp; omega)) | (with_reducible refine Cel.alloc ?_ _) | (with_reducible refine Cel.drew ?_) | (with_reducible refine Cel.setS ?_ _) | (with_reducible refine Has.set ?_ _ _) | (with_reducible exact Has.of (by assumption)) | (with_reducible refine Cel.setO ?_ ?_ _) | (with_reducible refine Cel.keep (by assumption) ?_) | (with_reducible refine Below.alloc ?_ ?_ _) | (with_reducible refine Below.drew ?_) | (with_reducible refine Below.setCell ?_ ?_ _) | (with_reducible refine below_keep ?_ ?_ (by assumption)) | omega | (simp; done) | (simp; omega))))
  have hB7 := O7.below; have hz7 := O7.size; have hl7 := O7.le; have S7_0 : Cel w7 (w.heap.size) 0 (.int .i64 s) := O7.cels.1; have S7_1 : Cel w7 (w.heap.size) 1 (.int .i64 st) := O7.cels.2.1; have S7_2 : Cel w7 (w.heap.size) 2 (.slice p n c) := O7.cels.2.2.1
  clear O6 S6_0 S6_1 S6_2
  clear hb7
  go_wp2_with fail
  refine (height_any s st p n c lo hi (NV s st n lo hi need f long) (NV s st n lo hi need f long + long) _ (hL.keep (by (repeat' (first | (with_reducible assumption) | (with_reducible exact Below.refl _ _) | (with_reducible refine Below.alloc ?_ ?_ _) | (with_reducible refine Below.drew ?_) | (with_reducible refine Below.setCell ?_ ?_ _) | (with_reducible refine below_keep ?_ ?_ (by assumption)) | omega | (simp; done) | (simp; omega)))))).mono ?_
  rintro e w8 ⟨rfl, hb8⟩
  have hs8 := hb8.size; (try simp at hs8)
  have O8 : Own w (w.heap.size + 1) w8 [] := (by (repeat' (first | (with_reducible assumption) | (with_reducible exact Below.refl _ _) | (with_reducible exact Cels.nil _) | (with_reducible refine Cels.cons ?_ ?_) | (with_reducible refine Own.mk ?_ ?_ ?_ ?_) | ((with_reducible refine Cel.new ?_ rfl); first | (with_reducible rfl) | omega | (simp; done) | (simp; omega)) | (with_reducible refine Cel.alloc ?_ _) | (with_reducible refine Cel.drew ?_) | (with_reducible refine Cel.setS ?_ _) | (with_reducible refine Has.set ?_ _ _) | (with_reducible exact Has.of (by assumption)) | (with_reducible refine Cel.setO ?_ ?_ _) | (with_reducible refine Cel.keep (by assumption) ?_) | (with_reducible refine Below.alloc ?_ ?_ _) | (with_reducible refine Below.drew ?_) | (with_reducible refine Below.setCell ?_ ?_ _) | (with_reducible refine below_keep ?_ ?_ (by assumption)) | omega | (simp; done) | (simp; omega))))
  have hB8 := O8.below; have hz8 := O8.size; have hl8 := O8.le
  clear O7 S7_0 S7_1 S7_2
  clear hb8
  go_wp2
  all_goals
    go_ret
    exact ⟨rb (by first | rfl | (simp; done) | (simp; omega)), by (repeat' (first | (with_reducible assumption) | (with_reducible exact Below.refl _ _) | (with_reducible exact Cels.nil _) | (with_reducible refine Cels.cons ?_ ?_) | (with_reducible refine Own.mk ?_ ?_ ?_ ?_) | ((with_reducible refine Cel.new ?_ rfl); first | (with_reducible rfl) | omega | (simp; done) | (simp; omega)) | (with_reducible refine Cel.alloc ?_ _) | (with_reducible refine Cel.drew ?_) | (with_reducible refine Cel.setS ?_ _) | (with_reducible refine Has.set ?_ _ _) | (with_reducible exact Has.of (by assumption)) | (with_reducible refine Cel.setO ?_ ?_ _) | (with_reducible refine Cel.keep (by assumption) ?_) | (with_reducible refine Below.alloc ?_ ?_ _) | (with_reducible refine Below.drew ?_) | (with_reducible refine Below.setCell ?_ ?_ _) | (with_reducible refine below_keep ?_ ?_ (by assumption)) | omega | (simp; done) | (simp; omega)))⟩

set_option maxRecDepth 100000 in
set_option maxHeartbeats 16000000 in
theorem law5_y2 (s st : Int) (p : Option Addr) (n c : Nat) (lo hi : Nat → Int) (need f long other : Int) (w : World) (hL : Lie w p n lo hi) (k0 : (decide (n ≤ 12 ∧ st ≤ 60)) = true) (k1 : (nd need) = true) (k2 : (tm f) = true) (k3 : (tm long) = true) (k4 : (tval s st n lo hi) = true) (e0 : NE s st n lo hi need f long = 0) (y1 : HE s st n lo hi (NV s st n lo hi need f long) (NV s st n lo hi need f long + long) = 0) (y2 : need ≤ HL s st n lo hi (NV s st n lo hi need f long) (NV s st n lo hi need f long + long)) (y3 : f ≤ NV s st n lo hi need f long) (y4 : NV s st n lo hi need f long + long ≤ 10000000) (r1 : ¬ other < f) (r2 : ¬ 10000000 - long < other) (r3 : NV s st n lo hi need f long ≤ other) : Calls Try.prog 5 #[tv s st p n c, .int .i64 need, .int .i64 f, .int .i64 long, .int .i64 other] w fun e w' => e = .returned (.bool true) ∧ Below w.heap.size w w' := by
  obtain ⟨f0, f1⟩ := tm_bd k2
  obtain ⟨g0, g1⟩ := tm_bd k3
  go_enter Try.func5, Try.ntmps5
  go_wp2_with fail
  refine (head_any _).mono ?_
  rintro e w1 ⟨rfl, hb1⟩
  have hL := hL.keep (W := w) (w1 := w1) (by (repeat' (first | (with_reducible assumption) | (with_reducible exact Below.refl _ _) | (with_reducible refine Below.alloc ?_ ?_ _) | (with_reducible refine Below.drew ?_) | (with_reducible refine Below.setCell ?_ ?_ _) | (with_reducible refine below_keep ?_ ?_ (by assumption)) | omega | (simp; done) | (simp; omega))))
  have hs1 := hb1.size; (try simp at hs1)
  have O1 : Own w (w.heap.size + 1) w1 [(w.heap.size, 0, .int .i64 s), (w.heap.size, 1, .int .i64 st), (w.heap.size, 2, .slice p n c)] := (by (repeat' (first | (with_reducible assumption) | (with_reducible exact Below.refl _ _) | (with_reducible exact Cels.nil _) | (with_reducible refine Cels.cons ?_ ?_) | (with_reducible refine Own.mk ?_ ?_ ?_ ?_) | ((with_reducible refine Cel.new ?_ rfl); first | (with_reducible rfl) | omega | (simp; done) | (simp; omega)) | (with_reducible refine Cel.alloc ?_ _) | (with_reducible refine Cel.drew ?_) | (with_reducible refine Cel.setS ?_ _) | (with_reducible refine Has.set ?_ _ _) | (with_reducible exact Has.of (by assumption)) | (with_reducible refine Cel.setO ?_ ?_ _) | (with_reducible refine Cel.keep (by assumption) ?_) | (with_reducible refine Below.alloc ?_ ?_ _) | (with_reducible refine Below.drew ?_) | (with_reducible refine Below.setCell ?_ ?_ _) | (with_reducible refine below_keep ?_ ?_ (by assumption)) | omega | (simp; done) | (simp; omega))))
  have hB1 := O1.below; have hz1 := O1.size; have hl1 := O1.le; have S1_0 : Cel w1 (w.heap.size) 0 (.int .i64 s) := O1.cels.1; have S1_1 : Cel w1 (w.heap.size) 1 (.int .i64 st) := O1.cels.2.1; have S1_2 : Cel w1 (w.heap.size) 2 (.slice p n c) := O1.cels.2.2.1
  clear hb1
  go_wp2_with fail
  refine (few_any s st p n c _).mono ?_
  rintro e w2 ⟨rfl, hb2⟩
  have hL := hL.keep (W := w1) (w1 := w2) (by (repeat' (first | (with_reducible assumption) | (with_reducible exact Below.refl _ _) | (with_reducible refine Below.alloc ?_ ?_ _) | (with_reducible refine Below.drew ?_) | (with_reducible refine Below.setCell ?_ ?_ _) | (with_reducible refine below_keep ?_ ?_ (by assumption)) | omega | (simp; done) | (simp; omega))))
  have hs2 := hb2.size; (try simp at hs2)
  have O2 : Own w (w.heap.size + 1) w2 [(w.heap.size, 0, .int .i64 s), (w.heap.size, 1, .int .i64 st), (w.heap.size, 2, .slice p n c)] := (by (repeat' (first | (with_reducible assumption) | (with_reducible exact Below.refl _ _) | (with_reducible exact Cels.nil _) | (with_reducible refine Cels.cons ?_ ?_) | (with_reducible refine Own.mk ?_ ?_ ?_ ?_) | ((with_reducible refine Cel.new ?_ rfl); first | (with_reducible rfl) | omega | (simp; done) | (simp; omega)) | (with_reducible refine Cel.alloc ?_ _) | (with_reducible refine Cel.drew ?_) | (with_reducible refine Cel.setS ?_ _) | (with_reducible refine Has.set ?_ _ _) | (with_reducible exact Has.of (by assumption)) | (with_reducible refine Cel.setO ?_ ?_ _) | (with_reducible refine Cel.keep (by assumption) ?_) | (with_reducible refine Below.alloc ?_ ?_ _) | (with_reducible refine Below.drew ?_) | (with_reducible refine Below.setCell ?_ ?_ _) | (with_reducible refine below_keep ?_ ?_ (by assumption)) | omega | (simp; done) | (simp; omega))))
  have hB2 := O2.below; have hz2 := O2.size; have hl2 := O2.le; have S2_0 : Cel w2 (w.heap.size) 0 (.int .i64 s) := O2.cels.1; have S2_1 : Cel w2 (w.heap.size) 1 (.int .i64 st) := O2.cels.2.1; have S2_2 : Cel w2 (w.heap.size) 2 (.slice p n c) := O2.cels.2.2.1
  clear O1 S1_0 S1_1 S1_2
  clear hb2
  go_wp2_with fail
  refine (need_nd need _).mono ?_
  rintro e w' ⟨rfl, rfl⟩
  go_wp2_with fail
  refine (rTime_any f _).mono ?_
  rintro e w' ⟨rfl, rfl⟩
  go_wp2_with fail
  refine (rTime_any long _).mono ?_
  rintro e w' ⟨rfl, rfl⟩
  go_wp2_with fail
  refine (rvalid_any s st p n c lo hi _ (hL.keep (by (repeat' (first | (with_reducible assumption) | (with_reducible exact Below.refl _ _) | (with_reducible refine Below.alloc ?_ ?_ _) | (with_reducible refine Below.drew ?_) | (with_reducible refine Below.setCell ?_ ?_ _) | (with_reducible refine below_keep ?_ ?_ (by assumption)) | omega | (simp; done) | (simp; omega)))))).mono ?_
  rintro e w6 ⟨rfl, hb6⟩
  have hL := hL.keep (W := w2) (w1 := w6) (by (repeat' (first | (with_reducible assumption) | (with_reducible exact Below.refl _ _) | (with_reducible refine Below.alloc ?_ ?_ _) | (with_reducible refine Below.drew ?_) | (with_reducible refine Below.setCell ?_ ?_ _) | (with_reducible refine below_keep ?_ ?_ (by assumption)) | omega | (simp; done) | (simp; omega))))
  have hs6 := hb6.size; (try simp at hs6)
  have O6 : Own w (w.heap.size + 1) w6 [(w.heap.size, 0, .int .i64 s), (w.heap.size, 1, .int .i64 st), (w.heap.size, 2, .slice p n c)] := (by (repeat' (first | (with_reducible assumption) | (with_reducible exact Below.refl _ _) | (with_reducible exact Cels.nil _) | (with_reducible refine Cels.cons ?_ ?_) | (with_reducible refine Own.mk ?_ ?_ ?_ ?_) | ((with_reducible refine Cel.new ?_ rfl); first | (with_reducible rfl) | omega | (simp; done) | (simp; omega)) | (with_reducible refine Cel.alloc ?_ _) | (with_reducible refine Cel.drew ?_) | (with_reducible refine Cel.setS ?_ _) | (with_reducible refine Has.set ?_ _ _) | (with_reducible exact Has.of (by assumption)) | (with_reducible refine Cel.setO ?_ ?_ _) | (with_reducible refine Cel.keep (by assumption) ?_) | (with_reducible refine Below.alloc ?_ ?_ _) | (with_reducible refine Below.drew ?_) | (with_reducible refine Below.setCell ?_ ?_ _) | (with_reducible refine below_keep ?_ ?_ (by assumption)) | omega | (simp; done) | (simp; omega))))
  have hB6 := O6.below; have hz6 := O6.size; have hl6 := O6.le; have S6_0 : Cel w6 (w.heap.size) 0 (.int .i64 s) := O6.cels.1; have S6_1 : Cel w6 (w.heap.size) 1 (.int .i64 st) := O6.cels.2.1; have S6_2 : Cel w6 (w.heap.size) 2 (.slice p n c) := O6.cels.2.2.1
  clear O2 S2_0 S2_1 S2_2
  clear hb6
  go_wp2_with fail
  refine (next_any s st p n c lo hi need f long _ (hL.keep (by (repeat' (first | (with_reducible assumption) | (with_reducible exact Below.refl _ _) | (with_reducible refine Below.alloc ?_ ?_ _) | (with_reducible refine Below.drew ?_) | (with_reducible refine Below.setCell ?_ ?_ _) | (with_reducible refine below_keep ?_ ?_ (by assumption)) | omega | (simp; done) | (simp; omega)))))).mono ?_
  rintro e w7 ⟨rfl, hb7⟩
  have hL := hL.keep (W := w6) (w1 := w7) (by (repeat' (first | (with_reducible assumption) | (with_reducible exact Below.refl _ _) | (with_reducible refine Below.alloc ?_ ?_ _) | (with_reducible refine Below.drew ?_) | (with_reducible refine Below.setCell ?_ ?_ _) | (with_reducible refine below_keep ?_ ?_ (by assumption)) | omega | (simp; done) | (simp; omega))))
  have hs7 := hb7.size; (try simp at hs7)
  have O7 : Own w (w.heap.size + 1) w7 [(w.heap.size, 0, .int .i64 s), (w.heap.size, 1, .int .i64 st), (w.heap.size, 2, .slice p n c)] := (by (repeat' (first | (with_reducible assumption) | (with_reducible exact Below.refl _ _) | (with_reducible exact Cels.nil _) | (with_reducible refine Cels.cons ?_ ?_) | (with_reducible refine Own.mk ?_ ?_ ?_ ?_) | ((with_reducible refine Cel.new ?_ rfl); first | (with_reducible rfl) | omega | (simp; done) | (simp; omega)) | (with_reducible refine Cel.alloc ?_ _) | (with_reducible refine Cel.drew ?_) | (with_reducible refine Cel.setS ?_ _) | (with_reducible refine Has.set ?_ _ _) | (with_reducible exact Has.of (by assumption)) | (with_reducible refine Cel.setO ?_ ?_ _) | (with_reducible refine Cel.keep (by assumption) ?_) | (with_reducible refine Below.alloc ?_ ?_ _) | (with_reducible refine Below.drew ?_) | (with_reducible refine Below.setCell ?_ ?_ _) | (with_reducible refine below_keep ?_ ?_ (by assumption)) | omega | (simp; done) | (simp; omega))))
  have hB7 := O7.below; have hz7 := O7.size; have hl7 := O7.le; have S7_0 : Cel w7 (w.heap.size) 0 (.int .i64 s) := O7.cels.1; have S7_1 : Cel w7 (w.heap.size) 1 (.int .i64 st) := O7.cels.2.1; have S7_2 : Cel w7 (w.heap.size) 2 (.slice p n c) := O7.cels.2.2.1
  clear O6 S6_0 S6_1 S6_2
  clear hb7
  go_wp2_with fail
  refine (height_any s st p n c lo hi (NV s st n lo hi need f long) (NV s st n lo hi need f long + long) _ (hL.keep (by (repeat' (first | (with_reducible assumption) | (with_reducible exact Below.refl _ _) | (with_reducible refine Below.alloc ?_ ?_ _) | (with_reducible refine Below.drew ?_) | (with_reducible refine Below.setCell ?_ ?_ _) | (with_reducible refine below_keep ?_ ?_ (by assumption)) | omega | (simp; done) | (simp; omega)))))).mono ?_
  rintro e w8 ⟨rfl, hb8⟩
  have hs8 := hb8.size; (try simp at hs8)
  have O8 : Own w (w.heap.size + 1) w8 [] := (by (repeat' (first | (with_reducible assumption) | (with_reducible exact Below.refl _ _) | (with_reducible exact Cels.nil _) | (with_reducible refine Cels.cons ?_ ?_) | (with_reducible refine Own.mk ?_ ?_ ?_ ?_) | ((with_reducible refine Cel.new ?_ rfl); first | (with_reducible rfl) | omega | (simp; done) | (simp; omega)) | (with_reducible refine Cel.alloc ?_ _) | (with_reducible refine Cel.drew ?_) | (with_reducible refine Cel.setS ?_ _) | (with_reducible refine Has.set ?_ _ _) | (with_reducible exact Has.of (by assumption)) | (with_reducible refine Cel.setO ?_ ?_ _) | (with_reducible refine Cel.keep (by assumption) ?_) | (with_reducible refine Below.alloc ?_ ?_ _) | (with_reducible refine Below.drew ?_) | (with_reducible refine Below.setCell ?_ ?_ _) | (with_reducible refine below_keep ?_ ?_ (by assumption)) | omega | (simp; done) | (simp; omega))))
  have hB8 := O8.below; have hz8 := O8.size; have hl8 := O8.le
  clear O7 S7_0 S7_1 S7_2
  clear hb8
  go_wp2
  all_goals
    go_ret
    exact ⟨rb (by first | rfl | (simp; done) | (simp; omega)), by (repeat' (first | (with_reducible assumption) | (with_reducible exact Below.refl _ _) | (with_reducible exact Cels.nil _) | (with_reducible refine Cels.cons ?_ ?_) | (with_reducible refine Own.mk ?_ ?_ ?_ ?_) | ((with_reducible refine Cel.new ?_ rfl); first | (with_reducible rfl) | omega | (simp; done) | (simp; omega)) | (with_reducible refine Cel.alloc ?_ _) | (with_reducible refine Cel.drew ?_) | (with_reducible refine Cel.setS ?_ _) | (with_reducible refine Has.set ?_ _ _) | (with_reducible exact Has.of (by assumption)) | (with_reducible refine Cel.setO ?_ ?_ _) | (with_reducible refine Cel.keep (by assumption) ?_) | (with_reducible refine Below.alloc ?_ ?_ _) | (with_reducible refine Below.drew ?_) | (with_reducible refine Below.setCell ?_ ?_ _) | (with_reducible refine below_keep ?_ ?_ (by assumption)) | omega | (simp; done) | (simp; omega)))⟩

set_option maxRecDepth 100000 in
set_option maxHeartbeats 16000000 in
theorem law5_y3 (s st : Int) (p : Option Addr) (n c : Nat) (lo hi : Nat → Int) (need f long other : Int) (w : World) (hL : Lie w p n lo hi) (k0 : (decide (n ≤ 12 ∧ st ≤ 60)) = true) (k1 : (nd need) = true) (k2 : (tm f) = true) (k3 : (tm long) = true) (k4 : (tval s st n lo hi) = true) (e0 : NE s st n lo hi need f long = 0) (y1 : HE s st n lo hi (NV s st n lo hi need f long) (NV s st n lo hi need f long + long) = 0) (y2 : need ≤ HL s st n lo hi (NV s st n lo hi need f long) (NV s st n lo hi need f long + long)) (y3 : f ≤ NV s st n lo hi need f long) (y4 : NV s st n lo hi need f long + long ≤ 10000000) (r1 : ¬ other < f) (r2 : ¬ 10000000 - long < other) (r3 : ¬ NV s st n lo hi need f long ≤ other) (r4 : (HE s st n lo hi other (other + long) != 0) = true) : Calls Try.prog 5 #[tv s st p n c, .int .i64 need, .int .i64 f, .int .i64 long, .int .i64 other] w fun e w' => e = .returned (.bool true) ∧ Below w.heap.size w w' := by
  obtain ⟨f0, f1⟩ := tm_bd k2
  obtain ⟨g0, g1⟩ := tm_bd k3
  go_enter Try.func5, Try.ntmps5
  go_wp2_with fail
  refine (head_any _).mono ?_
  rintro e w1 ⟨rfl, hb1⟩
  have hL := hL.keep (W := w) (w1 := w1) (by (repeat' (first | (with_reducible assumption) | (with_reducible exact Below.refl _ _) | (with_reducible refine Below.alloc ?_ ?_ _) | (with_reducible refine Below.drew ?_) | (with_reducible refine Below.setCell ?_ ?_ _) | (with_reducible refine below_keep ?_ ?_ (by assumption)) | omega | (simp; done) | (simp; omega))))
  have hs1 := hb1.size; (try simp at hs1)
  have O1 : Own w (w.heap.size + 1) w1 [(w.heap.size, 0, .int .i64 s), (w.heap.size, 1, .int .i64 st), (w.heap.size, 2, .slice p n c)] := (by (repeat' (first | (with_reducible assumption) | (with_reducible exact Below.refl _ _) | (with_reducible exact Cels.nil _) | (with_reducible refine Cels.cons ?_ ?_) | (with_reducible refine Own.mk ?_ ?_ ?_ ?_) | ((with_reducible refine Cel.new ?_ rfl); first | (with_reducible rfl) | omega | (simp; done) | (simp; omega)) | (with_reducible refine Cel.alloc ?_ _) | (with_reducible refine Cel.drew ?_) | (with_reducible refine Cel.setS ?_ _) | (with_reducible refine Has.set ?_ _ _) | (with_reducible exact Has.of (by assumption)) | (with_reducible refine Cel.setO ?_ ?_ _) | (with_reducible refine Cel.keep (by assumption) ?_) | (with_reducible refine Below.alloc ?_ ?_ _) | (with_reducible refine Below.drew ?_) | (with_reducible refine Below.setCell ?_ ?_ _) | (with_reducible refine below_keep ?_ ?_ (by assumption)) | omega | (simp; done) | (simp; omega))))
  have hB1 := O1.below; have hz1 := O1.size; have hl1 := O1.le; have S1_0 : Cel w1 (w.heap.size) 0 (.int .i64 s) := O1.cels.1; have S1_1 : Cel w1 (w.heap.size) 1 (.int .i64 st) := O1.cels.2.1; have S1_2 : Cel w1 (w.heap.size) 2 (.slice p n c) := O1.cels.2.2.1
  clear hb1
  go_wp2_with fail
  refine (few_any s st p n c _).mono ?_
  rintro e w2 ⟨rfl, hb2⟩
  have hL := hL.keep (W := w1) (w1 := w2) (by (repeat' (first | (with_reducible assumption) | (with_reducible exact Below.refl _ _) | (with_reducible refine Below.alloc ?_ ?_ _) | (with_reducible refine Below.drew ?_) | (with_reducible refine Below.setCell ?_ ?_ _) | (with_reducible refine below_keep ?_ ?_ (by assumption)) | omega | (simp; done) | (simp; omega))))
  have hs2 := hb2.size; (try simp at hs2)
  have O2 : Own w (w.heap.size + 1) w2 [(w.heap.size, 0, .int .i64 s), (w.heap.size, 1, .int .i64 st), (w.heap.size, 2, .slice p n c)] := (by (repeat' (first | (with_reducible assumption) | (with_reducible exact Below.refl _ _) | (with_reducible exact Cels.nil _) | (with_reducible refine Cels.cons ?_ ?_) | (with_reducible refine Own.mk ?_ ?_ ?_ ?_) | ((with_reducible refine Cel.new ?_ rfl); first | (with_reducible rfl) | omega | (simp; done) | (simp; omega)) | (with_reducible refine Cel.alloc ?_ _) | (with_reducible refine Cel.drew ?_) | (with_reducible refine Cel.setS ?_ _) | (with_reducible refine Has.set ?_ _ _) | (with_reducible exact Has.of (by assumption)) | (with_reducible refine Cel.setO ?_ ?_ _) | (with_reducible refine Cel.keep (by assumption) ?_) | (with_reducible refine Below.alloc ?_ ?_ _) | (with_reducible refine Below.drew ?_) | (with_reducible refine Below.setCell ?_ ?_ _) | (with_reducible refine below_keep ?_ ?_ (by assumption)) | omega | (simp; done) | (simp; omega))))
  have hB2 := O2.below; have hz2 := O2.size; have hl2 := O2.le; have S2_0 : Cel w2 (w.heap.size) 0 (.int .i64 s) := O2.cels.1; have S2_1 : Cel w2 (w.heap.size) 1 (.int .i64 st) := O2.cels.2.1; have S2_2 : Cel w2 (w.heap.size) 2 (.slice p n c) := O2.cels.2.2.1
  clear O1 S1_0 S1_1 S1_2
  clear hb2
  go_wp2_with fail
  refine (need_nd need _).mono ?_
  rintro e w' ⟨rfl, rfl⟩
  go_wp2_with fail
  refine (rTime_any f _).mono ?_
  rintro e w' ⟨rfl, rfl⟩
  go_wp2_with fail
  refine (rTime_any long _).mono ?_
  rintro e w' ⟨rfl, rfl⟩
  go_wp2_with fail
  refine (rvalid_any s st p n c lo hi _ (hL.keep (by (repeat' (first | (with_reducible assumption) | (with_reducible exact Below.refl _ _) | (with_reducible refine Below.alloc ?_ ?_ _) | (with_reducible refine Below.drew ?_) | (with_reducible refine Below.setCell ?_ ?_ _) | (with_reducible refine below_keep ?_ ?_ (by assumption)) | omega | (simp; done) | (simp; omega)))))).mono ?_
  rintro e w6 ⟨rfl, hb6⟩
  have hL := hL.keep (W := w2) (w1 := w6) (by (repeat' (first | (with_reducible assumption) | (with_reducible exact Below.refl _ _) | (with_reducible refine Below.alloc ?_ ?_ _) | (with_reducible refine Below.drew ?_) | (with_reducible refine Below.setCell ?_ ?_ _) | (with_reducible refine below_keep ?_ ?_ (by assumption)) | omega | (simp; done) | (simp; omega))))
  have hs6 := hb6.size; (try simp at hs6)
  have O6 : Own w (w.heap.size + 1) w6 [(w.heap.size, 0, .int .i64 s), (w.heap.size, 1, .int .i64 st), (w.heap.size, 2, .slice p n c)] := (by (repeat' (first | (with_reducible assumption) | (with_reducible exact Below.refl _ _) | (with_reducible exact Cels.nil _) | (with_reducible refine Cels.cons ?_ ?_) | (with_reducible refine Own.mk ?_ ?_ ?_ ?_) | ((with_reducible refine Cel.new ?_ rfl); first | (with_reducible rfl) | omega | (simp; done) | (simp; omega)) | (with_reducible refine Cel.alloc ?_ _) | (with_reducible refine Cel.drew ?_) | (with_reducible refine Cel.setS ?_ _) | (with_reducible refine Has.set ?_ _ _) | (with_reducible exact Has.of (by assumption)) | (with_reducible refine Cel.setO ?_ ?_ _) | (with_reducible refine Cel.keep (by assumption) ?_) | (with_reducible refine Below.alloc ?_ ?_ _) | (with_reducible refine Below.drew ?_) | (with_reducible refine Below.setCell ?_ ?_ _) | (with_reducible refine below_keep ?_ ?_ (by assumption)) | omega | (simp; done) | (simp; omega))))
  have hB6 := O6.below; have hz6 := O6.size; have hl6 := O6.le; have S6_0 : Cel w6 (w.heap.size) 0 (.int .i64 s) := O6.cels.1; have S6_1 : Cel w6 (w.heap.size) 1 (.int .i64 st) := O6.cels.2.1; have S6_2 : Cel w6 (w.heap.size) 2 (.slice p n c) := O6.cels.2.2.1
  clear O2 S2_0 S2_1 S2_2
  clear hb6
  go_wp2_with fail
  refine (next_any s st p n c lo hi need f long _ (hL.keep (by (repeat' (first | (with_reducible assumption) | (with_reducible exact Below.refl _ _) | (with_reducible refine Below.alloc ?_ ?_ _) | (with_reducible refine Below.drew ?_) | (with_reducible refine Below.setCell ?_ ?_ _) | (with_reducible refine below_keep ?_ ?_ (by assumption)) | omega | (simp; done) | (simp; omega)))))).mono ?_
  rintro e w7 ⟨rfl, hb7⟩
  have hL := hL.keep (W := w6) (w1 := w7) (by (repeat' (first | (with_reducible assumption) | (with_reducible exact Below.refl _ _) | (with_reducible refine Below.alloc ?_ ?_ _) | (with_reducible refine Below.drew ?_) | (with_reducible refine Below.setCell ?_ ?_ _) | (with_reducible refine below_keep ?_ ?_ (by assumption)) | omega | (simp; done) | (simp; omega))))
  have hs7 := hb7.size; (try simp at hs7)
  have O7 : Own w (w.heap.size + 1) w7 [(w.heap.size, 0, .int .i64 s), (w.heap.size, 1, .int .i64 st), (w.heap.size, 2, .slice p n c)] := (by (repeat' (first | (with_reducible assumption) | (with_reducible exact Below.refl _ _) | (with_reducible exact Cels.nil _) | (with_reducible refine Cels.cons ?_ ?_) | (with_reducible refine Own.mk ?_ ?_ ?_ ?_) | ((with_reducible refine Cel.new ?_ rfl); first | (with_reducible rfl) | omega | (simp; done) | (simp; omega)) | (with_reducible refine Cel.alloc ?_ _) | (with_reducible refine Cel.drew ?_) | (with_reducible refine Cel.setS ?_ _) | (with_reducible refine Has.set ?_ _ _) | (with_reducible exact Has.of (by assumption)) | (with_reducible refine Cel.setO ?_ ?_ _) | (with_reducible refine Cel.keep (by assumption) ?_) | (with_reducible refine Below.alloc ?_ ?_ _) | (with_reducible refine Below.drew ?_) | (with_reducible refine Below.setCell ?_ ?_ _) | (with_reducible refine below_keep ?_ ?_ (by assumption)) | omega | (simp; done) | (simp; omega))))
  have hB7 := O7.below; have hz7 := O7.size; have hl7 := O7.le; have S7_0 : Cel w7 (w.heap.size) 0 (.int .i64 s) := O7.cels.1; have S7_1 : Cel w7 (w.heap.size) 1 (.int .i64 st) := O7.cels.2.1; have S7_2 : Cel w7 (w.heap.size) 2 (.slice p n c) := O7.cels.2.2.1
  clear O6 S6_0 S6_1 S6_2
  clear hb7
  go_wp2_with fail
  refine (height_any s st p n c lo hi (NV s st n lo hi need f long) (NV s st n lo hi need f long + long) _ (hL.keep (by (repeat' (first | (with_reducible assumption) | (with_reducible exact Below.refl _ _) | (with_reducible refine Below.alloc ?_ ?_ _) | (with_reducible refine Below.drew ?_) | (with_reducible refine Below.setCell ?_ ?_ _) | (with_reducible refine below_keep ?_ ?_ (by assumption)) | omega | (simp; done) | (simp; omega)))))).mono ?_
  rintro e w8 ⟨rfl, hb8⟩
  have hL := hL.keep (W := w7) (w1 := w8) (by (repeat' (first | (with_reducible assumption) | (with_reducible exact Below.refl _ _) | (with_reducible refine Below.alloc ?_ ?_ _) | (with_reducible refine Below.drew ?_) | (with_reducible refine Below.setCell ?_ ?_ _) | (with_reducible refine below_keep ?_ ?_ (by assumption)) | omega | (simp; done) | (simp; omega))))
  have hs8 := hb8.size; (try simp at hs8)
  have O8 : Own w (w.heap.size + 1) w8 [(w.heap.size, 0, .int .i64 s), (w.heap.size, 1, .int .i64 st), (w.heap.size, 2, .slice p n c)] := (by (repeat' (first | (with_reducible assumption) | (with_reducible exact Below.refl _ _) | (with_reducible exact Cels.nil _) | (with_reducible refine Cels.cons ?_ ?_) | (with_reducible refine Own.mk ?_ ?_ ?_ ?_) | ((with_reducible refine Cel.new ?_ rfl); first | (with_reducible rfl) | omega | (simp; done) | (simp; omega)) | (with_reducible refine Cel.alloc ?_ _) | (with_reducible refine Cel.drew ?_) | (with_reducible refine Cel.setS ?_ _) | (with_reducible refine Has.set ?_ _ _) | (with_reducible exact Has.of (by assumption)) | (with_reducible refine Cel.setO ?_ ?_ _) | (with_reducible refine Cel.keep (by assumption) ?_) | (with_reducible refine Below.alloc ?_ ?_ _) | (with_reducible refine Below.drew ?_) | (with_reducible refine Below.setCell ?_ ?_ _) | (with_reducible refine below_keep ?_ ?_ (by assumption)) | omega | (simp; done) | (simp; omega))))
  have hB8 := O8.below; have hz8 := O8.size; have hl8 := O8.le; have S8_0 : Cel w8 (w.heap.size) 0 (.int .i64 s) := O8.cels.1; have S8_1 : Cel w8 (w.heap.size) 1 (.int .i64 st) := O8.cels.2.1; have S8_2 : Cel w8 (w.heap.size) 2 (.slice p n c) := O8.cels.2.2.1
  clear O7 S7_0 S7_1 S7_2
  clear hb8
  go_wp2_with fail
  refine (height_any s st p n c lo hi other (other + long) _ (hL.keep (by (repeat' (first | (with_reducible assumption) | (with_reducible exact Below.refl _ _) | (with_reducible refine Below.alloc ?_ ?_ _) | (with_reducible refine Below.drew ?_) | (with_reducible refine Below.setCell ?_ ?_ _) | (with_reducible refine below_keep ?_ ?_ (by assumption)) | omega | (simp; done) | (simp; omega)))))).mono ?_
  rintro e w9 ⟨rfl, hb9⟩
  have hs9 := hb9.size; (try simp at hs9)
  have O9 : Own w (w8.heap.size + 1) w9 [] := (by (repeat' (first | (with_reducible assumption) | (with_reducible exact Below.refl _ _) | (with_reducible exact Cels.nil _) | (with_reducible refine Cels.cons ?_ ?_) | (with_reducible refine Own.mk ?_ ?_ ?_ ?_) | ((with_reducible refine Cel.new ?_ rfl); first | (with_reducible rfl) | omega | (simp; done) | (simp; omega)) | (with_reducible refine Cel.alloc ?_ _) | (with_reducible refine Cel.drew ?_) | (with_reducible refine Cel.setS ?_ _) | (with_reducible refine Has.set ?_ _ _) | (with_reducible exact Has.of (by assumption)) | (with_reducible refine Cel.setO ?_ ?_ _) | (with_reducible refine Cel.keep (by assumption) ?_) | (with_reducible refine Below.alloc ?_ ?_ _) | (with_reducible refine Below.drew ?_) | (with_reducible refine Below.setCell ?_ ?_ _) | (with_reducible refine below_keep ?_ ?_ (by assumption)) | omega | (simp; done) | (simp; omega))))
  have hB9 := O9.below; have hz9 := O9.size; have hl9 := O9.le
  clear O8 S8_0 S8_1 S8_2
  clear hb9
  go_wp2
  all_goals
    go_ret
    exact ⟨rb (by first | rfl | (simp; done) | (simp; omega)), by (repeat' (first | (with_reducible assumption) | (with_reducible exact Below.refl _ _) | (with_reducible exact Cels.nil _) | (with_reducible refine Cels.cons ?_ ?_) | (with_reducible refine Own.mk ?_ ?_ ?_ ?_) | ((with_reducible refine Cel.new ?_ rfl); first | (with_reducible rfl) | omega | (simp; done) | (simp; omega)) | (with_reducible refine Cel.alloc ?_ _) | (with_reducible refine Cel.drew ?_) | (with_reducible refine Cel.setS ?_ _) | (with_reducible refine Has.set ?_ _ _) | (with_reducible exact Has.of (by assumption)) | (with_reducible refine Cel.setO ?_ ?_ _) | (with_reducible refine Cel.keep (by assumption) ?_) | (with_reducible refine Below.alloc ?_ ?_ _) | (with_reducible refine Below.drew ?_) | (with_reducible refine Below.setCell ?_ ?_ _) | (with_reducible refine below_keep ?_ ?_ (by assumption)) | omega | (simp; done) | (simp; omega)))⟩

set_option maxRecDepth 100000 in
set_option maxHeartbeats 16000000 in
theorem law5_y4 (s st : Int) (p : Option Addr) (n c : Nat) (lo hi : Nat → Int) (need f long other : Int) (w : World) (hL : Lie w p n lo hi) (k0 : (decide (n ≤ 12 ∧ st ≤ 60)) = true) (k1 : (nd need) = true) (k2 : (tm f) = true) (k3 : (tm long) = true) (k4 : (tval s st n lo hi) = true) (e0 : NE s st n lo hi need f long = 0) (y1 : HE s st n lo hi (NV s st n lo hi need f long) (NV s st n lo hi need f long + long) = 0) (y2 : need ≤ HL s st n lo hi (NV s st n lo hi need f long) (NV s st n lo hi need f long + long)) (y3 : f ≤ NV s st n lo hi need f long) (y4 : NV s st n lo hi need f long + long ≤ 10000000) (r1 : ¬ other < f) (r2 : ¬ 10000000 - long < other) (r3 : ¬ NV s st n lo hi need f long ≤ other) (r4 : HE s st n lo hi other (other + long) = 0) (r5 : HL s st n lo hi other (other + long) < need) : Calls Try.prog 5 #[tv s st p n c, .int .i64 need, .int .i64 f, .int .i64 long, .int .i64 other] w fun e w' => e = .returned (.bool true) ∧ Below w.heap.size w w' := by
  obtain ⟨f0, f1⟩ := tm_bd k2
  obtain ⟨g0, g1⟩ := tm_bd k3
  go_enter Try.func5, Try.ntmps5
  go_wp2_with fail
  refine (head_any _).mono ?_
  rintro e w1 ⟨rfl, hb1⟩
  have hL := hL.keep (W := w) (w1 := w1) (by (repeat' (first | (with_reducible assumption) | (with_reducible exact Below.refl _ _) | (with_reducible refine Below.alloc ?_ ?_ _) | (with_reducible refine Below.drew ?_) | (with_reducible refine Below.setCell ?_ ?_ _) | (with_reducible refine below_keep ?_ ?_ (by assumption)) | omega | (simp; done) | (simp; omega))))
  have hs1 := hb1.size; (try simp at hs1)
  have O1 : Own w (w.heap.size + 1) w1 [(w.heap.size, 0, .int .i64 s), (w.heap.size, 1, .int .i64 st), (w.heap.size, 2, .slice p n c)] := (by (repeat' (first | (with_reducible assumption) | (with_reducible exact Below.refl _ _) | (with_reducible exact Cels.nil _) | (with_reducible refine Cels.cons ?_ ?_) | (with_reducible refine Own.mk ?_ ?_ ?_ ?_) | ((with_reducible refine Cel.new ?_ rfl); first | (with_reducible rfl) | omega | (simp; done) | (simp; omega)) | (with_reducible refine Cel.alloc ?_ _) | (with_reducible refine Cel.drew ?_) | (with_reducible refine Cel.setS ?_ _) | (with_reducible refine Has.set ?_ _ _) | (with_reducible exact Has.of (by assumption)) | (with_reducible refine Cel.setO ?_ ?_ _) | (with_reducible refine Cel.keep (by assumption) ?_) | (with_reducible refine Below.alloc ?_ ?_ _) | (with_reducible refine Below.drew ?_) | (with_reducible refine Below.setCell ?_ ?_ _) | (with_reducible refine below_keep ?_ ?_ (by assumption)) | omega | (simp; done) | (simp; omega))))
  have hB1 := O1.below; have hz1 := O1.size; have hl1 := O1.le; have S1_0 : Cel w1 (w.heap.size) 0 (.int .i64 s) := O1.cels.1; have S1_1 : Cel w1 (w.heap.size) 1 (.int .i64 st) := O1.cels.2.1; have S1_2 : Cel w1 (w.heap.size) 2 (.slice p n c) := O1.cels.2.2.1
  clear hb1
  go_wp2_with fail
  refine (few_any s st p n c _).mono ?_
  rintro e w2 ⟨rfl, hb2⟩
  have hL := hL.keep (W := w1) (w1 := w2) (by (repeat' (first | (with_reducible assumption) | (with_reducible exact Below.refl _ _) | (with_reducible refine Below.alloc ?_ ?_ _) | (with_reducible refine Below.drew ?_) | (with_reducible refine Below.setCell ?_ ?_ _) | (with_reducible refine below_keep ?_ ?_ (by assumption)) | omega | (simp; done) | (simp; omega))))
  have hs2 := hb2.size; (try simp at hs2)
  have O2 : Own w (w.heap.size + 1) w2 [(w.heap.size, 0, .int .i64 s), (w.heap.size, 1, .int .i64 st), (w.heap.size, 2, .slice p n c)] := (by (repeat' (first | (with_reducible assumption) | (with_reducible exact Below.refl _ _) | (with_reducible exact Cels.nil _) | (with_reducible refine Cels.cons ?_ ?_) | (with_reducible refine Own.mk ?_ ?_ ?_ ?_) | ((with_reducible refine Cel.new ?_ rfl); first | (with_reducible rfl) | omega | (simp; done) | (simp; omega)) | (with_reducible refine Cel.alloc ?_ _) | (with_reducible refine Cel.drew ?_) | (with_reducible refine Cel.setS ?_ _) | (with_reducible refine Has.set ?_ _ _) | (with_reducible exact Has.of (by assumption)) | (with_reducible refine Cel.setO ?_ ?_ _) | (with_reducible refine Cel.keep (by assumption) ?_) | (with_reducible refine Below.alloc ?_ ?_ _) | (with_reducible refine Below.drew ?_) | (with_reducible refine Below.setCell ?_ ?_ _) | (with_reducible refine below_keep ?_ ?_ (by assumption)) | omega | (simp; done) | (simp; omega))))
  have hB2 := O2.below; have hz2 := O2.size; have hl2 := O2.le; have S2_0 : Cel w2 (w.heap.size) 0 (.int .i64 s) := O2.cels.1; have S2_1 : Cel w2 (w.heap.size) 1 (.int .i64 st) := O2.cels.2.1; have S2_2 : Cel w2 (w.heap.size) 2 (.slice p n c) := O2.cels.2.2.1
  clear O1 S1_0 S1_1 S1_2
  clear hb2
  go_wp2_with fail
  refine (need_nd need _).mono ?_
  rintro e w' ⟨rfl, rfl⟩
  go_wp2_with fail
  refine (rTime_any f _).mono ?_
  rintro e w' ⟨rfl, rfl⟩
  go_wp2_with fail
  refine (rTime_any long _).mono ?_
  rintro e w' ⟨rfl, rfl⟩
  go_wp2_with fail
  refine (rvalid_any s st p n c lo hi _ (hL.keep (by (repeat' (first | (with_reducible assumption) | (with_reducible exact Below.refl _ _) | (with_reducible refine Below.alloc ?_ ?_ _) | (with_reducible refine Below.drew ?_) | (with_reducible refine Below.setCell ?_ ?_ _) | (with_reducible refine below_keep ?_ ?_ (by assumption)) | omega | (simp; done) | (simp; omega)))))).mono ?_
  rintro e w6 ⟨rfl, hb6⟩
  have hL := hL.keep (W := w2) (w1 := w6) (by (repeat' (first | (with_reducible assumption) | (with_reducible exact Below.refl _ _) | (with_reducible refine Below.alloc ?_ ?_ _) | (with_reducible refine Below.drew ?_) | (with_reducible refine Below.setCell ?_ ?_ _) | (with_reducible refine below_keep ?_ ?_ (by assumption)) | omega | (simp; done) | (simp; omega))))
  have hs6 := hb6.size; (try simp at hs6)
  have O6 : Own w (w.heap.size + 1) w6 [(w.heap.size, 0, .int .i64 s), (w.heap.size, 1, .int .i64 st), (w.heap.size, 2, .slice p n c)] := (by (repeat' (first | (with_reducible assumption) | (with_reducible exact Below.refl _ _) | (with_reducible exact Cels.nil _) | (with_reducible refine Cels.cons ?_ ?_) | (with_reducible refine Own.mk ?_ ?_ ?_ ?_) | ((with_reducible refine Cel.new ?_ rfl); first | (with_reducible rfl) | omega | (simp; done) | (simp; omega)) | (with_reducible refine Cel.alloc ?_ _) | (with_reducible refine Cel.drew ?_) | (with_reducible refine Cel.setS ?_ _) | (with_reducible refine Has.set ?_ _ _) | (with_reducible exact Has.of (by assumption)) | (with_reducible refine Cel.setO ?_ ?_ _) | (with_reducible refine Cel.keep (by assumption) ?_) | (with_reducible refine Below.alloc ?_ ?_ _) | (with_reducible refine Below.drew ?_) | (with_reducible refine Below.setCell ?_ ?_ _) | (with_reducible refine below_keep ?_ ?_ (by assumption)) | omega | (simp; done) | (simp; omega))))
  have hB6 := O6.below; have hz6 := O6.size; have hl6 := O6.le; have S6_0 : Cel w6 (w.heap.size) 0 (.int .i64 s) := O6.cels.1; have S6_1 : Cel w6 (w.heap.size) 1 (.int .i64 st) := O6.cels.2.1; have S6_2 : Cel w6 (w.heap.size) 2 (.slice p n c) := O6.cels.2.2.1
  clear O2 S2_0 S2_1 S2_2
  clear hb6
  go_wp2_with fail
  refine (next_any s st p n c lo hi need f long _ (hL.keep (by (repeat' (first | (with_reducible assumption) | (with_reducible exact Below.refl _ _) | (with_reducible refine Below.alloc ?_ ?_ _) | (with_reducible refine Below.drew ?_) | (with_reducible refine Below.setCell ?_ ?_ _) | (with_reducible refine below_keep ?_ ?_ (by assumption)) | omega | (simp; done) | (simp; omega)))))).mono ?_
  rintro e w7 ⟨rfl, hb7⟩
  have hL := hL.keep (W := w6) (w1 := w7) (by (repeat' (first | (with_reducible assumption) | (with_reducible exact Below.refl _ _) | (with_reducible refine Below.alloc ?_ ?_ _) | (with_reducible refine Below.drew ?_) | (with_reducible refine Below.setCell ?_ ?_ _) | (with_reducible refine below_keep ?_ ?_ (by assumption)) | omega | (simp; done) | (simp; omega))))
  have hs7 := hb7.size; (try simp at hs7)
  have O7 : Own w (w.heap.size + 1) w7 [(w.heap.size, 0, .int .i64 s), (w.heap.size, 1, .int .i64 st), (w.heap.size, 2, .slice p n c)] := (by (repeat' (first | (with_reducible assumption) | (with_reducible exact Below.refl _ _) | (with_reducible exact Cels.nil _) | (with_reducible refine Cels.cons ?_ ?_) | (with_reducible refine Own.mk ?_ ?_ ?_ ?_) | ((with_reducible refine Cel.new ?_ rfl); first | (with_reducible rfl) | omega | (simp; done) | (simp; omega)) | (with_reducible refine Cel.alloc ?_ _) | (with_reducible refine Cel.drew ?_) | (with_reducible refine Cel.setS ?_ _) | (with_reducible refine Has.set ?_ _ _) | (with_reducible exact Has.of (by assumption)) | (with_reducible refine Cel.setO ?_ ?_ _) | (with_reducible refine Cel.keep (by assumption) ?_) | (with_reducible refine Below.alloc ?_ ?_ _) | (with_reducible refine Below.drew ?_) | (with_reducible refine Below.setCell ?_ ?_ _) | (with_reducible refine below_keep ?_ ?_ (by assumption)) | omega | (simp; done) | (simp; omega))))
  have hB7 := O7.below; have hz7 := O7.size; have hl7 := O7.le; have S7_0 : Cel w7 (w.heap.size) 0 (.int .i64 s) := O7.cels.1; have S7_1 : Cel w7 (w.heap.size) 1 (.int .i64 st) := O7.cels.2.1; have S7_2 : Cel w7 (w.heap.size) 2 (.slice p n c) := O7.cels.2.2.1
  clear O6 S6_0 S6_1 S6_2
  clear hb7
  go_wp2_with fail
  refine (height_any s st p n c lo hi (NV s st n lo hi need f long) (NV s st n lo hi need f long + long) _ (hL.keep (by (repeat' (first | (with_reducible assumption) | (with_reducible exact Below.refl _ _) | (with_reducible refine Below.alloc ?_ ?_ _) | (with_reducible refine Below.drew ?_) | (with_reducible refine Below.setCell ?_ ?_ _) | (with_reducible refine below_keep ?_ ?_ (by assumption)) | omega | (simp; done) | (simp; omega)))))).mono ?_
  rintro e w8 ⟨rfl, hb8⟩
  have hL := hL.keep (W := w7) (w1 := w8) (by (repeat' (first | (with_reducible assumption) | (with_reducible exact Below.refl _ _) | (with_reducible refine Below.alloc ?_ ?_ _) | (with_reducible refine Below.drew ?_) | (with_reducible refine Below.setCell ?_ ?_ _) | (with_reducible refine below_keep ?_ ?_ (by assumption)) | omega | (simp; done) | (simp; omega))))
  have hs8 := hb8.size; (try simp at hs8)
  have O8 : Own w (w.heap.size + 1) w8 [(w.heap.size, 0, .int .i64 s), (w.heap.size, 1, .int .i64 st), (w.heap.size, 2, .slice p n c)] := (by (repeat' (first | (with_reducible assumption) | (with_reducible exact Below.refl _ _) | (with_reducible exact Cels.nil _) | (with_reducible refine Cels.cons ?_ ?_) | (with_reducible refine Own.mk ?_ ?_ ?_ ?_) | ((with_reducible refine Cel.new ?_ rfl); first | (with_reducible rfl) | omega | (simp; done) | (simp; omega)) | (with_reducible refine Cel.alloc ?_ _) | (with_reducible refine Cel.drew ?_) | (with_reducible refine Cel.setS ?_ _) | (with_reducible refine Has.set ?_ _ _) | (with_reducible exact Has.of (by assumption)) | (with_reducible refine Cel.setO ?_ ?_ _) | (with_reducible refine Cel.keep (by assumption) ?_) | (with_reducible refine Below.alloc ?_ ?_ _) | (with_reducible refine Below.drew ?_) | (with_reducible refine Below.setCell ?_ ?_ _) | (with_reducible refine below_keep ?_ ?_ (by assumption)) | omega | (simp; done) | (simp; omega))))
  have hB8 := O8.below; have hz8 := O8.size; have hl8 := O8.le; have S8_0 : Cel w8 (w.heap.size) 0 (.int .i64 s) := O8.cels.1; have S8_1 : Cel w8 (w.heap.size) 1 (.int .i64 st) := O8.cels.2.1; have S8_2 : Cel w8 (w.heap.size) 2 (.slice p n c) := O8.cels.2.2.1
  clear O7 S7_0 S7_1 S7_2
  clear hb8
  go_wp2_with fail
  refine (height_any s st p n c lo hi other (other + long) _ (hL.keep (by (repeat' (first | (with_reducible assumption) | (with_reducible exact Below.refl _ _) | (with_reducible refine Below.alloc ?_ ?_ _) | (with_reducible refine Below.drew ?_) | (with_reducible refine Below.setCell ?_ ?_ _) | (with_reducible refine below_keep ?_ ?_ (by assumption)) | omega | (simp; done) | (simp; omega)))))).mono ?_
  rintro e w9 ⟨rfl, hb9⟩
  have hs9 := hb9.size; (try simp at hs9)
  have O9 : Own w (w8.heap.size + 1) w9 [] := (by (repeat' (first | (with_reducible assumption) | (with_reducible exact Below.refl _ _) | (with_reducible exact Cels.nil _) | (with_reducible refine Cels.cons ?_ ?_) | (with_reducible refine Own.mk ?_ ?_ ?_ ?_) | ((with_reducible refine Cel.new ?_ rfl); first | (with_reducible rfl) | omega | (simp; done) | (simp; omega)) | (with_reducible refine Cel.alloc ?_ _) | (with_reducible refine Cel.drew ?_) | (with_reducible refine Cel.setS ?_ _) | (with_reducible refine Has.set ?_ _ _) | (with_reducible exact Has.of (by assumption)) | (with_reducible refine Cel.setO ?_ ?_ _) | (with_reducible refine Cel.keep (by assumption) ?_) | (with_reducible refine Below.alloc ?_ ?_ _) | (with_reducible refine Below.drew ?_) | (with_reducible refine Below.setCell ?_ ?_ _) | (with_reducible refine below_keep ?_ ?_ (by assumption)) | omega | (simp; done) | (simp; omega))))
  have hB9 := O9.below; have hz9 := O9.size; have hl9 := O9.le
  clear O8 S8_0 S8_1 S8_2
  clear hb9
  go_wp2
  all_goals
    go_ret
    exact ⟨rb (by first | rfl | (simp; done) | (simp; omega)), by (repeat' (first | (with_reducible assumption) | (with_reducible exact Below.refl _ _) | (with_reducible exact Cels.nil _) | (with_reducible refine Cels.cons ?_ ?_) | (with_reducible refine Own.mk ?_ ?_ ?_ ?_) | ((with_reducible refine Cel.new ?_ rfl); first | (with_reducible rfl) | omega | (simp; done) | (simp; omega)) | (with_reducible refine Cel.alloc ?_ _) | (with_reducible refine Cel.drew ?_) | (with_reducible refine Cel.setS ?_ _) | (with_reducible refine Has.set ?_ _ _) | (with_reducible exact Has.of (by assumption)) | (with_reducible refine Cel.setO ?_ ?_ _) | (with_reducible refine Cel.keep (by assumption) ?_) | (with_reducible refine Below.alloc ?_ ?_ _) | (with_reducible refine Below.drew ?_) | (with_reducible refine Below.setCell ?_ ?_ _) | (with_reducible refine below_keep ?_ ?_ (by assumption)) | omega | (simp; done) | (simp; omega)))⟩

set_option maxRecDepth 100000 in
set_option maxHeartbeats 16000000 in
theorem law5_n0 (s st : Int) (p : Option Addr) (n c : Nat) (lo hi : Nat → Int) (need f long other : Int) (w : World) (hL : Lie w p n lo hi) (k0 : (decide (n ≤ 12 ∧ st ≤ 60)) = true) (k1 : (nd need) = true) (k2 : (tm f) = true) (k3 : (tm long) = true) (k4 : (tval s st n lo hi) = true) (e0 : NE s st n lo hi need f long = 4) (r1 : other < f) : Calls Try.prog 5 #[tv s st p n c, .int .i64 need, .int .i64 f, .int .i64 long, .int .i64 other] w fun e w' => e = .returned (.bool true) ∧ Below w.heap.size w w' := by
  obtain ⟨f0, f1⟩ := tm_bd k2
  obtain ⟨g0, g1⟩ := tm_bd k3
  go_enter Try.func5, Try.ntmps5
  go_wp2_with fail
  refine (head_any _).mono ?_
  rintro e w1 ⟨rfl, hb1⟩
  have hL := hL.keep (W := w) (w1 := w1) (by (repeat' (first | (with_reducible assumption) | (with_reducible exact Below.refl _ _) | (with_reducible refine Below.alloc ?_ ?_ _) | (with_reducible refine Below.drew ?_) | (with_reducible refine Below.setCell ?_ ?_ _) | (with_reducible refine below_keep ?_ ?_ (by assumption)) | omega | (simp; done) | (simp; omega))))
  have hs1 := hb1.size; (try simp at hs1)
  have O1 : Own w (w.heap.size + 1) w1 [(w.heap.size, 0, .int .i64 s), (w.heap.size, 1, .int .i64 st), (w.heap.size, 2, .slice p n c)] := (by (repeat' (first | (with_reducible assumption) | (with_reducible exact Below.refl _ _) | (with_reducible exact Cels.nil _) | (with_reducible refine Cels.cons ?_ ?_) | (with_reducible refine Own.mk ?_ ?_ ?_ ?_) | ((with_reducible refine Cel.new ?_ rfl); first | (with_reducible rfl) | omega | (simp; done) | (simp; omega)) | (with_reducible refine Cel.alloc ?_ _) | (with_reducible refine Cel.drew ?_) | (with_reducible refine Cel.setS ?_ _) | (with_reducible refine Has.set ?_ _ _) | (with_reducible exact Has.of (by assumption)) | (with_reducible refine Cel.setO ?_ ?_ _) | (with_reducible refine Cel.keep (by assumption) ?_) | (with_reducible refine Below.alloc ?_ ?_ _) | (with_reducible refine Below.drew ?_) | (with_reducible refine Below.setCell ?_ ?_ _) | (with_reducible refine below_keep ?_ ?_ (by assumption)) | omega | (simp; done) | (simp; omega))))
  have hB1 := O1.below; have hz1 := O1.size; have hl1 := O1.le; have S1_0 : Cel w1 (w.heap.size) 0 (.int .i64 s) := O1.cels.1; have S1_1 : Cel w1 (w.heap.size) 1 (.int .i64 st) := O1.cels.2.1; have S1_2 : Cel w1 (w.heap.size) 2 (.slice p n c) := O1.cels.2.2.1
  clear hb1
  go_wp2_with fail
  refine (few_any s st p n c _).mono ?_
  rintro e w2 ⟨rfl, hb2⟩
  have hL := hL.keep (W := w1) (w1 := w2) (by (repeat' (first | (with_reducible assumption) | (with_reducible exact Below.refl _ _) | (with_reducible refine Below.alloc ?_ ?_ _) | (with_reducible refine Below.drew ?_) | (with_reducible refine Below.setCell ?_ ?_ _) | (with_reducible refine below_keep ?_ ?_ (by assumption)) | omega | (simp; done) | (simp; omega))))
  have hs2 := hb2.size; (try simp at hs2)
  have O2 : Own w (w.heap.size + 1) w2 [(w.heap.size, 0, .int .i64 s), (w.heap.size, 1, .int .i64 st), (w.heap.size, 2, .slice p n c)] := (by (repeat' (first | (with_reducible assumption) | (with_reducible exact Below.refl _ _) | (with_reducible exact Cels.nil _) | (with_reducible refine Cels.cons ?_ ?_) | (with_reducible refine Own.mk ?_ ?_ ?_ ?_) | ((with_reducible refine Cel.new ?_ rfl); first | (with_reducible rfl) | omega | (simp; done) | (simp; omega)) | (with_reducible refine Cel.alloc ?_ _) | (with_reducible refine Cel.drew ?_) | (with_reducible refine Cel.setS ?_ _) | (with_reducible refine Has.set ?_ _ _) | (with_reducible exact Has.of (by assumption)) | (with_reducible refine Cel.setO ?_ ?_ _) | (with_reducible refine Cel.keep (by assumption) ?_) | (with_reducible refine Below.alloc ?_ ?_ _) | (with_reducible refine Below.drew ?_) | (with_reducible refine Below.setCell ?_ ?_ _) | (with_reducible refine below_keep ?_ ?_ (by assumption)) | omega | (simp; done) | (simp; omega))))
  have hB2 := O2.below; have hz2 := O2.size; have hl2 := O2.le; have S2_0 : Cel w2 (w.heap.size) 0 (.int .i64 s) := O2.cels.1; have S2_1 : Cel w2 (w.heap.size) 1 (.int .i64 st) := O2.cels.2.1; have S2_2 : Cel w2 (w.heap.size) 2 (.slice p n c) := O2.cels.2.2.1
  clear O1 S1_0 S1_1 S1_2
  clear hb2
  go_wp2_with fail
  refine (need_nd need _).mono ?_
  rintro e w' ⟨rfl, rfl⟩
  go_wp2_with fail
  refine (rTime_any f _).mono ?_
  rintro e w' ⟨rfl, rfl⟩
  go_wp2_with fail
  refine (rTime_any long _).mono ?_
  rintro e w' ⟨rfl, rfl⟩
  go_wp2_with fail
  refine (rvalid_any s st p n c lo hi _ (hL.keep (by (repeat' (first | (with_reducible assumption) | (with_reducible exact Below.refl _ _) | (with_reducible refine Below.alloc ?_ ?_ _) | (with_reducible refine Below.drew ?_) | (with_reducible refine Below.setCell ?_ ?_ _) | (with_reducible refine below_keep ?_ ?_ (by assumption)) | omega | (simp; done) | (simp; omega)))))).mono ?_
  rintro e w6 ⟨rfl, hb6⟩
  have hL := hL.keep (W := w2) (w1 := w6) (by (repeat' (first | (with_reducible assumption) | (with_reducible exact Below.refl _ _) | (with_reducible refine Below.alloc ?_ ?_ _) | (with_reducible refine Below.drew ?_) | (with_reducible refine Below.setCell ?_ ?_ _) | (with_reducible refine below_keep ?_ ?_ (by assumption)) | omega | (simp; done) | (simp; omega))))
  have hs6 := hb6.size; (try simp at hs6)
  have O6 : Own w (w.heap.size + 1) w6 [(w.heap.size, 0, .int .i64 s), (w.heap.size, 1, .int .i64 st), (w.heap.size, 2, .slice p n c)] := (by (repeat' (first | (with_reducible assumption) | (with_reducible exact Below.refl _ _) | (with_reducible exact Cels.nil _) | (with_reducible refine Cels.cons ?_ ?_) | (with_reducible refine Own.mk ?_ ?_ ?_ ?_) | ((with_reducible refine Cel.new ?_ rfl); first | (with_reducible rfl) | omega | (simp; done) | (simp; omega)) | (with_reducible refine Cel.alloc ?_ _) | (with_reducible refine Cel.drew ?_) | (with_reducible refine Cel.setS ?_ _) | (with_reducible refine Has.set ?_ _ _) | (with_reducible exact Has.of (by assumption)) | (with_reducible refine Cel.setO ?_ ?_ _) | (with_reducible refine Cel.keep (by assumption) ?_) | (with_reducible refine Below.alloc ?_ ?_ _) | (with_reducible refine Below.drew ?_) | (with_reducible refine Below.setCell ?_ ?_ _) | (with_reducible refine below_keep ?_ ?_ (by assumption)) | omega | (simp; done) | (simp; omega))))
  have hB6 := O6.below; have hz6 := O6.size; have hl6 := O6.le; have S6_0 : Cel w6 (w.heap.size) 0 (.int .i64 s) := O6.cels.1; have S6_1 : Cel w6 (w.heap.size) 1 (.int .i64 st) := O6.cels.2.1; have S6_2 : Cel w6 (w.heap.size) 2 (.slice p n c) := O6.cels.2.2.1
  clear O2 S2_0 S2_1 S2_2
  clear hb6
  go_wp2_with fail
  refine (next_any s st p n c lo hi need f long _ (hL.keep (by (repeat' (first | (with_reducible assumption) | (with_reducible exact Below.refl _ _) | (with_reducible refine Below.alloc ?_ ?_ _) | (with_reducible refine Below.drew ?_) | (with_reducible refine Below.setCell ?_ ?_ _) | (with_reducible refine below_keep ?_ ?_ (by assumption)) | omega | (simp; done) | (simp; omega)))))).mono ?_
  rintro e w7 ⟨rfl, hb7⟩
  have hs7 := hb7.size; (try simp at hs7)
  have O7 : Own w (w.heap.size + 1) w7 [] := (by (repeat' (first | (with_reducible assumption) | (with_reducible exact Below.refl _ _) | (with_reducible exact Cels.nil _) | (with_reducible refine Cels.cons ?_ ?_) | (with_reducible refine Own.mk ?_ ?_ ?_ ?_) | ((with_reducible refine Cel.new ?_ rfl); first | (with_reducible rfl) | omega | (simp; done) | (simp; omega)) | (with_reducible refine Cel.alloc ?_ _) | (with_reducible refine Cel.drew ?_) | (with_reducible refine Cel.setS ?_ _) | (with_reducible refine Has.set ?_ _ _) | (with_reducible exact Has.of (by assumption)) | (with_reducible refine Cel.setO ?_ ?_ _) | (with_reducible refine Cel.keep (by assumption) ?_) | (with_reducible refine Below.alloc ?_ ?_ _) | (with_reducible refine Below.drew ?_) | (with_reducible refine Below.setCell ?_ ?_ _) | (with_reducible refine below_keep ?_ ?_ (by assumption)) | omega | (simp; done) | (simp; omega))))
  have hB7 := O7.below; have hz7 := O7.size; have hl7 := O7.le
  clear O6 S6_0 S6_1 S6_2
  clear hb7
  go_wp2
  all_goals
    go_ret
    exact ⟨rb (by first | rfl | (simp; done) | (simp; omega)), by (repeat' (first | (with_reducible assumption) | (with_reducible exact Below.refl _ _) | (with_reducible exact Cels.nil _) | (with_reducible refine Cels.cons ?_ ?_) | (with_reducible refine Own.mk ?_ ?_ ?_ ?_) | ((with_reducible refine Cel.new ?_ rfl); first | (with_reducible rfl) | omega | (simp; done) | (simp; omega)) | (with_reducible refine Cel.alloc ?_ _) | (with_reducible refine Cel.drew ?_) | (with_reducible refine Cel.setS ?_ _) | (with_reducible refine Has.set ?_ _ _) | (with_reducible exact Has.of (by assumption)) | (with_reducible refine Cel.setO ?_ ?_ _) | (with_reducible refine Cel.keep (by assumption) ?_) | (with_reducible refine Below.alloc ?_ ?_ _) | (with_reducible refine Below.drew ?_) | (with_reducible refine Below.setCell ?_ ?_ _) | (with_reducible refine below_keep ?_ ?_ (by assumption)) | omega | (simp; done) | (simp; omega)))⟩

set_option maxRecDepth 100000 in
set_option maxHeartbeats 16000000 in
theorem law5_n1 (s st : Int) (p : Option Addr) (n c : Nat) (lo hi : Nat → Int) (need f long other : Int) (w : World) (hL : Lie w p n lo hi) (k0 : (decide (n ≤ 12 ∧ st ≤ 60)) = true) (k1 : (nd need) = true) (k2 : (tm f) = true) (k3 : (tm long) = true) (k4 : (tval s st n lo hi) = true) (e0 : NE s st n lo hi need f long = 4) (r1 : ¬ other < f) (r2 : 10000000 - long < other) : Calls Try.prog 5 #[tv s st p n c, .int .i64 need, .int .i64 f, .int .i64 long, .int .i64 other] w fun e w' => e = .returned (.bool true) ∧ Below w.heap.size w w' := by
  obtain ⟨f0, f1⟩ := tm_bd k2
  obtain ⟨g0, g1⟩ := tm_bd k3
  go_enter Try.func5, Try.ntmps5
  go_wp2_with fail
  refine (head_any _).mono ?_
  rintro e w1 ⟨rfl, hb1⟩
  have hL := hL.keep (W := w) (w1 := w1) (by (repeat' (first | (with_reducible assumption) | (with_reducible exact Below.refl _ _) | (with_reducible refine Below.alloc ?_ ?_ _) | (with_reducible refine Below.drew ?_) | (with_reducible refine Below.setCell ?_ ?_ _) | (with_reducible refine below_keep ?_ ?_ (by assumption)) | omega | (simp; done) | (simp; omega))))
  have hs1 := hb1.size; (try simp at hs1)
  have O1 : Own w (w.heap.size + 1) w1 [(w.heap.size, 0, .int .i64 s), (w.heap.size, 1, .int .i64 st), (w.heap.size, 2, .slice p n c)] := (by (repeat' (first | (with_reducible assumption) | (with_reducible exact Below.refl _ _) | (with_reducible exact Cels.nil _) | (with_reducible refine Cels.cons ?_ ?_) | (with_reducible refine Own.mk ?_ ?_ ?_ ?_) | ((with_reducible refine Cel.new ?_ rfl); first | (with_reducible rfl) | omega | (simp; done) | (simp; omega)) | (with_reducible refine Cel.alloc ?_ _) | (with_reducible refine Cel.drew ?_) | (with_reducible refine Cel.setS ?_ _) | (with_reducible refine Has.set ?_ _ _) | (with_reducible exact Has.of (by assumption)) | (with_reducible refine Cel.setO ?_ ?_ _) | (with_reducible refine Cel.keep (by assumption) ?_) | (with_reducible refine Below.alloc ?_ ?_ _) | (with_reducible refine Below.drew ?_) | (with_reducible refine Below.setCell ?_ ?_ _) | (with_reducible refine below_keep ?_ ?_ (by assumption)) | omega | (simp; done) | (simp; omega))))
  have hB1 := O1.below; have hz1 := O1.size; have hl1 := O1.le; have S1_0 : Cel w1 (w.heap.size) 0 (.int .i64 s) := O1.cels.1; have S1_1 : Cel w1 (w.heap.size) 1 (.int .i64 st) := O1.cels.2.1; have S1_2 : Cel w1 (w.heap.size) 2 (.slice p n c) := O1.cels.2.2.1
  clear hb1
  go_wp2_with fail
  refine (few_any s st p n c _).mono ?_
  rintro e w2 ⟨rfl, hb2⟩
  have hL := hL.keep (W := w1) (w1 := w2) (by (repeat' (first | (with_reducible assumption) | (with_reducible exact Below.refl _ _) | (with_reducible refine Below.alloc ?_ ?_ _) | (with_reducible refine Below.drew ?_) | (with_reducible refine Below.setCell ?_ ?_ _) | (with_reducible refine below_keep ?_ ?_ (by assumption)) | omega | (simp; done) | (simp; omega))))
  have hs2 := hb2.size; (try simp at hs2)
  have O2 : Own w (w.heap.size + 1) w2 [(w.heap.size, 0, .int .i64 s), (w.heap.size, 1, .int .i64 st), (w.heap.size, 2, .slice p n c)] := (by (repeat' (first | (with_reducible assumption) | (with_reducible exact Below.refl _ _) | (with_reducible exact Cels.nil _) | (with_reducible refine Cels.cons ?_ ?_) | (with_reducible refine Own.mk ?_ ?_ ?_ ?_) | ((with_reducible refine Cel.new ?_ rfl); first | (with_reducible rfl) | omega | (simp; done) | (simp; omega)) | (with_reducible refine Cel.alloc ?_ _) | (with_reducible refine Cel.drew ?_) | (with_reducible refine Cel.setS ?_ _) | (with_reducible refine Has.set ?_ _ _) | (with_reducible exact Has.of (by assumption)) | (with_reducible refine Cel.setO ?_ ?_ _) | (with_reducible refine Cel.keep (by assumption) ?_) | (with_reducible refine Below.alloc ?_ ?_ _) | (with_reducible refine Below.drew ?_) | (with_reducible refine Below.setCell ?_ ?_ _) | (with_reducible refine below_keep ?_ ?_ (by assumption)) | omega | (simp; done) | (simp; omega))))
  have hB2 := O2.below; have hz2 := O2.size; have hl2 := O2.le; have S2_0 : Cel w2 (w.heap.size) 0 (.int .i64 s) := O2.cels.1; have S2_1 : Cel w2 (w.heap.size) 1 (.int .i64 st) := O2.cels.2.1; have S2_2 : Cel w2 (w.heap.size) 2 (.slice p n c) := O2.cels.2.2.1
  clear O1 S1_0 S1_1 S1_2
  clear hb2
  go_wp2_with fail
  refine (need_nd need _).mono ?_
  rintro e w' ⟨rfl, rfl⟩
  go_wp2_with fail
  refine (rTime_any f _).mono ?_
  rintro e w' ⟨rfl, rfl⟩
  go_wp2_with fail
  refine (rTime_any long _).mono ?_
  rintro e w' ⟨rfl, rfl⟩
  go_wp2_with fail
  refine (rvalid_any s st p n c lo hi _ (hL.keep (by (repeat' (first | (with_reducible assumption) | (with_reducible exact Below.refl _ _) | (with_reducible refine Below.alloc ?_ ?_ _) | (with_reducible refine Below.drew ?_) | (with_reducible refine Below.setCell ?_ ?_ _) | (with_reducible refine below_keep ?_ ?_ (by assumption)) | omega | (simp; done) | (simp; omega)))))).mono ?_
  rintro e w6 ⟨rfl, hb6⟩
  have hL := hL.keep (W := w2) (w1 := w6) (by (repeat' (first | (with_reducible assumption) | (with_reducible exact Below.refl _ _) | (with_reducible refine Below.alloc ?_ ?_ _) | (with_reducible refine Below.drew ?_) | (with_reducible refine Below.setCell ?_ ?_ _) | (with_reducible refine below_keep ?_ ?_ (by assumption)) | omega | (simp; done) | (simp; omega))))
  have hs6 := hb6.size; (try simp at hs6)
  have O6 : Own w (w.heap.size + 1) w6 [(w.heap.size, 0, .int .i64 s), (w.heap.size, 1, .int .i64 st), (w.heap.size, 2, .slice p n c)] := (by (repeat' (first | (with_reducible assumption) | (with_reducible exact Below.refl _ _) | (with_reducible exact Cels.nil _) | (with_reducible refine Cels.cons ?_ ?_) | (with_reducible refine Own.mk ?_ ?_ ?_ ?_) | ((with_reducible refine Cel.new ?_ rfl); first | (with_reducible rfl) | omega | (simp; done) | (simp; omega)) | (with_reducible refine Cel.alloc ?_ _) | (with_reducible refine Cel.drew ?_) | (with_reducible refine Cel.setS ?_ _) | (with_reducible refine Has.set ?_ _ _) | (with_reducible exact Has.of (by assumption)) | (with_reducible refine Cel.setO ?_ ?_ _) | (with_reducible refine Cel.keep (by assumption) ?_) | (with_reducible refine Below.alloc ?_ ?_ _) | (with_reducible refine Below.drew ?_) | (with_reducible refine Below.setCell ?_ ?_ _) | (with_reducible refine below_keep ?_ ?_ (by assumption)) | omega | (simp; done) | (simp; omega))))
  have hB6 := O6.below; have hz6 := O6.size; have hl6 := O6.le; have S6_0 : Cel w6 (w.heap.size) 0 (.int .i64 s) := O6.cels.1; have S6_1 : Cel w6 (w.heap.size) 1 (.int .i64 st) := O6.cels.2.1; have S6_2 : Cel w6 (w.heap.size) 2 (.slice p n c) := O6.cels.2.2.1
  clear O2 S2_0 S2_1 S2_2
  clear hb6
  go_wp2_with fail
  refine (next_any s st p n c lo hi need f long _ (hL.keep (by (repeat' (first | (with_reducible assumption) | (with_reducible exact Below.refl _ _) | (with_reducible refine Below.alloc ?_ ?_ _) | (with_reducible refine Below.drew ?_) | (with_reducible refine Below.setCell ?_ ?_ _) | (with_reducible refine below_keep ?_ ?_ (by assumption)) | omega | (simp; done) | (simp; omega)))))).mono ?_
  rintro e w7 ⟨rfl, hb7⟩
  have hs7 := hb7.size; (try simp at hs7)
  have O7 : Own w (w.heap.size + 1) w7 [] := (by (repeat' (first | (with_reducible assumption) | (with_reducible exact Below.refl _ _) | (with_reducible exact Cels.nil _) | (with_reducible refine Cels.cons ?_ ?_) | (with_reducible refine Own.mk ?_ ?_ ?_ ?_) | ((with_reducible refine Cel.new ?_ rfl); first | (with_reducible rfl) | omega | (simp; done) | (simp; omega)) | (with_reducible refine Cel.alloc ?_ _) | (with_reducible refine Cel.drew ?_) | (with_reducible refine Cel.setS ?_ _) | (with_reducible refine Has.set ?_ _ _) | (with_reducible exact Has.of (by assumption)) | (with_reducible refine Cel.setO ?_ ?_ _) | (with_reducible refine Cel.keep (by assumption) ?_) | (with_reducible refine Below.alloc ?_ ?_ _) | (with_reducible refine Below.drew ?_) | (with_reducible refine Below.setCell ?_ ?_ _) | (with_reducible refine below_keep ?_ ?_ (by assumption)) | omega | (simp; done) | (simp; omega))))
  have hB7 := O7.below; have hz7 := O7.size; have hl7 := O7.le
  clear O6 S6_0 S6_1 S6_2
  clear hb7
  go_wp2
  all_goals
    go_ret
    exact ⟨rb (by first | rfl | (simp; done) | (simp; omega)), by (repeat' (first | (with_reducible assumption) | (with_reducible exact Below.refl _ _) | (with_reducible exact Cels.nil _) | (with_reducible refine Cels.cons ?_ ?_) | (with_reducible refine Own.mk ?_ ?_ ?_ ?_) | ((with_reducible refine Cel.new ?_ rfl); first | (with_reducible rfl) | omega | (simp; done) | (simp; omega)) | (with_reducible refine Cel.alloc ?_ _) | (with_reducible refine Cel.drew ?_) | (with_reducible refine Cel.setS ?_ _) | (with_reducible refine Has.set ?_ _ _) | (with_reducible exact Has.of (by assumption)) | (with_reducible refine Cel.setO ?_ ?_ _) | (with_reducible refine Cel.keep (by assumption) ?_) | (with_reducible refine Below.alloc ?_ ?_ _) | (with_reducible refine Below.drew ?_) | (with_reducible refine Below.setCell ?_ ?_ _) | (with_reducible refine below_keep ?_ ?_ (by assumption)) | omega | (simp; done) | (simp; omega)))⟩

set_option maxRecDepth 100000 in
set_option maxHeartbeats 16000000 in
theorem law5_n3 (s st : Int) (p : Option Addr) (n c : Nat) (lo hi : Nat → Int) (need f long other : Int) (w : World) (hL : Lie w p n lo hi) (k0 : (decide (n ≤ 12 ∧ st ≤ 60)) = true) (k1 : (nd need) = true) (k2 : (tm f) = true) (k3 : (tm long) = true) (k4 : (tval s st n lo hi) = true) (e0 : NE s st n lo hi need f long = 4) (r1 : ¬ other < f) (r2 : ¬ 10000000 - long < other) (r4 : (HE s st n lo hi other (other + long) != 0) = true) : Calls Try.prog 5 #[tv s st p n c, .int .i64 need, .int .i64 f, .int .i64 long, .int .i64 other] w fun e w' => e = .returned (.bool true) ∧ Below w.heap.size w w' := by
  obtain ⟨f0, f1⟩ := tm_bd k2
  obtain ⟨g0, g1⟩ := tm_bd k3
  go_enter Try.func5, Try.ntmps5
  go_wp2_with fail
  refine (head_any _).mono ?_
  rintro e w1 ⟨rfl, hb1⟩
  have hL := hL.keep (W := w) (w1 := w1) (by (repeat' (first | (with_reducible assumption) | (with_reducible exact Below.refl _ _) | (with_reducible refine Below.alloc ?_ ?_ _) | (with_reducible refine Below.drew ?_) | (with_reducible refine Below.setCell ?_ ?_ _) | (with_reducible refine below_keep ?_ ?_ (by assumption)) | omega | (simp; done) | (simp; omega))))
  have hs1 := hb1.size; (try simp at hs1)
  have O1 : Own w (w.heap.size + 1) w1 [(w.heap.size, 0, .int .i64 s), (w.heap.size, 1, .int .i64 st), (w.heap.size, 2, .slice p n c)] := (by (repeat' (first | (with_reducible assumption) | (with_reducible exact Below.refl _ _) | (with_reducible exact Cels.nil _) | (with_reducible refine Cels.cons ?_ ?_) | (with_reducible refine Own.mk ?_ ?_ ?_ ?_) | ((with_reducible refine Cel.new ?_ rfl); first | (with_reducible rfl) | omega | (simp; done) | (simp; omega)) | (with_reducible refine Cel.alloc ?_ _) | (with_reducible refine Cel.drew ?_) | (with_reducible refine Cel.setS ?_ _) | (with_reducible refine Has.set ?_ _ _) | (with_reducible exact Has.of (by assumption)) | (with_reducible refine Cel.setO ?_ ?_ _) | (with_reducible refine Cel.keep (by assumption) ?_) | (with_reducible refine Below.alloc ?_ ?_ _) | (with_reducible refine Below.drew ?_) | (with_reducible refine Below.setCell ?_ ?_ _) | (with_reducible refine below_keep ?_ ?_ (by assumption)) | omega | (simp; done) | (simp; omega))))
  have hB1 := O1.below; have hz1 := O1.size; have hl1 := O1.le; have S1_0 : Cel w1 (w.heap.size) 0 (.int .i64 s) := O1.cels.1; have S1_1 : Cel w1 (w.heap.size) 1 (.int .i64 st) := O1.cels.2.1; have S1_2 : Cel w1 (w.heap.size) 2 (.slice p n c) := O1.cels.2.2.1
  clear hb1
  go_wp2_with fail
  refine (few_any s st p n c _).mono ?_
  rintro e w2 ⟨rfl, hb2⟩
  have hL := hL.keep (W := w1) (w1 := w2) (by (repeat' (first | (with_reducible assumption) | (with_reducible exact Below.refl _ _) | (with_reducible refine Below.alloc ?_ ?_ _) | (with_reducible refine Below.drew ?_) | (with_reducible refine Below.setCell ?_ ?_ _) | (with_reducible refine below_keep ?_ ?_ (by assumption)) | omega | (simp; done) | (simp; omega))))
  have hs2 := hb2.size; (try simp at hs2)
  have O2 : Own w (w.heap.size + 1) w2 [(w.heap.size, 0, .int .i64 s), (w.heap.size, 1, .int .i64 st), (w.heap.size, 2, .slice p n c)] := (by (repeat' (first | (with_reducible assumption) | (with_reducible exact Below.refl _ _) | (with_reducible exact Cels.nil _) | (with_reducible refine Cels.cons ?_ ?_) | (with_reducible refine Own.mk ?_ ?_ ?_ ?_) | ((with_reducible refine Cel.new ?_ rfl); first | (with_reducible rfl) | omega | (simp; done) | (simp; omega)) | (with_reducible refine Cel.alloc ?_ _) | (with_reducible refine Cel.drew ?_) | (with_reducible refine Cel.setS ?_ _) | (with_reducible refine Has.set ?_ _ _) | (with_reducible exact Has.of (by assumption)) | (with_reducible refine Cel.setO ?_ ?_ _) | (with_reducible refine Cel.keep (by assumption) ?_) | (with_reducible refine Below.alloc ?_ ?_ _) | (with_reducible refine Below.drew ?_) | (with_reducible refine Below.setCell ?_ ?_ _) | (with_reducible refine below_keep ?_ ?_ (by assumption)) | omega | (simp; done) | (simp; omega))))
  have hB2 := O2.below; have hz2 := O2.size; have hl2 := O2.le; have S2_0 : Cel w2 (w.heap.size) 0 (.int .i64 s) := O2.cels.1; have S2_1 : Cel w2 (w.heap.size) 1 (.int .i64 st) := O2.cels.2.1; have S2_2 : Cel w2 (w.heap.size) 2 (.slice p n c) := O2.cels.2.2.1
  clear O1 S1_0 S1_1 S1_2
  clear hb2
  go_wp2_with fail
  refine (need_nd need _).mono ?_
  rintro e w' ⟨rfl, rfl⟩
  go_wp2_with fail
  refine (rTime_any f _).mono ?_
  rintro e w' ⟨rfl, rfl⟩
  go_wp2_with fail
  refine (rTime_any long _).mono ?_
  rintro e w' ⟨rfl, rfl⟩
  go_wp2_with fail
  refine (rvalid_any s st p n c lo hi _ (hL.keep (by (repeat' (first | (with_reducible assumption) | (with_reducible exact Below.refl _ _) | (with_reducible refine Below.alloc ?_ ?_ _) | (with_reducible refine Below.drew ?_) | (with_reducible refine Below.setCell ?_ ?_ _) | (with_reducible refine below_keep ?_ ?_ (by assumption)) | omega | (simp; done) | (simp; omega)))))).mono ?_
  rintro e w6 ⟨rfl, hb6⟩
  have hL := hL.keep (W := w2) (w1 := w6) (by (repeat' (first | (with_reducible assumption) | (with_reducible exact Below.refl _ _) | (with_reducible refine Below.alloc ?_ ?_ _) | (with_reducible refine Below.drew ?_) | (with_reducible refine Below.setCell ?_ ?_ _) | (with_reducible refine below_keep ?_ ?_ (by assumption)) | omega | (simp; done) | (simp; omega))))
  have hs6 := hb6.size; (try simp at hs6)
  have O6 : Own w (w.heap.size + 1) w6 [(w.heap.size, 0, .int .i64 s), (w.heap.size, 1, .int .i64 st), (w.heap.size, 2, .slice p n c)] := (by (repeat' (first | (with_reducible assumption) | (with_reducible exact Below.refl _ _) | (with_reducible exact Cels.nil _) | (with_reducible refine Cels.cons ?_ ?_) | (with_reducible refine Own.mk ?_ ?_ ?_ ?_) | ((with_reducible refine Cel.new ?_ rfl); first | (with_reducible rfl) | omega | (simp; done) | (simp; omega)) | (with_reducible refine Cel.alloc ?_ _) | (with_reducible refine Cel.drew ?_) | (with_reducible refine Cel.setS ?_ _) | (with_reducible refine Has.set ?_ _ _) | (with_reducible exact Has.of (by assumption)) | (with_reducible refine Cel.setO ?_ ?_ _) | (with_reducible refine Cel.keep (by assumption) ?_) | (with_reducible refine Below.alloc ?_ ?_ _) | (with_reducible refine Below.drew ?_) | (with_reducible refine Below.setCell ?_ ?_ _) | (with_reducible refine below_keep ?_ ?_ (by assumption)) | omega | (simp; done) | (simp; omega))))
  have hB6 := O6.below; have hz6 := O6.size; have hl6 := O6.le; have S6_0 : Cel w6 (w.heap.size) 0 (.int .i64 s) := O6.cels.1; have S6_1 : Cel w6 (w.heap.size) 1 (.int .i64 st) := O6.cels.2.1; have S6_2 : Cel w6 (w.heap.size) 2 (.slice p n c) := O6.cels.2.2.1
  clear O2 S2_0 S2_1 S2_2
  clear hb6
  go_wp2_with fail
  refine (next_any s st p n c lo hi need f long _ (hL.keep (by (repeat' (first | (with_reducible assumption) | (with_reducible exact Below.refl _ _) | (with_reducible refine Below.alloc ?_ ?_ _) | (with_reducible refine Below.drew ?_) | (with_reducible refine Below.setCell ?_ ?_ _) | (with_reducible refine below_keep ?_ ?_ (by assumption)) | omega | (simp; done) | (simp; omega)))))).mono ?_
  rintro e w7 ⟨rfl, hb7⟩
  have hL := hL.keep (W := w6) (w1 := w7) (by (repeat' (first | (with_reducible assumption) | (with_reducible exact Below.refl _ _) | (with_reducible refine Below.alloc ?_ ?_ _) | (with_reducible refine Below.drew ?_) | (with_reducible refine Below.setCell ?_ ?_ _) | (with_reducible refine below_keep ?_ ?_ (by assumption)) | omega | (simp; done) | (simp; omega))))
  have hs7 := hb7.size; (try simp at hs7)
  have O7 : Own w (w.heap.size + 1) w7 [(w.heap.size, 0, .int .i64 s), (w.heap.size, 1, .int .i64 st), (w.heap.size, 2, .slice p n c)] := (by (repeat' (first | (with_reducible assumption) | (with_reducible exact Below.refl _ _) | (with_reducible exact Cels.nil _) | (with_reducible refine Cels.cons ?_ ?_) | (with_reducible refine Own.mk ?_ ?_ ?_ ?_) | ((with_reducible refine Cel.new ?_ rfl); first | (with_reducible rfl) | omega | (simp; done) | (simp; omega)) | (with_reducible refine Cel.alloc ?_ _) | (with_reducible refine Cel.drew ?_) | (with_reducible refine Cel.setS ?_ _) | (with_reducible refine Has.set ?_ _ _) | (with_reducible exact Has.of (by assumption)) | (with_reducible refine Cel.setO ?_ ?_ _) | (with_reducible refine Cel.keep (by assumption) ?_) | (with_reducible refine Below.alloc ?_ ?_ _) | (with_reducible refine Below.drew ?_) | (with_reducible refine Below.setCell ?_ ?_ _) | (with_reducible refine below_keep ?_ ?_ (by assumption)) | omega | (simp; done) | (simp; omega))))
  have hB7 := O7.below; have hz7 := O7.size; have hl7 := O7.le; have S7_0 : Cel w7 (w.heap.size) 0 (.int .i64 s) := O7.cels.1; have S7_1 : Cel w7 (w.heap.size) 1 (.int .i64 st) := O7.cels.2.1; have S7_2 : Cel w7 (w.heap.size) 2 (.slice p n c) := O7.cels.2.2.1
  clear O6 S6_0 S6_1 S6_2
  clear hb7
  go_wp2_with fail
  refine (height_any s st p n c lo hi other (other + long) _ (hL.keep (by (repeat' (first | (with_reducible assumption) | (with_reducible exact Below.refl _ _) | (with_reducible refine Below.alloc ?_ ?_ _) | (with_reducible refine Below.drew ?_) | (with_reducible refine Below.setCell ?_ ?_ _) | (with_reducible refine below_keep ?_ ?_ (by assumption)) | omega | (simp; done) | (simp; omega)))))).mono ?_
  rintro e w8 ⟨rfl, hb8⟩
  have hs8 := hb8.size; (try simp at hs8)
  have O8 : Own w (w.heap.size + 1) w8 [] := (by (repeat' (first | (with_reducible assumption) | (with_reducible exact Below.refl _ _) | (with_reducible exact Cels.nil _) | (with_reducible refine Cels.cons ?_ ?_) | (with_reducible refine Own.mk ?_ ?_ ?_ ?_) | ((with_reducible refine Cel.new ?_ rfl); first | (with_reducible rfl) | omega | (simp; done) | (simp; omega)) | (with_reducible refine Cel.alloc ?_ _) | (with_reducible refine Cel.drew ?_) | (with_reducible refine Cel.setS ?_ _) | (with_reducible refine Has.set ?_ _ _) | (with_reducible exact Has.of (by assumption)) | (with_reducible refine Cel.setO ?_ ?_ _) | (with_reducible refine Cel.keep (by assumption) ?_) | (with_reducible refine Below.alloc ?_ ?_ _) | (with_reducible refine Below.drew ?_) | (with_reducible refine Below.setCell ?_ ?_ _) | (with_reducible refine below_keep ?_ ?_ (by assumption)) | omega | (simp; done) | (simp; omega))))
  have hB8 := O8.below; have hz8 := O8.size; have hl8 := O8.le
  clear O7 S7_0 S7_1 S7_2
  clear hb8
  go_wp2
  all_goals
    go_ret
    exact ⟨rb (by first | rfl | (simp; done) | (simp; omega)), by (repeat' (first | (with_reducible assumption) | (with_reducible exact Below.refl _ _) | (with_reducible exact Cels.nil _) | (with_reducible refine Cels.cons ?_ ?_) | (with_reducible refine Own.mk ?_ ?_ ?_ ?_) | ((with_reducible refine Cel.new ?_ rfl); first | (with_reducible rfl) | omega | (simp; done) | (simp; omega)) | (with_reducible refine Cel.alloc ?_ _) | (with_reducible refine Cel.drew ?_) | (with_reducible refine Cel.setS ?_ _) | (with_reducible refine Has.set ?_ _ _) | (with_reducible exact Has.of (by assumption)) | (with_reducible refine Cel.setO ?_ ?_ _) | (with_reducible refine Cel.keep (by assumption) ?_) | (with_reducible refine Below.alloc ?_ ?_ _) | (with_reducible refine Below.drew ?_) | (with_reducible refine Below.setCell ?_ ?_ _) | (with_reducible refine below_keep ?_ ?_ (by assumption)) | omega | (simp; done) | (simp; omega)))⟩

set_option maxRecDepth 100000 in
set_option maxHeartbeats 16000000 in
theorem law5_n4 (s st : Int) (p : Option Addr) (n c : Nat) (lo hi : Nat → Int) (need f long other : Int) (w : World) (hL : Lie w p n lo hi) (k0 : (decide (n ≤ 12 ∧ st ≤ 60)) = true) (k1 : (nd need) = true) (k2 : (tm f) = true) (k3 : (tm long) = true) (k4 : (tval s st n lo hi) = true) (e0 : NE s st n lo hi need f long = 4) (r1 : ¬ other < f) (r2 : ¬ 10000000 - long < other) (r4 : HE s st n lo hi other (other + long) = 0) (r5 : HL s st n lo hi other (other + long) < need) : Calls Try.prog 5 #[tv s st p n c, .int .i64 need, .int .i64 f, .int .i64 long, .int .i64 other] w fun e w' => e = .returned (.bool true) ∧ Below w.heap.size w w' := by
  obtain ⟨f0, f1⟩ := tm_bd k2
  obtain ⟨g0, g1⟩ := tm_bd k3
  go_enter Try.func5, Try.ntmps5
  go_wp2_with fail
  refine (head_any _).mono ?_
  rintro e w1 ⟨rfl, hb1⟩
  have hL := hL.keep (W := w) (w1 := w1) (by (repeat' (first | (with_reducible assumption) | (with_reducible exact Below.refl _ _) | (with_reducible refine Below.alloc ?_ ?_ _) | (with_reducible refine Below.drew ?_) | (with_reducible refine Below.setCell ?_ ?_ _) | (with_reducible refine below_keep ?_ ?_ (by assumption)) | omega | (simp; done) | (simp; omega))))
  have hs1 := hb1.size; (try simp at hs1)
  have O1 : Own w (w.heap.size + 1) w1 [(w.heap.size, 0, .int .i64 s), (w.heap.size, 1, .int .i64 st), (w.heap.size, 2, .slice p n c)] := (by (repeat' (first | (with_reducible assumption) | (with_reducible exact Below.refl _ _) | (with_reducible exact Cels.nil _) | (with_reducible refine Cels.cons ?_ ?_) | (with_reducible refine Own.mk ?_ ?_ ?_ ?_) | ((with_reducible refine Cel.new ?_ rfl); first | (with_reducible rfl) | omega | (simp; done) | (simp; omega)) | (with_reducible refine Cel.alloc ?_ _) | (with_reducible refine Cel.drew ?_) | (with_reducible refine Cel.setS ?_ _) | (with_reducible refine Has.set ?_ _ _) | (with_reducible exact Has.of (by assumption)) | (with_reducible refine Cel.setO ?_ ?_ _) | (with_reducible refine Cel.keep (by assumption) ?_) | (with_reducible refine Below.alloc ?_ ?_ _) | (with_reducible refine Below.drew ?_) | (with_reducible refine Below.setCell ?_ ?_ _) | (with_reducible refine below_keep ?_ ?_ (by assumption)) | omega | (simp; done) | (simp; omega))))
  have hB1 := O1.below; have hz1 := O1.size; have hl1 := O1.le; have S1_0 : Cel w1 (w.heap.size) 0 (.int .i64 s) := O1.cels.1; have S1_1 : Cel w1 (w.heap.size) 1 (.int .i64 st) := O1.cels.2.1; have S1_2 : Cel w1 (w.heap.size) 2 (.slice p n c) := O1.cels.2.2.1
  clear hb1
  go_wp2_with fail
  refine (few_any s st p n c _).mono ?_
  rintro e w2 ⟨rfl, hb2⟩
  have hL := hL.keep (W := w1) (w1 := w2) (by (repeat' (first | (with_reducible assumption) | (with_reducible exact Below.refl _ _) | (with_reducible refine Below.alloc ?_ ?_ _) | (with_reducible refine Below.drew ?_) | (with_reducible refine Below.setCell ?_ ?_ _) | (with_reducible refine below_keep ?_ ?_ (by assumption)) | omega | (simp; done) | (simp; omega))))
  have hs2 := hb2.size; (try simp at hs2)
  have O2 : Own w (w.heap.size + 1) w2 [(w.heap.size, 0, .int .i64 s), (w.heap.size, 1, .int .i64 st), (w.heap.size, 2, .slice p n c)] := (by (repeat' (first | (with_reducible assumption) | (with_reducible exact Below.refl _ _) | (with_reducible exact Cels.nil _) | (with_reducible refine Cels.cons ?_ ?_) | (with_reducible refine Own.mk ?_ ?_ ?_ ?_) | ((with_reducible refine Cel.new ?_ rfl); first | (with_reducible rfl) | omega | (simp; done) | (simp; omega)) | (with_reducible refine Cel.alloc ?_ _) | (with_reducible refine Cel.drew ?_) | (with_reducible refine Cel.setS ?_ _) | (with_reducible refine Has.set ?_ _ _) | (with_reducible exact Has.of (by assumption)) | (with_reducible refine Cel.setO ?_ ?_ _) | (with_reducible refine Cel.keep (by assumption) ?_) | (with_reducible refine Below.alloc ?_ ?_ _) | (with_reducible refine Below.drew ?_) | (with_reducible refine Below.setCell ?_ ?_ _) | (with_reducible refine below_keep ?_ ?_ (by assumption)) | omega | (simp; done) | (simp; omega))))
  have hB2 := O2.below; have hz2 := O2.size; have hl2 := O2.le; have S2_0 : Cel w2 (w.heap.size) 0 (.int .i64 s) := O2.cels.1; have S2_1 : Cel w2 (w.heap.size) 1 (.int .i64 st) := O2.cels.2.1; have S2_2 : Cel w2 (w.heap.size) 2 (.slice p n c) := O2.cels.2.2.1
  clear O1 S1_0 S1_1 S1_2
  clear hb2
  go_wp2_with fail
  refine (need_nd need _).mono ?_
  rintro e w' ⟨rfl, rfl⟩
  go_wp2_with fail
  refine (rTime_any f _).mono ?_
  rintro e w' ⟨rfl, rfl⟩
  go_wp2_with fail
  refine (rTime_any long _).mono ?_
  rintro e w' ⟨rfl, rfl⟩
  go_wp2_with fail
  refine (rvalid_any s st p n c lo hi _ (hL.keep (by (repeat' (first | (with_reducible assumption) | (with_reducible exact Below.refl _ _) | (with_reducible refine Below.alloc ?_ ?_ _) | (with_reducible refine Below.drew ?_) | (with_reducible refine Below.setCell ?_ ?_ _) | (with_reducible refine below_keep ?_ ?_ (by assumption)) | omega | (simp; done) | (simp; omega)))))).mono ?_
  rintro e w6 ⟨rfl, hb6⟩
  have hL := hL.keep (W := w2) (w1 := w6) (by (repeat' (first | (with_reducible assumption) | (with_reducible exact Below.refl _ _) | (with_reducible refine Below.alloc ?_ ?_ _) | (with_reducible refine Below.drew ?_) | (with_reducible refine Below.setCell ?_ ?_ _) | (with_reducible refine below_keep ?_ ?_ (by assumption)) | omega | (simp; done) | (simp; omega))))
  have hs6 := hb6.size; (try simp at hs6)
  have O6 : Own w (w.heap.size + 1) w6 [(w.heap.size, 0, .int .i64 s), (w.heap.size, 1, .int .i64 st), (w.heap.size, 2, .slice p n c)] := (by (repeat' (first | (with_reducible assumption) | (with_reducible exact Below.refl _ _) | (with_reducible exact Cels.nil _) | (with_reducible refine Cels.cons ?_ ?_) | (with_reducible refine Own.mk ?_ ?_ ?_ ?_) | ((with_reducible refine Cel.new ?_ rfl); first | (with_reducible rfl) | omega | (simp; done) | (simp; omega)) | (with_reducible refine Cel.alloc ?_ _) | (with_reducible refine Cel.drew ?_) | (with_reducible refine Cel.setS ?_ _) | (with_reducible refine Has.set ?_ _ _) | (with_reducible exact Has.of (by assumption)) | (with_reducible refine Cel.setO ?_ ?_ _) | (with_reducible refine Cel.keep (by assumption) ?_) | (with_reducible refine Below.alloc ?_ ?_ _) | (with_reducible refine Below.drew ?_) | (with_reducible refine Below.setCell ?_ ?_ _) | (with_reducible refine below_keep ?_ ?_ (by assumption)) | omega | (simp; done) | (simp; omega))))
  have hB6 := O6.below; have hz6 := O6.size; have hl6 := O6.le; have S6_0 : Cel w6 (w.heap.size) 0 (.int .i64 s) := O6.cels.1; have S6_1 : Cel w6 (w.heap.size) 1 (.int .i64 st) := O6.cels.2.1; have S6_2 : Cel w6 (w.heap.size) 2 (.slice p n c) := O6.cels.2.2.1
  clear O2 S2_0 S2_1 S2_2
  clear hb6
  go_wp2_with fail
  refine (next_any s st p n c lo hi need f long _ (hL.keep (by (repeat' (first | (with_reducible assumption) | (with_reducible exact Below.refl _ _) | (with_reducible refine Below.alloc ?_ ?_ _) | (with_reducible refine Below.drew ?_) | (with_reducible refine Below.setCell ?_ ?_ _) | (with_reducible refine below_keep ?_ ?_ (by assumption)) | omega | (simp; done) | (simp; omega)))))).mono ?_
  rintro e w7 ⟨rfl, hb7⟩
  have hL := hL.keep (W := w6) (w1 := w7) (by (repeat' (first | (with_reducible assumption) | (with_reducible exact Below.refl _ _) | (with_reducible refine Below.alloc ?_ ?_ _) | (with_reducible refine Below.drew ?_) | (with_reducible refine Below.setCell ?_ ?_ _) | (with_reducible refine below_keep ?_ ?_ (by assumption)) | omega | (simp; done) | (simp; omega))))
  have hs7 := hb7.size; (try simp at hs7)
  have O7 : Own w (w.heap.size + 1) w7 [(w.heap.size, 0, .int .i64 s), (w.heap.size, 1, .int .i64 st), (w.heap.size, 2, .slice p n c)] := (by (repeat' (first | (with_reducible assumption) | (with_reducible exact Below.refl _ _) | (with_reducible exact Cels.nil _) | (with_reducible refine Cels.cons ?_ ?_) | (with_reducible refine Own.mk ?_ ?_ ?_ ?_) | ((with_reducible refine Cel.new ?_ rfl); first | (with_reducible rfl) | omega | (simp; done) | (simp; omega)) | (with_reducible refine Cel.alloc ?_ _) | (with_reducible refine Cel.drew ?_) | (with_reducible refine Cel.setS ?_ _) | (with_reducible refine Has.set ?_ _ _) | (with_reducible exact Has.of (by assumption)) | (with_reducible refine Cel.setO ?_ ?_ _) | (with_reducible refine Cel.keep (by assumption) ?_) | (with_reducible refine Below.alloc ?_ ?_ _) | (with_reducible refine Below.drew ?_) | (with_reducible refine Below.setCell ?_ ?_ _) | (with_reducible refine below_keep ?_ ?_ (by assumption)) | omega | (simp; done) | (simp; omega))))
  have hB7 := O7.below; have hz7 := O7.size; have hl7 := O7.le; have S7_0 : Cel w7 (w.heap.size) 0 (.int .i64 s) := O7.cels.1; have S7_1 : Cel w7 (w.heap.size) 1 (.int .i64 st) := O7.cels.2.1; have S7_2 : Cel w7 (w.heap.size) 2 (.slice p n c) := O7.cels.2.2.1
  clear O6 S6_0 S6_1 S6_2
  clear hb7
  go_wp2_with fail
  refine (height_any s st p n c lo hi other (other + long) _ (hL.keep (by (repeat' (first | (with_reducible assumption) | (with_reducible exact Below.refl _ _) | (with_reducible refine Below.alloc ?_ ?_ _) | (with_reducible refine Below.drew ?_) | (with_reducible refine Below.setCell ?_ ?_ _) | (with_reducible refine below_keep ?_ ?_ (by assumption)) | omega | (simp; done) | (simp; omega)))))).mono ?_
  rintro e w8 ⟨rfl, hb8⟩
  have hs8 := hb8.size; (try simp at hs8)
  have O8 : Own w (w.heap.size + 1) w8 [] := (by (repeat' (first | (with_reducible assumption) | (with_reducible exact Below.refl _ _) | (with_reducible exact Cels.nil _) | (with_reducible refine Cels.cons ?_ ?_) | (with_reducible refine Own.mk ?_ ?_ ?_ ?_) | ((with_reducible refine Cel.new ?_ rfl); first | (with_reducible rfl) | omega | (simp; done) | (simp; omega)) | (with_reducible refine Cel.alloc ?_ _) | (with_reducible refine Cel.drew ?_) | (with_reducible refine Cel.setS ?_ _) | (with_reducible refine Has.set ?_ _ _) | (with_reducible exact Has.of (by assumption)) | (with_reducible refine Cel.setO ?_ ?_ _) | (with_reducible refine Cel.keep (by assumption) ?_) | (with_reducible refine Below.alloc ?_ ?_ _) | (with_reducible refine Below.drew ?_) | (with_reducible refine Below.setCell ?_ ?_ _) | (with_reducible refine below_keep ?_ ?_ (by assumption)) | omega | (simp; done) | (simp; omega))))
  have hB8 := O8.below; have hz8 := O8.size; have hl8 := O8.le
  clear O7 S7_0 S7_1 S7_2
  clear hb8
  go_wp2
  all_goals
    go_ret
    exact ⟨rb (by first | rfl | (simp; done) | (simp; omega)), by (repeat' (first | (with_reducible assumption) | (with_reducible exact Below.refl _ _) | (with_reducible exact Cels.nil _) | (with_reducible refine Cels.cons ?_ ?_) | (with_reducible refine Own.mk ?_ ?_ ?_ ?_) | ((with_reducible refine Cel.new ?_ rfl); first | (with_reducible rfl) | omega | (simp; done) | (simp; omega)) | (with_reducible refine Cel.alloc ?_ _) | (with_reducible refine Cel.drew ?_) | (with_reducible refine Cel.setS ?_ _) | (with_reducible refine Has.set ?_ _ _) | (with_reducible exact Has.of (by assumption)) | (with_reducible refine Cel.setO ?_ ?_ _) | (with_reducible refine Cel.keep (by assumption) ?_) | (with_reducible refine Below.alloc ?_ ?_ _) | (with_reducible refine Below.drew ?_) | (with_reducible refine Below.setCell ?_ ?_ _) | (with_reducible refine below_keep ?_ ?_ (by assumption)) | omega | (simp; done) | (simp; omega)))⟩

theorem law5 (s st : Int) (p : Option Addr) (n c : Nat) (lo hi : Nat → Int) (need f long other : Int) (w : World) (hL : Lie w p n lo hi) : Calls Try.prog 5 #[tv s st p n c, .int .i64 need, .int .i64 f, .int .i64 long, .int .i64 other] w fun e w' => e = .returned (.bool true) ∧ Below w.heap.size w w' := by
  cases k0 : (decide (n ≤ 12 ∧ st ≤ 60)) with
  | false => exact law5_a0 s st p n c lo hi need f long other w hL k0
  | true => cases k1 : nd need with
    | false => exact law5_a1 s st p n c lo hi need f long other w hL k0 k1
    | true => cases k2 : tm f with
      | false => exact law5_a2 s st p n c lo hi need f long other w hL k0 k1 k2
      | true => cases k3 : tm long with
        | false => exact law5_a3 s st p n c lo hi need f long other w hL k0 k1 k2 k3
        | true => cases k4 : tval s st n lo hi with
          | false => exact law5_a4 s st p n c lo hi need f long other w hL k0 k1 k2 k3 k4
          | true =>
            rcases ne_04 (s := s) (st := st) (n := n) (lo := lo) (hi := hi) k4 k1 k2 k3 with e0 | e0
            · obtain ⟨y1, y2, y3, y4⟩ := next_yes k4 k1 e0
              by_cases r1 : other < f
              · exact law5_y0 s st p n c lo hi need f long other w hL k0 k1 k2 k3 k4 e0 y1 y2 y3 y4 r1
              by_cases r2 : 10000000 - long < other
              · exact law5_y1 s st p n c lo hi need f long other w hL k0 k1 k2 k3 k4 e0 y1 y2 y3 y4 r1 r2
              by_cases r3 : NV s st n lo hi need f long ≤ other
              · exact law5_y2 s st p n c lo hi need f long other w hL k0 k1 k2 k3 k4 e0 y1 y2 y3 y4 r1 r2 r3
              by_cases r4 : HE s st n lo hi other (other + long) = 0
              · by_cases r5 : HL s st n lo hi other (other + long) < need
                · exact law5_y4 s st p n c lo hi need f long other w hL k0 k1 k2 k3 k4 e0 y1 y2 y3 y4 r1 r2 r3 r4 r5
                · exfalso
                  have := next_no k4 k1 k2 k3 (by omega) r4 (by omega)
                  omega
              · exact law5_y3 s st p n c lo hi need f long other w hL k0 k1 k2 k3 k4 e0 y1 y2 y3 y4 r1 r2 r3 (by simpa using r4)
            · skip
              by_cases r1 : other < f
              · exact law5_n0 s st p n c lo hi need f long other w hL k0 k1 k2 k3 k4 e0 r1
              by_cases r2 : 10000000 - long < other
              · exact law5_n1 s st p n c lo hi need f long other w hL k0 k1 k2 k3 k4 e0 r1 r2
              by_cases r4 : HE s st n lo hi other (other + long) = 0
              · by_cases r5 : HL s st n lo hi other (other + long) < need
                · exact law5_n4 s st p n c lo hi need f long other w hL k0 k1 k2 k3 k4 e0 r1 r2 r4 r5
                · exfalso
                  have := next_no k4 k1 k2 k3 (by omega) r4 (by omega)
                  omega
              · exact law5_n3 s st p n c lo hi need f long other w hL k0 k1 k2 k3 k4 e0 r1 r2 (by simpa using r4)

end Go.Proofs.Ytmljnelmnagfoaa
