/- TideWindows. -/
import Derived.Test.YtmljnelmnagfoaaU
import Derived.Test.YtmljnelmnagfoaaJ4
set_option linter.unusedVariables false
set_option linter.unusedSimpArgs false
namespace Go.Proofs.Ytmljnelmnagfoaa
open Go.RowKit
attribute [local go_sem] World.cell?_alloc_some frozen_alloc_some isSome_alloc isSome_setCell

set_option maxRecDepth 100000 in
set_option maxHeartbeats 16000000 in
theorem law4_a (s st : Int) (p : Option Addr) (n c : Nat) (lo hi : Nat → Int) (need time : Int) (w : World) (hL : Lie w p n lo hi) (j0 : (decide (n ≤ 12 ∧ st ≤ 60)) = false) : Calls Try.prog 4 #[tv s st p n c, .int .i64 need, .int .i64 time] w fun e w' => e = .returned (.bool true) ∧ Below w.heap.size w w' := by
  go_enter Try.func4, Try.ntmps4
  go_wp2_with fail
  refine (head_any _).mono ?_
  rintro e w1 ⟨rfl, hb1⟩
  have hL := hL.keep (W := w) (w1 := w1) (by (repeat' (first | (with_reducible assumption) | (with_reducible exact Below.refl _ _) | (with_reducible refine Below.alloc ?_ ?_ _) | (with_reducible refine Below.drew ?_) | (with_reducible refine Below.setCell ?_ ?_ _) | (with_reducible refine below_keep ?_ ?_ (by assumption)) | omega | (simp; done) | (simp; omega))))
  have hs1 := hb1.size; (try simp at hs1)
  have O1 : Own w (w.heap.size + 1) w1 [(w.heap.size, 0, .int .i64 s), (w.heap.size, 1, .int .i64 st), (w.heap.size, 2, .slice p n c)] := (by (repeat' (first | (with_reducible assumption) | (with_reducible exact Below.refl _ _) | (with_reducible exact Cels.nil _) | (with_reducible refine Cels.cons ?_ ?_) | (with_reducible refine Own.mk ?_ ?_ ?_ ?_) | ((with_reducible refine Cel.new ?_ rfl); first | (with_reducible rfl) | omega | (simp; done) | (simp; omega)) | (with_reducible refine Cel.alloc ?_ _) | (with_reducible refine Cel.drew ?_) | (with_reducible refine Cel.setS ?_ _) | (with_reducible refine Has.set ?_ _ _) | (with_reducible exact Has.of (by assumption)) | (with_reducible refine Cel.setO ?_ ?_ _) | (with_reducible refine Cel.keep (by assumption) ?_) | (with_reducible refine Below.alloc ?_ ?_ _) | (with_reducible refine Below.drew ?_) | (with_reducible refine Below.setCell ?_ ?_ _) | (with_reducible refine below_keep ?_ ?_ (by assumption)) | omega | (simp; done) | (simp; omega))))
  have hB1 := O1.below; have hz1 := O1.size; have hl1 := O1.le; have S1_0 : Cel w1 (w.heap.size) 0 (.int .i64 s) := O1.cels.1; have S1_1 : Cel w1 (w.heap.size) 1 (.int .i64 st) := O1.cels.2.1; have S1_2 : Cel w1 (w.heap.size) 2 (.slice p n c) := O1.cels.2.2.1
  clear hb1
  go_wp2_with fail
  refine (few_any s st p n c _).mono ?_
  rintro e w2 ⟨rfl, hb2⟩
  have hs2 := hb2.size; (try simp at hs2)
  have O2 : Own w (w.heap.size + 1) w2 [] := (by (repeat' (first | (with_reducible assumption) | (with_reducible exact Below.refl _ _) | (with_reducible exact Cels.nil _) | (with_reducible refine Cels.cons ?_ ?_) | (with_reducible refine Own.mk ?_ ?_ ?_ ?_) | ((with_reducible refine Cel.new ?_ rfl); first | (with_reducible rfl) | omega | (simp; done) | (simp; omega)) | (with_reducible refine Cel.alloc ?_ _) | (with_reducible refine Cel.drew ?_) | (with_reducible refine Cel.setS ?_ _) | (with_reducible refine Has.set ?_ _ _) | (with_reducible exact Has.of (by assumption)) | (with_reducible refine Cel.setO ?_ ?_ _) | (with_reducible refine Cel.keep (by assumption) ?_) | (with_reducible refine Below.alloc ?_ ?_ _) | (with_reducible refine Below.drew ?_) | (with_reducible refine Below.setCell ?_ ?_ _) | (with_reducible refine below_keep ?_ ?_ (by assumption)) | omega | (simp; done) | (simp; omega))))
  have hB2 := O2.below; have hz2 := O2.size; have hl2 := O2.le
  clear O1 S1_0 S1_1 S1_2
  clear hb2
  go_wp2
  all_goals
    go_ret
    exact ⟨rb (by first | rfl | (simp; done) | (simp; omega)), by (repeat' (first | (with_reducible assumption) | (with_reducible exact Below.refl _ _) | (with_reducible exact Cels.nil _) | (with_reducible refine Cels.cons ?_ ?_) | (with_reducible refine Own.mk ?_ ?_ ?_ ?_) | ((with_reducible refine Cel.new ?_ rfl); first | (with_reducible rfl) | omega | (simp; done) | (simp; omega)) | (with_reducible refine Cel.alloc ?_ _) | (with_reducible refine Cel.drew ?_) | (with_reducible refine Cel.setS ?_ _) | (with_reducible refine Has.set ?_ _ _) | (with_reducible exact Has.of (by assumption)) | (with_reducible refine Cel.setO ?_ ?_ _) | (with_reducible refine Cel.keep (by assumption) ?_) | (with_reducible refine Below.alloc ?_ ?_ _) | (with_reducible refine Below.drew ?_) | (with_reducible refine Below.setCell ?_ ?_ _) | (with_reducible refine below_keep ?_ ?_ (by assumption)) | omega | (simp; done) | (simp; omega)))⟩

set_option maxRecDepth 100000 in
set_option maxHeartbeats 16000000 in
theorem law4_b (s st : Int) (p : Option Addr) (n c : Nat) (lo hi : Nat → Int) (need time : Int) (w : World) (hL : Lie w p n lo hi) (j0 : (decide (n ≤ 12 ∧ st ≤ 60)) = true) (hW : WE s st n lo hi need = 1) : Calls Try.prog 4 #[tv s st p n c, .int .i64 need, .int .i64 time] w fun e w' => e = .returned (.bool true) ∧ Below w.heap.size w w' := by
  go_enter Try.func4, Try.ntmps4
  go_wp2_with fail
  refine (head_any _).mono ?_
  rintro e w1 ⟨rfl, hb1⟩
  have hL := hL.keep (W := w) (w1 := w1) (by (repeat' (first | (with_reducible assumption) | (with_reducible exact Below.refl _ _) | (with_reducible refine Below.alloc ?_ ?_ _) | (with_reducible refine Below.drew ?_) | (with_reducible refine Below.setCell ?_ ?_ _) | (with_reducible refine below_keep ?_ ?_ (by assumption)) | omega | (simp; done) | (simp; omega))))
  have hs1 := hb1.size; (try simp at hs1)
  have O1 : Own w (w.heap.size + 1) w1 [(w.heap.size, 0, .int .i64 s), (w.heap.size, 1, .int .i64 st), (w.heap.size, 2, .slice p n c)] := (by (repeat' (first | (with_reducible assumption) | (with_reducible exact Below.refl _ _) | (with_reducible exact Cels.nil _) | (with_reducible refine Cels.cons ?_ ?_) | (with_reducible refine Own.mk ?_ ?_ ?_ ?_) | ((with_reducible refine Cel.new ?_ rfl); first | (with_reducible rfl) | omega | (simp; done) | (simp; omega)) | (with_reducible refine Cel.alloc ?_ _) | (with_reducible refine Cel.drew ?_) | (with_reducible refine Cel.setS ?_ _) | (with_reducible refine Has.set ?_ _ _) | (with_reducible exact Has.of (by assumption)) | (with_reducible refine Cel.setO ?_ ?_ _) | (with_reducible refine Cel.keep (by assumption) ?_) | (with_reducible refine Below.alloc ?_ ?_ _) | (with_reducible refine Below.drew ?_) | (with_reducible refine Below.setCell ?_ ?_ _) | (with_reducible refine below_keep ?_ ?_ (by assumption)) | omega | (simp; done) | (simp; omega))))
  have hB1 := O1.below; have hz1 := O1.size; have hl1 := O1.le; have S1_0 : Cel w1 (w.heap.size) 0 (.int .i64 s) := O1.cels.1; have S1_1 : Cel w1 (w.heap.size) 1 (.int .i64 st) := O1.cels.2.1; have S1_2 : Cel w1 (w.heap.size) 2 (.slice p n c) := O1.cels.2.2.1
  clear hb1
  go_wp2_with fail
  refine (few_any s st p n c _).mono ?_
  rintro e w2 ⟨rfl, hb2⟩
  have hL := hL.keep (W := w1) (w1 := w2) (by (repeat' (first | (with_reducible assumption) | (with_reducible exact Below.refl _ _) | (with_reducible refine Below.alloc ?_ ?_ _) | (with_reducible refine Below.drew ?_) | (with_reducible refine Below.setCell ?_ ?_ _) | (with_reducible refine below_keep ?_ ?_ (by assumption)) | omega | (simp; done) | (simp; omega))))
  have hs2 := hb2.size; (try simp at hs2)
  have O2 : Own w (w.heap.size + 1) w2 [(w.heap.size, 0, .int .i64 s), (w.heap.size, 1, .int .i64 st), (w.heap.size, 2, .slice p n c)] := (by (repeat' (first | (with_reducible assumption) | (with_reducible exact Below.refl _ _) | (with_reducible exact Cels.nil _) | (with_reducible refine Cels.cons ?_ ?_) | (with_reducible refine Own.mk ?_ ?_ ?_ ?_) | ((with_reducible refine Cel.new ?_ rfl); first | (with_reducible rfl) | omega | (simp; done) | (simp; omega)) | (with_reducible refine Cel.alloc ?_ _) | (with_reducible refine Cel.drew ?_) | (with_reducible refine Cel.setS ?_ _) | (with_reducible refine Has.set ?_ _ _) | (with_reducible exact Has.of (by assumption)) | (with_reducible refine Cel.setO ?_ ?_ _) | (with_reducible refine Cel.keep (by assumption) ?_) | (with_reducible refine Below.alloc ?_ ?_ _) | (with_reducible refine Below.drew ?_) | (with_reducible refine Below.setCell ?_ ?_ _) | (with_reducible refine below_keep ?_ ?_ (by assumption)) | omega | (simp; done) | (simp; omega))))
  have hB2 := O2.below; have hz2 := O2.size; have hl2 := O2.le; have S2_0 : Cel w2 (w.heap.size) 0 (.int .i64 s) := O2.cels.1; have S2_1 : Cel w2 (w.heap.size) 1 (.int .i64 st) := O2.cels.2.1; have S2_2 : Cel w2 (w.heap.size) 2 (.slice p n c) := O2.cels.2.2.1
  clear O1 S1_0 S1_1 S1_2
  clear hb2
  go_wp2_with fail
  refine (windows_any s st p n c lo hi need _ (hL.keep (by (repeat' (first | (with_reducible assumption) | (with_reducible exact Below.refl _ _) | (with_reducible refine Below.alloc ?_ ?_ _) | (with_reducible refine Below.drew ?_) | (with_reducible refine Below.setCell ?_ ?_ _) | (with_reducible refine below_keep ?_ ?_ (by assumption)) | omega | (simp; done) | (simp; omega)))))).mono ?_
  rintro e w3 ⟨⟨p3, c3, rfl, Q3⟩, hb3⟩
  have hL := hL.keep (W := w2) (w1 := w3) (by (repeat' (first | (with_reducible assumption) | (with_reducible exact Below.refl _ _) | (with_reducible refine Below.alloc ?_ ?_ _) | (with_reducible refine Below.drew ?_) | (with_reducible refine Below.setCell ?_ ?_ _) | (with_reducible refine below_keep ?_ ?_ (by assumption)) | omega | (simp; done) | (simp; omega))))
  have hs3 := hb3.size; (try simp at hs3)
  have O3 : Own w (w.heap.size + 1) w3 [(w.heap.size, 0, .int .i64 s), (w.heap.size, 1, .int .i64 st), (w.heap.size, 2, .slice p n c)] := (by (repeat' (first | (with_reducible assumption) | (with_reducible exact Below.refl _ _) | (with_reducible exact Cels.nil _) | (with_reducible refine Cels.cons ?_ ?_) | (with_reducible refine Own.mk ?_ ?_ ?_ ?_) | ((with_reducible refine Cel.new ?_ rfl); first | (with_reducible rfl) | omega | (simp; done) | (simp; omega)) | (with_reducible refine Cel.alloc ?_ _) | (with_reducible refine Cel.drew ?_) | (with_reducible refine Cel.setS ?_ _) | (with_reducible refine Has.set ?_ _ _) | (with_reducible exact Has.of (by assumption)) | (with_reducible refine Cel.setO ?_ ?_ _) | (with_reducible refine Cel.keep (by assumption) ?_) | (with_reducible refine Below.alloc ?_ ?_ _) | (with_reducible refine Below.drew ?_) | (with_reducible refine Below.setCell ?_ ?_ _) | (with_reducible refine below_keep ?_ ?_ (by assumption)) | omega | (simp; done) | (simp; omega))))
  have hB3 := O3.below; have hz3 := O3.size; have hl3 := O3.le; have S3_0 : Cel w3 (w.heap.size) 0 (.int .i64 s) := O3.cels.1; have S3_1 : Cel w3 (w.heap.size) 1 (.int .i64 st) := O3.cels.2.1; have S3_2 : Cel w3 (w.heap.size) 2 (.slice p n c) := O3.cels.2.2.1
  clear O2 S2_0 S2_1 S2_2
  clear hb3
  go_wp2_with fail
  refine (height_any s st p n c lo hi time time _ (hL.keep (by (repeat' (first | (with_reducible assumption) | (with_reducible exact Below.refl _ _) | (with_reducible refine Below.alloc ?_ ?_ _) | (with_reducible refine Below.drew ?_) | (with_reducible refine Below.setCell ?_ ?_ _) | (with_reducible refine below_keep ?_ ?_ (by assumption)) | omega | (simp; done) | (simp; omega)))))).mono ?_
  rintro e w4 ⟨rfl, hb4⟩
  have hs4 := hb4.size; (try simp at hs4)
  have O4 : Own w (w.heap.size + 1) w4 [] := (by (repeat' (first | (with_reducible assumption) | (with_reducible exact Below.refl _ _) | (with_reducible exact Cels.nil _) | (with_reducible refine Cels.cons ?_ ?_) | (with_reducible refine Own.mk ?_ ?_ ?_ ?_) | ((with_reducible refine Cel.new ?_ rfl); first | (with_reducible rfl) | omega | (simp; done) | (simp; omega)) | (with_reducible refine Cel.alloc ?_ _) | (with_reducible refine Cel.drew ?_) | (with_reducible refine Cel.setS ?_ _) | (with_reducible refine Has.set ?_ _ _) | (with_reducible exact Has.of (by assumption)) | (with_reducible refine Cel.setO ?_ ?_ _) | (with_reducible refine Cel.keep (by assumption) ?_) | (with_reducible refine Below.alloc ?_ ?_ _) | (with_reducible refine Below.drew ?_) | (with_reducible refine Below.setCell ?_ ?_ _) | (with_reducible refine below_keep ?_ ?_ (by assumption)) | omega | (simp; done) | (simp; omega))))
  have hB4 := O4.below; have hz4 := O4.size; have hl4 := O4.le
  clear O3 S3_0 S3_1 S3_2
  clear hb4
  go_wp2
  all_goals
    go_ret
    exact ⟨rb (by first | rfl | (simp; done) | (simp; omega)), by (repeat' (first | (with_reducible assumption) | (with_reducible exact Below.refl _ _) | (with_reducible exact Cels.nil _) | (with_reducible refine Cels.cons ?_ ?_) | (with_reducible refine Own.mk ?_ ?_ ?_ ?_) | ((with_reducible refine Cel.new ?_ rfl); first | (with_reducible rfl) | omega | (simp; done) | (simp; omega)) | (with_reducible refine Cel.alloc ?_ _) | (with_reducible refine Cel.drew ?_) | (with_reducible refine Cel.setS ?_ _) | (with_reducible refine Has.set ?_ _ _) | (with_reducible exact Has.of (by assumption)) | (with_reducible refine Cel.setO ?_ ?_ _) | (with_reducible refine Cel.keep (by assumption) ?_) | (with_reducible refine Below.alloc ?_ ?_ _) | (with_reducible refine Below.drew ?_) | (with_reducible refine Below.setCell ?_ ?_ _) | (with_reducible refine below_keep ?_ ?_ (by assumption)) | omega | (simp; done) | (simp; omega)))⟩

set_option maxRecDepth 100000 in
set_option maxHeartbeats 16000000 in
theorem law4_c (s st : Int) (p : Option Addr) (n c : Nat) (lo hi : Nat → Int) (need time : Int) (w : World) (hL : Lie w p n lo hi) (j0 : (decide (n ≤ 12 ∧ st ≤ 60)) = true) (hW : WE s st n lo hi need = 0) : Calls Try.prog 4 #[tv s st p n c, .int .i64 need, .int .i64 time] w fun e w' => e = .returned (.bool true) ∧ Below w.heap.size w w' := by
  obtain ⟨hokw, hlen⟩ := ws_ok s st n lo hi need
  obtain ⟨tv1, tn1⟩ := we_nd hW
  have hgap := (ws_wn tv1 tn1).gap
  have hfin := in_high (time := time) tv1 tn1
  go_enter Try.func4, Try.ntmps4
  go_wp2_with fail
  refine (head_any _).mono ?_
  rintro e w1 ⟨rfl, hb1⟩
  have hL := hL.keep (W := w) (w1 := w1) (by (repeat' (first | (with_reducible assumption) | (with_reducible exact Below.refl _ _) | (with_reducible refine Below.alloc ?_ ?_ _) | (with_reducible refine Below.drew ?_) | (with_reducible refine Below.setCell ?_ ?_ _) | (with_reducible refine below_keep ?_ ?_ (by assumption)) | omega | (simp; done) | (simp; omega))))
  have hs1 := hb1.size; (try simp at hs1)
  have O1 : Own w (w.heap.size + 1) w1 [(w.heap.size, 0, .int .i64 s), (w.heap.size, 1, .int .i64 st), (w.heap.size, 2, .slice p n c)] := (by (repeat' (first | (with_reducible assumption) | (with_reducible exact Below.refl _ _) | (with_reducible exact Cels.nil _) | (with_reducible refine Cels.cons ?_ ?_) | (with_reducible refine Own.mk ?_ ?_ ?_ ?_) | ((with_reducible refine Cel.new ?_ rfl); first | (with_reducible rfl) | omega | (simp; done) | (simp; omega)) | (with_reducible refine Cel.alloc ?_ _) | (with_reducible refine Cel.drew ?_) | (with_reducible refine Cel.setS ?_ _) | (with_reducible refine Has.set ?_ _ _) | (with_reducible exact Has.of (by assumption)) | (with_reducible refine Cel.setO ?_ ?_ _) | (with_reducible refine Cel.keep (by assumption) ?_) | (with_reducible refine Below.alloc ?_ ?_ _) | (with_reducible refine Below.drew ?_) | (with_reducible refine Below.setCell ?_ ?_ _) | (with_reducible refine below_keep ?_ ?_ (by assumption)) | omega | (simp; done) | (simp; omega))))
  have hB1 := O1.below; have hz1 := O1.size; have hl1 := O1.le; have S1_0 : Cel w1 (w.heap.size) 0 (.int .i64 s) := O1.cels.1; have S1_1 : Cel w1 (w.heap.size) 1 (.int .i64 st) := O1.cels.2.1; have S1_2 : Cel w1 (w.heap.size) 2 (.slice p n c) := O1.cels.2.2.1
  clear hb1
  go_wp2_with fail
  refine (few_any s st p n c _).mono ?_
  rintro e w2 ⟨rfl, hb2⟩
  have hL := hL.keep (W := w1) (w1 := w2) (by (repeat' (first | (with_reducible assumption) | (with_reducible exact Below.refl _ _) | (with_reducible refine Below.alloc ?_ ?_ _) | (with_reducible refine Below.drew ?_) | (with_reducible refine Below.setCell ?_ ?_ _) | (with_reducible refine below_keep ?_ ?_ (by assumption)) | omega | (simp; done) | (simp; omega))))
  have hs2 := hb2.size; (try simp at hs2)
  have O2 : Own w (w.heap.size + 1) w2 [(w.heap.size, 0, .int .i64 s), (w.heap.size, 1, .int .i64 st), (w.heap.size, 2, .slice p n c)] := (by (repeat' (first | (with_reducible assumption) | (with_reducible exact Below.refl _ _) | (with_reducible exact Cels.nil _) | (with_reducible refine Cels.cons ?_ ?_) | (with_reducible refine Own.mk ?_ ?_ ?_ ?_) | ((with_reducible refine Cel.new ?_ rfl); first | (with_reducible rfl) | omega | (simp; done) | (simp; omega)) | (with_reducible refine Cel.alloc ?_ _) | (with_reducible refine Cel.drew ?_) | (with_reducible refine Cel.setS ?_ _) | (with_reducible refine Has.set ?_ _ _) | (with_reducible exact Has.of (by assumption)) | (with_reducible refine Cel.setO ?_ ?_ _) | (with_reducible refine Cel.keep (by assumption) ?_) | (with_reducible refine Below.alloc ?_ ?_ _) | (with_reducible refine Below.drew ?_) | (with_reducible refine Below.setCell ?_ ?_ _) | (with_reducible refine below_keep ?_ ?_ (by assumption)) | omega | (simp; done) | (simp; omega))))
  have hB2 := O2.below; have hz2 := O2.size; have hl2 := O2.le; have S2_0 : Cel w2 (w.heap.size) 0 (.int .i64 s) := O2.cels.1; have S2_1 : Cel w2 (w.heap.size) 1 (.int .i64 st) := O2.cels.2.1; have S2_2 : Cel w2 (w.heap.size) 2 (.slice p n c) := O2.cels.2.2.1
  clear O1 S1_0 S1_1 S1_2
  clear hb2
  go_wp2_with fail
  refine (windows_any s st p n c lo hi need _ (hL.keep (by (repeat' (first | (with_reducible assumption) | (with_reducible exact Below.refl _ _) | (with_reducible refine Below.alloc ?_ ?_ _) | (with_reducible refine Below.drew ?_) | (with_reducible refine Below.setCell ?_ ?_ _) | (with_reducible refine below_keep ?_ ?_ (by assumption)) | omega | (simp; done) | (simp; omega)))))).mono ?_
  rintro e w3 ⟨⟨p3, c3, rfl, Q3⟩, hb3⟩
  have hL := hL.keep (W := w2) (w1 := w3) (by (repeat' (first | (with_reducible assumption) | (with_reducible exact Below.refl _ _) | (with_reducible refine Below.alloc ?_ ?_ _) | (with_reducible refine Below.drew ?_) | (with_reducible refine Below.setCell ?_ ?_ _) | (with_reducible refine below_keep ?_ ?_ (by assumption)) | omega | (simp; done) | (simp; omega))))
  have hs3 := hb3.size; (try simp at hs3)
  have O3 : Own w (w.heap.size + 1) w3 [(w.heap.size, 0, .int .i64 s), (w.heap.size, 1, .int .i64 st), (w.heap.size, 2, .slice p n c)] := (by (repeat' (first | (with_reducible assumption) | (with_reducible exact Below.refl _ _) | (with_reducible exact Cels.nil _) | (with_reducible refine Cels.cons ?_ ?_) | (with_reducible refine Own.mk ?_ ?_ ?_ ?_) | ((with_reducible refine Cel.new ?_ rfl); first | (with_reducible rfl) | omega | (simp; done) | (simp; omega)) | (with_reducible refine Cel.alloc ?_ _) | (with_reducible refine Cel.drew ?_) | (with_reducible refine Cel.setS ?_ _) | (with_reducible refine Has.set ?_ _ _) | (with_reducible exact Has.of (by assumption)) | (with_reducible refine Cel.setO ?_ ?_ _) | (with_reducible refine Cel.keep (by assumption) ?_) | (with_reducible refine Below.alloc ?_ ?_ _) | (with_reducible refine Below.drew ?_) | (with_reducible refine Below.setCell ?_ ?_ _) | (with_reducible refine below_keep ?_ ?_ (by assumption)) | omega | (simp; done) | (simp; omega))))
  have hB3 := O3.below; have hz3 := O3.size; have hl3 := O3.le; have S3_0 : Cel w3 (w.heap.size) 0 (.int .i64 s) := O3.cels.1; have S3_1 : Cel w3 (w.heap.size) 1 (.int .i64 st) := O3.cels.2.1; have S3_2 : Cel w3 (w.heap.size) 2 (.slice p n c) := O3.cels.2.2.1
  clear O2 S2_0 S2_1 S2_2
  clear hb3
  go_wp2_with fail
  refine (height_any s st p n c lo hi time time _ (hL.keep (by (repeat' (first | (with_reducible assumption) | (with_reducible exact Below.refl _ _) | (with_reducible refine Below.alloc ?_ ?_ _) | (with_reducible refine Below.drew ?_) | (with_reducible refine Below.setCell ?_ ?_ _) | (with_reducible refine below_keep ?_ ?_ (by assumption)) | omega | (simp; done) | (simp; omega)))))).mono ?_
  rintro e w4 ⟨rfl, hb4⟩
  have Q3 := Q3.keep (W := w3) (w1 := w4) (by (repeat' (first | (with_reducible assumption) | (with_reducible exact Below.refl _ _) | (with_reducible refine Below.alloc ?_ ?_ _) | (with_reducible refine Below.drew ?_) | (with_reducible refine Below.setCell ?_ ?_ _) | (with_reducible refine below_keep ?_ ?_ (by assumption)) | omega | (simp; done) | (simp; omega))))
  have hs4 := hb4.size; (try simp at hs4)
  have O4 : Own w (w.heap.size + 1) w4 [] := (by (repeat' (first | (with_reducible assumption) | (with_reducible exact Below.refl _ _) | (with_reducible exact Cels.nil _) | (with_reducible refine Cels.cons ?_ ?_) | (with_reducible refine Own.mk ?_ ?_ ?_ ?_) | ((with_reducible refine Cel.new ?_ rfl); first | (with_reducible rfl) | omega | (simp; done) | (simp; omega)) | (with_reducible refine Cel.alloc ?_ _) | (with_reducible refine Cel.drew ?_) | (with_reducible refine Cel.setS ?_ _) | (with_reducible refine Has.set ?_ _ _) | (with_reducible exact Has.of (by assumption)) | (with_reducible refine Cel.setO ?_ ?_ _) | (with_reducible refine Cel.keep (by assumption) ?_) | (with_reducible refine Below.alloc ?_ ?_ _) | (with_reducible refine Below.drew ?_) | (with_reducible refine Below.setCell ?_ ?_ _) | (with_reducible refine below_keep ?_ ?_ (by assumption)) | omega | (simp; done) | (simp; omega))))
  have hB4 := O4.below; have hz4 := O4.size; have hl4 := O4.le
  clear O3 S3_0 S3_1 S3_2
  clear hb4
  go_wp2_with fail
  obtain ⟨ws, hws⟩ : ∃ ws, ws = WS s st n lo hi need := ⟨_, rfl⟩
  rw [← hws] at hokw hlen hgap hfin Q3
  simp only [← hws]
  have HWS := Lib.hid hws
  clear hws
  have hO : Own w (w4.heap.size + 1) ((w4.alloc (.cells #[.int .i64 ((HL s st n lo hi time time)), .int .i64 ((HH s st n lo hi time time))] 30))) [(w4.heap.size, 0, .int .i64 ((HL s st n lo hi time time))), (w4.heap.size, 1, .int .i64 ((HH s st n lo hi time time)))] := (by (repeat' (first | (with_reducible assumption) | (with_reducible exact Below.refl _ _) | (with_reducible exact Cels.nil _) | (with_reducible refine Cels.cons ?_ ?_) | (with_reducible refine Own.mk ?_ ?_ ?_ ?_) | ((with_reducible refine Cel.new ?_ rfl); first | (with_reducible rfl) | omega | (simp; done) | (simp; omega)) | (with_reducible refine Cel.alloc ?_ _) | (with_reducible refine Cel.drew ?_) | (with_reducible refine Cel.setS ?_ _) | (with_reducible refine Has.set ?_ _ _) | (with_reducible exact Has.of (by assumption)) | (with_reducible refine Cel.setO ?_ ?_ _) | (with_reducible refine Cel.keep (by assumption) ?_) | (with_reducible refine Below.alloc ?_ ?_ _) | (with_reducible refine Below.drew ?_) | (with_reducible refine Below.setCell ?_ ?_ _) | (with_reducible refine below_keep ?_ ?_ (by assumption)) | omega | (simp; done) | (simp; omega))))
  have hL1 : Lie (w4.alloc (.cells #[.int .i64 ((HL s st n lo hi time time)), .int .i64 ((HH s st n lo hi time time))] 30)) p3 ws.length (L1 ws) (L2 ws) := Q3.keep (below_new _ _)
  obtain ⟨hbk, hbk'⟩ : ∃ hbk, hbk = w4.heap.size := ⟨_, rfl⟩
  rw [← hbk'] at hO
  simp only [← hbk']
  have HF := Lib.hid hfin
  have HBK := Lib.hid hbk'
  clear hfin hbk'
  clear Q3
  go_loopw [7, 12, 42] (fun up inn i wr => ∃ k : Nat, k ≤ ws.length ∧ i = .int .i64 k ∧ up = .bool true ∧ inn = .bool (inW ws time k) ∧ Own w (hbk + 1) wr [(hbk, 0, .int .i64 ((HL s st n lo hi time time))), (hbk, 1, .int .i64 ((HH s st n lo hi time time)))] ∧ Lie wr p3 ws.length (L1 ws) (L2 ws)) (fun _ _ i _ => ws.length - (intOf i).toNat)
  case atStart => exact ⟨0, Nat.zero_le _, rfl, rfl, by rw [inW_0], hO, hL1⟩
  case round =>
    obtain ⟨k, hk, rfl, rfl, rfl, O, hl⟩ := hrel
    have hB := O.below; have hz := O.size; have S0 : Cel wr (hbk) 0 (.int .i64 ((HL s st n lo hi time time))) := O.cels.1; have S1 : Cel wr (hbk) 1 (.int .i64 ((HH s st n lo hi time time))) := O.cels.2.1
    rcases Nat.lt_or_ge k ws.length with hlt | hge
    · have hlk := hl
      obtain hn0 | ⟨b, off, rfl, hc⟩ := hl
      · omega
      obtain ⟨u1, u2, u3⟩ := ws_at hokw hlt
      have c0 := (hc k hlt).1
      have c1 := (hc k hlt).2
      cases k with
      | zero =>
        simp only [Nat.zero_mul, Nat.add_zero] at c0 c1
        go_wp2_with fail
        have hl1 := hlk.keep (below_new wr (.cells #[.int .i64 (L1 ws 0), .int .i64 (L2 ws 0)] 30))
        have O1x := O.keep (below_new wr (.cells #[.int .i64 (L1 ws 0), .int .i64 (L2 ws 0)] 30))
        go_quiet (fail)
        have O2x := O1x.keep (below_drewN _ nq)
        have hl2 := hl1.keep (below_drewN _ nq)
        cases hin : inW ws time 0 with
        | true =>
          go_wp2
          go_roundw
          case rel => exact ⟨(0 + 1), by omega, by go_num, rfl, by rw [inW_s, hin]; rfl, O2x, hl2⟩
          case measure => simp [intOf]; omega
        | false =>
          by_cases g1 : L1 ws 0 ≤ time
          · by_cases g2 : time ≤ L2 ws 0
            · go_wp2
              go_roundw
              case rel => exact ⟨(0 + 1), by omega, by go_num, rfl, by rw [inW_s, hin, decide_eq_true g1, decide_eq_true g2]; rfl, O2x, hl2⟩
              case measure => simp [intOf]; omega
            · go_wp2
              go_roundw
              case rel => exact ⟨(0 + 1), by omega, by go_num, rfl, by rw [inW_s, hin, decide_eq_true g1, decide_eq_false g2]; rfl, O2x, hl2⟩
              case measure => simp [intOf]; omega
          · go_wp2
            go_roundw
            case rel => exact ⟨(0 + 1), by omega, by go_num, rfl, by rw [inW_s, hin, decide_eq_false g1]; rfl, O2x, hl2⟩
            case measure => simp [intOf]; omega
      | succ j =>
        have hjn : j < ws.length := by omega
        have c3 := (hc j hjn).2
        have hbb : b < wr.heap.size := World.block_lt_of_cell? wr _ c3
        have lw : (L2 ws j + 1 < L1 ws (j + 1)) := ws_lt hgap (Nat.lt_succ_self j) hlt
        obtain ⟨u1', u2', u3'⟩ := ws_at hokw hjn
        have hw0 : IntKind.i64.wrap (j : Int) = j := IntWalk.i64_in _ (by omega)
        have hw1 : IntKind.i64.wrap ((j : Int) + 1) = j + 1 := IntWalk.i64_in _ (by omega)
        have hw2 : IntKind.i64.wrap (L2 ws j + 1) = L2 ws j + 1 := IntWalk.i64_in _ (by omega)
        have ne0 : (((j : Int) + 1) == 0) = false := by (simp; omega)
        go_wp2_with fail
        have hl1 := hlk.keep (below_new wr (.cells #[.int .i64 (L1 ws (j + 1)), .int .i64 (L2 ws (j + 1))] 30))
        have O1x := O.keep (below_new wr (.cells #[.int .i64 (L1 ws (j + 1)), .int .i64 (L2 ws (j + 1))] 30))
        go_quiet (fail)
        have O2x := O1x.keep (below_drewN _ nq)
        have hl2 := hl1.keep (below_drewN _ nq)
        cases hin : inW ws time (j + 1) with
        | true =>
          go_wp2
          go_roundw
          case rel => exact ⟨(j + 1 + 1), by omega, by go_num, rfl, by rw [inW_s, hin]; rfl, O2x, hl2⟩
          case measure => simp [intOf]; omega
        | false =>
          by_cases g1 : L1 ws (j + 1) ≤ time
          · by_cases g2 : time ≤ L2 ws (j + 1)
            · go_wp2
              go_roundw
              case rel => exact ⟨(j + 1 + 1), by omega, by go_num, rfl, by rw [inW_s, hin, decide_eq_true g1, decide_eq_true g2]; rfl, O2x, hl2⟩
              case measure => simp [intOf]; omega
            · go_wp2
              go_roundw
              case rel => exact ⟨(j + 1 + 1), by omega, by go_num, rfl, by rw [inW_s, hin, decide_eq_true g1, decide_eq_false g2]; rfl, O2x, hl2⟩
              case measure => simp [intOf]; omega
          · go_wp2
            go_roundw
            case rel => exact ⟨(j + 1 + 1), by omega, by go_num, rfl, by rw [inW_s, hin, decide_eq_false g1]; rfl, O2x, hl2⟩
            case measure => simp [intOf]; omega
    · obtain rfl : k = ws.length := by omega
      have hf := HF.out
      rw [hf]
      by_cases g1 : HE s st n lo hi time time = 0
      · by_cases g2 : need ≤ HL s st n lo hi time time
        · rw [decide_eq_true g1, decide_eq_true g2]
          go_wp2
          go_ret
          exact ⟨rb (by first | rfl | (simp; done) | (simp; omega)), by (repeat' (first | (with_reducible assumption) | (with_reducible exact Below.refl _ _) | (with_reducible exact Cels.nil _) | (with_reducible refine Cels.cons ?_ ?_) | (with_reducible refine Own.mk ?_ ?_ ?_ ?_) | ((with_reducible refine Cel.new ?_ rfl); first | (with_reducible rfl) | omega | (simp; done) | (simp; omega)) | (with_reducible refine Cel.alloc ?_ _) | (with_reducible refine Cel.drew ?_) | (with_reducible refine Cel.setS ?_ _) | (with_reducible refine Has.set ?_ _ _) | (with_reducible exact Has.of (by assumption)) | (with_reducible refine Cel.setO ?_ ?_ _) | (with_reducible refine Cel.keep (by assumption) ?_) | (with_reducible refine Below.alloc ?_ ?_ _) | (with_reducible refine Below.drew ?_) | (with_reducible refine Below.setCell ?_ ?_ _) | (with_reducible refine below_keep ?_ ?_ (by assumption)) | omega | (simp; done) | (simp; omega)))⟩
        · rw [decide_eq_true g1, decide_eq_false g2]
          go_wp2
          go_ret
          exact ⟨rb (by first | rfl | (simp; done) | (simp; omega)), by (repeat' (first | (with_reducible assumption) | (with_reducible exact Below.refl _ _) | (with_reducible exact Cels.nil _) | (with_reducible refine Cels.cons ?_ ?_) | (with_reducible refine Own.mk ?_ ?_ ?_ ?_) | ((with_reducible refine Cel.new ?_ rfl); first | (with_reducible rfl) | omega | (simp; done) | (simp; omega)) | (with_reducible refine Cel.alloc ?_ _) | (with_reducible refine Cel.drew ?_) | (with_reducible refine Cel.setS ?_ _) | (with_reducible refine Has.set ?_ _ _) | (with_reducible exact Has.of (by assumption)) | (with_reducible refine Cel.setO ?_ ?_ _) | (with_reducible refine Cel.keep (by assumption) ?_) | (with_reducible refine Below.alloc ?_ ?_ _) | (with_reducible refine Below.drew ?_) | (with_reducible refine Below.setCell ?_ ?_ _) | (with_reducible refine below_keep ?_ ?_ (by assumption)) | omega | (simp; done) | (simp; omega)))⟩
      · have g3 : (HE s st n lo hi time time == 0) = false := by simpa using g1
        rw [decide_eq_false g1]
        go_wp2
        go_ret
        exact ⟨rb (by first | rfl | (simp; done) | (simp; omega)), by (repeat' (first | (with_reducible assumption) | (with_reducible exact Below.refl _ _) | (with_reducible exact Cels.nil _) | (with_reducible refine Cels.cons ?_ ?_) | (with_reducible refine Own.mk ?_ ?_ ?_ ?_) | ((with_reducible refine Cel.new ?_ rfl); first | (with_reducible rfl) | omega | (simp; done) | (simp; omega)) | (with_reducible refine Cel.alloc ?_ _) | (with_reducible refine Cel.drew ?_) | (with_reducible refine Cel.setS ?_ _) | (with_reducible refine Has.set ?_ _ _) | (with_reducible exact Has.of (by assumption)) | (with_reducible refine Cel.setO ?_ ?_ _) | (with_reducible refine Cel.keep (by assumption) ?_) | (with_reducible refine Below.alloc ?_ ?_ _) | (with_reducible refine Below.drew ?_) | (with_reducible refine Below.setCell ?_ ?_ _) | (with_reducible refine below_keep ?_ ?_ (by assumption)) | omega | (simp; done) | (simp; omega)))⟩
theorem law4 (s st : Int) (p : Option Addr) (n c : Nat) (lo hi : Nat → Int) (need time : Int) (w : World) (hL : Lie w p n lo hi) : Calls Try.prog 4 #[tv s st p n c, .int .i64 need, .int .i64 time] w fun e w' => e = .returned (.bool true) ∧ Below w.heap.size w w' := by
  cases j0 : (decide (n ≤ 12 ∧ st ≤ 60)) with
  | false => exact law4_a s st p n c lo hi need time w hL j0
  | true =>
    rcases we_01 s st n lo hi need with hW | hW
    · exact law4_c s st p n c lo hi need time w hL j0 hW
    · exact law4_b s st p n c lo hi need time w hL j0 hW

end Go.Proofs.Ytmljnelmnagfoaa
