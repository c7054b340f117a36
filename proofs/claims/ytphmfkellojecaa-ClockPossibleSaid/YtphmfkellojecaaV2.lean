/- The walks of a law. -/
import Derived.Test.YtphmfkellojecaaX
set_option linter.unusedVariables false
set_option linter.unusedSimpArgs false
namespace Go.Proofs.Ytphmfkellojecaa
open Go.RowKit
attribute [local go_sem] World.cell?_alloc_some frozen_alloc_some isSome_alloc isSome_setCell

set_option maxRecDepth 100000 in
set_option maxHeartbeats 4000000 in
theorem law2_e1 (a l u d r s : Int) (w : World) (hE : tE a l u d r = 1) (hg : gV a l u d r = 0) : Calls Try.prog 4 #[ck a l u d, .int .i64 r, .int .i64 s] w fun e w' => e = .returned (.bool true) ∧ Below w.heap.size w w' := by
  go_enter Try.func4, Try.ntmps4
  go_wp2_with fail
  refine (head_any _).mono ?_
  rintro e w1 ⟨rfl, hb1⟩
  have hs1 := hb1.size; (try simp at hs1)
  have O1 : Own w (w.heap.size + 1) w1 [(w.heap.size, 0, .int .i64 a), (w.heap.size, 1, .int .i64 l), (w.heap.size, 2, .int .i64 u), (w.heap.size, 3, .int .i64 d)] := (by (repeat' (first | (with_reducible assumption) | (with_reducible exact Below.refl _ _) | (with_reducible exact Cels.nil _) | (with_reducible refine Cels.cons ?_ ?_) | (with_reducible refine Own.mk ?_ ?_ ?_ ?_) | ((with_reducible refine Cel.new ?_ rfl); first | (with_reducible rfl) | omega | (simp; done) | (simp; omega)) | (with_reducible refine Cel.alloc ?_ _) | (with_reducible refine Cel.drew ?_) | (with_reducible refine Cel.setS ?_ _) | (with_reducible refine Has.set ?_ _ _) | (with_reducible exact Has.of (by assumption)) | (with_reducible refine Cel.setO ?_ ?_ _) | (with_reducible refine Cel.keep (by assumption) ?_) | (with_reducible refine Below.alloc ?_ ?_ _) | (with_reducible refine Below.drew ?_) | (with_reducible refine Below.setCell ?_ ?_ _) | (with_reducible refine below_keep ?_ ?_ (by assumption)) | omega | (simp; done) | (simp; omega))))
  have hB1 := O1.below; have hz1 := O1.size; have hl1 := O1.le; have S1_0 : Cel w1 (w.heap.size) 0 (.int .i64 a) := O1.cels.1; have S1_1 : Cel w1 (w.heap.size) 1 (.int .i64 l) := O1.cels.2.1; have S1_2 : Cel w1 (w.heap.size) 2 (.int .i64 u) := O1.cels.2.2.1; have S1_3 : Cel w1 (w.heap.size) 3 (.int .i64 d) := O1.cels.2.2.2.1
  go_wp2_with fail
  refine (true_any a l u d r _).mono ?_
  rintro e w2 ⟨rfl, hb2⟩
  have hs2 := hb2.size; (try simp at hs2)
  have O2 : Own w (w.heap.size + 1) w2 [(w.heap.size, 0, .int .i64 a), (w.heap.size, 1, .int .i64 l), (w.heap.size, 2, .int .i64 u), (w.heap.size, 3, .int .i64 d)] := (by (repeat' (first | (with_reducible assumption) | (with_reducible exact Below.refl _ _) | (with_reducible exact Cels.nil _) | (with_reducible refine Cels.cons ?_ ?_) | (with_reducible refine Own.mk ?_ ?_ ?_ ?_) | ((with_reducible refine Cel.new ?_ rfl); first | (with_reducible rfl) | omega | (simp; done) | (simp; omega)) | (with_reducible refine Cel.alloc ?_ _) | (with_reducible refine Cel.drew ?_) | (with_reducible refine Cel.setS ?_ _) | (with_reducible refine Has.set ?_ _ _) | (with_reducible exact Has.of (by assumption)) | (with_reducible refine Cel.setO ?_ ?_ _) | (with_reducible refine Cel.keep (by assumption) ?_) | (with_reducible refine Below.alloc ?_ ?_ _) | (with_reducible refine Below.drew ?_) | (with_reducible refine Below.setCell ?_ ?_ _) | (with_reducible refine below_keep ?_ ?_ (by assumption)) | omega | (simp; done) | (simp; omega))))
  have hB2 := O2.below; have hz2 := O2.size; have hl2 := O2.le; have S2_0 : Cel w2 (w.heap.size) 0 (.int .i64 a) := O2.cels.1; have S2_1 : Cel w2 (w.heap.size) 1 (.int .i64 l) := O2.cels.2.1; have S2_2 : Cel w2 (w.heap.size) 2 (.int .i64 u) := O2.cels.2.2.1; have S2_3 : Cel w2 (w.heap.size) 3 (.int .i64 d) := O2.cels.2.2.2.1
  clear O1 S1_0 S1_1 S1_2 S1_3
  go_wp2_with fail
  refine (gap_any a l u d r _).mono ?_
  rintro e w3 ⟨rfl, hb3⟩
  have hs3 := hb3.size; (try simp at hs3)
  have O3 : Own w (w2.heap.size + 1) w3 [] := (by (repeat' (first | (with_reducible assumption) | (with_reducible exact Below.refl _ _) | (with_reducible exact Cels.nil _) | (with_reducible refine Cels.cons ?_ ?_) | (with_reducible refine Own.mk ?_ ?_ ?_ ?_) | ((with_reducible refine Cel.new ?_ rfl); first | (with_reducible rfl) | omega | (simp; done) | (simp; omega)) | (with_reducible refine Cel.alloc ?_ _) | (with_reducible refine Cel.drew ?_) | (with_reducible refine Cel.setS ?_ _) | (with_reducible refine Has.set ?_ _ _) | (with_reducible exact Has.of (by assumption)) | (with_reducible refine Cel.setO ?_ ?_ _) | (with_reducible refine Cel.keep (by assumption) ?_) | (with_reducible refine Below.alloc ?_ ?_ _) | (with_reducible refine Below.drew ?_) | (with_reducible refine Below.setCell ?_ ?_ _) | (with_reducible refine below_keep ?_ ?_ (by assumption)) | omega | (simp; done) | (simp; omega))))
  have hB3 := O3.below; have hz3 := O3.size; have hl3 := O3.le
  clear O2 S2_0 S2_1 S2_2 S2_3
  go_wp2
  all_goals first
    | (exfalso; omega)
    | (go_ret; exact ⟨rb (by first | rfl | (simp; done) | (rw [beq_iff_eq, Bool.eq_iff_iff]; simp; omega) | (simp; omega)), by (repeat' (first | (with_reducible assumption) | (with_reducible exact Below.refl _ _) | (with_reducible exact Cels.nil _) | (with_reducible refine Cels.cons ?_ ?_) | (with_reducible refine Own.mk ?_ ?_ ?_ ?_) | ((with_reducible refine Cel.new ?_ rfl); first | (with_reducible rfl) | omega | (simp; done) | (simp; omega)) | (with_reducible refine Cel.alloc ?_ _) | (with_reducible refine Cel.drew ?_) | (with_reducible refine Cel.setS ?_ _) | (with_reducible refine Has.set ?_ _ _) | (with_reducible exact Has.of (by assumption)) | (with_reducible refine Cel.setO ?_ ?_ _) | (with_reducible refine Cel.keep (by assumption) ?_) | (with_reducible refine Below.alloc ?_ ?_ _) | (with_reducible refine Below.drew ?_) | (with_reducible refine Below.setCell ?_ ?_ _) | (with_reducible refine below_keep ?_ ?_ (by assumption)) | omega | (simp; done) | (simp; omega)))⟩)

set_option maxRecDepth 100000 in
set_option maxHeartbeats 4000000 in
theorem law2_e4 (a l u d r s : Int) (w : World) (hE : tE a l u d r = 4) (hg : gV a l u d r = 0) : Calls Try.prog 4 #[ck a l u d, .int .i64 r, .int .i64 s] w fun e w' => e = .returned (.bool true) ∧ Below w.heap.size w w' := by
  go_enter Try.func4, Try.ntmps4
  go_wp2_with fail
  refine (head_any _).mono ?_
  rintro e w1 ⟨rfl, hb1⟩
  have hs1 := hb1.size; (try simp at hs1)
  have O1 : Own w (w.heap.size + 1) w1 [(w.heap.size, 0, .int .i64 a), (w.heap.size, 1, .int .i64 l), (w.heap.size, 2, .int .i64 u), (w.heap.size, 3, .int .i64 d)] := (by (repeat' (first | (with_reducible assumption) | (with_reducible exact Below.refl _ _) | (with_reducible exact Cels.nil _) | (with_reducible refine Cels.cons ?_ ?_) | (with_reducible refine Own.mk ?_ ?_ ?_ ?_) | ((with_reducible refine Cel.new ?_ rfl); first | (with_reducible rfl) | omega | (simp; done) | (simp; omega)) | (with_reducible refine Cel.alloc ?_ _) | (with_reducible refine Cel.drew ?_) | (with_reducible refine Cel.setS ?_ _) | (with_reducible refine Has.set ?_ _ _) | (with_reducible exact Has.of (by assumption)) | (with_reducible refine Cel.setO ?_ ?_ _) | (with_reducible refine Cel.keep (by assumption) ?_) | (with_reducible refine Below.alloc ?_ ?_ _) | (with_reducible refine Below.drew ?_) | (with_reducible refine Below.setCell ?_ ?_ _) | (with_reducible refine below_keep ?_ ?_ (by assumption)) | omega | (simp; done) | (simp; omega))))
  have hB1 := O1.below; have hz1 := O1.size; have hl1 := O1.le; have S1_0 : Cel w1 (w.heap.size) 0 (.int .i64 a) := O1.cels.1; have S1_1 : Cel w1 (w.heap.size) 1 (.int .i64 l) := O1.cels.2.1; have S1_2 : Cel w1 (w.heap.size) 2 (.int .i64 u) := O1.cels.2.2.1; have S1_3 : Cel w1 (w.heap.size) 3 (.int .i64 d) := O1.cels.2.2.2.1
  go_wp2_with fail
  refine (true_any a l u d r _).mono ?_
  rintro e w2 ⟨rfl, hb2⟩
  have hs2 := hb2.size; (try simp at hs2)
  have O2 : Own w (w.heap.size + 1) w2 [(w.heap.size, 0, .int .i64 a), (w.heap.size, 1, .int .i64 l), (w.heap.size, 2, .int .i64 u), (w.heap.size, 3, .int .i64 d)] := (by (repeat' (first | (with_reducible assumption) | (with_reducible exact Below.refl _ _) | (with_reducible exact Cels.nil _) | (with_reducible refine Cels.cons ?_ ?_) | (with_reducible refine Own.mk ?_ ?_ ?_ ?_) | ((with_reducible refine Cel.new ?_ rfl); first | (with_reducible rfl) | omega | (simp; done) | (simp; omega)) | (with_reducible refine Cel.alloc ?_ _) | (with_reducible refine Cel.drew ?_) | (with_reducible refine Cel.setS ?_ _) | (with_reducible refine Has.set ?_ _ _) | (with_reducible exact Has.of (by assumption)) | (with_reducible refine Cel.setO ?_ ?_ _) | (with_reducible refine Cel.keep (by assumption) ?_) | (with_reducible refine Below.alloc ?_ ?_ _) | (with_reducible refine Below.drew ?_) | (with_reducible refine Below.setCell ?_ ?_ _) | (with_reducible refine below_keep ?_ ?_ (by assumption)) | omega | (simp; done) | (simp; omega))))
  have hB2 := O2.below; have hz2 := O2.size; have hl2 := O2.le; have S2_0 : Cel w2 (w.heap.size) 0 (.int .i64 a) := O2.cels.1; have S2_1 : Cel w2 (w.heap.size) 1 (.int .i64 l) := O2.cels.2.1; have S2_2 : Cel w2 (w.heap.size) 2 (.int .i64 u) := O2.cels.2.2.1; have S2_3 : Cel w2 (w.heap.size) 3 (.int .i64 d) := O2.cels.2.2.2.1
  clear O1 S1_0 S1_1 S1_2 S1_3
  go_wp2_with fail
  refine (gap_any a l u d r _).mono ?_
  rintro e w3 ⟨rfl, hb3⟩
  have hs3 := hb3.size; (try simp at hs3)
  have O3 : Own w (w2.heap.size + 1) w3 [] := (by (repeat' (first | (with_reducible assumption) | (with_reducible exact Below.refl _ _) | (with_reducible exact Cels.nil _) | (with_reducible refine Cels.cons ?_ ?_) | (with_reducible refine Own.mk ?_ ?_ ?_ ?_) | ((with_reducible refine Cel.new ?_ rfl); first | (with_reducible rfl) | omega | (simp; done) | (simp; omega)) | (with_reducible refine Cel.alloc ?_ _) | (with_reducible refine Cel.drew ?_) | (with_reducible refine Cel.setS ?_ _) | (with_reducible refine Has.set ?_ _ _) | (with_reducible exact Has.of (by assumption)) | (with_reducible refine Cel.setO ?_ ?_ _) | (with_reducible refine Cel.keep (by assumption) ?_) | (with_reducible refine Below.alloc ?_ ?_ _) | (with_reducible refine Below.drew ?_) | (with_reducible refine Below.setCell ?_ ?_ _) | (with_reducible refine below_keep ?_ ?_ (by assumption)) | omega | (simp; done) | (simp; omega))))
  have hB3 := O3.below; have hz3 := O3.size; have hl3 := O3.le
  clear O2 S2_0 S2_1 S2_2 S2_3
  go_wp2
  all_goals first
    | (exfalso; omega)
    | (go_ret; exact ⟨rb (by first | rfl | (simp; done) | (rw [beq_iff_eq, Bool.eq_iff_iff]; simp; omega) | (simp; omega)), by (repeat' (first | (with_reducible assumption) | (with_reducible exact Below.refl _ _) | (with_reducible exact Cels.nil _) | (with_reducible refine Cels.cons ?_ ?_) | (with_reducible refine Own.mk ?_ ?_ ?_ ?_) | ((with_reducible refine Cel.new ?_ rfl); first | (with_reducible rfl) | omega | (simp; done) | (simp; omega)) | (with_reducible refine Cel.alloc ?_ _) | (with_reducible refine Cel.drew ?_) | (with_reducible refine Cel.setS ?_ _) | (with_reducible refine Has.set ?_ _ _) | (with_reducible exact Has.of (by assumption)) | (with_reducible refine Cel.setO ?_ ?_ _) | (with_reducible refine Cel.keep (by assumption) ?_) | (with_reducible refine Below.alloc ?_ ?_ _) | (with_reducible refine Below.drew ?_) | (with_reducible refine Below.setCell ?_ ?_ _) | (with_reducible refine below_keep ?_ ?_ (by assumption)) | omega | (simp; done) | (simp; omega)))⟩)

set_option maxRecDepth 100000 in
set_option maxHeartbeats 4000000 in
theorem law2_0lt (a l u d r s : Int) (w : World) (hE : tE a l u d r = 0) (hg : gV a l u d r = tHi a l u d r - tLo a l u d r + 1) (hs : tE a l u d s = 0) (ho : s < r) : Calls Try.prog 4 #[ck a l u d, .int .i64 r, .int .i64 s] w fun e w' => e = .returned (.bool true) ∧ Below w.heap.size w w' := by
  obtain ⟨b1, b2, b3, b4, b5⟩ := t_bd a l u d r
  go_enter Try.func4, Try.ntmps4
  go_wp2_with fail
  refine (head_any _).mono ?_
  rintro e w1 ⟨rfl, hb1⟩
  have hs1 := hb1.size; (try simp at hs1)
  have O1 : Own w (w.heap.size + 1) w1 [(w.heap.size, 0, .int .i64 a), (w.heap.size, 1, .int .i64 l), (w.heap.size, 2, .int .i64 u), (w.heap.size, 3, .int .i64 d)] := (by (repeat' (first | (with_reducible assumption) | (with_reducible exact Below.refl _ _) | (with_reducible exact Cels.nil _) | (with_reducible refine Cels.cons ?_ ?_) | (with_reducible refine Own.mk ?_ ?_ ?_ ?_) | ((with_reducible refine Cel.new ?_ rfl); first | (with_reducible rfl) | omega | (simp; done) | (simp; omega)) | (with_reducible refine Cel.alloc ?_ _) | (with_reducible refine Cel.drew ?_) | (with_reducible refine Cel.setS ?_ _) | (with_reducible refine Has.set ?_ _ _) | (with_reducible exact Has.of (by assumption)) | (with_reducible refine Cel.setO ?_ ?_ _) | (with_reducible refine Cel.keep (by assumption) ?_) | (with_reducible refine Below.alloc ?_ ?_ _) | (with_reducible refine Below.drew ?_) | (with_reducible refine Below.setCell ?_ ?_ _) | (with_reducible refine below_keep ?_ ?_ (by assumption)) | omega | (simp; done) | (simp; omega))))
  have hB1 := O1.below; have hz1 := O1.size; have hl1 := O1.le; have S1_0 : Cel w1 (w.heap.size) 0 (.int .i64 a) := O1.cels.1; have S1_1 : Cel w1 (w.heap.size) 1 (.int .i64 l) := O1.cels.2.1; have S1_2 : Cel w1 (w.heap.size) 2 (.int .i64 u) := O1.cels.2.2.1; have S1_3 : Cel w1 (w.heap.size) 3 (.int .i64 d) := O1.cels.2.2.2.1
  go_wp2_with fail
  refine (true_any a l u d r _).mono ?_
  rintro e w2 ⟨rfl, hb2⟩
  have hs2 := hb2.size; (try simp at hs2)
  have O2 : Own w (w.heap.size + 1) w2 [(w.heap.size, 0, .int .i64 a), (w.heap.size, 1, .int .i64 l), (w.heap.size, 2, .int .i64 u), (w.heap.size, 3, .int .i64 d)] := (by (repeat' (first | (with_reducible assumption) | (with_reducible exact Below.refl _ _) | (with_reducible exact Cels.nil _) | (with_reducible refine Cels.cons ?_ ?_) | (with_reducible refine Own.mk ?_ ?_ ?_ ?_) | ((with_reducible refine Cel.new ?_ rfl); first | (with_reducible rfl) | omega | (simp; done) | (simp; omega)) | (with_reducible refine Cel.alloc ?_ _) | (with_reducible refine Cel.drew ?_) | (with_reducible refine Cel.setS ?_ _) | (with_reducible refine Has.set ?_ _ _) | (with_reducible exact Has.of (by assumption)) | (with_reducible refine Cel.setO ?_ ?_ _) | (with_reducible refine Cel.keep (by assumption) ?_) | (with_reducible refine Below.alloc ?_ ?_ _) | (with_reducible refine Below.drew ?_) | (with_reducible refine Below.setCell ?_ ?_ _) | (with_reducible refine below_keep ?_ ?_ (by assumption)) | omega | (simp; done) | (simp; omega))))
  have hB2 := O2.below; have hz2 := O2.size; have hl2 := O2.le; have S2_0 : Cel w2 (w.heap.size) 0 (.int .i64 a) := O2.cels.1; have S2_1 : Cel w2 (w.heap.size) 1 (.int .i64 l) := O2.cels.2.1; have S2_2 : Cel w2 (w.heap.size) 2 (.int .i64 u) := O2.cels.2.2.1; have S2_3 : Cel w2 (w.heap.size) 3 (.int .i64 d) := O2.cels.2.2.2.1
  clear O1 S1_0 S1_1 S1_2 S1_3
  go_wp2_with fail
  refine (gap_any a l u d r _).mono ?_
  rintro e w3 ⟨rfl, hb3⟩
  have hs3 := hb3.size; (try simp at hs3)
  have O3 : Own w (w2.heap.size + 1) w3 [(w.heap.size, 0, .int .i64 a), (w.heap.size, 1, .int .i64 l), (w.heap.size, 2, .int .i64 u), (w.heap.size, 3, .int .i64 d), (w2.heap.size, 0, .int .i64 (tLo a l u d r)), (w2.heap.size, 1, .int .i64 (tHi a l u d r))] := (by (repeat' (first | (with_reducible assumption) | (with_reducible exact Below.refl _ _) | (with_reducible exact Cels.nil _) | (with_reducible refine Cels.cons ?_ ?_) | (with_reducible refine Own.mk ?_ ?_ ?_ ?_) | ((with_reducible refine Cel.new ?_ rfl); first | (with_reducible rfl) | omega | (simp; done) | (simp; omega)) | (with_reducible refine Cel.alloc ?_ _) | (with_reducible refine Cel.drew ?_) | (with_reducible refine Cel.setS ?_ _) | (with_reducible refine Has.set ?_ _ _) | (with_reducible exact Has.of (by assumption)) | (with_reducible refine Cel.setO ?_ ?_ _) | (with_reducible refine Cel.keep (by assumption) ?_) | (with_reducible refine Below.alloc ?_ ?_ _) | (with_reducible refine Below.drew ?_) | (with_reducible refine Below.setCell ?_ ?_ _) | (with_reducible refine below_keep ?_ ?_ (by assumption)) | omega | (simp; done) | (simp; omega))))
  have hB3 := O3.below; have hz3 := O3.size; have hl3 := O3.le; have S3_0 : Cel w3 (w.heap.size) 0 (.int .i64 a) := O3.cels.1; have S3_1 : Cel w3 (w.heap.size) 1 (.int .i64 l) := O3.cels.2.1; have S3_2 : Cel w3 (w.heap.size) 2 (.int .i64 u) := O3.cels.2.2.1; have S3_3 : Cel w3 (w.heap.size) 3 (.int .i64 d) := O3.cels.2.2.2.1; have S3_4 : Cel w3 (w2.heap.size) 0 (.int .i64 (tLo a l u d r)) := O3.cels.2.2.2.2.1; have S3_5 : Cel w3 (w2.heap.size) 1 (.int .i64 (tHi a l u d r)) := O3.cels.2.2.2.2.2.1
  clear O2 S2_0 S2_1 S2_2 S2_3
  go_wp2_with fail
  refine (true_any a l u d s _).mono ?_
  rintro e w4 ⟨rfl, hb4⟩
  have hs4 := hb4.size; (try simp at hs4)
  have O4 : Own w (w2.heap.size + 1) w4 [(w2.heap.size, 0, .int .i64 (tLo a l u d r)), (w2.heap.size, 1, .int .i64 (tHi a l u d r))] := (by (repeat' (first | (with_reducible assumption) | (with_reducible exact Below.refl _ _) | (with_reducible exact Cels.nil _) | (with_reducible refine Cels.cons ?_ ?_) | (with_reducible refine Own.mk ?_ ?_ ?_ ?_) | ((with_reducible refine Cel.new ?_ rfl); first | (with_reducible rfl) | omega | (simp; done) | (simp; omega)) | (with_reducible refine Cel.alloc ?_ _) | (with_reducible refine Cel.drew ?_) | (with_reducible refine Cel.setS ?_ _) | (with_reducible refine Has.set ?_ _ _) | (with_reducible exact Has.of (by assumption)) | (with_reducible refine Cel.setO ?_ ?_ _) | (with_reducible refine Cel.keep (by assumption) ?_) | (with_reducible refine Below.alloc ?_ ?_ _) | (with_reducible refine Below.drew ?_) | (with_reducible refine Below.setCell ?_ ?_ _) | (with_reducible refine below_keep ?_ ?_ (by assumption)) | omega | (simp; done) | (simp; omega))))
  have hB4 := O4.below; have hz4 := O4.size; have hl4 := O4.le; have S4_0 : Cel w4 (w2.heap.size) 0 (.int .i64 (tLo a l u d r)) := O4.cels.1; have S4_1 : Cel w4 (w2.heap.size) 1 (.int .i64 (tHi a l u d r)) := O4.cels.2.1
  clear O3 S3_0 S3_1 S3_2 S3_3 S3_4 S3_5
  go_wp2
  all_goals first
    | (exfalso; omega)
    | (go_ret; exact ⟨rb (by first | rfl | (simp; done) | (rw [beq_iff_eq, Bool.eq_iff_iff]; simp; omega) | (simp; omega)), by (repeat' (first | (with_reducible assumption) | (with_reducible exact Below.refl _ _) | (with_reducible exact Cels.nil _) | (with_reducible refine Cels.cons ?_ ?_) | (with_reducible refine Own.mk ?_ ?_ ?_ ?_) | ((with_reducible refine Cel.new ?_ rfl); first | (with_reducible rfl) | omega | (simp; done) | (simp; omega)) | (with_reducible refine Cel.alloc ?_ _) | (with_reducible refine Cel.drew ?_) | (with_reducible refine Cel.setS ?_ _) | (with_reducible refine Has.set ?_ _ _) | (with_reducible exact Has.of (by assumption)) | (with_reducible refine Cel.setO ?_ ?_ _) | (with_reducible refine Cel.keep (by assumption) ?_) | (with_reducible refine Below.alloc ?_ ?_ _) | (with_reducible refine Below.drew ?_) | (with_reducible refine Below.setCell ?_ ?_ _) | (with_reducible refine below_keep ?_ ?_ (by assumption)) | omega | (simp; done) | (simp; omega)))⟩)

set_option maxRecDepth 100000 in
set_option maxHeartbeats 4000000 in
theorem law2_0ge (a l u d r s : Int) (w : World) (hE : tE a l u d r = 0) (hg : gV a l u d r = tHi a l u d r - tLo a l u d r + 1) (hs : tE a l u d s = 0) (ho : r ≤ s) (m1 : tLo a l u d r ≤ tLo a l u d s) (m2 : tHi a l u d r ≤ tHi a l u d s) : Calls Try.prog 4 #[ck a l u d, .int .i64 r, .int .i64 s] w fun e w' => e = .returned (.bool true) ∧ Below w.heap.size w w' := by
  obtain ⟨b1, b2, b3, b4, b5⟩ := t_bd a l u d r
  go_enter Try.func4, Try.ntmps4
  go_wp2_with fail
  refine (head_any _).mono ?_
  rintro e w1 ⟨rfl, hb1⟩
  have hs1 := hb1.size; (try simp at hs1)
  have O1 : Own w (w.heap.size + 1) w1 [(w.heap.size, 0, .int .i64 a), (w.heap.size, 1, .int .i64 l), (w.heap.size, 2, .int .i64 u), (w.heap.size, 3, .int .i64 d)] := (by (repeat' (first | (with_reducible assumption) | (with_reducible exact Below.refl _ _) | (with_reducible exact Cels.nil _) | (with_reducible refine Cels.cons ?_ ?_) | (with_reducible refine Own.mk ?_ ?_ ?_ ?_) | ((with_reducible refine Cel.new ?_ rfl); first | (with_reducible rfl) | omega | (simp; done) | (simp; omega)) | (with_reducible refine Cel.alloc ?_ _) | (with_reducible refine Cel.drew ?_) | (with_reducible refine Cel.setS ?_ _) | (with_reducible refine Has.set ?_ _ _) | (with_reducible exact Has.of (by assumption)) | (with_reducible refine Cel.setO ?_ ?_ _) | (with_reducible refine Cel.keep (by assumption) ?_) | (with_reducible refine Below.alloc ?_ ?_ _) | (with_reducible refine Below.drew ?_) | (with_reducible refine Below.setCell ?_ ?_ _) | (with_reducible refine below_keep ?_ ?_ (by assumption)) | omega | (simp; done) | (simp; omega))))
  have hB1 := O1.below; have hz1 := O1.size; have hl1 := O1.le; have S1_0 : Cel w1 (w.heap.size) 0 (.int .i64 a) := O1.cels.1; have S1_1 : Cel w1 (w.heap.size) 1 (.int .i64 l) := O1.cels.2.1; have S1_2 : Cel w1 (w.heap.size) 2 (.int .i64 u) := O1.cels.2.2.1; have S1_3 : Cel w1 (w.heap.size) 3 (.int .i64 d) := O1.cels.2.2.2.1
  go_wp2_with fail
  refine (true_any a l u d r _).mono ?_
  rintro e w2 ⟨rfl, hb2⟩
  have hs2 := hb2.size; (try simp at hs2)
  have O2 : Own w (w.heap.size + 1) w2 [(w.heap.size, 0, .int .i64 a), (w.heap.size, 1, .int .i64 l), (w.heap.size, 2, .int .i64 u), (w.heap.size, 3, .int .i64 d)] := (by (repeat' (first | (with_reducible assumption) | (with_reducible exact Below.refl _ _) | (with_reducible exact Cels.nil _) | (with_reducible refine Cels.cons ?_ ?_) | (with_reducible refine Own.mk ?_ ?_ ?_ ?_) | ((with_reducible refine Cel.new ?_ rfl); first | (with_reducible rfl) | omega | (simp; done) | (simp; omega)) | (with_reducible refine Cel.alloc ?_ _) | (with_reducible refine Cel.drew ?_) | (with_reducible refine Cel.setS ?_ _) | (with_reducible refine Has.set ?_ _ _) | (with_reducible exact Has.of (by assumption)) | (with_reducible refine Cel.setO ?_ ?_ _) | (with_reducible refine Cel.keep (by assumption) ?_) | (with_reducible refine Below.alloc ?_ ?_ _) | (with_reducible refine Below.drew ?_) | (with_reducible refine Below.setCell ?_ ?_ _) | (with_reducible refine below_keep ?_ ?_ (by assumption)) | omega | (simp; done) | (simp; omega))))
  have hB2 := O2.below; have hz2 := O2.size; have hl2 := O2.le; have S2_0 : Cel w2 (w.heap.size) 0 (.int .i64 a) := O2.cels.1; have S2_1 : Cel w2 (w.heap.size) 1 (.int .i64 l) := O2.cels.2.1; have S2_2 : Cel w2 (w.heap.size) 2 (.int .i64 u) := O2.cels.2.2.1; have S2_3 : Cel w2 (w.heap.size) 3 (.int .i64 d) := O2.cels.2.2.2.1
  clear O1 S1_0 S1_1 S1_2 S1_3
  go_wp2_with fail
  refine (gap_any a l u d r _).mono ?_
  rintro e w3 ⟨rfl, hb3⟩
  have hs3 := hb3.size; (try simp at hs3)
  have O3 : Own w (w2.heap.size + 1) w3 [(w.heap.size, 0, .int .i64 a), (w.heap.size, 1, .int .i64 l), (w.heap.size, 2, .int .i64 u), (w.heap.size, 3, .int .i64 d), (w2.heap.size, 0, .int .i64 (tLo a l u d r)), (w2.heap.size, 1, .int .i64 (tHi a l u d r))] := (by (repeat' (first | (with_reducible assumption) | (with_reducible exact Below.refl _ _) | (with_reducible exact Cels.nil _) | (with_reducible refine Cels.cons ?_ ?_) | (with_reducible refine Own.mk ?_ ?_ ?_ ?_) | ((with_reducible refine Cel.new ?_ rfl); first | (with_reducible rfl) | omega | (simp; done) | (simp; omega)) | (with_reducible refine Cel.alloc ?_ _) | (with_reducible refine Cel.drew ?_) | (with_reducible refine Cel.setS ?_ _) | (with_reducible refine Has.set ?_ _ _) | (with_reducible exact Has.of (by assumption)) | (with_reducible refine Cel.setO ?_ ?_ _) | (with_reducible refine Cel.keep (by assumption) ?_) | (with_reducible refine Below.alloc ?_ ?_ _) | (with_reducible refine Below.drew ?_) | (with_reducible refine Below.setCell ?_ ?_ _) | (with_reducible refine below_keep ?_ ?_ (by assumption)) | omega | (simp; done) | (simp; omega))))
  have hB3 := O3.below; have hz3 := O3.size; have hl3 := O3.le; have S3_0 : Cel w3 (w.heap.size) 0 (.int .i64 a) := O3.cels.1; have S3_1 : Cel w3 (w.heap.size) 1 (.int .i64 l) := O3.cels.2.1; have S3_2 : Cel w3 (w.heap.size) 2 (.int .i64 u) := O3.cels.2.2.1; have S3_3 : Cel w3 (w.heap.size) 3 (.int .i64 d) := O3.cels.2.2.2.1; have S3_4 : Cel w3 (w2.heap.size) 0 (.int .i64 (tLo a l u d r)) := O3.cels.2.2.2.2.1; have S3_5 : Cel w3 (w2.heap.size) 1 (.int .i64 (tHi a l u d r)) := O3.cels.2.2.2.2.2.1
  clear O2 S2_0 S2_1 S2_2 S2_3
  go_wp2_with fail
  refine (true_any a l u d s _).mono ?_
  rintro e w4 ⟨rfl, hb4⟩
  have hs4 := hb4.size; (try simp at hs4)
  have O4 : Own w (w2.heap.size + 1) w4 [(w2.heap.size, 0, .int .i64 (tLo a l u d r)), (w2.heap.size, 1, .int .i64 (tHi a l u d r))] := (by (repeat' (first | (with_reducible assumption) | (with_reducible exact Below.refl _ _) | (with_reducible exact Cels.nil _) | (with_reducible refine Cels.cons ?_ ?_) | (with_reducible refine Own.mk ?_ ?_ ?_ ?_) | ((with_reducible refine Cel.new ?_ rfl); first | (with_reducible rfl) | omega | (simp; done) | (simp; omega)) | (with_reducible refine Cel.alloc ?_ _) | (with_reducible refine Cel.drew ?_) | (with_reducible refine Cel.setS ?_ _) | (with_reducible refine Has.set ?_ _ _) | (with_reducible exact Has.of (by assumption)) | (with_reducible refine Cel.setO ?_ ?_ _) | (with_reducible refine Cel.keep (by assumption) ?_) | (with_reducible refine Below.alloc ?_ ?_ _) | (with_reducible refine Below.drew ?_) | (with_reducible refine Below.setCell ?_ ?_ _) | (with_reducible refine below_keep ?_ ?_ (by assumption)) | omega | (simp; done) | (simp; omega))))
  have hB4 := O4.below; have hz4 := O4.size; have hl4 := O4.le; have S4_0 : Cel w4 (w2.heap.size) 0 (.int .i64 (tLo a l u d r)) := O4.cels.1; have S4_1 : Cel w4 (w2.heap.size) 1 (.int .i64 (tHi a l u d r)) := O4.cels.2.1
  clear O3 S3_0 S3_1 S3_2 S3_3 S3_4 S3_5
  go_wp2
  all_goals first
    | (exfalso; omega)
    | (go_ret; exact ⟨rb (by first | rfl | (simp; done) | (rw [beq_iff_eq, Bool.eq_iff_iff]; simp; omega) | (simp; omega)), by (repeat' (first | (with_reducible assumption) | (with_reducible exact Below.refl _ _) | (with_reducible exact Cels.nil _) | (with_reducible refine Cels.cons ?_ ?_) | (with_reducible refine Own.mk ?_ ?_ ?_ ?_) | ((with_reducible refine Cel.new ?_ rfl); first | (with_reducible rfl) | omega | (simp; done) | (simp; omega)) | (with_reducible refine Cel.alloc ?_ _) | (with_reducible refine Cel.drew ?_) | (with_reducible refine Cel.setS ?_ _) | (with_reducible refine Has.set ?_ _ _) | (with_reducible exact Has.of (by assumption)) | (with_reducible refine Cel.setO ?_ ?_ _) | (with_reducible refine Cel.keep (by assumption) ?_) | (with_reducible refine Below.alloc ?_ ?_ _) | (with_reducible refine Below.drew ?_) | (with_reducible refine Below.setCell ?_ ?_ _) | (with_reducible refine below_keep ?_ ?_ (by assumption)) | omega | (simp; done) | (simp; omega)))⟩)

set_option maxRecDepth 100000 in
set_option maxHeartbeats 4000000 in
theorem law2_1lt (a l u d r s : Int) (w : World) (hE : tE a l u d r = 0) (hg : gV a l u d r = tHi a l u d r - tLo a l u d r + 1) (hs : tE a l u d s = 1) (ho : s < r) : Calls Try.prog 4 #[ck a l u d, .int .i64 r, .int .i64 s] w fun e w' => e = .returned (.bool true) ∧ Below w.heap.size w w' := by
  obtain ⟨b1, b2, b3, b4, b5⟩ := t_bd a l u d r
  go_enter Try.func4, Try.ntmps4
  go_wp2_with fail
  refine (head_any _).mono ?_
  rintro e w1 ⟨rfl, hb1⟩
  have hs1 := hb1.size; (try simp at hs1)
  have O1 : Own w (w.heap.size + 1) w1 [(w.heap.size, 0, .int .i64 a), (w.heap.size, 1, .int .i64 l), (w.heap.size, 2, .int .i64 u), (w.heap.size, 3, .int .i64 d)] := (by (repeat' (first | (with_reducible assumption) | (with_reducible exact Below.refl _ _) | (with_reducible exact Cels.nil _) | (with_reducible refine Cels.cons ?_ ?_) | (with_reducible refine Own.mk ?_ ?_ ?_ ?_) | ((with_reducible refine Cel.new ?_ rfl); first | (with_reducible rfl) | omega | (simp; done) | (simp; omega)) | (with_reducible refine Cel.alloc ?_ _) | (with_reducible refine Cel.drew ?_) | (with_reducible refine Cel.setS ?_ _) | (with_reducible refine Has.set ?_ _ _) | (with_reducible exact Has.of (by assumption)) | (with_reducible refine Cel.setO ?_ ?_ _) | (with_reducible refine Cel.keep (by assumption) ?_) | (with_reducible refine Below.alloc ?_ ?_ _) | (with_reducible refine Below.drew ?_) | (with_reducible refine Below.setCell ?_ ?_ _) | (with_reducible refine below_keep ?_ ?_ (by assumption)) | omega | (simp; done) | (simp; omega))))
  have hB1 := O1.below; have hz1 := O1.size; have hl1 := O1.le; have S1_0 : Cel w1 (w.heap.size) 0 (.int .i64 a) := O1.cels.1; have S1_1 : Cel w1 (w.heap.size) 1 (.int .i64 l) := O1.cels.2.1; have S1_2 : Cel w1 (w.heap.size) 2 (.int .i64 u) := O1.cels.2.2.1; have S1_3 : Cel w1 (w.heap.size) 3 (.int .i64 d) := O1.cels.2.2.2.1
  go_wp2_with fail
  refine (true_any a l u d r _).mono ?_
  rintro e w2 ⟨rfl, hb2⟩
  have hs2 := hb2.size; (try simp at hs2)
  have O2 : Own w (w.heap.size + 1) w2 [(w.heap.size, 0, .int .i64 a), (w.heap.size, 1, .int .i64 l), (w.heap.size, 2, .int .i64 u), (w.heap.size, 3, .int .i64 d)] := (by (repeat' (first | (with_reducible assumption) | (with_reducible exact Below.refl _ _) | (with_reducible exact Cels.nil _) | (with_reducible refine Cels.cons ?_ ?_) | (with_reducible refine Own.mk ?_ ?_ ?_ ?_) | ((with_reducible refine Cel.new ?_ rfl); first | (with_reducible rfl) | omega | (simp; done) | (simp; omega)) | (with_reducible refine Cel.alloc ?_ _) | (with_reducible refine Cel.drew ?_) | (with_reducible refine Cel.setS ?_ _) | (with_reducible refine Has.set ?_ _ _) | (with_reducible exact Has.of (by assumption)) | (with_reducible refine Cel.setO ?_ ?_ _) | (with_reducible refine Cel.keep (by assumption) ?_) | (with_reducible refine Below.alloc ?_ ?_ _) | (with_reducible refine Below.drew ?_) | (with_reducible refine Below.setCell ?_ ?_ _) | (with_reducible refine below_keep ?_ ?_ (by assumption)) | omega | (simp; done) | (simp; omega))))
  have hB2 := O2.below; have hz2 := O2.size; have hl2 := O2.le; have S2_0 : Cel w2 (w.heap.size) 0 (.int .i64 a) := O2.cels.1; have S2_1 : Cel w2 (w.heap.size) 1 (.int .i64 l) := O2.cels.2.1; have S2_2 : Cel w2 (w.heap.size) 2 (.int .i64 u) := O2.cels.2.2.1; have S2_3 : Cel w2 (w.heap.size) 3 (.int .i64 d) := O2.cels.2.2.2.1
  clear O1 S1_0 S1_1 S1_2 S1_3
  go_wp2_with fail
  refine (gap_any a l u d r _).mono ?_
  rintro e w3 ⟨rfl, hb3⟩
  have hs3 := hb3.size; (try simp at hs3)
  have O3 : Own w (w2.heap.size + 1) w3 [(w.heap.size, 0, .int .i64 a), (w.heap.size, 1, .int .i64 l), (w.heap.size, 2, .int .i64 u), (w.heap.size, 3, .int .i64 d), (w2.heap.size, 0, .int .i64 (tLo a l u d r)), (w2.heap.size, 1, .int .i64 (tHi a l u d r))] := (by (repeat' (first | (with_reducible assumption) | (with_reducible exact Below.refl _ _) | (with_reducible exact Cels.nil _) | (with_reducible refine Cels.cons ?_ ?_) | (with_reducible refine Own.mk ?_ ?_ ?_ ?_) | ((with_reducible refine Cel.new ?_ rfl); first | (with_reducible rfl) | omega | (simp; done) | (simp; omega)) | (with_reducible refine Cel.alloc ?_ _) | (with_reducible refine Cel.drew ?_) | (with_reducible refine Cel.setS ?_ _) | (with_reducible refine Has.set ?_ _ _) | (with_reducible exact Has.of (by assumption)) | (with_reducible refine Cel.setO ?_ ?_ _) | (with_reducible refine Cel.keep (by assumption) ?_) | (with_reducible refine Below.alloc ?_ ?_ _) | (with_reducible refine Below.drew ?_) | (with_reducible refine Below.setCell ?_ ?_ _) | (with_reducible refine below_keep ?_ ?_ (by assumption)) | omega | (simp; done) | (simp; omega))))
  have hB3 := O3.below; have hz3 := O3.size; have hl3 := O3.le; have S3_0 : Cel w3 (w.heap.size) 0 (.int .i64 a) := O3.cels.1; have S3_1 : Cel w3 (w.heap.size) 1 (.int .i64 l) := O3.cels.2.1; have S3_2 : Cel w3 (w.heap.size) 2 (.int .i64 u) := O3.cels.2.2.1; have S3_3 : Cel w3 (w.heap.size) 3 (.int .i64 d) := O3.cels.2.2.2.1; have S3_4 : Cel w3 (w2.heap.size) 0 (.int .i64 (tLo a l u d r)) := O3.cels.2.2.2.2.1; have S3_5 : Cel w3 (w2.heap.size) 1 (.int .i64 (tHi a l u d r)) := O3.cels.2.2.2.2.2.1
  clear O2 S2_0 S2_1 S2_2 S2_3
  go_wp2_with fail
  refine (true_any a l u d s _).mono ?_
  rintro e w4 ⟨rfl, hb4⟩
  have hs4 := hb4.size; (try simp at hs4)
  have O4 : Own w (w2.heap.size + 1) w4 [(w2.heap.size, 0, .int .i64 (tLo a l u d r)), (w2.heap.size, 1, .int .i64 (tHi a l u d r))] := (by (repeat' (first | (with_reducible assumption) | (with_reducible exact Below.refl _ _) | (with_reducible exact Cels.nil _) | (with_reducible refine Cels.cons ?_ ?_) | (with_reducible refine Own.mk ?_ ?_ ?_ ?_) | ((with_reducible refine Cel.new ?_ rfl); first | (with_reducible rfl) | omega | (simp; done) | (simp; omega)) | (with_reducible refine Cel.alloc ?_ _) | (with_reducible refine Cel.drew ?_) | (with_reducible refine Cel.setS ?_ _) | (with_reducible refine Has.set ?_ _ _) | (with_reducible exact Has.of (by assumption)) | (with_reducible refine Cel.setO ?_ ?_ _) | (with_reducible refine Cel.keep (by assumption) ?_) | (with_reducible refine Below.alloc ?_ ?_ _) | (with_reducible refine Below.drew ?_) | (with_reducible refine Below.setCell ?_ ?_ _) | (with_reducible refine below_keep ?_ ?_ (by assumption)) | omega | (simp; done) | (simp; omega))))
  have hB4 := O4.below; have hz4 := O4.size; have hl4 := O4.le; have S4_0 : Cel w4 (w2.heap.size) 0 (.int .i64 (tLo a l u d r)) := O4.cels.1; have S4_1 : Cel w4 (w2.heap.size) 1 (.int .i64 (tHi a l u d r)) := O4.cels.2.1
  clear O3 S3_0 S3_1 S3_2 S3_3 S3_4 S3_5
  go_wp2
  all_goals first
    | (exfalso; omega)
    | (go_ret; exact ⟨rb (by first | rfl | (simp; done) | (rw [beq_iff_eq, Bool.eq_iff_iff]; simp; omega) | (simp; omega)), by (repeat' (first | (with_reducible assumption) | (with_reducible exact Below.refl _ _) | (with_reducible exact Cels.nil _) | (with_reducible refine Cels.cons ?_ ?_) | (with_reducible refine Own.mk ?_ ?_ ?_ ?_) | ((with_reducible refine Cel.new ?_ rfl); first | (with_reducible rfl) | omega | (simp; done) | (simp; omega)) | (with_reducible refine Cel.alloc ?_ _) | (with_reducible refine Cel.drew ?_) | (with_reducible refine Cel.setS ?_ _) | (with_reducible refine Has.set ?_ _ _) | (with_reducible exact Has.of (by assumption)) | (with_reducible refine Cel.setO ?_ ?_ _) | (with_reducible refine Cel.keep (by assumption) ?_) | (with_reducible refine Below.alloc ?_ ?_ _) | (with_reducible refine Below.drew ?_) | (with_reducible refine Below.setCell ?_ ?_ _) | (with_reducible refine below_keep ?_ ?_ (by assumption)) | omega | (simp; done) | (simp; omega)))⟩)

set_option maxRecDepth 100000 in
set_option maxHeartbeats 4000000 in
theorem law2_1ge (a l u d r s : Int) (w : World) (hE : tE a l u d r = 0) (hg : gV a l u d r = tHi a l u d r - tLo a l u d r + 1) (hs : tE a l u d s = 1) (ho : r ≤ s) : Calls Try.prog 4 #[ck a l u d, .int .i64 r, .int .i64 s] w fun e w' => e = .returned (.bool true) ∧ Below w.heap.size w w' := by
  obtain ⟨b1, b2, b3, b4, b5⟩ := t_bd a l u d r
  go_enter Try.func4, Try.ntmps4
  go_wp2_with fail
  refine (head_any _).mono ?_
  rintro e w1 ⟨rfl, hb1⟩
  have hs1 := hb1.size; (try simp at hs1)
  have O1 : Own w (w.heap.size + 1) w1 [(w.heap.size, 0, .int .i64 a), (w.heap.size, 1, .int .i64 l), (w.heap.size, 2, .int .i64 u), (w.heap.size, 3, .int .i64 d)] := (by (repeat' (first | (with_reducible assumption) | (with_reducible exact Below.refl _ _) | (with_reducible exact Cels.nil _) | (with_reducible refine Cels.cons ?_ ?_) | (with_reducible refine Own.mk ?_ ?_ ?_ ?_) | ((with_reducible refine Cel.new ?_ rfl); first | (with_reducible rfl) | omega | (simp; done) | (simp; omega)) | (with_reducible refine Cel.alloc ?_ _) | (with_reducible refine Cel.drew ?_) | (with_reducible refine Cel.setS ?_ _) | (with_reducible refine Has.set ?_ _ _) | (with_reducible exact Has.of (by assumption)) | (with_reducible refine Cel.setO ?_ ?_ _) | (with_reducible refine Cel.keep (by assumption) ?_) | (with_reducible refine Below.alloc ?_ ?_ _) | (with_reducible refine Below.drew ?_) | (with_reducible refine Below.setCell ?_ ?_ _) | (with_reducible refine below_keep ?_ ?_ (by assumption)) | omega | (simp; done) | (simp; omega))))
  have hB1 := O1.below; have hz1 := O1.size; have hl1 := O1.le; have S1_0 : Cel w1 (w.heap.size) 0 (.int .i64 a) := O1.cels.1; have S1_1 : Cel w1 (w.heap.size) 1 (.int .i64 l) := O1.cels.2.1; have S1_2 : Cel w1 (w.heap.size) 2 (.int .i64 u) := O1.cels.2.2.1; have S1_3 : Cel w1 (w.heap.size) 3 (.int .i64 d) := O1.cels.2.2.2.1
  go_wp2_with fail
  refine (true_any a l u d r _).mono ?_
  rintro e w2 ⟨rfl, hb2⟩
  have hs2 := hb2.size; (try simp at hs2)
  have O2 : Own w (w.heap.size + 1) w2 [(w.heap.size, 0, .int .i64 a), (w.heap.size, 1, .int .i64 l), (w.heap.size, 2, .int .i64 u), (w.heap.size, 3, .int .i64 d)] := (by (repeat' (first | (with_reducible assumption) | (with_reducible exact Below.refl _ _) | (with_reducible exact Cels.nil _) | (with_reducible refine Cels.cons ?_ ?_) | (with_reducible refine Own.mk ?_ ?_ ?_ ?_) | ((with_reducible refine Cel.new ?_ rfl); first | (with_reducible rfl) | omega | (simp; done) | (simp; omega)) | (with_reducible refine Cel.alloc ?_ _) | (with_reducible refine Cel.drew ?_) | (with_reducible refine Cel.setS ?_ _) | (with_reducible refine Has.set ?_ _ _) | (with_reducible exact Has.of (by assumption)) | (with_reducible refine Cel.setO ?_ ?_ _) | (with_reducible refine Cel.keep (by assumption) ?_) | (with_reducible refine Below.alloc ?_ ?_ _) | (with_reducible refine Below.drew ?_) | (with_reducible refine Below.setCell ?_ ?_ _) | (with_reducible refine below_keep ?_ ?_ (by assumption)) | omega | (simp; done) | (simp; omega))))
  have hB2 := O2.below; have hz2 := O2.size; have hl2 := O2.le; have S2_0 : Cel w2 (w.heap.size) 0 (.int .i64 a) := O2.cels.1; have S2_1 : Cel w2 (w.heap.size) 1 (.int .i64 l) := O2.cels.2.1; have S2_2 : Cel w2 (w.heap.size) 2 (.int .i64 u) := O2.cels.2.2.1; have S2_3 : Cel w2 (w.heap.size) 3 (.int .i64 d) := O2.cels.2.2.2.1
  clear O1 S1_0 S1_1 S1_2 S1_3
  go_wp2_with fail
  refine (gap_any a l u d r _).mono ?_
  rintro e w3 ⟨rfl, hb3⟩
  have hs3 := hb3.size; (try simp at hs3)
  have O3 : Own w (w2.heap.size + 1) w3 [(w.heap.size, 0, .int .i64 a), (w.heap.size, 1, .int .i64 l), (w.heap.size, 2, .int .i64 u), (w.heap.size, 3, .int .i64 d), (w2.heap.size, 0, .int .i64 (tLo a l u d r)), (w2.heap.size, 1, .int .i64 (tHi a l u d r))] := (by (repeat' (first | (with_reducible assumption) | (with_reducible exact Below.refl _ _) | (with_reducible exact Cels.nil _) | (with_reducible refine Cels.cons ?_ ?_) | (with_reducible refine Own.mk ?_ ?_ ?_ ?_) | ((with_reducible refine Cel.new ?_ rfl); first | (with_reducible rfl) | omega | (simp; done) | (simp; omega)) | (with_reducible refine Cel.alloc ?_ _) | (with_reducible refine Cel.drew ?_) | (with_reducible refine Cel.setS ?_ _) | (with_reducible refine Has.set ?_ _ _) | (with_reducible exact Has.of (by assumption)) | (with_reducible refine Cel.setO ?_ ?_ _) | (with_reducible refine Cel.keep (by assumption) ?_) | (with_reducible refine Below.alloc ?_ ?_ _) | (with_reducible refine Below.drew ?_) | (with_reducible refine Below.setCell ?_ ?_ _) | (with_reducible refine below_keep ?_ ?_ (by assumption)) | omega | (simp; done) | (simp; omega))))
  have hB3 := O3.below; have hz3 := O3.size; have hl3 := O3.le; have S3_0 : Cel w3 (w.heap.size) 0 (.int .i64 a) := O3.cels.1; have S3_1 : Cel w3 (w.heap.size) 1 (.int .i64 l) := O3.cels.2.1; have S3_2 : Cel w3 (w.heap.size) 2 (.int .i64 u) := O3.cels.2.2.1; have S3_3 : Cel w3 (w.heap.size) 3 (.int .i64 d) := O3.cels.2.2.2.1; have S3_4 : Cel w3 (w2.heap.size) 0 (.int .i64 (tLo a l u d r)) := O3.cels.2.2.2.2.1; have S3_5 : Cel w3 (w2.heap.size) 1 (.int .i64 (tHi a l u d r)) := O3.cels.2.2.2.2.2.1
  clear O2 S2_0 S2_1 S2_2 S2_3
  go_wp2_with fail
  refine (true_any a l u d s _).mono ?_
  rintro e w4 ⟨rfl, hb4⟩
  have hs4 := hb4.size; (try simp at hs4)
  have O4 : Own w (w2.heap.size + 1) w4 [(w2.heap.size, 0, .int .i64 (tLo a l u d r)), (w2.heap.size, 1, .int .i64 (tHi a l u d r))] := (by (repeat' (first | (with_reducible assumption) | (with_reducible exact Below.refl _ _) | (with_reducible exact Cels.nil _) | (with_reducible refine Cels.cons ?_ ?_) | (with_reducible refine Own.mk ?_ ?_ ?_ ?_) | ((with_reducible refine Cel.new ?_ rfl); first | (with_reducible rfl) | omega | (simp; done) | (simp; omega)) | (with_reducible refine Cel.alloc ?_ _) | (with_reducible refine Cel.drew ?_) | (with_reducible refine Cel.setS ?_ _) | (with_reducible refine Has.set ?_ _ _) | (with_reducible exact Has.of (by assumption)) | (with_reducible refine Cel.setO ?_ ?_ _) | (with_reducible refine Cel.keep (by assumption) ?_) | (with_reducible refine Below.alloc ?_ ?_ _) | (with_reducible refine Below.drew ?_) | (with_reducible refine Below.setCell ?_ ?_ _) | (with_reducible refine below_keep ?_ ?_ (by assumption)) | omega | (simp; done) | (simp; omega))))
  have hB4 := O4.below; have hz4 := O4.size; have hl4 := O4.le; have S4_0 : Cel w4 (w2.heap.size) 0 (.int .i64 (tLo a l u d r)) := O4.cels.1; have S4_1 : Cel w4 (w2.heap.size) 1 (.int .i64 (tHi a l u d r)) := O4.cels.2.1
  clear O3 S3_0 S3_1 S3_2 S3_3 S3_4 S3_5
  go_wp2
  all_goals first
    | (exfalso; omega)
    | (go_ret; exact ⟨rb (by first | rfl | (simp; done) | (rw [beq_iff_eq, Bool.eq_iff_iff]; simp; omega) | (simp; omega)), by (repeat' (first | (with_reducible assumption) | (with_reducible exact Below.refl _ _) | (with_reducible exact Cels.nil _) | (with_reducible refine Cels.cons ?_ ?_) | (with_reducible refine Own.mk ?_ ?_ ?_ ?_) | ((with_reducible refine Cel.new ?_ rfl); first | (with_reducible rfl) | omega | (simp; done) | (simp; omega)) | (with_reducible refine Cel.alloc ?_ _) | (with_reducible refine Cel.drew ?_) | (with_reducible refine Cel.setS ?_ _) | (with_reducible refine Has.set ?_ _ _) | (with_reducible exact Has.of (by assumption)) | (with_reducible refine Cel.setO ?_ ?_ _) | (with_reducible refine Cel.keep (by assumption) ?_) | (with_reducible refine Below.alloc ?_ ?_ _) | (with_reducible refine Below.drew ?_) | (with_reducible refine Below.setCell ?_ ?_ _) | (with_reducible refine below_keep ?_ ?_ (by assumption)) | omega | (simp; done) | (simp; omega)))⟩)

set_option maxRecDepth 100000 in
set_option maxHeartbeats 4000000 in
theorem law2_4lt (a l u d r s : Int) (w : World) (hE : tE a l u d r = 0) (hg : gV a l u d r = tHi a l u d r - tLo a l u d r + 1) (hs : tE a l u d s = 4) (ho : s < r) : Calls Try.prog 4 #[ck a l u d, .int .i64 r, .int .i64 s] w fun e w' => e = .returned (.bool true) ∧ Below w.heap.size w w' := by
  obtain ⟨b1, b2, b3, b4, b5⟩ := t_bd a l u d r
  go_enter Try.func4, Try.ntmps4
  go_wp2_with fail
  refine (head_any _).mono ?_
  rintro e w1 ⟨rfl, hb1⟩
  have hs1 := hb1.size; (try simp at hs1)
  have O1 : Own w (w.heap.size + 1) w1 [(w.heap.size, 0, .int .i64 a), (w.heap.size, 1, .int .i64 l), (w.heap.size, 2, .int .i64 u), (w.heap.size, 3, .int .i64 d)] := (by (repeat' (first | (with_reducible assumption) | (with_reducible exact Below.refl _ _) | (with_reducible exact Cels.nil _) | (with_reducible refine Cels.cons ?_ ?_) | (with_reducible refine Own.mk ?_ ?_ ?_ ?_) | ((with_reducible refine Cel.new ?_ rfl); first | (with_reducible rfl) | omega | (simp; done) | (simp; omega)) | (with_reducible refine Cel.alloc ?_ _) | (with_reducible refine Cel.drew ?_) | (with_reducible refine Cel.setS ?_ _) | (with_reducible refine Has.set ?_ _ _) | (with_reducible exact Has.of (by assumption)) | (with_reducible refine Cel.setO ?_ ?_ _) | (with_reducible refine Cel.keep (by assumption) ?_) | (with_reducible refine Below.alloc ?_ ?_ _) | (with_reducible refine Below.drew ?_) | (with_reducible refine Below.setCell ?_ ?_ _) | (with_reducible refine below_keep ?_ ?_ (by assumption)) | omega | (simp; done) | (simp; omega))))
  have hB1 := O1.below; have hz1 := O1.size; have hl1 := O1.le; have S1_0 : Cel w1 (w.heap.size) 0 (.int .i64 a) := O1.cels.1; have S1_1 : Cel w1 (w.heap.size) 1 (.int .i64 l) := O1.cels.2.1; have S1_2 : Cel w1 (w.heap.size) 2 (.int .i64 u) := O1.cels.2.2.1; have S1_3 : Cel w1 (w.heap.size) 3 (.int .i64 d) := O1.cels.2.2.2.1
  go_wp2_with fail
  refine (true_any a l u d r _).mono ?_
  rintro e w2 ⟨rfl, hb2⟩
  have hs2 := hb2.size; (try simp at hs2)
  have O2 : Own w (w.heap.size + 1) w2 [(w.heap.size, 0, .int .i64 a), (w.heap.size, 1, .int .i64 l), (w.heap.size, 2, .int .i64 u), (w.heap.size, 3, .int .i64 d)] := (by (repeat' (first | (with_reducible assumption) | (with_reducible exact Below.refl _ _) | (with_reducible exact Cels.nil _) | (with_reducible refine Cels.cons ?_ ?_) | (with_reducible refine Own.mk ?_ ?_ ?_ ?_) | ((with_reducible refine Cel.new ?_ rfl); first | (with_reducible rfl) | omega | (simp; done) | (simp; omega)) | (with_reducible refine Cel.alloc ?_ _) | (with_reducible refine Cel.drew ?_) | (with_reducible refine Cel.setS ?_ _) | (with_reducible refine Has.set ?_ _ _) | (with_reducible exact Has.of (by assumption)) | (with_reducible refine Cel.setO ?_ ?_ _) | (with_reducible refine Cel.keep (by assumption) ?_) | (with_reducible refine Below.alloc ?_ ?_ _) | (with_reducible refine Below.drew ?_) | (with_reducible refine Below.setCell ?_ ?_ _) | (with_reducible refine below_keep ?_ ?_ (by assumption)) | omega | (simp; done) | (simp; omega))))
  have hB2 := O2.below; have hz2 := O2.size; have hl2 := O2.le; have S2_0 : Cel w2 (w.heap.size) 0 (.int .i64 a) := O2.cels.1; have S2_1 : Cel w2 (w.heap.size) 1 (.int .i64 l) := O2.cels.2.1; have S2_2 : Cel w2 (w.heap.size) 2 (.int .i64 u) := O2.cels.2.2.1; have S2_3 : Cel w2 (w.heap.size) 3 (.int .i64 d) := O2.cels.2.2.2.1
  clear O1 S1_0 S1_1 S1_2 S1_3
  go_wp2_with fail
  refine (gap_any a l u d r _).mono ?_
  rintro e w3 ⟨rfl, hb3⟩
  have hs3 := hb3.size; (try simp at hs3)
  have O3 : Own w (w2.heap.size + 1) w3 [(w.heap.size, 0, .int .i64 a), (w.heap.size, 1, .int .i64 l), (w.heap.size, 2, .int .i64 u), (w.heap.size, 3, .int .i64 d), (w2.heap.size, 0, .int .i64 (tLo a l u d r)), (w2.heap.size, 1, .int .i64 (tHi a l u d r))] := (by (repeat' (first | (with_reducible assumption) | (with_reducible exact Below.refl _ _) | (with_reducible exact Cels.nil _) | (with_reducible refine Cels.cons ?_ ?_) | (with_reducible refine Own.mk ?_ ?_ ?_ ?_) | ((with_reducible refine Cel.new ?_ rfl); first | (with_reducible rfl) | omega | (simp; done) | (simp; omega)) | (with_reducible refine Cel.alloc ?_ _) | (with_reducible refine Cel.drew ?_) | (with_reducible refine Cel.setS ?_ _) | (with_reducible refine Has.set ?_ _ _) | (with_reducible exact Has.of (by assumption)) | (with_reducible refine Cel.setO ?_ ?_ _) | (with_reducible refine Cel.keep (by assumption) ?_) | (with_reducible refine Below.alloc ?_ ?_ _) | (with_reducible refine Below.drew ?_) | (with_reducible refine Below.setCell ?_ ?_ _) | (with_reducible refine below_keep ?_ ?_ (by assumption)) | omega | (simp; done) | (simp; omega))))
  have hB3 := O3.below; have hz3 := O3.size; have hl3 := O3.le; have S3_0 : Cel w3 (w.heap.size) 0 (.int .i64 a) := O3.cels.1; have S3_1 : Cel w3 (w.heap.size) 1 (.int .i64 l) := O3.cels.2.1; have S3_2 : Cel w3 (w.heap.size) 2 (.int .i64 u) := O3.cels.2.2.1; have S3_3 : Cel w3 (w.heap.size) 3 (.int .i64 d) := O3.cels.2.2.2.1; have S3_4 : Cel w3 (w2.heap.size) 0 (.int .i64 (tLo a l u d r)) := O3.cels.2.2.2.2.1; have S3_5 : Cel w3 (w2.heap.size) 1 (.int .i64 (tHi a l u d r)) := O3.cels.2.2.2.2.2.1
  clear O2 S2_0 S2_1 S2_2 S2_3
  go_wp2_with fail
  refine (true_any a l u d s _).mono ?_
  rintro e w4 ⟨rfl, hb4⟩
  have hs4 := hb4.size; (try simp at hs4)
  have O4 : Own w (w2.heap.size + 1) w4 [(w2.heap.size, 0, .int .i64 (tLo a l u d r)), (w2.heap.size, 1, .int .i64 (tHi a l u d r))] := (by (repeat' (first | (with_reducible assumption) | (with_reducible exact Below.refl _ _) | (with_reducible exact Cels.nil _) | (with_reducible refine Cels.cons ?_ ?_) | (with_reducible refine Own.mk ?_ ?_ ?_ ?_) | ((with_reducible refine Cel.new ?_ rfl); first | (with_reducible rfl) | omega | (simp; done) | (simp; omega)) | (with_reducible refine Cel.alloc ?_ _) | (with_reducible refine Cel.drew ?_) | (with_reducible refine Cel.setS ?_ _) | (with_reducible refine Has.set ?_ _ _) | (with_reducible exact Has.of (by assumption)) | (with_reducible refine Cel.setO ?_ ?_ _) | (with_reducible refine Cel.keep (by assumption) ?_) | (with_reducible refine Below.alloc ?_ ?_ _) | (with_reducible refine Below.drew ?_) | (with_reducible refine Below.setCell ?_ ?_ _) | (with_reducible refine below_keep ?_ ?_ (by assumption)) | omega | (simp; done) | (simp; omega))))
  have hB4 := O4.below; have hz4 := O4.size; have hl4 := O4.le; have S4_0 : Cel w4 (w2.heap.size) 0 (.int .i64 (tLo a l u d r)) := O4.cels.1; have S4_1 : Cel w4 (w2.heap.size) 1 (.int .i64 (tHi a l u d r)) := O4.cels.2.1
  clear O3 S3_0 S3_1 S3_2 S3_3 S3_4 S3_5
  go_wp2
  all_goals first
    | (exfalso; omega)
    | (go_ret; exact ⟨rb (by first | rfl | (simp; done) | (rw [beq_iff_eq, Bool.eq_iff_iff]; simp; omega) | (simp; omega)), by (repeat' (first | (with_reducible assumption) | (with_reducible exact Below.refl _ _) | (with_reducible exact Cels.nil _) | (with_reducible refine Cels.cons ?_ ?_) | (with_reducible refine Own.mk ?_ ?_ ?_ ?_) | ((with_reducible refine Cel.new ?_ rfl); first | (with_reducible rfl) | omega | (simp; done) | (simp; omega)) | (with_reducible refine Cel.alloc ?_ _) | (with_reducible refine Cel.drew ?_) | (with_reducible refine Cel.setS ?_ _) | (with_reducible refine Has.set ?_ _ _) | (with_reducible exact Has.of (by assumption)) | (with_reducible refine Cel.setO ?_ ?_ _) | (with_reducible refine Cel.keep (by assumption) ?_) | (with_reducible refine Below.alloc ?_ ?_ _) | (with_reducible refine Below.drew ?_) | (with_reducible refine Below.setCell ?_ ?_ _) | (with_reducible refine below_keep ?_ ?_ (by assumption)) | omega | (simp; done) | (simp; omega)))⟩)

set_option maxRecDepth 100000 in
set_option maxHeartbeats 4000000 in
theorem law2_4ge (a l u d r s : Int) (w : World) (hE : tE a l u d r = 0) (hg : gV a l u d r = tHi a l u d r - tLo a l u d r + 1) (hs : tE a l u d s = 4) (ho : r ≤ s) : Calls Try.prog 4 #[ck a l u d, .int .i64 r, .int .i64 s] w fun e w' => e = .returned (.bool true) ∧ Below w.heap.size w w' := by
  obtain ⟨b1, b2, b3, b4, b5⟩ := t_bd a l u d r
  go_enter Try.func4, Try.ntmps4
  go_wp2_with fail
  refine (head_any _).mono ?_
  rintro e w1 ⟨rfl, hb1⟩
  have hs1 := hb1.size; (try simp at hs1)
  have O1 : Own w (w.heap.size + 1) w1 [(w.heap.size, 0, .int .i64 a), (w.heap.size, 1, .int .i64 l), (w.heap.size, 2, .int .i64 u), (w.heap.size, 3, .int .i64 d)] := (by (repeat' (first | (with_reducible assumption) | (with_reducible exact Below.refl _ _) | (with_reducible exact Cels.nil _) | (with_reducible refine Cels.cons ?_ ?_) | (with_reducible refine Own.mk ?_ ?_ ?_ ?_) | ((with_reducible refine Cel.new ?_ rfl); first | (with_reducible rfl) | omega | (simp; done) | (simp; omega)) | (with_reducible refine Cel.alloc ?_ _) | (with_reducible refine Cel.drew ?_) | (with_reducible refine Cel.setS ?_ _) | (with_reducible refine Has.set ?_ _ _) | (with_reducible exact Has.of (by assumption)) | (with_reducible refine Cel.setO ?_ ?_ _) | (with_reducible refine Cel.keep (by assumption) ?_) | (with_reducible refine Below.alloc ?_ ?_ _) | (with_reducible refine Below.drew ?_) | (with_reducible refine Below.setCell ?_ ?_ _) | (with_reducible refine below_keep ?_ ?_ (by assumption)) | omega | (simp; done) | (simp; omega))))
  have hB1 := O1.below; have hz1 := O1.size; have hl1 := O1.le; have S1_0 : Cel w1 (w.heap.size) 0 (.int .i64 a) := O1.cels.1; have S1_1 : Cel w1 (w.heap.size) 1 (.int .i64 l) := O1.cels.2.1; have S1_2 : Cel w1 (w.heap.size) 2 (.int .i64 u) := O1.cels.2.2.1; have S1_3 : Cel w1 (w.heap.size) 3 (.int .i64 d) := O1.cels.2.2.2.1
  go_wp2_with fail
  refine (true_any a l u d r _).mono ?_
  rintro e w2 ⟨rfl, hb2⟩
  have hs2 := hb2.size; (try simp at hs2)
  have O2 : Own w (w.heap.size + 1) w2 [(w.heap.size, 0, .int .i64 a), (w.heap.size, 1, .int .i64 l), (w.heap.size, 2, .int .i64 u), (w.heap.size, 3, .int .i64 d)] := (by (repeat' (first | (with_reducible assumption) | (with_reducible exact Below.refl _ _) | (with_reducible exact Cels.nil _) | (with_reducible refine Cels.cons ?_ ?_) | (with_reducible refine Own.mk ?_ ?_ ?_ ?_) | ((with_reducible refine Cel.new ?_ rfl); first | (with_reducible rfl) | omega | (simp; done) | (simp; omega)) | (with_reducible refine Cel.alloc ?_ _) | (with_reducible refine Cel.drew ?_) | (with_reducible refine Cel.setS ?_ _) | (with_reducible refine Has.set ?_ _ _) | (with_reducible exact Has.of (by assumption)) | (with_reducible refine Cel.setO ?_ ?_ _) | (with_reducible refine Cel.keep (by assumption) ?_) | (with_reducible refine Below.alloc ?_ ?_ _) | (with_reducible refine Below.drew ?_) | (with_reducible refine Below.setCell ?_ ?_ _) | (with_reducible refine below_keep ?_ ?_ (by assumption)) | omega | (simp; done) | (simp; omega))))
  have hB2 := O2.below; have hz2 := O2.size; have hl2 := O2.le; have S2_0 : Cel w2 (w.heap.size) 0 (.int .i64 a) := O2.cels.1; have S2_1 : Cel w2 (w.heap.size) 1 (.int .i64 l) := O2.cels.2.1; have S2_2 : Cel w2 (w.heap.size) 2 (.int .i64 u) := O2.cels.2.2.1; have S2_3 : Cel w2 (w.heap.size) 3 (.int .i64 d) := O2.cels.2.2.2.1
  clear O1 S1_0 S1_1 S1_2 S1_3
  go_wp2_with fail
  refine (gap_any a l u d r _).mono ?_
  rintro e w3 ⟨rfl, hb3⟩
  have hs3 := hb3.size; (try simp at hs3)
  have O3 : Own w (w2.heap.size + 1) w3 [(w.heap.size, 0, .int .i64 a), (w.heap.size, 1, .int .i64 l), (w.heap.size, 2, .int .i64 u), (w.heap.size, 3, .int .i64 d), (w2.heap.size, 0, .int .i64 (tLo a l u d r)), (w2.heap.size, 1, .int .i64 (tHi a l u d r))] := (by (repeat' (first | (with_reducible assumption) | (with_reducible exact Below.refl _ _) | (with_reducible exact Cels.nil _) | (with_reducible refine Cels.cons ?_ ?_) | (with_reducible refine Own.mk ?_ ?_ ?_ ?_) | ((with_reducible refine Cel.new ?_ rfl); first | (with_reducible rfl) | omega | (simp; done) | (simp; omega)) | (with_reducible refine Cel.alloc ?_ _) | (with_reducible refine Cel.drew ?_) | (with_reducible refine Cel.setS ?_ _) | (with_reducible refine Has.set ?_ _ _) | (with_reducible exact Has.of (by assumption)) | (with_reducible refine Cel.setO ?_ ?_ _) | (with_reducible refine Cel.keep (by assumption) ?_) | (with_reducible refine Below.alloc ?_ ?_ _) | (with_reducible refine Below.drew ?_) | (with_reducible refine Below.setCell ?_ ?_ _) | (with_reducible refine below_keep ?_ ?_ (by assumption)) | omega | (simp; done) | (simp; omega))))
  have hB3 := O3.below; have hz3 := O3.size; have hl3 := O3.le; have S3_0 : Cel w3 (w.heap.size) 0 (.int .i64 a) := O3.cels.1; have S3_1 : Cel w3 (w.heap.size) 1 (.int .i64 l) := O3.cels.2.1; have S3_2 : Cel w3 (w.heap.size) 2 (.int .i64 u) := O3.cels.2.2.1; have S3_3 : Cel w3 (w.heap.size) 3 (.int .i64 d) := O3.cels.2.2.2.1; have S3_4 : Cel w3 (w2.heap.size) 0 (.int .i64 (tLo a l u d r)) := O3.cels.2.2.2.2.1; have S3_5 : Cel w3 (w2.heap.size) 1 (.int .i64 (tHi a l u d r)) := O3.cels.2.2.2.2.2.1
  clear O2 S2_0 S2_1 S2_2 S2_3
  go_wp2_with fail
  refine (true_any a l u d s _).mono ?_
  rintro e w4 ⟨rfl, hb4⟩
  have hs4 := hb4.size; (try simp at hs4)
  have O4 : Own w (w2.heap.size + 1) w4 [(w2.heap.size, 0, .int .i64 (tLo a l u d r)), (w2.heap.size, 1, .int .i64 (tHi a l u d r))] := (by (repeat' (first | (with_reducible assumption) | (with_reducible exact Below.refl _ _) | (with_reducible exact Cels.nil _) | (with_reducible refine Cels.cons ?_ ?_) | (with_reducible refine Own.mk ?_ ?_ ?_ ?_) | ((with_reducible refine Cel.new ?_ rfl); first | (with_reducible rfl) | omega | (simp; done) | (simp; omega)) | (with_reducible refine Cel.alloc ?_ _) | (with_reducible refine Cel.drew ?_) | (with_reducible refine Cel.setS ?_ _) | (with_reducible refine Has.set ?_ _ _) | (with_reducible exact Has.of (by assumption)) | (with_reducible refine Cel.setO ?_ ?_ _) | (with_reducible refine Cel.keep (by assumption) ?_) | (with_reducible refine Below.alloc ?_ ?_ _) | (with_reducible refine Below.drew ?_) | (with_reducible refine Below.setCell ?_ ?_ _) | (with_reducible refine below_keep ?_ ?_ (by assumption)) | omega | (simp; done) | (simp; omega))))
  have hB4 := O4.below; have hz4 := O4.size; have hl4 := O4.le; have S4_0 : Cel w4 (w2.heap.size) 0 (.int .i64 (tLo a l u d r)) := O4.cels.1; have S4_1 : Cel w4 (w2.heap.size) 1 (.int .i64 (tHi a l u d r)) := O4.cels.2.1
  clear O3 S3_0 S3_1 S3_2 S3_3 S3_4 S3_5
  go_wp2
  all_goals first
    | (exfalso; omega)
    | (go_ret; exact ⟨rb (by first | rfl | (simp; done) | (rw [beq_iff_eq, Bool.eq_iff_iff]; simp; omega) | (simp; omega)), by (repeat' (first | (with_reducible assumption) | (with_reducible exact Below.refl _ _) | (with_reducible exact Cels.nil _) | (with_reducible refine Cels.cons ?_ ?_) | (with_reducible refine Own.mk ?_ ?_ ?_ ?_) | ((with_reducible refine Cel.new ?_ rfl); first | (with_reducible rfl) | omega | (simp; done) | (simp; omega)) | (with_reducible refine Cel.alloc ?_ _) | (with_reducible refine Cel.drew ?_) | (with_reducible refine Cel.setS ?_ _) | (with_reducible refine Has.set ?_ _ _) | (with_reducible exact Has.of (by assumption)) | (with_reducible refine Cel.setO ?_ ?_ _) | (with_reducible refine Cel.keep (by assumption) ?_) | (with_reducible refine Below.alloc ?_ ?_ _) | (with_reducible refine Below.drew ?_) | (with_reducible refine Below.setCell ?_ ?_ _) | (with_reducible refine below_keep ?_ ?_ (by assumption)) | omega | (simp; done) | (simp; omega)))⟩)

theorem law2 (a l u d r s : Int) (w : World) : Calls Try.prog 4 #[ck a l u d, .int .i64 r, .int .i64 s] w fun e w' => e = .returned (.bool true) ∧ Below w.heap.size w w' := by
  rcases tE_01 a l u d r with h | h | h
  · have hg := g0 h
    by_cases ho : s < r
    · rcases tE_01 a l u d s with k | k | k
      · exact law2_0lt a l u d r s w h hg k ho
      · exact law2_1lt a l u d r s w h hg k ho
      · exact law2_4lt a l u d r s w h hg k ho
    · rcases tE_01 a l u d s with k | k | k
      · obtain ⟨m1, m2⟩ := p2 h k (by omega)
        exact law2_0ge a l u d r s w h hg k (by omega) m1 m2
      · exact law2_1ge a l u d r s w h hg k (by omega)
      · exact law2_4ge a l u d r s w h hg k (by omega)
  · exact law2_e1 a l u d r s w h (gn (by omega))
  · exact law2_e4 a l u d r s w h (gn (by omega))

end Go.Proofs.Ytphmfkellojecaa
