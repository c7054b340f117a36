/- The walks of a law. -/
import Derived.Test.YtphmfkellojecaaX
set_option linter.unusedVariables false
set_option linter.unusedSimpArgs false
namespace Go.Proofs.Ytphmfkellojecaa
open Go.RowKit
attribute [local go_sem] World.cell?_alloc_some frozen_alloc_some isSome_alloc isSome_setCell

set_option maxRecDepth 100000 in
set_option maxHeartbeats 4000000 in
theorem law4_e (a l u d r s t x : Int) (w : World) (h1 : ¬ pE a l u d r t = 0) (h2 : pV a l u d r t = 0) : Calls Try.prog 6 #[ck a l u d, .int .i64 r, .int .i64 s, .int .i64 t, .int .i64 x] w fun e w' => e = .returned (.bool true) ∧ Below w.heap.size w w' := by
  go_enter Try.func6, Try.ntmps6
  go_wp2_with fail
  refine (head_any _).mono ?_
  rintro e w1 ⟨rfl, hb1⟩
  have hs1 := hb1.size; (try simp at hs1)
  have O1 : Own w (w.heap.size + 1) w1 [(w.heap.size, 0, .int .i64 a), (w.heap.size, 1, .int .i64 l), (w.heap.size, 2, .int .i64 u), (w.heap.size, 3, .int .i64 d)] := (by (repeat' (first | (with_reducible assumption) | (with_reducible exact Below.refl _ _) | (with_reducible exact Cels.nil _) | (with_reducible refine Cels.cons ?_ ?_) | (with_reducible refine Own.mk ?_ ?_ ?_ ?_) | ((with_reducible refine Cel.new ?_ rfl); first | (with_reducible rfl) | omega | (simp; done) | (simp; omega)) | (with_reducible refine Cel.alloc ?_ _) | (with_reducible refine Cel.drew ?_) | (with_reducible refine Cel.setS ?_ _) | (with_reducible refine Has.set ?_ _ _) | (with_reducible exact Has.of (by assumption)) | (with_reducible refine Cel.setO ?_ ?_ _) | (with_reducible refine Cel.keep (by assumption) ?_) | (with_reducible refine Below.alloc ?_ ?_ _) | (with_reducible refine Below.drew ?_) | (with_reducible refine Below.setCell ?_ ?_ _) | (with_reducible refine below_keep ?_ ?_ (by assumption)) | omega | (simp; done) | (simp; omega))))
  have hB1 := O1.below; have hz1 := O1.size; have hl1 := O1.le; have S1_0 : Cel w1 (w.heap.size) 0 (.int .i64 a) := O1.cels.1; have S1_1 : Cel w1 (w.heap.size) 1 (.int .i64 l) := O1.cels.2.1; have S1_2 : Cel w1 (w.heap.size) 2 (.int .i64 u) := O1.cels.2.2.1; have S1_3 : Cel w1 (w.heap.size) 3 (.int .i64 d) := O1.cels.2.2.2.1
  go_wp2_with fail
  refine (passed_any a l u d r t _).mono ?_
  rintro e w2 ⟨rfl, hb2⟩
  have hs2 := hb2.size; (try simp at hs2)
  have O2 : Own w (w.heap.size + 1) w2 [(w.heap.size, 0, .int .i64 a), (w.heap.size, 1, .int .i64 l), (w.heap.size, 2, .int .i64 u), (w.heap.size, 3, .int .i64 d)] := (by (repeat' (first | (with_reducible assumption) | (with_reducible exact Below.refl _ _) | (with_reducible exact Cels.nil _) | (with_reducible refine Cels.cons ?_ ?_) | (with_reducible refine Own.mk ?_ ?_ ?_ ?_) | ((with_reducible refine Cel.new ?_ rfl); first | (with_reducible rfl) | omega | (simp; done) | (simp; omega)) | (with_reducible refine Cel.alloc ?_ _) | (with_reducible refine Cel.drew ?_) | (with_reducible refine Cel.setS ?_ _) | (with_reducible refine Has.set ?_ _ _) | (with_reducible exact Has.of (by assumption)) | (with_reducible refine Cel.setO ?_ ?_ _) | (with_reducible refine Cel.keep (by assumption) ?_) | (with_reducible refine Below.alloc ?_ ?_ _) | (with_reducible refine Below.drew ?_) | (with_reducible refine Below.setCell ?_ ?_ _) | (with_reducible refine below_keep ?_ ?_ (by assumption)) | omega | (simp; done) | (simp; omega))))
  have hB2 := O2.below; have hz2 := O2.size; have hl2 := O2.le; have S2_0 : Cel w2 (w.heap.size) 0 (.int .i64 a) := O2.cels.1; have S2_1 : Cel w2 (w.heap.size) 1 (.int .i64 l) := O2.cels.2.1; have S2_2 : Cel w2 (w.heap.size) 2 (.int .i64 u) := O2.cels.2.2.1; have S2_3 : Cel w2 (w.heap.size) 3 (.int .i64 d) := O2.cels.2.2.2.1
  clear O1 S1_0 S1_1 S1_2 S1_3
  go_wp2_with fail
  refine (passed_any a l u d s t _).mono ?_
  rintro e w3 ⟨rfl, hb3⟩
  have hs3 := hb3.size; (try simp at hs3)
  have O3 : Own w (w.heap.size + 1) w3 [(w.heap.size, 0, .int .i64 a), (w.heap.size, 1, .int .i64 l), (w.heap.size, 2, .int .i64 u), (w.heap.size, 3, .int .i64 d)] := (by (repeat' (first | (with_reducible assumption) | (with_reducible exact Below.refl _ _) | (with_reducible exact Cels.nil _) | (with_reducible refine Cels.cons ?_ ?_) | (with_reducible refine Own.mk ?_ ?_ ?_ ?_) | ((with_reducible refine Cel.new ?_ rfl); first | (with_reducible rfl) | omega | (simp; done) | (simp; omega)) | (with_reducible refine Cel.alloc ?_ _) | (with_reducible refine Cel.drew ?_) | (with_reducible refine Cel.setS ?_ _) | (with_reducible refine Has.set ?_ _ _) | (with_reducible exact Has.of (by assumption)) | (with_reducible refine Cel.setO ?_ ?_ _) | (with_reducible refine Cel.keep (by assumption) ?_) | (with_reducible refine Below.alloc ?_ ?_ _) | (with_reducible refine Below.drew ?_) | (with_reducible refine Below.setCell ?_ ?_ _) | (with_reducible refine below_keep ?_ ?_ (by assumption)) | omega | (simp; done) | (simp; omega))))
  have hB3 := O3.below; have hz3 := O3.size; have hl3 := O3.le; have S3_0 : Cel w3 (w.heap.size) 0 (.int .i64 a) := O3.cels.1; have S3_1 : Cel w3 (w.heap.size) 1 (.int .i64 l) := O3.cels.2.1; have S3_2 : Cel w3 (w.heap.size) 2 (.int .i64 u) := O3.cels.2.2.1; have S3_3 : Cel w3 (w.heap.size) 3 (.int .i64 d) := O3.cels.2.2.2.1
  clear O2 S2_0 S2_1 S2_2 S2_3
  go_wp2_with fail
  refine (passed_any a l u d r x _).mono ?_
  rintro e w4 ⟨rfl, hb4⟩
  have hs4 := hb4.size; (try simp at hs4)
  have O4 : Own w (w.heap.size + 1) w4 [(w.heap.size, 0, .int .i64 a), (w.heap.size, 1, .int .i64 l), (w.heap.size, 2, .int .i64 u), (w.heap.size, 3, .int .i64 d)] := (by (repeat' (first | (with_reducible assumption) | (with_reducible exact Below.refl _ _) | (with_reducible exact Cels.nil _) | (with_reducible refine Cels.cons ?_ ?_) | (with_reducible refine Own.mk ?_ ?_ ?_ ?_) | ((with_reducible refine Cel.new ?_ rfl); first | (with_reducible rfl) | omega | (simp; done) | (simp; omega)) | (with_reducible refine Cel.alloc ?_ _) | (with_reducible refine Cel.drew ?_) | (with_reducible refine Cel.setS ?_ _) | (with_reducible refine Has.set ?_ _ _) | (with_reducible exact Has.of (by assumption)) | (with_reducible refine Cel.setO ?_ ?_ _) | (with_reducible refine Cel.keep (by assumption) ?_) | (with_reducible refine Below.alloc ?_ ?_ _) | (with_reducible refine Below.drew ?_) | (with_reducible refine Below.setCell ?_ ?_ _) | (with_reducible refine below_keep ?_ ?_ (by assumption)) | omega | (simp; done) | (simp; omega))))
  have hB4 := O4.below; have hz4 := O4.size; have hl4 := O4.le; have S4_0 : Cel w4 (w.heap.size) 0 (.int .i64 a) := O4.cels.1; have S4_1 : Cel w4 (w.heap.size) 1 (.int .i64 l) := O4.cels.2.1; have S4_2 : Cel w4 (w.heap.size) 2 (.int .i64 u) := O4.cels.2.2.1; have S4_3 : Cel w4 (w.heap.size) 3 (.int .i64 d) := O4.cels.2.2.2.1
  clear O3 S3_0 S3_1 S3_2 S3_3
  go_wp2_with fail
  refine (sure_any a l u d t _).mono ?_
  rintro e w5 ⟨rfl, hb5⟩
  have hs5 := hb5.size; (try simp at hs5)
  have O5 : Own w (w.heap.size + 1) w5 [] := (by (repeat' (first | (with_reducible assumption) | (with_reducible exact Below.refl _ _) | (with_reducible exact Cels.nil _) | (with_reducible refine Cels.cons ?_ ?_) | (with_reducible refine Own.mk ?_ ?_ ?_ ?_) | ((with_reducible refine Cel.new ?_ rfl); first | (with_reducible rfl) | omega | (simp; done) | (simp; omega)) | (with_reducible refine Cel.alloc ?_ _) | (with_reducible refine Cel.drew ?_) | (with_reducible refine Cel.setS ?_ _) | (with_reducible refine Has.set ?_ _ _) | (with_reducible exact Has.of (by assumption)) | (with_reducible refine Cel.setO ?_ ?_ _) | (with_reducible refine Cel.keep (by assumption) ?_) | (with_reducible refine Below.alloc ?_ ?_ _) | (with_reducible refine Below.drew ?_) | (with_reducible refine Below.setCell ?_ ?_ _) | (with_reducible refine below_keep ?_ ?_ (by assumption)) | omega | (simp; done) | (simp; omega))))
  have hB5 := O5.below; have hz5 := O5.size; have hl5 := O5.le
  clear O4 S4_0 S4_1 S4_2 S4_3
  go_wp2
  all_goals first
    | (exfalso; omega)
    | (go_ret; exact ⟨rb (by first | rfl | (simp; done) | (rw [beq_iff_eq, Bool.eq_iff_iff]; simp; omega) | (simp; omega)), by (repeat' (first | (with_reducible assumption) | (with_reducible exact Below.refl _ _) | (with_reducible exact Cels.nil _) | (with_reducible refine Cels.cons ?_ ?_) | (with_reducible refine Own.mk ?_ ?_ ?_ ?_) | ((with_reducible refine Cel.new ?_ rfl); first | (with_reducible rfl) | omega | (simp; done) | (simp; omega)) | (with_reducible refine Cel.alloc ?_ _) | (with_reducible refine Cel.drew ?_) | (with_reducible refine Cel.setS ?_ _) | (with_reducible refine Has.set ?_ _ _) | (with_reducible exact Has.of (by assumption)) | (with_reducible refine Cel.setO ?_ ?_ _) | (with_reducible refine Cel.keep (by assumption) ?_) | (with_reducible refine Below.alloc ?_ ?_ _) | (with_reducible refine Below.drew ?_) | (with_reducible refine Below.setCell ?_ ?_ _) | (with_reducible refine below_keep ?_ ?_ (by assumption)) | omega | (simp; done) | (simp; omega)))⟩)

set_option maxRecDepth 100000 in
set_option maxHeartbeats 4000000 in
theorem law4_aaa (a l u d r s t x : Int) (w : World) (h1 : pE a l u d r t = 0) (h0 : -1 ≤ pV a l u d r t) (h00 : pV a l u d r t ≤ 1) (f1 : ¬ pE a l u d s t = 0) (g1 : ¬ pE a l u d r x = 0) (k1 : pV a l u d r t = 1) (k2 : uE a l u d t = 0) (k3 : uV a l u d t ≤ r) : Calls Try.prog 6 #[ck a l u d, .int .i64 r, .int .i64 s, .int .i64 t, .int .i64 x] w fun e w' => e = .returned (.bool true) ∧ Below w.heap.size w w' := by
  go_enter Try.func6, Try.ntmps6
  go_wp2_with fail
  refine (head_any _).mono ?_
  rintro e w1 ⟨rfl, hb1⟩
  have hs1 := hb1.size; (try simp at hs1)
  have O1 : Own w (w.heap.size + 1) w1 [(w.heap.size, 0, .int .i64 a), (w.heap.size, 1, .int .i64 l), (w.heap.size, 2, .int .i64 u), (w.heap.size, 3, .int .i64 d)] := (by (repeat' (first | (with_reducible assumption) | (with_reducible exact Below.refl _ _) | (with_reducible exact Cels.nil _) | (with_reducible refine Cels.cons ?_ ?_) | (with_reducible refine Own.mk ?_ ?_ ?_ ?_) | ((with_reducible refine Cel.new ?_ rfl); first | (with_reducible rfl) | omega | (simp; done) | (simp; omega)) | (with_reducible refine Cel.alloc ?_ _) | (with_reducible refine Cel.drew ?_) | (with_reducible refine Cel.setS ?_ _) | (with_reducible refine Has.set ?_ _ _) | (with_reducible exact Has.of (by assumption)) | (with_reducible refine Cel.setO ?_ ?_ _) | (with_reducible refine Cel.keep (by assumption) ?_) | (with_reducible refine Below.alloc ?_ ?_ _) | (with_reducible refine Below.drew ?_) | (with_reducible refine Below.setCell ?_ ?_ _) | (with_reducible refine below_keep ?_ ?_ (by assumption)) | omega | (simp; done) | (simp; omega))))
  have hB1 := O1.below; have hz1 := O1.size; have hl1 := O1.le; have S1_0 : Cel w1 (w.heap.size) 0 (.int .i64 a) := O1.cels.1; have S1_1 : Cel w1 (w.heap.size) 1 (.int .i64 l) := O1.cels.2.1; have S1_2 : Cel w1 (w.heap.size) 2 (.int .i64 u) := O1.cels.2.2.1; have S1_3 : Cel w1 (w.heap.size) 3 (.int .i64 d) := O1.cels.2.2.2.1
  go_wp2_with fail
  refine (passed_any a l u d r t _).mono ?_
  rintro e w2 ⟨rfl, hb2⟩
  have hs2 := hb2.size; (try simp at hs2)
  have O2 : Own w (w.heap.size + 1) w2 [(w.heap.size, 0, .int .i64 a), (w.heap.size, 1, .int .i64 l), (w.heap.size, 2, .int .i64 u), (w.heap.size, 3, .int .i64 d)] := (by (repeat' (first | (with_reducible assumption) | (with_reducible exact Below.refl _ _) | (with_reducible exact Cels.nil _) | (with_reducible refine Cels.cons ?_ ?_) | (with_reducible refine Own.mk ?_ ?_ ?_ ?_) | ((with_reducible refine Cel.new ?_ rfl); first | (with_reducible rfl) | omega | (simp; done) | (simp; omega)) | (with_reducible refine Cel.alloc ?_ _) | (with_reducible refine Cel.drew ?_) | (with_reducible refine Cel.setS ?_ _) | (with_reducible refine Has.set ?_ _ _) | (with_reducible exact Has.of (by assumption)) | (with_reducible refine Cel.setO ?_ ?_ _) | (with_reducible refine Cel.keep (by assumption) ?_) | (with_reducible refine Below.alloc ?_ ?_ _) | (with_reducible refine Below.drew ?_) | (with_reducible refine Below.setCell ?_ ?_ _) | (with_reducible refine below_keep ?_ ?_ (by assumption)) | omega | (simp; done) | (simp; omega))))
  have hB2 := O2.below; have hz2 := O2.size; have hl2 := O2.le; have S2_0 : Cel w2 (w.heap.size) 0 (.int .i64 a) := O2.cels.1; have S2_1 : Cel w2 (w.heap.size) 1 (.int .i64 l) := O2.cels.2.1; have S2_2 : Cel w2 (w.heap.size) 2 (.int .i64 u) := O2.cels.2.2.1; have S2_3 : Cel w2 (w.heap.size) 3 (.int .i64 d) := O2.cels.2.2.2.1
  clear O1 S1_0 S1_1 S1_2 S1_3
  go_wp2_with fail
  refine (passed_any a l u d s t _).mono ?_
  rintro e w3 ⟨rfl, hb3⟩
  have hs3 := hb3.size; (try simp at hs3)
  have O3 : Own w (w.heap.size + 1) w3 [(w.heap.size, 0, .int .i64 a), (w.heap.size, 1, .int .i64 l), (w.heap.size, 2, .int .i64 u), (w.heap.size, 3, .int .i64 d)] := (by (repeat' (first | (with_reducible assumption) | (with_reducible exact Below.refl _ _) | (with_reducible exact Cels.nil _) | (with_reducible refine Cels.cons ?_ ?_) | (with_reducible refine Own.mk ?_ ?_ ?_ ?_) | ((with_reducible refine Cel.new ?_ rfl); first | (with_reducible rfl) | omega | (simp; done) | (simp; omega)) | (with_reducible refine Cel.alloc ?_ _) | (with_reducible refine Cel.drew ?_) | (with_reducible refine Cel.setS ?_ _) | (with_reducible refine Has.set ?_ _ _) | (with_reducible exact Has.of (by assumption)) | (with_reducible refine Cel.setO ?_ ?_ _) | (with_reducible refine Cel.keep (by assumption) ?_) | (with_reducible refine Below.alloc ?_ ?_ _) | (with_reducible refine Below.drew ?_) | (with_reducible refine Below.setCell ?_ ?_ _) | (with_reducible refine below_keep ?_ ?_ (by assumption)) | omega | (simp; done) | (simp; omega))))
  have hB3 := O3.below; have hz3 := O3.size; have hl3 := O3.le; have S3_0 : Cel w3 (w.heap.size) 0 (.int .i64 a) := O3.cels.1; have S3_1 : Cel w3 (w.heap.size) 1 (.int .i64 l) := O3.cels.2.1; have S3_2 : Cel w3 (w.heap.size) 2 (.int .i64 u) := O3.cels.2.2.1; have S3_3 : Cel w3 (w.heap.size) 3 (.int .i64 d) := O3.cels.2.2.2.1
  clear O2 S2_0 S2_1 S2_2 S2_3
  go_wp2_with fail
  refine (passed_any a l u d r x _).mono ?_
  rintro e w4 ⟨rfl, hb4⟩
  have hs4 := hb4.size; (try simp at hs4)
  have O4 : Own w (w.heap.size + 1) w4 [(w.heap.size, 0, .int .i64 a), (w.heap.size, 1, .int .i64 l), (w.heap.size, 2, .int .i64 u), (w.heap.size, 3, .int .i64 d)] := (by (repeat' (first | (with_reducible assumption) | (with_reducible exact Below.refl _ _) | (with_reducible exact Cels.nil _) | (with_reducible refine Cels.cons ?_ ?_) | (with_reducible refine Own.mk ?_ ?_ ?_ ?_) | ((with_reducible refine Cel.new ?_ rfl); first | (with_reducible rfl) | omega | (simp; done) | (simp; omega)) | (with_reducible refine Cel.alloc ?_ _) | (with_reducible refine Cel.drew ?_) | (with_reducible refine Cel.setS ?_ _) | (with_reducible refine Has.set ?_ _ _) | (with_reducible exact Has.of (by assumption)) | (with_reducible refine Cel.setO ?_ ?_ _) | (with_reducible refine Cel.keep (by assumption) ?_) | (with_reducible refine Below.alloc ?_ ?_ _) | (with_reducible refine Below.drew ?_) | (with_reducible refine Below.setCell ?_ ?_ _) | (with_reducible refine below_keep ?_ ?_ (by assumption)) | omega | (simp; done) | (simp; omega))))
  have hB4 := O4.below; have hz4 := O4.size; have hl4 := O4.le; have S4_0 : Cel w4 (w.heap.size) 0 (.int .i64 a) := O4.cels.1; have S4_1 : Cel w4 (w.heap.size) 1 (.int .i64 l) := O4.cels.2.1; have S4_2 : Cel w4 (w.heap.size) 2 (.int .i64 u) := O4.cels.2.2.1; have S4_3 : Cel w4 (w.heap.size) 3 (.int .i64 d) := O4.cels.2.2.2.1
  clear O3 S3_0 S3_1 S3_2 S3_3
  go_wp2_with fail
  refine (sure_any a l u d t _).mono ?_
  rintro e w5 ⟨rfl, hb5⟩
  have hs5 := hb5.size; (try simp at hs5)
  have O5 : Own w (w.heap.size + 1) w5 [] := (by (repeat' (first | (with_reducible assumption) | (with_reducible exact Below.refl _ _) | (with_reducible exact Cels.nil _) | (with_reducible refine Cels.cons ?_ ?_) | (with_reducible refine Own.mk ?_ ?_ ?_ ?_) | ((with_reducible refine Cel.new ?_ rfl); first | (with_reducible rfl) | omega | (simp; done) | (simp; omega)) | (with_reducible refine Cel.alloc ?_ _) | (with_reducible refine Cel.drew ?_) | (with_reducible refine Cel.setS ?_ _) | (with_reducible refine Has.set ?_ _ _) | (with_reducible exact Has.of (by assumption)) | (with_reducible refine Cel.setO ?_ ?_ _) | (with_reducible refine Cel.keep (by assumption) ?_) | (with_reducible refine Below.alloc ?_ ?_ _) | (with_reducible refine Below.drew ?_) | (with_reducible refine Below.setCell ?_ ?_ _) | (with_reducible refine below_keep ?_ ?_ (by assumption)) | omega | (simp; done) | (simp; omega))))
  have hB5 := O5.below; have hz5 := O5.size; have hl5 := O5.le
  clear O4 S4_0 S4_1 S4_2 S4_3
  go_wp2
  all_goals first
    | (exfalso; omega)
    | (go_ret; exact ⟨rb (by first | rfl | (simp; done) | (rw [beq_iff_eq, Bool.eq_iff_iff]; simp; omega) | (simp; omega)), by (repeat' (first | (with_reducible assumption) | (with_reducible exact Below.refl _ _) | (with_reducible exact Cels.nil _) | (with_reducible refine Cels.cons ?_ ?_) | (with_reducible refine Own.mk ?_ ?_ ?_ ?_) | ((with_reducible refine Cel.new ?_ rfl); first | (with_reducible rfl) | omega | (simp; done) | (simp; omega)) | (with_reducible refine Cel.alloc ?_ _) | (with_reducible refine Cel.drew ?_) | (with_reducible refine Cel.setS ?_ _) | (with_reducible refine Has.set ?_ _ _) | (with_reducible exact Has.of (by assumption)) | (with_reducible refine Cel.setO ?_ ?_ _) | (with_reducible refine Cel.keep (by assumption) ?_) | (with_reducible refine Below.alloc ?_ ?_ _) | (with_reducible refine Below.drew ?_) | (with_reducible refine Below.setCell ?_ ?_ _) | (with_reducible refine below_keep ?_ ?_ (by assumption)) | omega | (simp; done) | (simp; omega)))⟩)

set_option maxRecDepth 100000 in
set_option maxHeartbeats 4000000 in
theorem law4_aab (a l u d r s t x : Int) (w : World) (h1 : pE a l u d r t = 0) (h0 : -1 ≤ pV a l u d r t) (h00 : pV a l u d r t ≤ 1) (f1 : ¬ pE a l u d s t = 0) (g1 : ¬ pE a l u d r x = 0) (k1 : pV a l u d r t < 1) (k2 : ¬ uE a l u d t = 0) : Calls Try.prog 6 #[ck a l u d, .int .i64 r, .int .i64 s, .int .i64 t, .int .i64 x] w fun e w' => e = .returned (.bool true) ∧ Below w.heap.size w w' := by
  go_enter Try.func6, Try.ntmps6
  go_wp2_with fail
  refine (head_any _).mono ?_
  rintro e w1 ⟨rfl, hb1⟩
  have hs1 := hb1.size; (try simp at hs1)
  have O1 : Own w (w.heap.size + 1) w1 [(w.heap.size, 0, .int .i64 a), (w.heap.size, 1, .int .i64 l), (w.heap.size, 2, .int .i64 u), (w.heap.size, 3, .int .i64 d)] := (by (repeat' (first | (with_reducible assumption) | (with_reducible exact Below.refl _ _) | (with_reducible exact Cels.nil _) | (with_reducible refine Cels.cons ?_ ?_) | (with_reducible refine Own.mk ?_ ?_ ?_ ?_) | ((with_reducible refine Cel.new ?_ rfl); first | (with_reducible rfl) | omega | (simp; done) | (simp; omega)) | (with_reducible refine Cel.alloc ?_ _) | (with_reducible refine Cel.drew ?_) | (with_reducible refine Cel.setS ?_ _) | (with_reducible refine Has.set ?_ _ _) | (with_reducible exact Has.of (by assumption)) | (with_reducible refine Cel.setO ?_ ?_ _) | (with_reducible refine Cel.keep (by assumption) ?_) | (with_reducible refine Below.alloc ?_ ?_ _) | (with_reducible refine Below.drew ?_) | (with_reducible refine Below.setCell ?_ ?_ _) | (with_reducible refine below_keep ?_ ?_ (by assumption)) | omega | (simp; done) | (simp; omega))))
  have hB1 := O1.below; have hz1 := O1.size; have hl1 := O1.le; have S1_0 : Cel w1 (w.heap.size) 0 (.int .i64 a) := O1.cels.1; have S1_1 : Cel w1 (w.heap.size) 1 (.int .i64 l) := O1.cels.2.1; have S1_2 : Cel w1 (w.heap.size) 2 (.int .i64 u) := O1.cels.2.2.1; have S1_3 : Cel w1 (w.heap.size) 3 (.int .i64 d) := O1.cels.2.2.2.1
  go_wp2_with fail
  refine (passed_any a l u d r t _).mono ?_
  rintro e w2 ⟨rfl, hb2⟩
  have hs2 := hb2.size; (try simp at hs2)
  have O2 : Own w (w.heap.size + 1) w2 [(w.heap.size, 0, .int .i64 a), (w.heap.size, 1, .int .i64 l), (w.heap.size, 2, .int .i64 u), (w.heap.size, 3, .int .i64 d)] := (by (repeat' (first | (with_reducible assumption) | (with_reducible exact Below.refl _ _) | (with_reducible exact Cels.nil _) | (with_reducible refine Cels.cons ?_ ?_) | (with_reducible refine Own.mk ?_ ?_ ?_ ?_) | ((with_reducible refine Cel.new ?_ rfl); first | (with_reducible rfl) | omega | (simp; done) | (simp; omega)) | (with_reducible refine Cel.alloc ?_ _) | (with_reducible refine Cel.drew ?_) | (with_reducible refine Cel.setS ?_ _) | (with_reducible refine Has.set ?_ _ _) | (with_reducible exact Has.of (by assumption)) | (with_reducible refine Cel.setO ?_ ?_ _) | (with_reducible refine Cel.keep (by assumption) ?_) | (with_reducible refine Below.alloc ?_ ?_ _) | (with_reducible refine Below.drew ?_) | (with_reducible refine Below.setCell ?_ ?_ _) | (with_reducible refine below_keep ?_ ?_ (by assumption)) | omega | (simp; done) | (simp; omega))))
  have hB2 := O2.below; have hz2 := O2.size; have hl2 := O2.le; have S2_0 : Cel w2 (w.heap.size) 0 (.int .i64 a) := O2.cels.1; have S2_1 : Cel w2 (w.heap.size) 1 (.int .i64 l) := O2.cels.2.1; have S2_2 : Cel w2 (w.heap.size) 2 (.int .i64 u) := O2.cels.2.2.1; have S2_3 : Cel w2 (w.heap.size) 3 (.int .i64 d) := O2.cels.2.2.2.1
  clear O1 S1_0 S1_1 S1_2 S1_3
  go_wp2_with fail
  refine (passed_any a l u d s t _).mono ?_
  rintro e w3 ⟨rfl, hb3⟩
  have hs3 := hb3.size; (try simp at hs3)
  have O3 : Own w (w.heap.size + 1) w3 [(w.heap.size, 0, .int .i64 a), (w.heap.size, 1, .int .i64 l), (w.heap.size, 2, .int .i64 u), (w.heap.size, 3, .int .i64 d)] := (by (repeat' (first | (with_reducible assumption) | (with_reducible exact Below.refl _ _) | (with_reducible exact Cels.nil _) | (with_reducible refine Cels.cons ?_ ?_) | (with_reducible refine Own.mk ?_ ?_ ?_ ?_) | ((with_reducible refine Cel.new ?_ rfl); first | (with_reducible rfl) | omega | (simp; done) | (simp; omega)) | (with_reducible refine Cel.alloc ?_ _) | (with_reducible refine Cel.drew ?_) | (with_reducible refine Cel.setS ?_ _) | (with_reducible refine Has.set ?_ _ _) | (with_reducible exact Has.of (by assumption)) | (with_reducible refine Cel.setO ?_ ?_ _) | (with_reducible refine Cel.keep (by assumption) ?_) | (with_reducible refine Below.alloc ?_ ?_ _) | (with_reducible refine Below.drew ?_) | (with_reducible refine Below.setCell ?_ ?_ _) | (with_reducible refine below_keep ?_ ?_ (by assumption)) | omega | (simp; done) | (simp; omega))))
  have hB3 := O3.below; have hz3 := O3.size; have hl3 := O3.le; have S3_0 : Cel w3 (w.heap.size) 0 (.int .i64 a) := O3.cels.1; have S3_1 : Cel w3 (w.heap.size) 1 (.int .i64 l) := O3.cels.2.1; have S3_2 : Cel w3 (w.heap.size) 2 (.int .i64 u) := O3.cels.2.2.1; have S3_3 : Cel w3 (w.heap.size) 3 (.int .i64 d) := O3.cels.2.2.2.1
  clear O2 S2_0 S2_1 S2_2 S2_3
  go_wp2_with fail
  refine (passed_any a l u d r x _).mono ?_
  rintro e w4 ⟨rfl, hb4⟩
  have hs4 := hb4.size; (try simp at hs4)
  have O4 : Own w (w.heap.size + 1) w4 [(w.heap.size, 0, .int .i64 a), (w.heap.size, 1, .int .i64 l), (w.heap.size, 2, .int .i64 u), (w.heap.size, 3, .int .i64 d)] := (by (repeat' (first | (with_reducible assumption) | (with_reducible exact Below.refl _ _) | (with_reducible exact Cels.nil _) | (with_reducible refine Cels.cons ?_ ?_) | (with_reducible refine Own.mk ?_ ?_ ?_ ?_) | ((with_reducible refine Cel.new ?_ rfl); first | (with_reducible rfl) | omega | (simp; done) | (simp; omega)) | (with_reducible refine Cel.alloc ?_ _) | (with_reducible refine Cel.drew ?_) | (with_reducible refine Cel.setS ?_ _) | (with_reducible refine Has.set ?_ _ _) | (with_reducible exact Has.of (by assumption)) | (with_reducible refine Cel.setO ?_ ?_ _) | (with_reducible refine Cel.keep (by assumption) ?_) | (with_reducible refine Below.alloc ?_ ?_ _) | (with_reducible refine Below.drew ?_) | (with_reducible refine Below.setCell ?_ ?_ _) | (with_reducible refine below_keep ?_ ?_ (by assumption)) | omega | (simp; done) | (simp; omega))))
  have hB4 := O4.below; have hz4 := O4.size; have hl4 := O4.le; have S4_0 : Cel w4 (w.heap.size) 0 (.int .i64 a) := O4.cels.1; have S4_1 : Cel w4 (w.heap.size) 1 (.int .i64 l) := O4.cels.2.1; have S4_2 : Cel w4 (w.heap.size) 2 (.int .i64 u) := O4.cels.2.2.1; have S4_3 : Cel w4 (w.heap.size) 3 (.int .i64 d) := O4.cels.2.2.2.1
  clear O3 S3_0 S3_1 S3_2 S3_3
  go_wp2_with fail
  refine (sure_any a l u d t _).mono ?_
  rintro e w5 ⟨rfl, hb5⟩
  have hs5 := hb5.size; (try simp at hs5)
  have O5 : Own w (w.heap.size + 1) w5 [] := (by (repeat' (first | (with_reducible assumption) | (with_reducible exact Below.refl _ _) | (with_reducible exact Cels.nil _) | (with_reducible refine Cels.cons ?_ ?_) | (with_reducible refine Own.mk ?_ ?_ ?_ ?_) | ((with_reducible refine Cel.new ?_ rfl); first | (with_reducible rfl) | omega | (simp; done) | (simp; omega)) | (with_reducible refine Cel.alloc ?_ _) | (with_reducible refine Cel.drew ?_) | (with_reducible refine Cel.setS ?_ _) | (with_reducible refine Has.set ?_ _ _) | (with_reducible exact Has.of (by assumption)) | (with_reducible refine Cel.setO ?_ ?_ _) | (with_reducible refine Cel.keep (by assumption) ?_) | (with_reducible refine Below.alloc ?_ ?_ _) | (with_reducible refine Below.drew ?_) | (with_reducible refine Below.setCell ?_ ?_ _) | (with_reducible refine below_keep ?_ ?_ (by assumption)) | omega | (simp; done) | (simp; omega))))
  have hB5 := O5.below; have hz5 := O5.size; have hl5 := O5.le
  clear O4 S4_0 S4_1 S4_2 S4_3
  go_wp2
  all_goals first
    | (exfalso; omega)
    | (go_ret; exact ⟨rb (by first | rfl | (simp; done) | (rw [beq_iff_eq, Bool.eq_iff_iff]; simp; omega) | (simp; omega)), by (repeat' (first | (with_reducible assumption) | (with_reducible exact Below.refl _ _) | (with_reducible exact Cels.nil _) | (with_reducible refine Cels.cons ?_ ?_) | (with_reducible refine Own.mk ?_ ?_ ?_ ?_) | ((with_reducible refine Cel.new ?_ rfl); first | (with_reducible rfl) | omega | (simp; done) | (simp; omega)) | (with_reducible refine Cel.alloc ?_ _) | (with_reducible refine Cel.drew ?_) | (with_reducible refine Cel.setS ?_ _) | (with_reducible refine Has.set ?_ _ _) | (with_reducible exact Has.of (by assumption)) | (with_reducible refine Cel.setO ?_ ?_ _) | (with_reducible refine Cel.keep (by assumption) ?_) | (with_reducible refine Below.alloc ?_ ?_ _) | (with_reducible refine Below.drew ?_) | (with_reducible refine Below.setCell ?_ ?_ _) | (with_reducible refine below_keep ?_ ?_ (by assumption)) | omega | (simp; done) | (simp; omega)))⟩)

set_option maxRecDepth 100000 in
set_option maxHeartbeats 4000000 in
theorem law4_aac (a l u d r s t x : Int) (w : World) (h1 : pE a l u d r t = 0) (h0 : -1 ≤ pV a l u d r t) (h00 : pV a l u d r t ≤ 1) (f1 : ¬ pE a l u d s t = 0) (g1 : ¬ pE a l u d r x = 0) (k1 : pV a l u d r t < 1) (k2 : uE a l u d t = 0) (k3 : r < uV a l u d t) : Calls Try.prog 6 #[ck a l u d, .int .i64 r, .int .i64 s, .int .i64 t, .int .i64 x] w fun e w' => e = .returned (.bool true) ∧ Below w.heap.size w w' := by
  go_enter Try.func6, Try.ntmps6
  go_wp2_with fail
  refine (head_any _).mono ?_
  rintro e w1 ⟨rfl, hb1⟩
  have hs1 := hb1.size; (try simp at hs1)
  have O1 : Own w (w.heap.size + 1) w1 [(w.heap.size, 0, .int .i64 a), (w.heap.size, 1, .int .i64 l), (w.heap.size, 2, .int .i64 u), (w.heap.size, 3, .int .i64 d)] := (by (repeat' (first | (with_reducible assumption) | (with_reducible exact Below.refl _ _) | (with_reducible exact Cels.nil _) | (with_reducible refine Cels.cons ?_ ?_) | (with_reducible refine Own.mk ?_ ?_ ?_ ?_) | ((with_reducible refine Cel.new ?_ rfl); first | (with_reducible rfl) | omega | (simp; done) | (simp; omega)) | (with_reducible refine Cel.alloc ?_ _) | (with_reducible refine Cel.drew ?_) | (with_reducible refine Cel.setS ?_ _) | (with_reducible refine Has.set ?_ _ _) | (with_reducible exact Has.of (by assumption)) | (with_reducible refine Cel.setO ?_ ?_ _) | (with_reducible refine Cel.keep (by assumption) ?_) | (with_reducible refine Below.alloc ?_ ?_ _) | (with_reducible refine Below.drew ?_) | (with_reducible refine Below.setCell ?_ ?_ _) | (with_reducible refine below_keep ?_ ?_ (by assumption)) | omega | (simp; done) | (simp; omega))))
  have hB1 := O1.below; have hz1 := O1.size; have hl1 := O1.le; have S1_0 : Cel w1 (w.heap.size) 0 (.int .i64 a) := O1.cels.1; have S1_1 : Cel w1 (w.heap.size) 1 (.int .i64 l) := O1.cels.2.1; have S1_2 : Cel w1 (w.heap.size) 2 (.int .i64 u) := O1.cels.2.2.1; have S1_3 : Cel w1 (w.heap.size) 3 (.int .i64 d) := O1.cels.2.2.2.1
  go_wp2_with fail
  refine (passed_any a l u d r t _).mono ?_
  rintro e w2 ⟨rfl, hb2⟩
  have hs2 := hb2.size; (try simp at hs2)
  have O2 : Own w (w.heap.size + 1) w2 [(w.heap.size, 0, .int .i64 a), (w.heap.size, 1, .int .i64 l), (w.heap.size, 2, .int .i64 u), (w.heap.size, 3, .int .i64 d)] := (by (repeat' (first | (with_reducible assumption) | (with_reducible exact Below.refl _ _) | (with_reducible exact Cels.nil _) | (with_reducible refine Cels.cons ?_ ?_) | (with_reducible refine Own.mk ?_ ?_ ?_ ?_) | ((with_reducible refine Cel.new ?_ rfl); first | (with_reducible rfl) | omega | (simp; done) | (simp; omega)) | (with_reducible refine Cel.alloc ?_ _) | (with_reducible refine Cel.drew ?_) | (with_reducible refine Cel.setS ?_ _) | (with_reducible refine Has.set ?_ _ _) | (with_reducible exact Has.of (by assumption)) | (with_reducible refine Cel.setO ?_ ?_ _) | (with_reducible refine Cel.keep (by assumption) ?_) | (with_reducible refine Below.alloc ?_ ?_ _) | (with_reducible refine Below.drew ?_) | (with_reducible refine Below.setCell ?_ ?_ _) | (with_reducible refine below_keep ?_ ?_ (by assumption)) | omega | (simp; done) | (simp; omega))))
  have hB2 := O2.below; have hz2 := O2.size; have hl2 := O2.le; have S2_0 : Cel w2 (w.heap.size) 0 (.int .i64 a) := O2.cels.1; have S2_1 : Cel w2 (w.heap.size) 1 (.int .i64 l) := O2.cels.2.1; have S2_2 : Cel w2 (w.heap.size) 2 (.int .i64 u) := O2.cels.2.2.1; have S2_3 : Cel w2 (w.heap.size) 3 (.int .i64 d) := O2.cels.2.2.2.1
  clear O1 S1_0 S1_1 S1_2 S1_3
  go_wp2_with fail
  refine (passed_any a l u d s t _).mono ?_
  rintro e w3 ⟨rfl, hb3⟩
  have hs3 := hb3.size; (try simp at hs3)
  have O3 : Own w (w.heap.size + 1) w3 [(w.heap.size, 0, .int .i64 a), (w.heap.size, 1, .int .i64 l), (w.heap.size, 2, .int .i64 u), (w.heap.size, 3, .int .i64 d)] := (by (repeat' (first | (with_reducible assumption) | (with_reducible exact Below.refl _ _) | (with_reducible exact Cels.nil _) | (with_reducible refine Cels.cons ?_ ?_) | (with_reducible refine Own.mk ?_ ?_ ?_ ?_) | ((with_reducible refine Cel.new ?_ rfl); first | (with_reducible rfl) | omega | (simp; done) | (simp; omega)) | (with_reducible refine Cel.alloc ?_ _) | (with_reducible refine Cel.drew ?_) | (with_reducible refine Cel.setS ?_ _) | (with_reducible refine Has.set ?_ _ _) | (with_reducible exact Has.of (by assumption)) | (with_reducible refine Cel.setO ?_ ?_ _) | (with_reducible refine Cel.keep (by assumption) ?_) | (with_reducible refine Below.alloc ?_ ?_ _) | (with_reducible refine Below.drew ?_) | (with_reducible refine Below.setCell ?_ ?_ _) | (with_reducible refine below_keep ?_ ?_ (by assumption)) | omega | (simp; done) | (simp; omega))))
  have hB3 := O3.below; have hz3 := O3.size; have hl3 := O3.le; have S3_0 : Cel w3 (w.heap.size) 0 (.int .i64 a) := O3.cels.1; have S3_1 : Cel w3 (w.heap.size) 1 (.int .i64 l) := O3.cels.2.1; have S3_2 : Cel w3 (w.heap.size) 2 (.int .i64 u) := O3.cels.2.2.1; have S3_3 : Cel w3 (w.heap.size) 3 (.int .i64 d) := O3.cels.2.2.2.1
  clear O2 S2_0 S2_1 S2_2 S2_3
  go_wp2_with fail
  refine (passed_any a l u d r x _).mono ?_
  rintro e w4 ⟨rfl, hb4⟩
  have hs4 := hb4.size; (try simp at hs4)
  have O4 : Own w (w.heap.size + 1) w4 [(w.heap.size, 0, .int .i64 a), (w.heap.size, 1, .int .i64 l), (w.heap.size, 2, .int .i64 u), (w.heap.size, 3, .int .i64 d)] := (by (repeat' (first | (with_reducible assumption) | (with_reducible exact Below.refl _ _) | (with_reducible exact Cels.nil _) | (with_reducible refine Cels.cons ?_ ?_) | (with_reducible refine Own.mk ?_ ?_ ?_ ?_) | ((with_reducible refine Cel.new ?_ rfl); first | (with_reducible rfl) | omega | (simp; done) | (simp; omega)) | (with_reducible refine Cel.alloc ?_ _) | (with_reducible refine Cel.drew ?_) | (with_reducible refine Cel.setS ?_ _) | (with_reducible refine Has.set ?_ _ _) | (with_reducible exact Has.of (by assumption)) | (with_reducible refine Cel.setO ?_ ?_ _) | (with_reducible refine Cel.keep (by assumption) ?_) | (with_reducible refine Below.alloc ?_ ?_ _) | (with_reducible refine Below.drew ?_) | (with_reducible refine Below.setCell ?_ ?_ _) | (with_reducible refine below_keep ?_ ?_ (by assumption)) | omega | (simp; done) | (simp; omega))))
  have hB4 := O4.below; have hz4 := O4.size; have hl4 := O4.le; have S4_0 : Cel w4 (w.heap.size) 0 (.int .i64 a) := O4.cels.1; have S4_1 : Cel w4 (w.heap.size) 1 (.int .i64 l) := O4.cels.2.1; have S4_2 : Cel w4 (w.heap.size) 2 (.int .i64 u) := O4.cels.2.2.1; have S4_3 : Cel w4 (w.heap.size) 3 (.int .i64 d) := O4.cels.2.2.2.1
  clear O3 S3_0 S3_1 S3_2 S3_3
  go_wp2_with fail
  refine (sure_any a l u d t _).mono ?_
  rintro e w5 ⟨rfl, hb5⟩
  have hs5 := hb5.size; (try simp at hs5)
  have O5 : Own w (w.heap.size + 1) w5 [] := (by (repeat' (first | (with_reducible assumption) | (with_reducible exact Below.refl _ _) | (with_reducible exact Cels.nil _) | (with_reducible refine Cels.cons ?_ ?_) | (with_reducible refine Own.mk ?_ ?_ ?_ ?_) | ((with_reducible refine Cel.new ?_ rfl); first | (with_reducible rfl) | omega | (simp; done) | (simp; omega)) | (with_reducible refine Cel.alloc ?_ _) | (with_reducible refine Cel.drew ?_) | (with_reducible refine Cel.setS ?_ _) | (with_reducible refine Has.set ?_ _ _) | (with_reducible exact Has.of (by assumption)) | (with_reducible refine Cel.setO ?_ ?_ _) | (with_reducible refine Cel.keep (by assumption) ?_) | (with_reducible refine Below.alloc ?_ ?_ _) | (with_reducible refine Below.drew ?_) | (with_reducible refine Below.setCell ?_ ?_ _) | (with_reducible refine below_keep ?_ ?_ (by assumption)) | omega | (simp; done) | (simp; omega))))
  have hB5 := O5.below; have hz5 := O5.size; have hl5 := O5.le
  clear O4 S4_0 S4_1 S4_2 S4_3
  go_wp2
  all_goals first
    | (exfalso; omega)
    | (go_ret; exact ⟨rb (by first | rfl | (simp; done) | (rw [beq_iff_eq, Bool.eq_iff_iff]; simp; omega) | (simp; omega)), by (repeat' (first | (with_reducible assumption) | (with_reducible exact Below.refl _ _) | (with_reducible exact Cels.nil _) | (with_reducible refine Cels.cons ?_ ?_) | (with_reducible refine Own.mk ?_ ?_ ?_ ?_) | ((with_reducible refine Cel.new ?_ rfl); first | (with_reducible rfl) | omega | (simp; done) | (simp; omega)) | (with_reducible refine Cel.alloc ?_ _) | (with_reducible refine Cel.drew ?_) | (with_reducible refine Cel.setS ?_ _) | (with_reducible refine Has.set ?_ _ _) | (with_reducible exact Has.of (by assumption)) | (with_reducible refine Cel.setO ?_ ?_ _) | (with_reducible refine Cel.keep (by assumption) ?_) | (with_reducible refine Below.alloc ?_ ?_ _) | (with_reducible refine Below.drew ?_) | (with_reducible refine Below.setCell ?_ ?_ _) | (with_reducible refine below_keep ?_ ?_ (by assumption)) | omega | (simp; done) | (simp; omega)))⟩)

set_option maxRecDepth 100000 in
set_option maxHeartbeats 4000000 in
theorem law4_aba (a l u d r s t x : Int) (w : World) (h1 : pE a l u d r t = 0) (h0 : -1 ≤ pV a l u d r t) (h00 : pV a l u d r t ≤ 1) (f1 : ¬ pE a l u d s t = 0) (g1 : pE a l u d r x = 0) (g2 : t < x) (k1 : pV a l u d r t = 1) (k2 : uE a l u d t = 0) (k3 : uV a l u d t ≤ r) : Calls Try.prog 6 #[ck a l u d, .int .i64 r, .int .i64 s, .int .i64 t, .int .i64 x] w fun e w' => e = .returned (.bool true) ∧ Below w.heap.size w w' := by
  go_enter Try.func6, Try.ntmps6
  go_wp2_with fail
  refine (head_any _).mono ?_
  rintro e w1 ⟨rfl, hb1⟩
  have hs1 := hb1.size; (try simp at hs1)
  have O1 : Own w (w.heap.size + 1) w1 [(w.heap.size, 0, .int .i64 a), (w.heap.size, 1, .int .i64 l), (w.heap.size, 2, .int .i64 u), (w.heap.size, 3, .int .i64 d)] := (by (repeat' (first | (with_reducible assumption) | (with_reducible exact Below.refl _ _) | (with_reducible exact Cels.nil _) | (with_reducible refine Cels.cons ?_ ?_) | (with_reducible refine Own.mk ?_ ?_ ?_ ?_) | ((with_reducible refine Cel.new ?_ rfl); first | (with_reducible rfl) | omega | (simp; done) | (simp; omega)) | (with_reducible refine Cel.alloc ?_ _) | (with_reducible refine Cel.drew ?_) | (with_reducible refine Cel.setS ?_ _) | (with_reducible refine Has.set ?_ _ _) | (with_reducible exact Has.of (by assumption)) | (with_reducible refine Cel.setO ?_ ?_ _) | (with_reducible refine Cel.keep (by assumption) ?_) | (with_reducible refine Below.alloc ?_ ?_ _) | (with_reducible refine Below.drew ?_) | (with_reducible refine Below.setCell ?_ ?_ _) | (with_reducible refine below_keep ?_ ?_ (by assumption)) | omega | (simp; done) | (simp; omega))))
  have hB1 := O1.below; have hz1 := O1.size; have hl1 := O1.le; have S1_0 : Cel w1 (w.heap.size) 0 (.int .i64 a) := O1.cels.1; have S1_1 : Cel w1 (w.heap.size) 1 (.int .i64 l) := O1.cels.2.1; have S1_2 : Cel w1 (w.heap.size) 2 (.int .i64 u) := O1.cels.2.2.1; have S1_3 : Cel w1 (w.heap.size) 3 (.int .i64 d) := O1.cels.2.2.2.1
  go_wp2_with fail
  refine (passed_any a l u d r t _).mono ?_
  rintro e w2 ⟨rfl, hb2⟩
  have hs2 := hb2.size; (try simp at hs2)
  have O2 : Own w (w.heap.size + 1) w2 [(w.heap.size, 0, .int .i64 a), (w.heap.size, 1, .int .i64 l), (w.heap.size, 2, .int .i64 u), (w.heap.size, 3, .int .i64 d)] := (by (repeat' (first | (with_reducible assumption) | (with_reducible exact Below.refl _ _) | (with_reducible exact Cels.nil _) | (with_reducible refine Cels.cons ?_ ?_) | (with_reducible refine Own.mk ?_ ?_ ?_ ?_) | ((with_reducible refine Cel.new ?_ rfl); first | (with_reducible rfl) | omega | (simp; done) | (simp; omega)) | (with_reducible refine Cel.alloc ?_ _) | (with_reducible refine Cel.drew ?_) | (with_reducible refine Cel.setS ?_ _) | (with_reducible refine Has.set ?_ _ _) | (with_reducible exact Has.of (by assumption)) | (with_reducible refine Cel.setO ?_ ?_ _) | (with_reducible refine Cel.keep (by assumption) ?_) | (with_reducible refine Below.alloc ?_ ?_ _) | (with_reducible refine Below.drew ?_) | (with_reducible refine Below.setCell ?_ ?_ _) | (with_reducible refine below_keep ?_ ?_ (by assumption)) | omega | (simp; done) | (simp; omega))))
  have hB2 := O2.below; have hz2 := O2.size; have hl2 := O2.le; have S2_0 : Cel w2 (w.heap.size) 0 (.int .i64 a) := O2.cels.1; have S2_1 : Cel w2 (w.heap.size) 1 (.int .i64 l) := O2.cels.2.1; have S2_2 : Cel w2 (w.heap.size) 2 (.int .i64 u) := O2.cels.2.2.1; have S2_3 : Cel w2 (w.heap.size) 3 (.int .i64 d) := O2.cels.2.2.2.1
  clear O1 S1_0 S1_1 S1_2 S1_3
  go_wp2_with fail
  refine (passed_any a l u d s t _).mono ?_
  rintro e w3 ⟨rfl, hb3⟩
  have hs3 := hb3.size; (try simp at hs3)
  have O3 : Own w (w.heap.size + 1) w3 [(w.heap.size, 0, .int .i64 a), (w.heap.size, 1, .int .i64 l), (w.heap.size, 2, .int .i64 u), (w.heap.size, 3, .int .i64 d)] := (by (repeat' (first | (with_reducible assumption) | (with_reducible exact Below.refl _ _) | (with_reducible exact Cels.nil _) | (with_reducible refine Cels.cons ?_ ?_) | (with_reducible refine Own.mk ?_ ?_ ?_ ?_) | ((with_reducible refine Cel.new ?_ rfl); first | (with_reducible rfl) | omega | (simp; done) | (simp; omega)) | (with_reducible refine Cel.alloc ?_ _) | (with_reducible refine Cel.drew ?_) | (with_reducible refine Cel.setS ?_ _) | (with_reducible refine Has.set ?_ _ _) | (with_reducible exact Has.of (by assumption)) | (with_reducible refine Cel.setO ?_ ?_ _) | (with_reducible refine Cel.keep (by assumption) ?_) | (with_reducible refine Below.alloc ?_ ?_ _) | (with_reducible refine Below.drew ?_) | (with_reducible refine Below.setCell ?_ ?_ _) | (with_reducible refine below_keep ?_ ?_ (by assumption)) | omega | (simp; done) | (simp; omega))))
  have hB3 := O3.below; have hz3 := O3.size; have hl3 := O3.le; have S3_0 : Cel w3 (w.heap.size) 0 (.int .i64 a) := O3.cels.1; have S3_1 : Cel w3 (w.heap.size) 1 (.int .i64 l) := O3.cels.2.1; have S3_2 : Cel w3 (w.heap.size) 2 (.int .i64 u) := O3.cels.2.2.1; have S3_3 : Cel w3 (w.heap.size) 3 (.int .i64 d) := O3.cels.2.2.2.1
  clear O2 S2_0 S2_1 S2_2 S2_3
  go_wp2_with fail
  refine (passed_any a l u d r x _).mono ?_
  rintro e w4 ⟨rfl, hb4⟩
  have hs4 := hb4.size; (try simp at hs4)
  have O4 : Own w (w.heap.size + 1) w4 [(w.heap.size, 0, .int .i64 a), (w.heap.size, 1, .int .i64 l), (w.heap.size, 2, .int .i64 u), (w.heap.size, 3, .int .i64 d)] := (by (repeat' (first | (with_reducible assumption) | (with_reducible exact Below.refl _ _) | (with_reducible exact Cels.nil _) | (with_reducible refine Cels.cons ?_ ?_) | (with_reducible refine Own.mk ?_ ?_ ?_ ?_) | ((with_reducible refine Cel.new ?_ rfl); first | (with_reducible rfl) | omega | (simp; done) | (simp; omega)) | (with_reducible refine Cel.alloc ?_ _) | (with_reducible refine Cel.drew ?_) | (with_reducible refine Cel.setS ?_ _) | (with_reducible refine Has.set ?_ _ _) | (with_reducible exact Has.of (by assumption)) | (with_reducible refine Cel.setO ?_ ?_ _) | (with_reducible refine Cel.keep (by assumption) ?_) | (with_reducible refine Below.alloc ?_ ?_ _) | (with_reducible refine Below.drew ?_) | (with_reducible refine Below.setCell ?_ ?_ _) | (with_reducible refine below_keep ?_ ?_ (by assumption)) | omega | (simp; done) | (simp; omega))))
  have hB4 := O4.below; have hz4 := O4.size; have hl4 := O4.le; have S4_0 : Cel w4 (w.heap.size) 0 (.int .i64 a) := O4.cels.1; have S4_1 : Cel w4 (w.heap.size) 1 (.int .i64 l) := O4.cels.2.1; have S4_2 : Cel w4 (w.heap.size) 2 (.int .i64 u) := O4.cels.2.2.1; have S4_3 : Cel w4 (w.heap.size) 3 (.int .i64 d) := O4.cels.2.2.2.1
  clear O3 S3_0 S3_1 S3_2 S3_3
  go_wp2_with fail
  refine (sure_any a l u d t _).mono ?_
  rintro e w5 ⟨rfl, hb5⟩
  have hs5 := hb5.size; (try simp at hs5)
  have O5 : Own w (w.heap.size + 1) w5 [] := (by (repeat' (first | (with_reducible assumption) | (with_reducible exact Below.refl _ _) | (with_reducible exact Cels.nil _) | (with_reducible refine Cels.cons ?_ ?_) | (with_reducible refine Own.mk ?_ ?_ ?_ ?_) | ((with_reducible refine Cel.new ?_ rfl); first | (with_reducible rfl) | omega | (simp; done) | (simp; omega)) | (with_reducible refine Cel.alloc ?_ _) | (with_reducible refine Cel.drew ?_) | (with_reducible refine Cel.setS ?_ _) | (with_reducible refine Has.set ?_ _ _) | (with_reducible exact Has.of (by assumption)) | (with_reducible refine Cel.setO ?_ ?_ _) | (with_reducible refine Cel.keep (by assumption) ?_) | (with_reducible refine Below.alloc ?_ ?_ _) | (with_reducible refine Below.drew ?_) | (with_reducible refine Below.setCell ?_ ?_ _) | (with_reducible refine below_keep ?_ ?_ (by assumption)) | omega | (simp; done) | (simp; omega))))
  have hB5 := O5.below; have hz5 := O5.size; have hl5 := O5.le
  clear O4 S4_0 S4_1 S4_2 S4_3
  go_wp2
  all_goals first
    | (exfalso; omega)
    | (go_ret; exact ⟨rb (by first | rfl | (simp; done) | (rw [beq_iff_eq, Bool.eq_iff_iff]; simp; omega) | (simp; omega)), by (repeat' (first | (with_reducible assumption) | (with_reducible exact Below.refl _ _) | (with_reducible exact Cels.nil _) | (with_reducible refine Cels.cons ?_ ?_) | (with_reducible refine Own.mk ?_ ?_ ?_ ?_) | ((with_reducible refine Cel.new ?_ rfl); first | (with_reducible rfl) | omega | (simp; done) | (simp; omega)) | (with_reducible refine Cel.alloc ?_ _) | (with_reducible refine Cel.drew ?_) | (with_reducible refine Cel.setS ?_ _) | (with_reducible refine Has.set ?_ _ _) | (with_reducible exact Has.of (by assumption)) | (with_reducible refine Cel.setO ?_ ?_ _) | (with_reducible refine Cel.keep (by assumption) ?_) | (with_reducible refine Below.alloc ?_ ?_ _) | (with_reducible refine Below.drew ?_) | (with_reducible refine Below.setCell ?_ ?_ _) | (with_reducible refine below_keep ?_ ?_ (by assumption)) | omega | (simp; done) | (simp; omega)))⟩)

set_option maxRecDepth 100000 in
set_option maxHeartbeats 4000000 in
theorem law4_abb (a l u d r s t x : Int) (w : World) (h1 : pE a l u d r t = 0) (h0 : -1 ≤ pV a l u d r t) (h00 : pV a l u d r t ≤ 1) (f1 : ¬ pE a l u d s t = 0) (g1 : pE a l u d r x = 0) (g2 : t < x) (k1 : pV a l u d r t < 1) (k2 : ¬ uE a l u d t = 0) : Calls Try.prog 6 #[ck a l u d, .int .i64 r, .int .i64 s, .int .i64 t, .int .i64 x] w fun e w' => e = .returned (.bool true) ∧ Below w.heap.size w w' := by
  go_enter Try.func6, Try.ntmps6
  go_wp2_with fail
  refine (head_any _).mono ?_
  rintro e w1 ⟨rfl, hb1⟩
  have hs1 := hb1.size; (try simp at hs1)
  have O1 : Own w (w.heap.size + 1) w1 [(w.heap.size, 0, .int .i64 a), (w.heap.size, 1, .int .i64 l), (w.heap.size, 2, .int .i64 u), (w.heap.size, 3, .int .i64 d)] := (by (repeat' (first | (with_reducible assumption) | (with_reducible exact Below.refl _ _) | (with_reducible exact Cels.nil _) | (with_reducible refine Cels.cons ?_ ?_) | (with_reducible refine Own.mk ?_ ?_ ?_ ?_) | ((with_reducible refine Cel.new ?_ rfl); first | (with_reducible rfl) | omega | (simp; done) | (simp; omega)) | (with_reducible refine Cel.alloc ?_ _) | (with_reducible refine Cel.drew ?_) | (with_reducible refine Cel.setS ?_ _) | (with_reducible refine Has.set ?_ _ _) | (with_reducible exact Has.of (by assumption)) | (with_reducible refine Cel.setO ?_ ?_ _) | (with_reducible refine Cel.keep (by assumption) ?_) | (with_reducible refine Below.alloc ?_ ?_ _) | (with_reducible refine Below.drew ?_) | (with_reducible refine Below.setCell ?_ ?_ _) | (with_reducible refine below_keep ?_ ?_ (by assumption)) | omega | (simp; done) | (simp; omega))))
  have hB1 := O1.below; have hz1 := O1.size; have hl1 := O1.le; have S1_0 : Cel w1 (w.heap.size) 0 (.int .i64 a) := O1.cels.1; have S1_1 : Cel w1 (w.heap.size) 1 (.int .i64 l) := O1.cels.2.1; have S1_2 : Cel w1 (w.heap.size) 2 (.int .i64 u) := O1.cels.2.2.1; have S1_3 : Cel w1 (w.heap.size) 3 (.int .i64 d) := O1.cels.2.2.2.1
  go_wp2_with fail
  refine (passed_any a l u d r t _).mono ?_
  rintro e w2 ⟨rfl, hb2⟩
  have hs2 := hb2.size; (try simp at hs2)
  have O2 : Own w (w.heap.size + 1) w2 [(w.heap.size, 0, .int .i64 a), (w.heap.size, 1, .int .i64 l), (w.heap.size, 2, .int .i64 u), (w.heap.size, 3, .int .i64 d)] := (by (repeat' (first | (with_reducible assumption) | (with_reducible exact Below.refl _ _) | (with_reducible exact Cels.nil _) | (with_reducible refine Cels.cons ?_ ?_) | (with_reducible refine Own.mk ?_ ?_ ?_ ?_) | ((with_reducible refine Cel.new ?_ rfl); first | (with_reducible rfl) | omega | (simp; done) | (simp; omega)) | (with_reducible refine Cel.alloc ?_ _) | (with_reducible refine Cel.drew ?_) | (with_reducible refine Cel.setS ?_ _) | (with_reducible refine Has.set ?_ _ _) | (with_reducible exact Has.of (by assumption)) | (with_reducible refine Cel.setO ?_ ?_ _) | (with_reducible refine Cel.keep (by assumption) ?_) | (with_reducible refine Below.alloc ?_ ?_ _) | (with_reducible refine Below.drew ?_) | (with_reducible refine Below.setCell ?_ ?_ _) | (with_reducible refine below_keep ?_ ?_ (by assumption)) | omega | (simp; done) | (simp; omega))))
  have hB2 := O2.below; have hz2 := O2.size; have hl2 := O2.le; have S2_0 : Cel w2 (w.heap.size) 0 (.int .i64 a) := O2.cels.1; have S2_1 : Cel w2 (w.heap.size) 1 (.int .i64 l) := O2.cels.2.1; have S2_2 : Cel w2 (w.heap.size) 2 (.int .i64 u) := O2.cels.2.2.1; have S2_3 : Cel w2 (w.heap.size) 3 (.int .i64 d) := O2.cels.2.2.2.1
  clear O1 S1_0 S1_1 S1_2 S1_3
  go_wp2_with fail
  refine (passed_any a l u d s t _).mono ?_
  rintro e w3 ⟨rfl, hb3⟩
  have hs3 := hb3.size; (try simp at hs3)
  have O3 : Own w (w.heap.size + 1) w3 [(w.heap.size, 0, .int .i64 a), (w.heap.size, 1, .int .i64 l), (w.heap.size, 2, .int .i64 u), (w.heap.size, 3, .int .i64 d)] := (by (repeat' (first | (with_reducible assumption) | (with_reducible exact Below.refl _ _) | (with_reducible exact Cels.nil _) | (with_reducible refine Cels.cons ?_ ?_) | (with_reducible refine Own.mk ?_ ?_ ?_ ?_) | ((with_reducible refine Cel.new ?_ rfl); first | (with_reducible rfl) | omega | (simp; done) | (simp; omega)) | (with_reducible refine Cel.alloc ?_ _) | (with_reducible refine Cel.drew ?_) | (with_reducible refine Cel.setS ?_ _) | (with_reducible refine Has.set ?_ _ _) | (with_reducible exact Has.of (by assumption)) | (with_reducible refine Cel.setO ?_ ?_ _) | (with_reducible refine Cel.keep (by assumption) ?_) | (with_reducible refine Below.alloc ?_ ?_ _) | (with_reducible refine Below.drew ?_) | (with_reducible refine Below.setCell ?_ ?_ _) | (with_reducible refine below_keep ?_ ?_ (by assumption)) | omega | (simp; done) | (simp; omega))))
  have hB3 := O3.below; have hz3 := O3.size; have hl3 := O3.le; have S3_0 : Cel w3 (w.heap.size) 0 (.int .i64 a) := O3.cels.1; have S3_1 : Cel w3 (w.heap.size) 1 (.int .i64 l) := O3.cels.2.1; have S3_2 : Cel w3 (w.heap.size) 2 (.int .i64 u) := O3.cels.2.2.1; have S3_3 : Cel w3 (w.heap.size) 3 (.int .i64 d) := O3.cels.2.2.2.1
  clear O2 S2_0 S2_1 S2_2 S2_3
  go_wp2_with fail
  refine (passed_any a l u d r x _).mono ?_
  rintro e w4 ⟨rfl, hb4⟩
  have hs4 := hb4.size; (try simp at hs4)
  have O4 : Own w (w.heap.size + 1) w4 [(w.heap.size, 0, .int .i64 a), (w.heap.size, 1, .int .i64 l), (w.heap.size, 2, .int .i64 u), (w.heap.size, 3, .int .i64 d)] := (by (repeat' (first | (with_reducible assumption) | (with_reducible exact Below.refl _ _) | (with_reducible exact Cels.nil _) | (with_reducible refine Cels.cons ?_ ?_) | (with_reducible refine Own.mk ?_ ?_ ?_ ?_) | ((with_reducible refine Cel.new ?_ rfl); first | (with_reducible rfl) | omega | (simp; done) | (simp; omega)) | (with_reducible refine Cel.alloc ?_ _) | (with_reducible refine Cel.drew ?_) | (with_reducible refine Cel.setS ?_ _) | (with_reducible refine Has.set ?_ _ _) | (with_reducible exact Has.of (by assumption)) | (with_reducible refine Cel.setO ?_ ?_ _) | (with_reducible refine Cel.keep (by assumption) ?_) | (with_reducible refine Below.alloc ?_ ?_ _) | (with_reducible refine Below.drew ?_) | (with_reducible refine Below.setCell ?_ ?_ _) | (with_reducible refine below_keep ?_ ?_ (by assumption)) | omega | (simp; done) | (simp; omega))))
  have hB4 := O4.below; have hz4 := O4.size; have hl4 := O4.le; have S4_0 : Cel w4 (w.heap.size) 0 (.int .i64 a) := O4.cels.1; have S4_1 : Cel w4 (w.heap.size) 1 (.int .i64 l) := O4.cels.2.1; have S4_2 : Cel w4 (w.heap.size) 2 (.int .i64 u) := O4.cels.2.2.1; have S4_3 : Cel w4 (w.heap.size) 3 (.int .i64 d) := O4.cels.2.2.2.1
  clear O3 S3_0 S3_1 S3_2 S3_3
  go_wp2_with fail
  refine (sure_any a l u d t _).mono ?_
  rintro e w5 ⟨rfl, hb5⟩
  have hs5 := hb5.size; (try simp at hs5)
  have O5 : Own w (w.heap.size + 1) w5 [] := (by (repeat' (first | (with_reducible assumption) | (with_reducible exact Below.refl _ _) | (with_reducible exact Cels.nil _) | (with_reducible refine Cels.cons ?_ ?_) | (with_reducible refine Own.mk ?_ ?_ ?_ ?_) | ((with_reducible refine Cel.new ?_ rfl); first | (with_reducible rfl) | omega | (simp; done) | (simp; omega)) | (with_reducible refine Cel.alloc ?_ _) | (with_reducible refine Cel.drew ?_) | (with_reducible refine Cel.setS ?_ _) | (with_reducible refine Has.set ?_ _ _) | (with_reducible exact Has.of (by assumption)) | (with_reducible refine Cel.setO ?_ ?_ _) | (with_reducible refine Cel.keep (by assumption) ?_) | (with_reducible refine Below.alloc ?_ ?_ _) | (with_reducible refine Below.drew ?_) | (with_reducible refine Below.setCell ?_ ?_ _) | (with_reducible refine below_keep ?_ ?_ (by assumption)) | omega | (simp; done) | (simp; omega))))
  have hB5 := O5.below; have hz5 := O5.size; have hl5 := O5.le
  clear O4 S4_0 S4_1 S4_2 S4_3
  go_wp2
  all_goals first
    | (exfalso; omega)
    | (go_ret; exact ⟨rb (by first | rfl | (simp; done) | (rw [beq_iff_eq, Bool.eq_iff_iff]; simp; omega) | (simp; omega)), by (repeat' (first | (with_reducible assumption) | (with_reducible exact Below.refl _ _) | (with_reducible exact Cels.nil _) | (with_reducible refine Cels.cons ?_ ?_) | (with_reducible refine Own.mk ?_ ?_ ?_ ?_) | ((with_reducible refine Cel.new ?_ rfl); first | (with_reducible rfl) | omega | (simp; done) | (simp; omega)) | (with_reducible refine Cel.alloc ?_ _) | (with_reducible refine Cel.drew ?_) | (with_reducible refine Cel.setS ?_ _) | (with_reducible refine Has.set ?_ _ _) | (with_reducible exact Has.of (by assumption)) | (with_reducible refine Cel.setO ?_ ?_ _) | (with_reducible refine Cel.keep (by assumption) ?_) | (with_reducible refine Below.alloc ?_ ?_ _) | (with_reducible refine Below.drew ?_) | (with_reducible refine Below.setCell ?_ ?_ _) | (with_reducible refine below_keep ?_ ?_ (by assumption)) | omega | (simp; done) | (simp; omega)))⟩)

set_option maxRecDepth 100000 in
set_option maxHeartbeats 4000000 in
theorem law4_abc (a l u d r s t x : Int) (w : World) (h1 : pE a l u d r t = 0) (h0 : -1 ≤ pV a l u d r t) (h00 : pV a l u d r t ≤ 1) (f1 : ¬ pE a l u d s t = 0) (g1 : pE a l u d r x = 0) (g2 : t < x) (k1 : pV a l u d r t < 1) (k2 : uE a l u d t = 0) (k3 : r < uV a l u d t) : Calls Try.prog 6 #[ck a l u d, .int .i64 r, .int .i64 s, .int .i64 t, .int .i64 x] w fun e w' => e = .returned (.bool true) ∧ Below w.heap.size w w' := by
  go_enter Try.func6, Try.ntmps6
  go_wp2_with fail
  refine (head_any _).mono ?_
  rintro e w1 ⟨rfl, hb1⟩
  have hs1 := hb1.size; (try simp at hs1)
  have O1 : Own w (w.heap.size + 1) w1 [(w.heap.size, 0, .int .i64 a), (w.heap.size, 1, .int .i64 l), (w.heap.size, 2, .int .i64 u), (w.heap.size, 3, .int .i64 d)] := (by (repeat' (first | (with_reducible assumption) | (with_reducible exact Below.refl _ _) | (with_reducible exact Cels.nil _) | (with_reducible refine Cels.cons ?_ ?_) | (with_reducible refine Own.mk ?_ ?_ ?_ ?_) | ((with_reducible refine Cel.new ?_ rfl); first | (with_reducible rfl) | omega | (simp; done) | (simp; omega)) | (with_reducible refine Cel.alloc ?_ _) | (with_reducible refine Cel.drew ?_) | (with_reducible refine Cel.setS ?_ _) | (with_reducible refine Has.set ?_ _ _) | (with_reducible exact Has.of (by assumption)) | (with_reducible refine Cel.setO ?_ ?_ _) | (with_reducible refine Cel.keep (by assumption) ?_) | (with_reducible refine Below.alloc ?_ ?_ _) | (with_reducible refine Below.drew ?_) | (with_reducible refine Below.setCell ?_ ?_ _) | (with_reducible refine below_keep ?_ ?_ (by assumption)) | omega | (simp; done) | (simp; omega))))
  have hB1 := O1.below; have hz1 := O1.size; have hl1 := O1.le; have S1_0 : Cel w1 (w.heap.size) 0 (.int .i64 a) := O1.cels.1; have S1_1 : Cel w1 (w.heap.size) 1 (.int .i64 l) := O1.cels.2.1; have S1_2 : Cel w1 (w.heap.size) 2 (.int .i64 u) := O1.cels.2.2.1; have S1_3 : Cel w1 (w.heap.size) 3 (.int .i64 d) := O1.cels.2.2.2.1
  go_wp2_with fail
  refine (passed_any a l u d r t _).mono ?_
  rintro e w2 ⟨rfl, hb2⟩
  have hs2 := hb2.size; (try simp at hs2)
  have O2 : Own w (w.heap.size + 1) w2 [(w.heap.size, 0, .int .i64 a), (w.heap.size, 1, .int .i64 l), (w.heap.size, 2, .int .i64 u), (w.heap.size, 3, .int .i64 d)] := (by (repeat' (first | (with_reducible assumption) | (with_reducible exact Below.refl _ _) | (with_reducible exact Cels.nil _) | (with_reducible refine Cels.cons ?_ ?_) | (with_reducible refine Own.mk ?_ ?_ ?_ ?_) | ((with_reducible refine Cel.new ?_ rfl); first | (with_reducible rfl) | omega | (simp; done) | (simp; omega)) | (with_reducible refine Cel.alloc ?_ _) | (with_reducible refine Cel.drew ?_) | (with_reducible refine Cel.setS ?_ _) | (with_reducible refine Has.set ?_ _ _) | (with_reducible exact Has.of (by assumption)) | (with_reducible refine Cel.setO ?_ ?_ _) | (with_reducible refine Cel.keep (by assumption) ?_) | (with_reducible refine Below.alloc ?_ ?_ _) | (with_reducible refine Below.drew ?_) | (with_reducible refine Below.setCell ?_ ?_ _) | (with_reducible refine below_keep ?_ ?_ (by assumption)) | omega | (simp; done) | (simp; omega))))
  have hB2 := O2.below; have hz2 := O2.size; have hl2 := O2.le; have S2_0 : Cel w2 (w.heap.size) 0 (.int .i64 a) := O2.cels.1; have S2_1 : Cel w2 (w.heap.size) 1 (.int .i64 l) := O2.cels.2.1; have S2_2 : Cel w2 (w.heap.size) 2 (.int .i64 u) := O2.cels.2.2.1; have S2_3 : Cel w2 (w.heap.size) 3 (.int .i64 d) := O2.cels.2.2.2.1
  clear O1 S1_0 S1_1 S1_2 S1_3
  go_wp2_with fail
  refine (passed_any a l u d s t _).mono ?_
  rintro e w3 ⟨rfl, hb3⟩
  have hs3 := hb3.size; (try simp at hs3)
  have O3 : Own w (w.heap.size + 1) w3 [(w.heap.size, 0, .int .i64 a), (w.heap.size, 1, .int .i64 l), (w.heap.size, 2, .int .i64 u), (w.heap.size, 3, .int .i64 d)] := (by (repeat' (first | (with_reducible assumption) | (with_reducible exact Below.refl _ _) | (with_reducible exact Cels.nil _) | (with_reducible refine Cels.cons ?_ ?_) | (with_reducible refine Own.mk ?_ ?_ ?_ ?_) | ((with_reducible refine Cel.new ?_ rfl); first | (with_reducible rfl) | omega | (simp; done) | (simp; omega)) | (with_reducible refine Cel.alloc ?_ _) | (with_reducible refine Cel.drew ?_) | (with_reducible refine Cel.setS ?_ _) | (with_reducible refine Has.set ?_ _ _) | (with_reducible exact Has.of (by assumption)) | (with_reducible refine Cel.setO ?_ ?_ _) | (with_reducible refine Cel.keep (by assumption) ?_) | (with_reducible refine Below.alloc ?_ ?_ _) | (with_reducible refine Below.drew ?_) | (with_reducible refine Below.setCell ?_ ?_ _) | (with_reducible refine below_keep ?_ ?_ (by assumption)) | omega | (simp; done) | (simp; omega))))
  have hB3 := O3.below; have hz3 := O3.size; have hl3 := O3.le; have S3_0 : Cel w3 (w.heap.size) 0 (.int .i64 a) := O3.cels.1; have S3_1 : Cel w3 (w.heap.size) 1 (.int .i64 l) := O3.cels.2.1; have S3_2 : Cel w3 (w.heap.size) 2 (.int .i64 u) := O3.cels.2.2.1; have S3_3 : Cel w3 (w.heap.size) 3 (.int .i64 d) := O3.cels.2.2.2.1
  clear O2 S2_0 S2_1 S2_2 S2_3
  go_wp2_with fail
  refine (passed_any a l u d r x _).mono ?_
  rintro e w4 ⟨rfl, hb4⟩
  have hs4 := hb4.size; (try simp at hs4)
  have O4 : Own w (w.heap.size + 1) w4 [(w.heap.size, 0, .int .i64 a), (w.heap.size, 1, .int .i64 l), (w.heap.size, 2, .int .i64 u), (w.heap.size, 3, .int .i64 d)] := (by (repeat' (first | (with_reducible assumption) | (with_reducible exact Below.refl _ _) | (with_reducible exact Cels.nil _) | (with_reducible refine Cels.cons ?_ ?_) | (with_reducible refine Own.mk ?_ ?_ ?_ ?_) | ((with_reducible refine Cel.new ?_ rfl); first | (with_reducible rfl) | omega | (simp; done) | (simp; omega)) | (with_reducible refine Cel.alloc ?_ _) | (with_reducible refine Cel.drew ?_) | (with_reducible refine Cel.setS ?_ _) | (with_reducible refine Has.set ?_ _ _) | (with_reducible exact Has.of (by assumption)) | (with_reducible refine Cel.setO ?_ ?_ _) | (with_reducible refine Cel.keep (by assumption) ?_) | (with_reducible refine Below.alloc ?_ ?_ _) | (with_reducible refine Below.drew ?_) | (with_reducible refine Below.setCell ?_ ?_ _) | (with_reducible refine below_keep ?_ ?_ (by assumption)) | omega | (simp; done) | (simp; omega))))
  have hB4 := O4.below; have hz4 := O4.size; have hl4 := O4.le; have S4_0 : Cel w4 (w.heap.size) 0 (.int .i64 a) := O4.cels.1; have S4_1 : Cel w4 (w.heap.size) 1 (.int .i64 l) := O4.cels.2.1; have S4_2 : Cel w4 (w.heap.size) 2 (.int .i64 u) := O4.cels.2.2.1; have S4_3 : Cel w4 (w.heap.size) 3 (.int .i64 d) := O4.cels.2.2.2.1
  clear O3 S3_0 S3_1 S3_2 S3_3
  go_wp2_with fail
  refine (sure_any a l u d t _).mono ?_
  rintro e w5 ⟨rfl, hb5⟩
  have hs5 := hb5.size; (try simp at hs5)
  have O5 : Own w (w.heap.size + 1) w5 [] := (by (repeat' (first | (with_reducible assumption) | (with_reducible exact Below.refl _ _) | (with_reducible exact Cels.nil _) | (with_reducible refine Cels.cons ?_ ?_) | (with_reducible refine Own.mk ?_ ?_ ?_ ?_) | ((with_reducible refine Cel.new ?_ rfl); first | (with_reducible rfl) | omega | (simp; done) | (simp; omega)) | (with_reducible refine Cel.alloc ?_ _) | (with_reducible refine Cel.drew ?_) | (with_reducible refine Cel.setS ?_ _) | (with_reducible refine Has.set ?_ _ _) | (with_reducible exact Has.of (by assumption)) | (with_reducible refine Cel.setO ?_ ?_ _) | (with_reducible refine Cel.keep (by assumption) ?_) | (with_reducible refine Below.alloc ?_ ?_ _) | (with_reducible refine Below.drew ?_) | (with_reducible refine Below.setCell ?_ ?_ _) | (with_reducible refine below_keep ?_ ?_ (by assumption)) | omega | (simp; done) | (simp; omega))))
  have hB5 := O5.below; have hz5 := O5.size; have hl5 := O5.le
  clear O4 S4_0 S4_1 S4_2 S4_3
  go_wp2
  all_goals first
    | (exfalso; omega)
    | (go_ret; exact ⟨rb (by first | rfl | (simp; done) | (rw [beq_iff_eq, Bool.eq_iff_iff]; simp; omega) | (simp; omega)), by (repeat' (first | (with_reducible assumption) | (with_reducible exact Below.refl _ _) | (with_reducible exact Cels.nil _) | (with_reducible refine Cels.cons ?_ ?_) | (with_reducible refine Own.mk ?_ ?_ ?_ ?_) | ((with_reducible refine Cel.new ?_ rfl); first | (with_reducible rfl) | omega | (simp; done) | (simp; omega)) | (with_reducible refine Cel.alloc ?_ _) | (with_reducible refine Cel.drew ?_) | (with_reducible refine Cel.setS ?_ _) | (with_reducible refine Has.set ?_ _ _) | (with_reducible exact Has.of (by assumption)) | (with_reducible refine Cel.setO ?_ ?_ _) | (with_reducible refine Cel.keep (by assumption) ?_) | (with_reducible refine Below.alloc ?_ ?_ _) | (with_reducible refine Below.drew ?_) | (with_reducible refine Below.setCell ?_ ?_ _) | (with_reducible refine below_keep ?_ ?_ (by assumption)) | omega | (simp; done) | (simp; omega)))⟩)

set_option maxRecDepth 100000 in
set_option maxHeartbeats 4000000 in
theorem law4_aca (a l u d r s t x : Int) (w : World) (h1 : pE a l u d r t = 0) (h0 : -1 ≤ pV a l u d r t) (h00 : pV a l u d r t ≤ 1) (f1 : ¬ pE a l u d s t = 0) (g1 : pE a l u d r x = 0) (g2 : x ≤ t) (g3 : pV a l u d r t ≤ pV a l u d r x) (k1 : pV a l u d r t = 1) (k2 : uE a l u d t = 0) (k3 : uV a l u d t ≤ r) : Calls Try.prog 6 #[ck a l u d, .int .i64 r, .int .i64 s, .int .i64 t, .int .i64 x] w fun e w' => e = .returned (.bool true) ∧ Below w.heap.size w w' := by
  go_enter Try.func6, Try.ntmps6
  go_wp2_with fail
  refine (head_any _).mono ?_
  rintro e w1 ⟨rfl, hb1⟩
  have hs1 := hb1.size; (try simp at hs1)
  have O1 : Own w (w.heap.size + 1) w1 [(w.heap.size, 0, .int .i64 a), (w.heap.size, 1, .int .i64 l), (w.heap.size, 2, .int .i64 u), (w.heap.size, 3, .int .i64 d)] := (by (repeat' (first | (with_reducible assumption) | (with_reducible exact Below.refl _ _) | (with_reducible exact Cels.nil _) | (with_reducible refine Cels.cons ?_ ?_) | (with_reducible refine Own.mk ?_ ?_ ?_ ?_) | ((with_reducible refine Cel.new ?_ rfl); first | (with_reducible rfl) | omega | (simp; done) | (simp; omega)) | (with_reducible refine Cel.alloc ?_ _) | (with_reducible refine Cel.drew ?_) | (with_reducible refine Cel.setS ?_ _) | (with_reducible refine Has.set ?_ _ _) | (with_reducible exact Has.of (by assumption)) | (with_reducible refine Cel.setO ?_ ?_ _) | (with_reducible refine Cel.keep (by assumption) ?_) | (with_reducible refine Below.alloc ?_ ?_ _) | (with_reducible refine Below.drew ?_) | (with_reducible refine Below.setCell ?_ ?_ _) | (with_reducible refine below_keep ?_ ?_ (by assumption)) | omega | (simp; done) | (simp; omega))))
  have hB1 := O1.below; have hz1 := O1.size; have hl1 := O1.le; have S1_0 : Cel w1 (w.heap.size) 0 (.int .i64 a) := O1.cels.1; have S1_1 : Cel w1 (w.heap.size) 1 (.int .i64 l) := O1.cels.2.1; have S1_2 : Cel w1 (w.heap.size) 2 (.int .i64 u) := O1.cels.2.2.1; have S1_3 : Cel w1 (w.heap.size) 3 (.int .i64 d) := O1.cels.2.2.2.1
  go_wp2_with fail
  refine (passed_any a l u d r t _).mono ?_
  rintro e w2 ⟨rfl, hb2⟩
  have hs2 := hb2.size; (try simp at hs2)
  have O2 : Own w (w.heap.size + 1) w2 [(w.heap.size, 0, .int .i64 a), (w.heap.size, 1, .int .i64 l), (w.heap.size, 2, .int .i64 u), (w.heap.size, 3, .int .i64 d)] := (by (repeat' (first | (with_reducible assumption) | (with_reducible exact Below.refl _ _) | (with_reducible exact Cels.nil _) | (with_reducible refine Cels.cons ?_ ?_) | (with_reducible refine Own.mk ?_ ?_ ?_ ?_) | ((with_reducible refine Cel.new ?_ rfl); first | (with_reducible rfl) | omega | (simp; done) | (simp; omega)) | (with_reducible refine Cel.alloc ?_ _) | (with_reducible refine Cel.drew ?_) | (with_reducible refine Cel.setS ?_ _) | (with_reducible refine Has.set ?_ _ _) | (with_reducible exact Has.of (by assumption)) | (with_reducible refine Cel.setO ?_ ?_ _) | (with_reducible refine Cel.keep (by assumption) ?_) | (with_reducible refine Below.alloc ?_ ?_ _) | (with_reducible refine Below.drew ?_) | (with_reducible refine Below.setCell ?_ ?_ _) | (with_reducible refine below_keep ?_ ?_ (by assumption)) | omega | (simp; done) | (simp; omega))))
  have hB2 := O2.below; have hz2 := O2.size; have hl2 := O2.le; have S2_0 : Cel w2 (w.heap.size) 0 (.int .i64 a) := O2.cels.1; have S2_1 : Cel w2 (w.heap.size) 1 (.int .i64 l) := O2.cels.2.1; have S2_2 : Cel w2 (w.heap.size) 2 (.int .i64 u) := O2.cels.2.2.1; have S2_3 : Cel w2 (w.heap.size) 3 (.int .i64 d) := O2.cels.2.2.2.1
  clear O1 S1_0 S1_1 S1_2 S1_3
  go_wp2_with fail
  refine (passed_any a l u d s t _).mono ?_
  rintro e w3 ⟨rfl, hb3⟩
  have hs3 := hb3.size; (try simp at hs3)
  have O3 : Own w (w.heap.size + 1) w3 [(w.heap.size, 0, .int .i64 a), (w.heap.size, 1, .int .i64 l), (w.heap.size, 2, .int .i64 u), (w.heap.size, 3, .int .i64 d)] := (by (repeat' (first | (with_reducible assumption) | (with_reducible exact Below.refl _ _) | (with_reducible exact Cels.nil _) | (with_reducible refine Cels.cons ?_ ?_) | (with_reducible refine Own.mk ?_ ?_ ?_ ?_) | ((with_reducible refine Cel.new ?_ rfl); first | (with_reducible rfl) | omega | (simp; done) | (simp; omega)) | (with_reducible refine Cel.alloc ?_ _) | (with_reducible refine Cel.drew ?_) | (with_reducible refine Cel.setS ?_ _) | (with_reducible refine Has.set ?_ _ _) | (with_reducible exact Has.of (by assumption)) | (with_reducible refine Cel.setO ?_ ?_ _) | (with_reducible refine Cel.keep (by assumption) ?_) | (with_reducible refine Below.alloc ?_ ?_ _) | (with_reducible refine Below.drew ?_) | (with_reducible refine Below.setCell ?_ ?_ _) | (with_reducible refine below_keep ?_ ?_ (by assumption)) | omega | (simp; done) | (simp; omega))))
  have hB3 := O3.below; have hz3 := O3.size; have hl3 := O3.le; have S3_0 : Cel w3 (w.heap.size) 0 (.int .i64 a) := O3.cels.1; have S3_1 : Cel w3 (w.heap.size) 1 (.int .i64 l) := O3.cels.2.1; have S3_2 : Cel w3 (w.heap.size) 2 (.int .i64 u) := O3.cels.2.2.1; have S3_3 : Cel w3 (w.heap.size) 3 (.int .i64 d) := O3.cels.2.2.2.1
  clear O2 S2_0 S2_1 S2_2 S2_3
  go_wp2_with fail
  refine (passed_any a l u d r x _).mono ?_
  rintro e w4 ⟨rfl, hb4⟩
  have hs4 := hb4.size; (try simp at hs4)
  have O4 : Own w (w.heap.size + 1) w4 [(w.heap.size, 0, .int .i64 a), (w.heap.size, 1, .int .i64 l), (w.heap.size, 2, .int .i64 u), (w.heap.size, 3, .int .i64 d)] := (by (repeat' (first | (with_reducible assumption) | (with_reducible exact Below.refl _ _) | (with_reducible exact Cels.nil _) | (with_reducible refine Cels.cons ?_ ?_) | (with_reducible refine Own.mk ?_ ?_ ?_ ?_) | ((with_reducible refine Cel.new ?_ rfl); first | (with_reducible rfl) | omega | (simp; done) | (simp; omega)) | (with_reducible refine Cel.alloc ?_ _) | (with_reducible refine Cel.drew ?_) | (with_reducible refine Cel.setS ?_ _) | (with_reducible refine Has.set ?_ _ _) | (with_reducible exact Has.of (by assumption)) | (with_reducible refine Cel.setO ?_ ?_ _) | (with_reducible refine Cel.keep (by assumption) ?_) | (with_reducible refine Below.alloc ?_ ?_ _) | (with_reducible refine Below.drew ?_) | (with_reducible refine Below.setCell ?_ ?_ _) | (with_reducible refine below_keep ?_ ?_ (by assumption)) | omega | (simp; done) | (simp; omega))))
  have hB4 := O4.below; have hz4 := O4.size; have hl4 := O4.le; have S4_0 : Cel w4 (w.heap.size) 0 (.int .i64 a) := O4.cels.1; have S4_1 : Cel w4 (w.heap.size) 1 (.int .i64 l) := O4.cels.2.1; have S4_2 : Cel w4 (w.heap.size) 2 (.int .i64 u) := O4.cels.2.2.1; have S4_3 : Cel w4 (w.heap.size) 3 (.int .i64 d) := O4.cels.2.2.2.1
  clear O3 S3_0 S3_1 S3_2 S3_3
  go_wp2_with fail
  refine (sure_any a l u d t _).mono ?_
  rintro e w5 ⟨rfl, hb5⟩
  have hs5 := hb5.size; (try simp at hs5)
  have O5 : Own w (w.heap.size + 1) w5 [] := (by (repeat' (first | (with_reducible assumption) | (with_reducible exact Below.refl _ _) | (with_reducible exact Cels.nil _) | (with_reducible refine Cels.cons ?_ ?_) | (with_reducible refine Own.mk ?_ ?_ ?_ ?_) | ((with_reducible refine Cel.new ?_ rfl); first | (with_reducible rfl) | omega | (simp; done) | (simp; omega)) | (with_reducible refine Cel.alloc ?_ _) | (with_reducible refine Cel.drew ?_) | (with_reducible refine Cel.setS ?_ _) | (with_reducible refine Has.set ?_ _ _) | (with_reducible exact Has.of (by assumption)) | (with_reducible refine Cel.setO ?_ ?_ _) | (with_reducible refine Cel.keep (by assumption) ?_) | (with_reducible refine Below.alloc ?_ ?_ _) | (with_reducible refine Below.drew ?_) | (with_reducible refine Below.setCell ?_ ?_ _) | (with_reducible refine below_keep ?_ ?_ (by assumption)) | omega | (simp; done) | (simp; omega))))
  have hB5 := O5.below; have hz5 := O5.size; have hl5 := O5.le
  clear O4 S4_0 S4_1 S4_2 S4_3
  go_wp2
  all_goals first
    | (exfalso; omega)
    | (go_ret; exact ⟨rb (by first | rfl | (simp; done) | (rw [beq_iff_eq, Bool.eq_iff_iff]; simp; omega) | (simp; omega)), by (repeat' (first | (with_reducible assumption) | (with_reducible exact Below.refl _ _) | (with_reducible exact Cels.nil _) | (with_reducible refine Cels.cons ?_ ?_) | (with_reducible refine Own.mk ?_ ?_ ?_ ?_) | ((with_reducible refine Cel.new ?_ rfl); first | (with_reducible rfl) | omega | (simp; done) | (simp; omega)) | (with_reducible refine Cel.alloc ?_ _) | (with_reducible refine Cel.drew ?_) | (with_reducible refine Cel.setS ?_ _) | (with_reducible refine Has.set ?_ _ _) | (with_reducible exact Has.of (by assumption)) | (with_reducible refine Cel.setO ?_ ?_ _) | (with_reducible refine Cel.keep (by assumption) ?_) | (with_reducible refine Below.alloc ?_ ?_ _) | (with_reducible refine Below.drew ?_) | (with_reducible refine Below.setCell ?_ ?_ _) | (with_reducible refine below_keep ?_ ?_ (by assumption)) | omega | (simp; done) | (simp; omega)))⟩)

set_option maxRecDepth 100000 in
set_option maxHeartbeats 4000000 in
theorem law4_acb (a l u d r s t x : Int) (w : World) (h1 : pE a l u d r t = 0) (h0 : -1 ≤ pV a l u d r t) (h00 : pV a l u d r t ≤ 1) (f1 : ¬ pE a l u d s t = 0) (g1 : pE a l u d r x = 0) (g2 : x ≤ t) (g3 : pV a l u d r t ≤ pV a l u d r x) (k1 : pV a l u d r t < 1) (k2 : ¬ uE a l u d t = 0) : Calls Try.prog 6 #[ck a l u d, .int .i64 r, .int .i64 s, .int .i64 t, .int .i64 x] w fun e w' => e = .returned (.bool true) ∧ Below w.heap.size w w' := by
  go_enter Try.func6, Try.ntmps6
  go_wp2_with fail
  refine (head_any _).mono ?_
  rintro e w1 ⟨rfl, hb1⟩
  have hs1 := hb1.size; (try simp at hs1)
  have O1 : Own w (w.heap.size + 1) w1 [(w.heap.size, 0, .int .i64 a), (w.heap.size, 1, .int .i64 l), (w.heap.size, 2, .int .i64 u), (w.heap.size, 3, .int .i64 d)] := (by (repeat' (first | (with_reducible assumption) | (with_reducible exact Below.refl _ _) | (with_reducible exact Cels.nil _) | (with_reducible refine Cels.cons ?_ ?_) | (with_reducible refine Own.mk ?_ ?_ ?_ ?_) | ((with_reducible refine Cel.new ?_ rfl); first | (with_reducible rfl) | omega | (simp; done) | (simp; omega)) | (with_reducible refine Cel.alloc ?_ _) | (with_reducible refine Cel.drew ?_) | (with_reducible refine Cel.setS ?_ _) | (with_reducible refine Has.set ?_ _ _) | (with_reducible exact Has.of (by assumption)) | (with_reducible refine Cel.setO ?_ ?_ _) | (with_reducible refine Cel.keep (by assumption) ?_) | (with_reducible refine Below.alloc ?_ ?_ _) | (with_reducible refine Below.drew ?_) | (with_reducible refine Below.setCell ?_ ?_ _) | (with_reducible refine below_keep ?_ ?_ (by assumption)) | omega | (simp; done) | (simp; omega))))
  have hB1 := O1.below; have hz1 := O1.size; have hl1 := O1.le; have S1_0 : Cel w1 (w.heap.size) 0 (.int .i64 a) := O1.cels.1; have S1_1 : Cel w1 (w.heap.size) 1 (.int .i64 l) := O1.cels.2.1; have S1_2 : Cel w1 (w.heap.size) 2 (.int .i64 u) := O1.cels.2.2.1; have S1_3 : Cel w1 (w.heap.size) 3 (.int .i64 d) := O1.cels.2.2.2.1
  go_wp2_with fail
  refine (passed_any a l u d r t _).mono ?_
  rintro e w2 ⟨rfl, hb2⟩
  have hs2 := hb2.size; (try simp at hs2)
  have O2 : Own w (w.heap.size + 1) w2 [(w.heap.size, 0, .int .i64 a), (w.heap.size, 1, .int .i64 l), (w.heap.size, 2, .int .i64 u), (w.heap.size, 3, .int .i64 d)] := (by (repeat' (first | (with_reducible assumption) | (with_reducible exact Below.refl _ _) | (with_reducible exact Cels.nil _) | (with_reducible refine Cels.cons ?_ ?_) | (with_reducible refine Own.mk ?_ ?_ ?_ ?_) | ((with_reducible refine Cel.new ?_ rfl); first | (with_reducible rfl) | omega | (simp; done) | (simp; omega)) | (with_reducible refine Cel.alloc ?_ _) | (with_reducible refine Cel.drew ?_) | (with_reducible refine Cel.setS ?_ _) | (with_reducible refine Has.set ?_ _ _) | (with_reducible exact Has.of (by assumption)) | (with_reducible refine Cel.setO ?_ ?_ _) | (with_reducible refine Cel.keep (by assumption) ?_) | (with_reducible refine Below.alloc ?_ ?_ _) | (with_reducible refine Below.drew ?_) | (with_reducible refine Below.setCell ?_ ?_ _) | (with_reducible refine below_keep ?_ ?_ (by assumption)) | omega | (simp; done) | (simp; omega))))
  have hB2 := O2.below; have hz2 := O2.size; have hl2 := O2.le; have S2_0 : Cel w2 (w.heap.size) 0 (.int .i64 a) := O2.cels.1; have S2_1 : Cel w2 (w.heap.size) 1 (.int .i64 l) := O2.cels.2.1; have S2_2 : Cel w2 (w.heap.size) 2 (.int .i64 u) := O2.cels.2.2.1; have S2_3 : Cel w2 (w.heap.size) 3 (.int .i64 d) := O2.cels.2.2.2.1
  clear O1 S1_0 S1_1 S1_2 S1_3
  go_wp2_with fail
  refine (passed_any a l u d s t _).mono ?_
  rintro e w3 ⟨rfl, hb3⟩
  have hs3 := hb3.size; (try simp at hs3)
  have O3 : Own w (w.heap.size + 1) w3 [(w.heap.size, 0, .int .i64 a), (w.heap.size, 1, .int .i64 l), (w.heap.size, 2, .int .i64 u), (w.heap.size, 3, .int .i64 d)] := (by (repeat' (first | (with_reducible assumption) | (with_reducible exact Below.refl _ _) | (with_reducible exact Cels.nil _) | (with_reducible refine Cels.cons ?_ ?_) | (with_reducible refine Own.mk ?_ ?_ ?_ ?_) | ((with_reducible refine Cel.new ?_ rfl); first | (with_reducible rfl) | omega | (simp; done) | (simp; omega)) | (with_reducible refine Cel.alloc ?_ _) | (with_reducible refine Cel.drew ?_) | (with_reducible refine Cel.setS ?_ _) | (with_reducible refine Has.set ?_ _ _) | (with_reducible exact Has.of (by assumption)) | (with_reducible refine Cel.setO ?_ ?_ _) | (with_reducible refine Cel.keep (by assumption) ?_) | (with_reducible refine Below.alloc ?_ ?_ _) | (with_reducible refine Below.drew ?_) | (with_reducible refine Below.setCell ?_ ?_ _) | (with_reducible refine below_keep ?_ ?_ (by assumption)) | omega | (simp; done) | (simp; omega))))
  have hB3 := O3.below; have hz3 := O3.size; have hl3 := O3.le; have S3_0 : Cel w3 (w.heap.size) 0 (.int .i64 a) := O3.cels.1; have S3_1 : Cel w3 (w.heap.size) 1 (.int .i64 l) := O3.cels.2.1; have S3_2 : Cel w3 (w.heap.size) 2 (.int .i64 u) := O3.cels.2.2.1; have S3_3 : Cel w3 (w.heap.size) 3 (.int .i64 d) := O3.cels.2.2.2.1
  clear O2 S2_0 S2_1 S2_2 S2_3
  go_wp2_with fail
  refine (passed_any a l u d r x _).mono ?_
  rintro e w4 ⟨rfl, hb4⟩
  have hs4 := hb4.size; (try simp at hs4)
  have O4 : Own w (w.heap.size + 1) w4 [(w.heap.size, 0, .int .i64 a), (w.heap.size, 1, .int .i64 l), (w.heap.size, 2, .int .i64 u), (w.heap.size, 3, .int .i64 d)] := (by (repeat' (first | (with_reducible assumption) | (with_reducible exact Below.refl _ _) | (with_reducible exact Cels.nil _) | (with_reducible refine Cels.cons ?_ ?_) | (with_reducible refine Own.mk ?_ ?_ ?_ ?_) | ((with_reducible refine Cel.new ?_ rfl); first | (with_reducible rfl) | omega | (simp; done) | (simp; omega)) | (with_reducible refine Cel.alloc ?_ _) | (with_reducible refine Cel.drew ?_) | (with_reducible refine Cel.setS ?_ _) | (with_reducible refine Has.set ?_ _ _) | (with_reducible exact Has.of (by assumption)) | (with_reducible refine Cel.setO ?_ ?_ _) | (with_reducible refine Cel.keep (by assumption) ?_) | (with_reducible refine Below.alloc ?_ ?_ _) | (with_reducible refine Below.drew ?_) | (with_reducible refine Below.setCell ?_ ?_ _) | (with_reducible refine below_keep ?_ ?_ (by assumption)) | omega | (simp; done) | (simp; omega))))
  have hB4 := O4.below; have hz4 := O4.size; have hl4 := O4.le; have S4_0 : Cel w4 (w.heap.size) 0 (.int .i64 a) := O4.cels.1; have S4_1 : Cel w4 (w.heap.size) 1 (.int .i64 l) := O4.cels.2.1; have S4_2 : Cel w4 (w.heap.size) 2 (.int .i64 u) := O4.cels.2.2.1; have S4_3 : Cel w4 (w.heap.size) 3 (.int .i64 d) := O4.cels.2.2.2.1
  clear O3 S3_0 S3_1 S3_2 S3_3
  go_wp2_with fail
  refine (sure_any a l u d t _).mono ?_
  rintro e w5 ⟨rfl, hb5⟩
  have hs5 := hb5.size; (try simp at hs5)
  have O5 : Own w (w.heap.size + 1) w5 [] := (by (repeat' (first | (with_reducible assumption) | (with_reducible exact Below.refl _ _) | (with_reducible exact Cels.nil _) | (with_reducible refine Cels.cons ?_ ?_) | (with_reducible refine Own.mk ?_ ?_ ?_ ?_) | ((with_reducible refine Cel.new ?_ rfl); first | (with_reducible rfl) | omega | (simp; done) | (simp; omega)) | (with_reducible refine Cel.alloc ?_ _) | (with_reducible refine Cel.drew ?_) | (with_reducible refine Cel.setS ?_ _) | (with_reducible refine Has.set ?_ _ _) | (with_reducible exact Has.of (by assumption)) | (with_reducible refine Cel.setO ?_ ?_ _) | (with_reducible refine Cel.keep (by assumption) ?_) | (with_reducible refine Below.alloc ?_ ?_ _) | (with_reducible refine Below.drew ?_) | (with_reducible refine Below.setCell ?_ ?_ _) | (with_reducible refine below_keep ?_ ?_ (by assumption)) | omega | (simp; done) | (simp; omega))))
  have hB5 := O5.below; have hz5 := O5.size; have hl5 := O5.le
  clear O4 S4_0 S4_1 S4_2 S4_3
  go_wp2
  all_goals first
    | (exfalso; omega)
    | (go_ret; exact ⟨rb (by first | rfl | (simp; done) | (rw [beq_iff_eq, Bool.eq_iff_iff]; simp; omega) | (simp; omega)), by (repeat' (first | (with_reducible assumption) | (with_reducible exact Below.refl _ _) | (with_reducible exact Cels.nil _) | (with_reducible refine Cels.cons ?_ ?_) | (with_reducible refine Own.mk ?_ ?_ ?_ ?_) | ((with_reducible refine Cel.new ?_ rfl); first | (with_reducible rfl) | omega | (simp; done) | (simp; omega)) | (with_reducible refine Cel.alloc ?_ _) | (with_reducible refine Cel.drew ?_) | (with_reducible refine Cel.setS ?_ _) | (with_reducible refine Has.set ?_ _ _) | (with_reducible exact Has.of (by assumption)) | (with_reducible refine Cel.setO ?_ ?_ _) | (with_reducible refine Cel.keep (by assumption) ?_) | (with_reducible refine Below.alloc ?_ ?_ _) | (with_reducible refine Below.drew ?_) | (with_reducible refine Below.setCell ?_ ?_ _) | (with_reducible refine below_keep ?_ ?_ (by assumption)) | omega | (simp; done) | (simp; omega)))⟩)

set_option maxRecDepth 100000 in
set_option maxHeartbeats 4000000 in
theorem law4_acc (a l u d r s t x : Int) (w : World) (h1 : pE a l u d r t = 0) (h0 : -1 ≤ pV a l u d r t) (h00 : pV a l u d r t ≤ 1) (f1 : ¬ pE a l u d s t = 0) (g1 : pE a l u d r x = 0) (g2 : x ≤ t) (g3 : pV a l u d r t ≤ pV a l u d r x) (k1 : pV a l u d r t < 1) (k2 : uE a l u d t = 0) (k3 : r < uV a l u d t) : Calls Try.prog 6 #[ck a l u d, .int .i64 r, .int .i64 s, .int .i64 t, .int .i64 x] w fun e w' => e = .returned (.bool true) ∧ Below w.heap.size w w' := by
  go_enter Try.func6, Try.ntmps6
  go_wp2_with fail
  refine (head_any _).mono ?_
  rintro e w1 ⟨rfl, hb1⟩
  have hs1 := hb1.size; (try simp at hs1)
  have O1 : Own w (w.heap.size + 1) w1 [(w.heap.size, 0, .int .i64 a), (w.heap.size, 1, .int .i64 l), (w.heap.size, 2, .int .i64 u), (w.heap.size, 3, .int .i64 d)] := (by (repeat' (first | (with_reducible assumption) | (with_reducible exact Below.refl _ _) | (with_reducible exact Cels.nil _) | (with_reducible refine Cels.cons ?_ ?_) | (with_reducible refine Own.mk ?_ ?_ ?_ ?_) | ((with_reducible refine Cel.new ?_ rfl); first | (with_reducible rfl) | omega | (simp; done) | (simp; omega)) | (with_reducible refine Cel.alloc ?_ _) | (with_reducible refine Cel.drew ?_) | (with_reducible refine Cel.setS ?_ _) | (with_reducible refine Has.set ?_ _ _) | (with_reducible exact Has.of (by assumption)) | (with_reducible refine Cel.setO ?_ ?_ _) | (with_reducible refine Cel.keep (by assumption) ?_) | (with_reducible refine Below.alloc ?_ ?_ _) | (with_reducible refine Below.drew ?_) | (with_reducible refine Below.setCell ?_ ?_ _) | (with_reducible refine below_keep ?_ ?_ (by assumption)) | omega | (simp; done) | (simp; omega))))
  have hB1 := O1.below; have hz1 := O1.size; have hl1 := O1.le; have S1_0 : Cel w1 (w.heap.size) 0 (.int .i64 a) := O1.cels.1; have S1_1 : Cel w1 (w.heap.size) 1 (.int .i64 l) := O1.cels.2.1; have S1_2 : Cel w1 (w.heap.size) 2 (.int .i64 u) := O1.cels.2.2.1; have S1_3 : Cel w1 (w.heap.size) 3 (.int .i64 d) := O1.cels.2.2.2.1
  go_wp2_with fail
  refine (passed_any a l u d r t _).mono ?_
  rintro e w2 ⟨rfl, hb2⟩
  have hs2 := hb2.size; (try simp at hs2)
  have O2 : Own w (w.heap.size + 1) w2 [(w.heap.size, 0, .int .i64 a), (w.heap.size, 1, .int .i64 l), (w.heap.size, 2, .int .i64 u), (w.heap.size, 3, .int .i64 d)] := (by (repeat' (first | (with_reducible assumption) | (with_reducible exact Below.refl _ _) | (with_reducible exact Cels.nil _) | (with_reducible refine Cels.cons ?_ ?_) | (with_reducible refine Own.mk ?_ ?_ ?_ ?_) | ((with_reducible refine Cel.new ?_ rfl); first | (with_reducible rfl) | omega | (simp; done) | (simp; omega)) | (with_reducible refine Cel.alloc ?_ _) | (with_reducible refine Cel.drew ?_) | (with_reducible refine Cel.setS ?_ _) | (with_reducible refine Has.set ?_ _ _) | (with_reducible exact Has.of (by assumption)) | (with_reducible refine Cel.setO ?_ ?_ _) | (with_reducible refine Cel.keep (by assumption) ?_) | (with_reducible refine Below.alloc ?_ ?_ _) | (with_reducible refine Below.drew ?_) | (with_reducible refine Below.setCell ?_ ?_ _) | (with_reducible refine below_keep ?_ ?_ (by assumption)) | omega | (simp; done) | (simp; omega))))
  have hB2 := O2.below; have hz2 := O2.size; have hl2 := O2.le; have S2_0 : Cel w2 (w.heap.size) 0 (.int .i64 a) := O2.cels.1; have S2_1 : Cel w2 (w.heap.size) 1 (.int .i64 l) := O2.cels.2.1; have S2_2 : Cel w2 (w.heap.size) 2 (.int .i64 u) := O2.cels.2.2.1; have S2_3 : Cel w2 (w.heap.size) 3 (.int .i64 d) := O2.cels.2.2.2.1
  clear O1 S1_0 S1_1 S1_2 S1_3
  go_wp2_with fail
  refine (passed_any a l u d s t _).mono ?_
  rintro e w3 ⟨rfl, hb3⟩
  have hs3 := hb3.size; (try simp at hs3)
  have O3 : Own w (w.heap.size + 1) w3 [(w.heap.size, 0, .int .i64 a), (w.heap.size, 1, .int .i64 l), (w.heap.size, 2, .int .i64 u), (w.heap.size, 3, .int .i64 d)] := (by (repeat' (first | (with_reducible assumption) | (with_reducible exact Below.refl _ _) | (with_reducible exact Cels.nil _) | (with_reducible refine Cels.cons ?_ ?_) | (with_reducible refine Own.mk ?_ ?_ ?_ ?_) | ((with_reducible refine Cel.new ?_ rfl); first | (with_reducible rfl) | omega | (simp; done) | (simp; omega)) | (with_reducible refine Cel.alloc ?_ _) | (with_reducible refine Cel.drew ?_) | (with_reducible refine Cel.setS ?_ _) | (with_reducible refine Has.set ?_ _ _) | (with_reducible exact Has.of (by assumption)) | (with_reducible refine Cel.setO ?_ ?_ _) | (with_reducible refine Cel.keep (by assumption) ?_) | (with_reducible refine Below.alloc ?_ ?_ _) | (with_reducible refine Below.drew ?_) | (with_reducible refine Below.setCell ?_ ?_ _) | (with_reducible refine below_keep ?_ ?_ (by assumption)) | omega | (simp; done) | (simp; omega))))
  have hB3 := O3.below; have hz3 := O3.size; have hl3 := O3.le; have S3_0 : Cel w3 (w.heap.size) 0 (.int .i64 a) := O3.cels.1; have S3_1 : Cel w3 (w.heap.size) 1 (.int .i64 l) := O3.cels.2.1; have S3_2 : Cel w3 (w.heap.size) 2 (.int .i64 u) := O3.cels.2.2.1; have S3_3 : Cel w3 (w.heap.size) 3 (.int .i64 d) := O3.cels.2.2.2.1
  clear O2 S2_0 S2_1 S2_2 S2_3
  go_wp2_with fail
  refine (passed_any a l u d r x _).mono ?_
  rintro e w4 ⟨rfl, hb4⟩
  have hs4 := hb4.size; (try simp at hs4)
  have O4 : Own w (w.heap.size + 1) w4 [(w.heap.size, 0, .int .i64 a), (w.heap.size, 1, .int .i64 l), (w.heap.size, 2, .int .i64 u), (w.heap.size, 3, .int .i64 d)] := (by (repeat' (first | (with_reducible assumption) | (with_reducible exact Below.refl _ _) | (with_reducible exact Cels.nil _) | (with_reducible refine Cels.cons ?_ ?_) | (with_reducible refine Own.mk ?_ ?_ ?_ ?_) | ((with_reducible refine Cel.new ?_ rfl); first | (with_reducible rfl) | omega | (simp; done) | (simp; omega)) | (with_reducible refine Cel.alloc ?_ _) | (with_reducible refine Cel.drew ?_) | (with_reducible refine Cel.setS ?_ _) | (with_reducible refine Has.set ?_ _ _) | (with_reducible exact Has.of (by assumption)) | (with_reducible refine Cel.setO ?_ ?_ _) | (with_reducible refine Cel.keep (by assumption) ?_) | (with_reducible refine Below.alloc ?_ ?_ _) | (with_reducible refine Below.drew ?_) | (with_reducible refine Below.setCell ?_ ?_ _) | (with_reducible refine below_keep ?_ ?_ (by assumption)) | omega | (simp; done) | (simp; omega))))
  have hB4 := O4.below; have hz4 := O4.size; have hl4 := O4.le; have S4_0 : Cel w4 (w.heap.size) 0 (.int .i64 a) := O4.cels.1; have S4_1 : Cel w4 (w.heap.size) 1 (.int .i64 l) := O4.cels.2.1; have S4_2 : Cel w4 (w.heap.size) 2 (.int .i64 u) := O4.cels.2.2.1; have S4_3 : Cel w4 (w.heap.size) 3 (.int .i64 d) := O4.cels.2.2.2.1
  clear O3 S3_0 S3_1 S3_2 S3_3
  go_wp2_with fail
  refine (sure_any a l u d t _).mono ?_
  rintro e w5 ⟨rfl, hb5⟩
  have hs5 := hb5.size; (try simp at hs5)
  have O5 : Own w (w.heap.size + 1) w5 [] := (by (repeat' (first | (with_reducible assumption) | (with_reducible exact Below.refl _ _) | (with_reducible exact Cels.nil _) | (with_reducible refine Cels.cons ?_ ?_) | (with_reducible refine Own.mk ?_ ?_ ?_ ?_) | ((with_reducible refine Cel.new ?_ rfl); first | (with_reducible rfl) | omega | (simp; done) | (simp; omega)) | (with_reducible refine Cel.alloc ?_ _) | (with_reducible refine Cel.drew ?_) | (with_reducible refine Cel.setS ?_ _) | (with_reducible refine Has.set ?_ _ _) | (with_reducible exact Has.of (by assumption)) | (with_reducible refine Cel.setO ?_ ?_ _) | (with_reducible refine Cel.keep (by assumption) ?_) | (with_reducible refine Below.alloc ?_ ?_ _) | (with_reducible refine Below.drew ?_) | (with_reducible refine Below.setCell ?_ ?_ _) | (with_reducible refine below_keep ?_ ?_ (by assumption)) | omega | (simp; done) | (simp; omega))))
  have hB5 := O5.below; have hz5 := O5.size; have hl5 := O5.le
  clear O4 S4_0 S4_1 S4_2 S4_3
  go_wp2
  all_goals first
    | (exfalso; omega)
    | (go_ret; exact ⟨rb (by first | rfl | (simp; done) | (rw [beq_iff_eq, Bool.eq_iff_iff]; simp; omega) | (simp; omega)), by (repeat' (first | (with_reducible assumption) | (with_reducible exact Below.refl _ _) | (with_reducible exact Cels.nil _) | (with_reducible refine Cels.cons ?_ ?_) | (with_reducible refine Own.mk ?_ ?_ ?_ ?_) | ((with_reducible refine Cel.new ?_ rfl); first | (with_reducible rfl) | omega | (simp; done) | (simp; omega)) | (with_reducible refine Cel.alloc ?_ _) | (with_reducible refine Cel.drew ?_) | (with_reducible refine Cel.setS ?_ _) | (with_reducible refine Has.set ?_ _ _) | (with_reducible exact Has.of (by assumption)) | (with_reducible refine Cel.setO ?_ ?_ _) | (with_reducible refine Cel.keep (by assumption) ?_) | (with_reducible refine Below.alloc ?_ ?_ _) | (with_reducible refine Below.drew ?_) | (with_reducible refine Below.setCell ?_ ?_ _) | (with_reducible refine below_keep ?_ ?_ (by assumption)) | omega | (simp; done) | (simp; omega)))⟩)

set_option maxRecDepth 100000 in
set_option maxHeartbeats 4000000 in
theorem law4_baa (a l u d r s t x : Int) (w : World) (h1 : pE a l u d r t = 0) (h0 : -1 ≤ pV a l u d r t) (h00 : pV a l u d r t ≤ 1) (f1 : pE a l u d s t = 0) (f2 : s < r) (g1 : ¬ pE a l u d r x = 0) (k1 : pV a l u d r t = 1) (k2 : uE a l u d t = 0) (k3 : uV a l u d t ≤ r) : Calls Try.prog 6 #[ck a l u d, .int .i64 r, .int .i64 s, .int .i64 t, .int .i64 x] w fun e w' => e = .returned (.bool true) ∧ Below w.heap.size w w' := by
  go_enter Try.func6, Try.ntmps6
  go_wp2_with fail
  refine (head_any _).mono ?_
  rintro e w1 ⟨rfl, hb1⟩
  have hs1 := hb1.size; (try simp at hs1)
  have O1 : Own w (w.heap.size + 1) w1 [(w.heap.size, 0, .int .i64 a), (w.heap.size, 1, .int .i64 l), (w.heap.size, 2, .int .i64 u), (w.heap.size, 3, .int .i64 d)] := (by (repeat' (first | (with_reducible assumption) | (with_reducible exact Below.refl _ _) | (with_reducible exact Cels.nil _) | (with_reducible refine Cels.cons ?_ ?_) | (with_reducible refine Own.mk ?_ ?_ ?_ ?_) | ((with_reducible refine Cel.new ?_ rfl); first | (with_reducible rfl) | omega | (simp; done) | (simp; omega)) | (with_reducible refine Cel.alloc ?_ _) | (with_reducible refine Cel.drew ?_) | (with_reducible refine Cel.setS ?_ _) | (with_reducible refine Has.set ?_ _ _) | (with_reducible exact Has.of (by assumption)) | (with_reducible refine Cel.setO ?_ ?_ _) | (with_reducible refine Cel.keep (by assumption) ?_) | (with_reducible refine Below.alloc ?_ ?_ _) | (with_reducible refine Below.drew ?_) | (with_reducible refine Below.setCell ?_ ?_ _) | (with_reducible refine below_keep ?_ ?_ (by assumption)) | omega | (simp; done) | (simp; omega))))
  have hB1 := O1.below; have hz1 := O1.size; have hl1 := O1.le; have S1_0 : Cel w1 (w.heap.size) 0 (.int .i64 a) := O1.cels.1; have S1_1 : Cel w1 (w.heap.size) 1 (.int .i64 l) := O1.cels.2.1; have S1_2 : Cel w1 (w.heap.size) 2 (.int .i64 u) := O1.cels.2.2.1; have S1_3 : Cel w1 (w.heap.size) 3 (.int .i64 d) := O1.cels.2.2.2.1
  go_wp2_with fail
  refine (passed_any a l u d r t _).mono ?_
  rintro e w2 ⟨rfl, hb2⟩
  have hs2 := hb2.size; (try simp at hs2)
  have O2 : Own w (w.heap.size + 1) w2 [(w.heap.size, 0, .int .i64 a), (w.heap.size, 1, .int .i64 l), (w.heap.size, 2, .int .i64 u), (w.heap.size, 3, .int .i64 d)] := (by (repeat' (first | (with_reducible assumption) | (with_reducible exact Below.refl _ _) | (with_reducible exact Cels.nil _) | (with_reducible refine Cels.cons ?_ ?_) | (with_reducible refine Own.mk ?_ ?_ ?_ ?_) | ((with_reducible refine Cel.new ?_ rfl); first | (with_reducible rfl) | omega | (simp; done) | (simp; omega)) | (with_reducible refine Cel.alloc ?_ _) | (with_reducible refine Cel.drew ?_) | (with_reducible refine Cel.setS ?_ _) | (with_reducible refine Has.set ?_ _ _) | (with_reducible exact Has.of (by assumption)) | (with_reducible refine Cel.setO ?_ ?_ _) | (with_reducible refine Cel.keep (by assumption) ?_) | (with_reducible refine Below.alloc ?_ ?_ _) | (with_reducible refine Below.drew ?_) | (with_reducible refine Below.setCell ?_ ?_ _) | (with_reducible refine below_keep ?_ ?_ (by assumption)) | omega | (simp; done) | (simp; omega))))
  have hB2 := O2.below; have hz2 := O2.size; have hl2 := O2.le; have S2_0 : Cel w2 (w.heap.size) 0 (.int .i64 a) := O2.cels.1; have S2_1 : Cel w2 (w.heap.size) 1 (.int .i64 l) := O2.cels.2.1; have S2_2 : Cel w2 (w.heap.size) 2 (.int .i64 u) := O2.cels.2.2.1; have S2_3 : Cel w2 (w.heap.size) 3 (.int .i64 d) := O2.cels.2.2.2.1
  clear O1 S1_0 S1_1 S1_2 S1_3
  go_wp2_with fail
  refine (passed_any a l u d s t _).mono ?_
  rintro e w3 ⟨rfl, hb3⟩
  have hs3 := hb3.size; (try simp at hs3)
  have O3 : Own w (w.heap.size + 1) w3 [(w.heap.size, 0, .int .i64 a), (w.heap.size, 1, .int .i64 l), (w.heap.size, 2, .int .i64 u), (w.heap.size, 3, .int .i64 d)] := (by (repeat' (first | (with_reducible assumption) | (with_reducible exact Below.refl _ _) | (with_reducible exact Cels.nil _) | (with_reducible refine Cels.cons ?_ ?_) | (with_reducible refine Own.mk ?_ ?_ ?_ ?_) | ((with_reducible refine Cel.new ?_ rfl); first | (with_reducible rfl) | omega | (simp; done) | (simp; omega)) | (with_reducible refine Cel.alloc ?_ _) | (with_reducible refine Cel.drew ?_) | (with_reducible refine Cel.setS ?_ _) | (with_reducible refine Has.set ?_ _ _) | (with_reducible exact Has.of (by assumption)) | (with_reducible refine Cel.setO ?_ ?_ _) | (with_reducible refine Cel.keep (by assumption) ?_) | (with_reducible refine Below.alloc ?_ ?_ _) | (with_reducible refine Below.drew ?_) | (with_reducible refine Below.setCell ?_ ?_ _) | (with_reducible refine below_keep ?_ ?_ (by assumption)) | omega | (simp; done) | (simp; omega))))
  have hB3 := O3.below; have hz3 := O3.size; have hl3 := O3.le; have S3_0 : Cel w3 (w.heap.size) 0 (.int .i64 a) := O3.cels.1; have S3_1 : Cel w3 (w.heap.size) 1 (.int .i64 l) := O3.cels.2.1; have S3_2 : Cel w3 (w.heap.size) 2 (.int .i64 u) := O3.cels.2.2.1; have S3_3 : Cel w3 (w.heap.size) 3 (.int .i64 d) := O3.cels.2.2.2.1
  clear O2 S2_0 S2_1 S2_2 S2_3
  go_wp2_with fail
  refine (passed_any a l u d r x _).mono ?_
  rintro e w4 ⟨rfl, hb4⟩
  have hs4 := hb4.size; (try simp at hs4)
  have O4 : Own w (w.heap.size + 1) w4 [(w.heap.size, 0, .int .i64 a), (w.heap.size, 1, .int .i64 l), (w.heap.size, 2, .int .i64 u), (w.heap.size, 3, .int .i64 d)] := (by (repeat' (first | (with_reducible assumption) | (with_reducible exact Below.refl _ _) | (with_reducible exact Cels.nil _) | (with_reducible refine Cels.cons ?_ ?_) | (with_reducible refine Own.mk ?_ ?_ ?_ ?_) | ((with_reducible refine Cel.new ?_ rfl); first | (with_reducible rfl) | omega | (simp; done) | (simp; omega)) | (with_reducible refine Cel.alloc ?_ _) | (with_reducible refine Cel.drew ?_) | (with_reducible refine Cel.setS ?_ _) | (with_reducible refine Has.set ?_ _ _) | (with_reducible exact Has.of (by assumption)) | (with_reducible refine Cel.setO ?_ ?_ _) | (with_reducible refine Cel.keep (by assumption) ?_) | (with_reducible refine Below.alloc ?_ ?_ _) | (with_reducible refine Below.drew ?_) | (with_reducible refine Below.setCell ?_ ?_ _) | (with_reducible refine below_keep ?_ ?_ (by assumption)) | omega | (simp; done) | (simp; omega))))
  have hB4 := O4.below; have hz4 := O4.size; have hl4 := O4.le; have S4_0 : Cel w4 (w.heap.size) 0 (.int .i64 a) := O4.cels.1; have S4_1 : Cel w4 (w.heap.size) 1 (.int .i64 l) := O4.cels.2.1; have S4_2 : Cel w4 (w.heap.size) 2 (.int .i64 u) := O4.cels.2.2.1; have S4_3 : Cel w4 (w.heap.size) 3 (.int .i64 d) := O4.cels.2.2.2.1
  clear O3 S3_0 S3_1 S3_2 S3_3
  go_wp2_with fail
  refine (sure_any a l u d t _).mono ?_
  rintro e w5 ⟨rfl, hb5⟩
  have hs5 := hb5.size; (try simp at hs5)
  have O5 : Own w (w.heap.size + 1) w5 [] := (by (repeat' (first | (with_reducible assumption) | (with_reducible exact Below.refl _ _) | (with_reducible exact Cels.nil _) | (with_reducible refine Cels.cons ?_ ?_) | (with_reducible refine Own.mk ?_ ?_ ?_ ?_) | ((with_reducible refine Cel.new ?_ rfl); first | (with_reducible rfl) | omega | (simp; done) | (simp; omega)) | (with_reducible refine Cel.alloc ?_ _) | (with_reducible refine Cel.drew ?_) | (with_reducible refine Cel.setS ?_ _) | (with_reducible refine Has.set ?_ _ _) | (with_reducible exact Has.of (by assumption)) | (with_reducible refine Cel.setO ?_ ?_ _) | (with_reducible refine Cel.keep (by assumption) ?_) | (with_reducible refine Below.alloc ?_ ?_ _) | (with_reducible refine Below.drew ?_) | (with_reducible refine Below.setCell ?_ ?_ _) | (with_reducible refine below_keep ?_ ?_ (by assumption)) | omega | (simp; done) | (simp; omega))))
  have hB5 := O5.below; have hz5 := O5.size; have hl5 := O5.le
  clear O4 S4_0 S4_1 S4_2 S4_3
  go_wp2
  all_goals first
    | (exfalso; omega)
    | (go_ret; exact ⟨rb (by first | rfl | (simp; done) | (rw [beq_iff_eq, Bool.eq_iff_iff]; simp; omega) | (simp; omega)), by (repeat' (first | (with_reducible assumption) | (with_reducible exact Below.refl _ _) | (with_reducible exact Cels.nil _) | (with_reducible refine Cels.cons ?_ ?_) | (with_reducible refine Own.mk ?_ ?_ ?_ ?_) | ((with_reducible refine Cel.new ?_ rfl); first | (with_reducible rfl) | omega | (simp; done) | (simp; omega)) | (with_reducible refine Cel.alloc ?_ _) | (with_reducible refine Cel.drew ?_) | (with_reducible refine Cel.setS ?_ _) | (with_reducible refine Has.set ?_ _ _) | (with_reducible exact Has.of (by assumption)) | (with_reducible refine Cel.setO ?_ ?_ _) | (with_reducible refine Cel.keep (by assumption) ?_) | (with_reducible refine Below.alloc ?_ ?_ _) | (with_reducible refine Below.drew ?_) | (with_reducible refine Below.setCell ?_ ?_ _) | (with_reducible refine below_keep ?_ ?_ (by assumption)) | omega | (simp; done) | (simp; omega)))⟩)

set_option maxRecDepth 100000 in
set_option maxHeartbeats 4000000 in
theorem law4_bab (a l u d r s t x : Int) (w : World) (h1 : pE a l u d r t = 0) (h0 : -1 ≤ pV a l u d r t) (h00 : pV a l u d r t ≤ 1) (f1 : pE a l u d s t = 0) (f2 : s < r) (g1 : ¬ pE a l u d r x = 0) (k1 : pV a l u d r t < 1) (k2 : ¬ uE a l u d t = 0) : Calls Try.prog 6 #[ck a l u d, .int .i64 r, .int .i64 s, .int .i64 t, .int .i64 x] w fun e w' => e = .returned (.bool true) ∧ Below w.heap.size w w' := by
  go_enter Try.func6, Try.ntmps6
  go_wp2_with fail
  refine (head_any _).mono ?_
  rintro e w1 ⟨rfl, hb1⟩
  have hs1 := hb1.size; (try simp at hs1)
  have O1 : Own w (w.heap.size + 1) w1 [(w.heap.size, 0, .int .i64 a), (w.heap.size, 1, .int .i64 l), (w.heap.size, 2, .int .i64 u), (w.heap.size, 3, .int .i64 d)] := (by (repeat' (first | (with_reducible assumption) | (with_reducible exact Below.refl _ _) | (with_reducible exact Cels.nil _) | (with_reducible refine Cels.cons ?_ ?_) | (with_reducible refine Own.mk ?_ ?_ ?_ ?_) | ((with_reducible refine Cel.new ?_ rfl); first | (with_reducible rfl) | omega | (simp; done) | (simp; omega)) | (with_reducible refine Cel.alloc ?_ _) | (with_reducible refine Cel.drew ?_) | (with_reducible refine Cel.setS ?_ _) | (with_reducible refine Has.set ?_ _ _) | (with_reducible exact Has.of (by assumption)) | (with_reducible refine Cel.setO ?_ ?_ _) | (with_reducible refine Cel.keep (by assumption) ?_) | (with_reducible refine Below.alloc ?_ ?_ _) | (with_reducible refine Below.drew ?_) | (with_reducible refine Below.setCell ?_ ?_ _) | (with_reducible refine below_keep ?_ ?_ (by assumption)) | omega | (simp; done) | (simp; omega))))
  have hB1 := O1.below; have hz1 := O1.size; have hl1 := O1.le; have S1_0 : Cel w1 (w.heap.size) 0 (.int .i64 a) := O1.cels.1; have S1_1 : Cel w1 (w.heap.size) 1 (.int .i64 l) := O1.cels.2.1; have S1_2 : Cel w1 (w.heap.size) 2 (.int .i64 u) := O1.cels.2.2.1; have S1_3 : Cel w1 (w.heap.size) 3 (.int .i64 d) := O1.cels.2.2.2.1
  go_wp2_with fail
  refine (passed_any a l u d r t _).mono ?_
  rintro e w2 ⟨rfl, hb2⟩
  have hs2 := hb2.size; (try simp at hs2)
  have O2 : Own w (w.heap.size + 1) w2 [(w.heap.size, 0, .int .i64 a), (w.heap.size, 1, .int .i64 l), (w.heap.size, 2, .int .i64 u), (w.heap.size, 3, .int .i64 d)] := (by (repeat' (first | (with_reducible assumption) | (with_reducible exact Below.refl _ _) | (with_reducible exact Cels.nil _) | (with_reducible refine Cels.cons ?_ ?_) | (with_reducible refine Own.mk ?_ ?_ ?_ ?_) | ((with_reducible refine Cel.new ?_ rfl); first | (with_reducible rfl) | omega | (simp; done) | (simp; omega)) | (with_reducible refine Cel.alloc ?_ _) | (with_reducible refine Cel.drew ?_) | (with_reducible refine Cel.setS ?_ _) | (with_reducible refine Has.set ?_ _ _) | (with_reducible exact Has.of (by assumption)) | (with_reducible refine Cel.setO ?_ ?_ _) | (with_reducible refine Cel.keep (by assumption) ?_) | (with_reducible refine Below.alloc ?_ ?_ _) | (with_reducible refine Below.drew ?_) | (with_reducible refine Below.setCell ?_ ?_ _) | (with_reducible refine below_keep ?_ ?_ (by assumption)) | omega | (simp; done) | (simp; omega))))
  have hB2 := O2.below; have hz2 := O2.size; have hl2 := O2.le; have S2_0 : Cel w2 (w.heap.size) 0 (.int .i64 a) := O2.cels.1; have S2_1 : Cel w2 (w.heap.size) 1 (.int .i64 l) := O2.cels.2.1; have S2_2 : Cel w2 (w.heap.size) 2 (.int .i64 u) := O2.cels.2.2.1; have S2_3 : Cel w2 (w.heap.size) 3 (.int .i64 d) := O2.cels.2.2.2.1
  clear O1 S1_0 S1_1 S1_2 S1_3
  go_wp2_with fail
  refine (passed_any a l u d s t _).mono ?_
  rintro e w3 ⟨rfl, hb3⟩
  have hs3 := hb3.size; (try simp at hs3)
  have O3 : Own w (w.heap.size + 1) w3 [(w.heap.size, 0, .int .i64 a), (w.heap.size, 1, .int .i64 l), (w.heap.size, 2, .int .i64 u), (w.heap.size, 3, .int .i64 d)] := (by (repeat' (first | (with_reducible assumption) | (with_reducible exact Below.refl _ _) | (with_reducible exact Cels.nil _) | (with_reducible refine Cels.cons ?_ ?_) | (with_reducible refine Own.mk ?_ ?_ ?_ ?_) | ((with_reducible refine Cel.new ?_ rfl); first | (with_reducible rfl) | omega | (simp; done) | (simp; omega)) | (with_reducible refine Cel.alloc ?_ _) | (with_reducible refine Cel.drew ?_) | (with_reducible refine Cel.setS ?_ _) | (with_reducible refine Has.set ?_ _ _) | (with_reducible exact Has.of (by assumption)) | (with_reducible refine Cel.setO ?_ ?_ _) | (with_reducible refine Cel.keep (by assumption) ?_) | (with_reducible refine Below.alloc ?_ ?_ _) | (with_reducible refine Below.drew ?_) | (with_reducible refine Below.setCell ?_ ?_ _) | (with_reducible refine below_keep ?_ ?_ (by assumption)) | omega | (simp; done) | (simp; omega))))
  have hB3 := O3.below; have hz3 := O3.size; have hl3 := O3.le; have S3_0 : Cel w3 (w.heap.size) 0 (.int .i64 a) := O3.cels.1; have S3_1 : Cel w3 (w.heap.size) 1 (.int .i64 l) := O3.cels.2.1; have S3_2 : Cel w3 (w.heap.size) 2 (.int .i64 u) := O3.cels.2.2.1; have S3_3 : Cel w3 (w.heap.size) 3 (.int .i64 d) := O3.cels.2.2.2.1
  clear O2 S2_0 S2_1 S2_2 S2_3
  go_wp2_with fail
  refine (passed_any a l u d r x _).mono ?_
  rintro e w4 ⟨rfl, hb4⟩
  have hs4 := hb4.size; (try simp at hs4)
  have O4 : Own w (w.heap.size + 1) w4 [(w.heap.size, 0, .int .i64 a), (w.heap.size, 1, .int .i64 l), (w.heap.size, 2, .int .i64 u), (w.heap.size, 3, .int .i64 d)] := (by (repeat' (first | (with_reducible assumption) | (with_reducible exact Below.refl _ _) | (with_reducible exact Cels.nil _) | (with_reducible refine Cels.cons ?_ ?_) | (with_reducible refine Own.mk ?_ ?_ ?_ ?_) | ((with_reducible refine Cel.new ?_ rfl); first | (with_reducible rfl) | omega | (simp; done) | (simp; omega)) | (with_reducible refine Cel.alloc ?_ _) | (with_reducible refine Cel.drew ?_) | (with_reducible refine Cel.setS ?_ _) | (with_reducible refine Has.set ?_ _ _) | (with_reducible exact Has.of (by assumption)) | (with_reducible refine Cel.setO ?_ ?_ _) | (with_reducible refine Cel.keep (by assumption) ?_) | (with_reducible refine Below.alloc ?_ ?_ _) | (with_reducible refine Below.drew ?_) | (with_reducible refine Below.setCell ?_ ?_ _) | (with_reducible refine below_keep ?_ ?_ (by assumption)) | omega | (simp; done) | (simp; omega))))
  have hB4 := O4.below; have hz4 := O4.size; have hl4 := O4.le; have S4_0 : Cel w4 (w.heap.size) 0 (.int .i64 a) := O4.cels.1; have S4_1 : Cel w4 (w.heap.size) 1 (.int .i64 l) := O4.cels.2.1; have S4_2 : Cel w4 (w.heap.size) 2 (.int .i64 u) := O4.cels.2.2.1; have S4_3 : Cel w4 (w.heap.size) 3 (.int .i64 d) := O4.cels.2.2.2.1
  clear O3 S3_0 S3_1 S3_2 S3_3
  go_wp2_with fail
  refine (sure_any a l u d t _).mono ?_
  rintro e w5 ⟨rfl, hb5⟩
  have hs5 := hb5.size; (try simp at hs5)
  have O5 : Own w (w.heap.size + 1) w5 [] := (by (repeat' (first | (with_reducible assumption) | (with_reducible exact Below.refl _ _) | (with_reducible exact Cels.nil _) | (with_reducible refine Cels.cons ?_ ?_) | (with_reducible refine Own.mk ?_ ?_ ?_ ?_) | ((with_reducible refine Cel.new ?_ rfl); first | (with_reducible rfl) | omega | (simp; done) | (simp; omega)) | (with_reducible refine Cel.alloc ?_ _) | (with_reducible refine Cel.drew ?_) | (with_reducible refine Cel.setS ?_ _) | (with_reducible refine Has.set ?_ _ _) | (with_reducible exact Has.of (by assumption)) | (with_reducible refine Cel.setO ?_ ?_ _) | (with_reducible refine Cel.keep (by assumption) ?_) | (with_reducible refine Below.alloc ?_ ?_ _) | (with_reducible refine Below.drew ?_) | (with_reducible refine Below.setCell ?_ ?_ _) | (with_reducible refine below_keep ?_ ?_ (by assumption)) | omega | (simp; done) | (simp; omega))))
  have hB5 := O5.below; have hz5 := O5.size; have hl5 := O5.le
  clear O4 S4_0 S4_1 S4_2 S4_3
  go_wp2
  all_goals first
    | (exfalso; omega)
    | (go_ret; exact ⟨rb (by first | rfl | (simp; done) | (rw [beq_iff_eq, Bool.eq_iff_iff]; simp; omega) | (simp; omega)), by (repeat' (first | (with_reducible assumption) | (with_reducible exact Below.refl _ _) | (with_reducible exact Cels.nil _) | (with_reducible refine Cels.cons ?_ ?_) | (with_reducible refine Own.mk ?_ ?_ ?_ ?_) | ((with_reducible refine Cel.new ?_ rfl); first | (with_reducible rfl) | omega | (simp; done) | (simp; omega)) | (with_reducible refine Cel.alloc ?_ _) | (with_reducible refine Cel.drew ?_) | (with_reducible refine Cel.setS ?_ _) | (with_reducible refine Has.set ?_ _ _) | (with_reducible exact Has.of (by assumption)) | (with_reducible refine Cel.setO ?_ ?_ _) | (with_reducible refine Cel.keep (by assumption) ?_) | (with_reducible refine Below.alloc ?_ ?_ _) | (with_reducible refine Below.drew ?_) | (with_reducible refine Below.setCell ?_ ?_ _) | (with_reducible refine below_keep ?_ ?_ (by assumption)) | omega | (simp; done) | (simp; omega)))⟩)

set_option maxRecDepth 100000 in
set_option maxHeartbeats 4000000 in
theorem law4_bac (a l u d r s t x : Int) (w : World) (h1 : pE a l u d r t = 0) (h0 : -1 ≤ pV a l u d r t) (h00 : pV a l u d r t ≤ 1) (f1 : pE a l u d s t = 0) (f2 : s < r) (g1 : ¬ pE a l u d r x = 0) (k1 : pV a l u d r t < 1) (k2 : uE a l u d t = 0) (k3 : r < uV a l u d t) : Calls Try.prog 6 #[ck a l u d, .int .i64 r, .int .i64 s, .int .i64 t, .int .i64 x] w fun e w' => e = .returned (.bool true) ∧ Below w.heap.size w w' := by
  go_enter Try.func6, Try.ntmps6
  go_wp2_with fail
  refine (head_any _).mono ?_
  rintro e w1 ⟨rfl, hb1⟩
  have hs1 := hb1.size; (try simp at hs1)
  have O1 : Own w (w.heap.size + 1) w1 [(w.heap.size, 0, .int .i64 a), (w.heap.size, 1, .int .i64 l), (w.heap.size, 2, .int .i64 u), (w.heap.size, 3, .int .i64 d)] := (by (repeat' (first | (with_reducible assumption) | (with_reducible exact Below.refl _ _) | (with_reducible exact Cels.nil _) | (with_reducible refine Cels.cons ?_ ?_) | (with_reducible refine Own.mk ?_ ?_ ?_ ?_) | ((with_reducible refine Cel.new ?_ rfl); first | (with_reducible rfl) | omega | (simp; done) | (simp; omega)) | (with_reducible refine Cel.alloc ?_ _) | (with_reducible refine Cel.drew ?_) | (with_reducible refine Cel.setS ?_ _) | (with_reducible refine Has.set ?_ _ _) | (with_reducible exact Has.of (by assumption)) | (with_reducible refine Cel.setO ?_ ?_ _) | (with_reducible refine Cel.keep (by assumption) ?_) | (with_reducible refine Below.alloc ?_ ?_ _) | (with_reducible refine Below.drew ?_) | (with_reducible refine Below.setCell ?_ ?_ _) | (with_reducible refine below_keep ?_ ?_ (by assumption)) | omega | (simp; done) | (simp; omega))))
  have hB1 := O1.below; have hz1 := O1.size; have hl1 := O1.le; have S1_0 : Cel w1 (w.heap.size) 0 (.int .i64 a) := O1.cels.1; have S1_1 : Cel w1 (w.heap.size) 1 (.int .i64 l) := O1.cels.2.1; have S1_2 : Cel w1 (w.heap.size) 2 (.int .i64 u) := O1.cels.2.2.1; have S1_3 : Cel w1 (w.heap.size) 3 (.int .i64 d) := O1.cels.2.2.2.1
  go_wp2_with fail
  refine (passed_any a l u d r t _).mono ?_
  rintro e w2 ⟨rfl, hb2⟩
  have hs2 := hb2.size; (try simp at hs2)
  have O2 : Own w (w.heap.size + 1) w2 [(w.heap.size, 0, .int .i64 a), (w.heap.size, 1, .int .i64 l), (w.heap.size, 2, .int .i64 u), (w.heap.size, 3, .int .i64 d)] := (by (repeat' (first | (with_reducible assumption) | (with_reducible exact Below.refl _ _) | (with_reducible exact Cels.nil _) | (with_reducible refine Cels.cons ?_ ?_) | (with_reducible refine Own.mk ?_ ?_ ?_ ?_) | ((with_reducible refine Cel.new ?_ rfl); first | (with_reducible rfl) | omega | (simp; done) | (simp; omega)) | (with_reducible refine Cel.alloc ?_ _) | (with_reducible refine Cel.drew ?_) | (with_reducible refine Cel.setS ?_ _) | (with_reducible refine Has.set ?_ _ _) | (with_reducible exact Has.of (by assumption)) | (with_reducible refine Cel.setO ?_ ?_ _) | (with_reducible refine Cel.keep (by assumption) ?_) | (with_reducible refine Below.alloc ?_ ?_ _) | (with_reducible refine Below.drew ?_) | (with_reducible refine Below.setCell ?_ ?_ _) | (with_reducible refine below_keep ?_ ?_ (by assumption)) | omega | (simp; done) | (simp; omega))))
  have hB2 := O2.below; have hz2 := O2.size; have hl2 := O2.le; have S2_0 : Cel w2 (w.heap.size) 0 (.int .i64 a) := O2.cels.1; have S2_1 : Cel w2 (w.heap.size) 1 (.int .i64 l) := O2.cels.2.1; have S2_2 : Cel w2 (w.heap.size) 2 (.int .i64 u) := O2.cels.2.2.1; have S2_3 : Cel w2 (w.heap.size) 3 (.int .i64 d) := O2.cels.2.2.2.1
  clear O1 S1_0 S1_1 S1_2 S1_3
  go_wp2_with fail
  refine (passed_any a l u d s t _).mono ?_
  rintro e w3 ⟨rfl, hb3⟩
  have hs3 := hb3.size; (try simp at hs3)
  have O3 : Own w (w.heap.size + 1) w3 [(w.heap.size, 0, .int .i64 a), (w.heap.size, 1, .int .i64 l), (w.heap.size, 2, .int .i64 u), (w.heap.size, 3, .int .i64 d)] := (by (repeat' (first | (with_reducible assumption) | (with_reducible exact Below.refl _ _) | (with_reducible exact Cels.nil _) | (with_reducible refine Cels.cons ?_ ?_) | (with_reducible refine Own.mk ?_ ?_ ?_ ?_) | ((with_reducible refine Cel.new ?_ rfl); first | (with_reducible rfl) | omega | (simp; done) | (simp; omega)) | (with_reducible refine Cel.alloc ?_ _) | (with_reducible refine Cel.drew ?_) | (with_reducible refine Cel.setS ?_ _) | (with_reducible refine Has.set ?_ _ _) | (with_reducible exact Has.of (by assumption)) | (with_reducible refine Cel.setO ?_ ?_ _) | (with_reducible refine Cel.keep (by assumption) ?_) | (with_reducible refine Below.alloc ?_ ?_ _) | (with_reducible refine Below.drew ?_) | (with_reducible refine Below.setCell ?_ ?_ _) | (with_reducible refine below_keep ?_ ?_ (by assumption)) | omega | (simp; done) | (simp; omega))))
  have hB3 := O3.below; have hz3 := O3.size; have hl3 := O3.le; have S3_0 : Cel w3 (w.heap.size) 0 (.int .i64 a) := O3.cels.1; have S3_1 : Cel w3 (w.heap.size) 1 (.int .i64 l) := O3.cels.2.1; have S3_2 : Cel w3 (w.heap.size) 2 (.int .i64 u) := O3.cels.2.2.1; have S3_3 : Cel w3 (w.heap.size) 3 (.int .i64 d) := O3.cels.2.2.2.1
  clear O2 S2_0 S2_1 S2_2 S2_3
  go_wp2_with fail
  refine (passed_any a l u d r x _).mono ?_
  rintro e w4 ⟨rfl, hb4⟩
  have hs4 := hb4.size; (try simp at hs4)
  have O4 : Own w (w.heap.size + 1) w4 [(w.heap.size, 0, .int .i64 a), (w.heap.size, 1, .int .i64 l), (w.heap.size, 2, .int .i64 u), (w.heap.size, 3, .int .i64 d)] := (by (repeat' (first | (with_reducible assumption) | (with_reducible exact Below.refl _ _) | (with_reducible exact Cels.nil _) | (with_reducible refine Cels.cons ?_ ?_) | (with_reducible refine Own.mk ?_ ?_ ?_ ?_) | ((with_reducible refine Cel.new ?_ rfl); first | (with_reducible rfl) | omega | (simp; done) | (simp; omega)) | (with_reducible refine Cel.alloc ?_ _) | (with_reducible refine Cel.drew ?_) | (with_reducible refine Cel.setS ?_ _) | (with_reducible refine Has.set ?_ _ _) | (with_reducible exact Has.of (by assumption)) | (with_reducible refine Cel.setO ?_ ?_ _) | (with_reducible refine Cel.keep (by assumption) ?_) | (with_reducible refine Below.alloc ?_ ?_ _) | (with_reducible refine Below.drew ?_) | (with_reducible refine Below.setCell ?_ ?_ _) | (with_reducible refine below_keep ?_ ?_ (by assumption)) | omega | (simp; done) | (simp; omega))))
  have hB4 := O4.below; have hz4 := O4.size; have hl4 := O4.le; have S4_0 : Cel w4 (w.heap.size) 0 (.int .i64 a) := O4.cels.1; have S4_1 : Cel w4 (w.heap.size) 1 (.int .i64 l) := O4.cels.2.1; have S4_2 : Cel w4 (w.heap.size) 2 (.int .i64 u) := O4.cels.2.2.1; have S4_3 : Cel w4 (w.heap.size) 3 (.int .i64 d) := O4.cels.2.2.2.1
  clear O3 S3_0 S3_1 S3_2 S3_3
  go_wp2_with fail
  refine (sure_any a l u d t _).mono ?_
  rintro e w5 ⟨rfl, hb5⟩
  have hs5 := hb5.size; (try simp at hs5)
  have O5 : Own w (w.heap.size + 1) w5 [] := (by (repeat' (first | (with_reducible assumption) | (with_reducible exact Below.refl _ _) | (with_reducible exact Cels.nil _) | (with_reducible refine Cels.cons ?_ ?_) | (with_reducible refine Own.mk ?_ ?_ ?_ ?_) | ((with_reducible refine Cel.new ?_ rfl); first | (with_reducible rfl) | omega | (simp; done) | (simp; omega)) | (with_reducible refine Cel.alloc ?_ _) | (with_reducible refine Cel.drew ?_) | (with_reducible refine Cel.setS ?_ _) | (with_reducible refine Has.set ?_ _ _) | (with_reducible exact Has.of (by assumption)) | (with_reducible refine Cel.setO ?_ ?_ _) | (with_reducible refine Cel.keep (by assumption) ?_) | (with_reducible refine Below.alloc ?_ ?_ _) | (with_reducible refine Below.drew ?_) | (with_reducible refine Below.setCell ?_ ?_ _) | (with_reducible refine below_keep ?_ ?_ (by assumption)) | omega | (simp; done) | (simp; omega))))
  have hB5 := O5.below; have hz5 := O5.size; have hl5 := O5.le
  clear O4 S4_0 S4_1 S4_2 S4_3
  go_wp2
  all_goals first
    | (exfalso; omega)
    | (go_ret; exact ⟨rb (by first | rfl | (simp; done) | (rw [beq_iff_eq, Bool.eq_iff_iff]; simp; omega) | (simp; omega)), by (repeat' (first | (with_reducible assumption) | (with_reducible exact Below.refl _ _) | (with_reducible exact Cels.nil _) | (with_reducible refine Cels.cons ?_ ?_) | (with_reducible refine Own.mk ?_ ?_ ?_ ?_) | ((with_reducible refine Cel.new ?_ rfl); first | (with_reducible rfl) | omega | (simp; done) | (simp; omega)) | (with_reducible refine Cel.alloc ?_ _) | (with_reducible refine Cel.drew ?_) | (with_reducible refine Cel.setS ?_ _) | (with_reducible refine Has.set ?_ _ _) | (with_reducible exact Has.of (by assumption)) | (with_reducible refine Cel.setO ?_ ?_ _) | (with_reducible refine Cel.keep (by assumption) ?_) | (with_reducible refine Below.alloc ?_ ?_ _) | (with_reducible refine Below.drew ?_) | (with_reducible refine Below.setCell ?_ ?_ _) | (with_reducible refine below_keep ?_ ?_ (by assumption)) | omega | (simp; done) | (simp; omega)))⟩)

set_option maxRecDepth 100000 in
set_option maxHeartbeats 4000000 in
theorem law4_bba (a l u d r s t x : Int) (w : World) (h1 : pE a l u d r t = 0) (h0 : -1 ≤ pV a l u d r t) (h00 : pV a l u d r t ≤ 1) (f1 : pE a l u d s t = 0) (f2 : s < r) (g1 : pE a l u d r x = 0) (g2 : t < x) (k1 : pV a l u d r t = 1) (k2 : uE a l u d t = 0) (k3 : uV a l u d t ≤ r) : Calls Try.prog 6 #[ck a l u d, .int .i64 r, .int .i64 s, .int .i64 t, .int .i64 x] w fun e w' => e = .returned (.bool true) ∧ Below w.heap.size w w' := by
  go_enter Try.func6, Try.ntmps6
  go_wp2_with fail
  refine (head_any _).mono ?_
  rintro e w1 ⟨rfl, hb1⟩
  have hs1 := hb1.size; (try simp at hs1)
  have O1 : Own w (w.heap.size + 1) w1 [(w.heap.size, 0, .int .i64 a), (w.heap.size, 1, .int .i64 l), (w.heap.size, 2, .int .i64 u), (w.heap.size, 3, .int .i64 d)] := (by (repeat' (first | (with_reducible assumption) | (with_reducible exact Below.refl _ _) | (with_reducible exact Cels.nil _) | (with_reducible refine Cels.cons ?_ ?_) | (with_reducible refine Own.mk ?_ ?_ ?_ ?_) | ((with_reducible refine Cel.new ?_ rfl); first | (with_reducible rfl) | omega | (simp; done) | (simp; omega)) | (with_reducible refine Cel.alloc ?_ _) | (with_reducible refine Cel.drew ?_) | (with_reducible refine Cel.setS ?_ _) | (with_reducible refine Has.set ?_ _ _) | (with_reducible exact Has.of (by assumption)) | (with_reducible refine Cel.setO ?_ ?_ _) | (with_reducible refine Cel.keep (by assumption) ?_) | (with_reducible refine Below.alloc ?_ ?_ _) | (with_reducible refine Below.drew ?_) | (with_reducible refine Below.setCell ?_ ?_ _) | (with_reducible refine below_keep ?_ ?_ (by assumption)) | omega | (simp; done) | (simp; omega))))
  have hB1 := O1.below; have hz1 := O1.size; have hl1 := O1.le; have S1_0 : Cel w1 (w.heap.size) 0 (.int .i64 a) := O1.cels.1; have S1_1 : Cel w1 (w.heap.size) 1 (.int .i64 l) := O1.cels.2.1; have S1_2 : Cel w1 (w.heap.size) 2 (.int .i64 u) := O1.cels.2.2.1; have S1_3 : Cel w1 (w.heap.size) 3 (.int .i64 d) := O1.cels.2.2.2.1
  go_wp2_with fail
  refine (passed_any a l u d r t _).mono ?_
  rintro e w2 ⟨rfl, hb2⟩
  have hs2 := hb2.size; (try simp at hs2)
  have O2 : Own w (w.heap.size + 1) w2 [(w.heap.size, 0, .int .i64 a), (w.heap.size, 1, .int .i64 l), (w.heap.size, 2, .int .i64 u), (w.heap.size, 3, .int .i64 d)] := (by (repeat' (first | (with_reducible assumption) | (with_reducible exact Below.refl _ _) | (with_reducible exact Cels.nil _) | (with_reducible refine Cels.cons ?_ ?_) | (with_reducible refine Own.mk ?_ ?_ ?_ ?_) | ((with_reducible refine Cel.new ?_ rfl); first | (with_reducible rfl) | omega | (simp; done) | (simp; omega)) | (with_reducible refine Cel.alloc ?_ _) | (with_reducible refine Cel.drew ?_) | (with_reducible refine Cel.setS ?_ _) | (with_reducible refine Has.set ?_ _ _) | (with_reducible exact Has.of (by assumption)) | (with_reducible refine Cel.setO ?_ ?_ _) | (with_reducible refine Cel.keep (by assumption) ?_) | (with_reducible refine Below.alloc ?_ ?_ _) | (with_reducible refine Below.drew ?_) | (with_reducible refine Below.setCell ?_ ?_ _) | (with_reducible refine below_keep ?_ ?_ (by assumption)) | omega | (simp; done) | (simp; omega))))
  have hB2 := O2.below; have hz2 := O2.size; have hl2 := O2.le; have S2_0 : Cel w2 (w.heap.size) 0 (.int .i64 a) := O2.cels.1; have S2_1 : Cel w2 (w.heap.size) 1 (.int .i64 l) := O2.cels.2.1; have S2_2 : Cel w2 (w.heap.size) 2 (.int .i64 u) := O2.cels.2.2.1; have S2_3 : Cel w2 (w.heap.size) 3 (.int .i64 d) := O2.cels.2.2.2.1
  clear O1 S1_0 S1_1 S1_2 S1_3
  go_wp2_with fail
  refine (passed_any a l u d s t _).mono ?_
  rintro e w3 ⟨rfl, hb3⟩
  have hs3 := hb3.size; (try simp at hs3)
  have O3 : Own w (w.heap.size + 1) w3 [(w.heap.size, 0, .int .i64 a), (w.heap.size, 1, .int .i64 l), (w.heap.size, 2, .int .i64 u), (w.heap.size, 3, .int .i64 d)] := (by (repeat' (first | (with_reducible assumption) | (with_reducible exact Below.refl _ _) | (with_reducible exact Cels.nil _) | (with_reducible refine Cels.cons ?_ ?_) | (with_reducible refine Own.mk ?_ ?_ ?_ ?_) | ((with_reducible refine Cel.new ?_ rfl); first | (with_reducible rfl) | omega | (simp; done) | (simp; omega)) | (with_reducible refine Cel.alloc ?_ _) | (with_reducible refine Cel.drew ?_) | (with_reducible refine Cel.setS ?_ _) | (with_reducible refine Has.set ?_ _ _) | (with_reducible exact Has.of (by assumption)) | (with_reducible refine Cel.setO ?_ ?_ _) | (with_reducible refine Cel.keep (by assumption) ?_) | (with_reducible refine Below.alloc ?_ ?_ _) | (with_reducible refine Below.drew ?_) | (with_reducible refine Below.setCell ?_ ?_ _) | (with_reducible refine below_keep ?_ ?_ (by assumption)) | omega | (simp; done) | (simp; omega))))
  have hB3 := O3.below; have hz3 := O3.size; have hl3 := O3.le; have S3_0 : Cel w3 (w.heap.size) 0 (.int .i64 a) := O3.cels.1; have S3_1 : Cel w3 (w.heap.size) 1 (.int .i64 l) := O3.cels.2.1; have S3_2 : Cel w3 (w.heap.size) 2 (.int .i64 u) := O3.cels.2.2.1; have S3_3 : Cel w3 (w.heap.size) 3 (.int .i64 d) := O3.cels.2.2.2.1
  clear O2 S2_0 S2_1 S2_2 S2_3
  go_wp2_with fail
  refine (passed_any a l u d r x _).mono ?_
  rintro e w4 ⟨rfl, hb4⟩
  have hs4 := hb4.size; (try simp at hs4)
  have O4 : Own w (w.heap.size + 1) w4 [(w.heap.size, 0, .int .i64 a), (w.heap.size, 1, .int .i64 l), (w.heap.size, 2, .int .i64 u), (w.heap.size, 3, .int .i64 d)] := (by (repeat' (first | (with_reducible assumption) | (with_reducible exact Below.refl _ _) | (with_reducible exact Cels.nil _) | (with_reducible refine Cels.cons ?_ ?_) | (with_reducible refine Own.mk ?_ ?_ ?_ ?_) | ((with_reducible refine Cel.new ?_ rfl); first | (with_reducible rfl) | omega | (simp; done) | (simp; omega)) | (with_reducible refine Cel.alloc ?_ _) | (with_reducible refine Cel.drew ?_) | (with_reducible refine Cel.setS ?_ _) | (with_reducible refine Has.set ?_ _ _) | (with_reducible exact Has.of (by assumption)) | (with_reducible refine Cel.setO ?_ ?_ _) | (with_reducible refine Cel.keep (by assumption) ?_) | (with_reducible refine Below.alloc ?_ ?_ _) | (with_reducible refine Below.drew ?_) | (with_reducible refine Below.setCell ?_ ?_ _) | (with_reducible refine below_keep ?_ ?_ (by assumption)) | omega | (simp; done) | (simp; omega))))
  have hB4 := O4.below; have hz4 := O4.size; have hl4 := O4.le; have S4_0 : Cel w4 (w.heap.size) 0 (.int .i64 a) := O4.cels.1; have S4_1 : Cel w4 (w.heap.size) 1 (.int .i64 l) := O4.cels.2.1; have S4_2 : Cel w4 (w.heap.size) 2 (.int .i64 u) := O4.cels.2.2.1; have S4_3 : Cel w4 (w.heap.size) 3 (.int .i64 d) := O4.cels.2.2.2.1
  clear O3 S3_0 S3_1 S3_2 S3_3
  go_wp2_with fail
  refine (sure_any a l u d t _).mono ?_
  rintro e w5 ⟨rfl, hb5⟩
  have hs5 := hb5.size; (try simp at hs5)
  have O5 : Own w (w.heap.size + 1) w5 [] := (by (repeat' (first | (with_reducible assumption) | (with_reducible exact Below.refl _ _) | (with_reducible exact Cels.nil _) | (with_reducible refine Cels.cons ?_ ?_) | (with_reducible refine Own.mk ?_ ?_ ?_ ?_) | ((with_reducible refine Cel.new ?_ rfl); first | (with_reducible rfl) | omega | (simp; done) | (simp; omega)) | (with_reducible refine Cel.alloc ?_ _) | (with_reducible refine Cel.drew ?_) | (with_reducible refine Cel.setS ?_ _) | (with_reducible refine Has.set ?_ _ _) | (with_reducible exact Has.of (by assumption)) | (with_reducible refine Cel.setO ?_ ?_ _) | (with_reducible refine Cel.keep (by assumption) ?_) | (with_reducible refine Below.alloc ?_ ?_ _) | (with_reducible refine Below.drew ?_) | (with_reducible refine Below.setCell ?_ ?_ _) | (with_reducible refine below_keep ?_ ?_ (by assumption)) | omega | (simp; done) | (simp; omega))))
  have hB5 := O5.below; have hz5 := O5.size; have hl5 := O5.le
  clear O4 S4_0 S4_1 S4_2 S4_3
  go_wp2
  all_goals first
    | (exfalso; omega)
    | (go_ret; exact ⟨rb (by first | rfl | (simp; done) | (rw [beq_iff_eq, Bool.eq_iff_iff]; simp; omega) | (simp; omega)), by (repeat' (first | (with_reducible assumption) | (with_reducible exact Below.refl _ _) | (with_reducible exact Cels.nil _) | (with_reducible refine Cels.cons ?_ ?_) | (with_reducible refine Own.mk ?_ ?_ ?_ ?_) | ((with_reducible refine Cel.new ?_ rfl); first | (with_reducible rfl) | omega | (simp; done) | (simp; omega)) | (with_reducible refine Cel.alloc ?_ _) | (with_reducible refine Cel.drew ?_) | (with_reducible refine Cel.setS ?_ _) | (with_reducible refine Has.set ?_ _ _) | (with_reducible exact Has.of (by assumption)) | (with_reducible refine Cel.setO ?_ ?_ _) | (with_reducible refine Cel.keep (by assumption) ?_) | (with_reducible refine Below.alloc ?_ ?_ _) | (with_reducible refine Below.drew ?_) | (with_reducible refine Below.setCell ?_ ?_ _) | (with_reducible refine below_keep ?_ ?_ (by assumption)) | omega | (simp; done) | (simp; omega)))⟩)

set_option maxRecDepth 100000 in
set_option maxHeartbeats 4000000 in
theorem law4_bbb (a l u d r s t x : Int) (w : World) (h1 : pE a l u d r t = 0) (h0 : -1 ≤ pV a l u d r t) (h00 : pV a l u d r t ≤ 1) (f1 : pE a l u d s t = 0) (f2 : s < r) (g1 : pE a l u d r x = 0) (g2 : t < x) (k1 : pV a l u d r t < 1) (k2 : ¬ uE a l u d t = 0) : Calls Try.prog 6 #[ck a l u d, .int .i64 r, .int .i64 s, .int .i64 t, .int .i64 x] w fun e w' => e = .returned (.bool true) ∧ Below w.heap.size w w' := by
  go_enter Try.func6, Try.ntmps6
  go_wp2_with fail
  refine (head_any _).mono ?_
  rintro e w1 ⟨rfl, hb1⟩
  have hs1 := hb1.size; (try simp at hs1)
  have O1 : Own w (w.heap.size + 1) w1 [(w.heap.size, 0, .int .i64 a), (w.heap.size, 1, .int .i64 l), (w.heap.size, 2, .int .i64 u), (w.heap.size, 3, .int .i64 d)] := (by (repeat' (first | (with_reducible assumption) | (with_reducible exact Below.refl _ _) | (with_reducible exact Cels.nil _) | (with_reducible refine Cels.cons ?_ ?_) | (with_reducible refine Own.mk ?_ ?_ ?_ ?_) | ((with_reducible refine Cel.new ?_ rfl); first | (with_reducible rfl) | omega | (simp; done) | (simp; omega)) | (with_reducible refine Cel.alloc ?_ _) | (with_reducible refine Cel.drew ?_) | (with_reducible refine Cel.setS ?_ _) | (with_reducible refine Has.set ?_ _ _) | (with_reducible exact Has.of (by assumption)) | (with_reducible refine Cel.setO ?_ ?_ _) | (with_reducible refine Cel.keep (by assumption) ?_) | (with_reducible refine Below.alloc ?_ ?_ _) | (with_reducible refine Below.drew ?_) | (with_reducible refine Below.setCell ?_ ?_ _) | (with_reducible refine below_keep ?_ ?_ (by assumption)) | omega | (simp; done) | (simp; omega))))
  have hB1 := O1.below; have hz1 := O1.size; have hl1 := O1.le; have S1_0 : Cel w1 (w.heap.size) 0 (.int .i64 a) := O1.cels.1; have S1_1 : Cel w1 (w.heap.size) 1 (.int .i64 l) := O1.cels.2.1; have S1_2 : Cel w1 (w.heap.size) 2 (.int .i64 u) := O1.cels.2.2.1; have S1_3 : Cel w1 (w.heap.size) 3 (.int .i64 d) := O1.cels.2.2.2.1
  go_wp2_with fail
  refine (passed_any a l u d r t _).mono ?_
  rintro e w2 ⟨rfl, hb2⟩
  have hs2 := hb2.size; (try simp at hs2)
  have O2 : Own w (w.heap.size + 1) w2 [(w.heap.size, 0, .int .i64 a), (w.heap.size, 1, .int .i64 l), (w.heap.size, 2, .int .i64 u), (w.heap.size, 3, .int .i64 d)] := (by (repeat' (first | (with_reducible assumption) | (with_reducible exact Below.refl _ _) | (with_reducible exact Cels.nil _) | (with_reducible refine Cels.cons ?_ ?_) | (with_reducible refine Own.mk ?_ ?_ ?_ ?_) | ((with_reducible refine Cel.new ?_ rfl); first | (with_reducible rfl) | omega | (simp; done) | (simp; omega)) | (with_reducible refine Cel.alloc ?_ _) | (with_reducible refine Cel.drew ?_) | (with_reducible refine Cel.setS ?_ _) | (with_reducible refine Has.set ?_ _ _) | (with_reducible exact Has.of (by assumption)) | (with_reducible refine Cel.setO ?_ ?_ _) | (with_reducible refine Cel.keep (by assumption) ?_) | (with_reducible refine Below.alloc ?_ ?_ _) | (with_reducible refine Below.drew ?_) | (with_reducible refine Below.setCell ?_ ?_ _) | (with_reducible refine below_keep ?_ ?_ (by assumption)) | omega | (simp; done) | (simp; omega))))
  have hB2 := O2.below; have hz2 := O2.size; have hl2 := O2.le; have S2_0 : Cel w2 (w.heap.size) 0 (.int .i64 a) := O2.cels.1; have S2_1 : Cel w2 (w.heap.size) 1 (.int .i64 l) := O2.cels.2.1; have S2_2 : Cel w2 (w.heap.size) 2 (.int .i64 u) := O2.cels.2.2.1; have S2_3 : Cel w2 (w.heap.size) 3 (.int .i64 d) := O2.cels.2.2.2.1
  clear O1 S1_0 S1_1 S1_2 S1_3
  go_wp2_with fail
  refine (passed_any a l u d s t _).mono ?_
  rintro e w3 ⟨rfl, hb3⟩
  have hs3 := hb3.size; (try simp at hs3)
  have O3 : Own w (w.heap.size + 1) w3 [(w.heap.size, 0, .int .i64 a), (w.heap.size, 1, .int .i64 l), (w.heap.size, 2, .int .i64 u), (w.heap.size, 3, .int .i64 d)] := (by (repeat' (first | (with_reducible assumption) | (with_reducible exact Below.refl _ _) | (with_reducible exact Cels.nil _) | (with_reducible refine Cels.cons ?_ ?_) | (with_reducible refine Own.mk ?_ ?_ ?_ ?_) | ((with_reducible refine Cel.new ?_ rfl); first | (with_reducible rfl) | omega | (simp; done) | (simp; omega)) | (with_reducible refine Cel.alloc ?_ _) | (with_reducible refine Cel.drew ?_) | (with_reducible refine Cel.setS ?_ _) | (with_reducible refine Has.set ?_ _ _) | (with_reducible exact Has.of (by assumption)) | (with_reducible refine Cel.setO ?_ ?_ _) | (with_reducible refine Cel.keep (by assumption) ?_) | (with_reducible refine Below.alloc ?_ ?_ _) | (with_reducible refine Below.drew ?_) | (with_reducible refine Below.setCell ?_ ?_ _) | (with_reducible refine below_keep ?_ ?_ (by assumption)) | omega | (simp; done) | (simp; omega))))
  have hB3 := O3.below; have hz3 := O3.size; have hl3 := O3.le; have S3_0 : Cel w3 (w.heap.size) 0 (.int .i64 a) := O3.cels.1; have S3_1 : Cel w3 (w.heap.size) 1 (.int .i64 l) := O3.cels.2.1; have S3_2 : Cel w3 (w.heap.size) 2 (.int .i64 u) := O3.cels.2.2.1; have S3_3 : Cel w3 (w.heap.size) 3 (.int .i64 d) := O3.cels.2.2.2.1
  clear O2 S2_0 S2_1 S2_2 S2_3
  go_wp2_with fail
  refine (passed_any a l u d r x _).mono ?_
  rintro e w4 ⟨rfl, hb4⟩
  have hs4 := hb4.size; (try simp at hs4)
  have O4 : Own w (w.heap.size + 1) w4 [(w.heap.size, 0, .int .i64 a), (w.heap.size, 1, .int .i64 l), (w.heap.size, 2, .int .i64 u), (w.heap.size, 3, .int .i64 d)] := (by (repeat' (first | (with_reducible assumption) | (with_reducible exact Below.refl _ _) | (with_reducible exact Cels.nil _) | (with_reducible refine Cels.cons ?_ ?_) | (with_reducible refine Own.mk ?_ ?_ ?_ ?_) | ((with_reducible refine Cel.new ?_ rfl); first | (with_reducible rfl) | omega | (simp; done) | (simp; omega)) | (with_reducible refine Cel.alloc ?_ _) | (with_reducible refine Cel.drew ?_) | (with_reducible refine Cel.setS ?_ _) | (with_reducible refine Has.set ?_ _ _) | (with_reducible exact Has.of (by assumption)) | (with_reducible refine Cel.setO ?_ ?_ _) | (with_reducible refine Cel.keep (by assumption) ?_) | (with_reducible refine Below.alloc ?_ ?_ _) | (with_reducible refine Below.drew ?_) | (with_reducible refine Below.setCell ?_ ?_ _) | (with_reducible refine below_keep ?_ ?_ (by assumption)) | omega | (simp; done) | (simp; omega))))
  have hB4 := O4.below; have hz4 := O4.size; have hl4 := O4.le; have S4_0 : Cel w4 (w.heap.size) 0 (.int .i64 a) := O4.cels.1; have S4_1 : Cel w4 (w.heap.size) 1 (.int .i64 l) := O4.cels.2.1; have S4_2 : Cel w4 (w.heap.size) 2 (.int .i64 u) := O4.cels.2.2.1; have S4_3 : Cel w4 (w.heap.size) 3 (.int .i64 d) := O4.cels.2.2.2.1
  clear O3 S3_0 S3_1 S3_2 S3_3
  go_wp2_with fail
  refine (sure_any a l u d t _).mono ?_
  rintro e w5 ⟨rfl, hb5⟩
  have hs5 := hb5.size; (try simp at hs5)
  have O5 : Own w (w.heap.size + 1) w5 [] := (by (repeat' (first | (with_reducible assumption) | (with_reducible exact Below.refl _ _) | (with_reducible exact Cels.nil _) | (with_reducible refine Cels.cons ?_ ?_) | (with_reducible refine Own.mk ?_ ?_ ?_ ?_) | ((with_reducible refine Cel.new ?_ rfl); first | (with_reducible rfl) | omega | (simp; done) | (simp; omega)) | (with_reducible refine Cel.alloc ?_ _) | (with_reducible refine Cel.drew ?_) | (with_reducible refine Cel.setS ?_ _) | (with_reducible refine Has.set ?_ _ _) | (with_reducible exact Has.of (by assumption)) | (with_reducible refine Cel.setO ?_ ?_ _) | (with_reducible refine Cel.keep (by assumption) ?_) | (with_reducible refine Below.alloc ?_ ?_ _) | (with_reducible refine Below.drew ?_) | (with_reducible refine Below.setCell ?_ ?_ _) | (with_reducible refine below_keep ?_ ?_ (by assumption)) | omega | (simp; done) | (simp; omega))))
  have hB5 := O5.below; have hz5 := O5.size; have hl5 := O5.le
  clear O4 S4_0 S4_1 S4_2 S4_3
  go_wp2
  all_goals first
    | (exfalso; omega)
    | (go_ret; exact ⟨rb (by first | rfl | (simp; done) | (rw [beq_iff_eq, Bool.eq_iff_iff]; simp; omega) | (simp; omega)), by (repeat' (first | (with_reducible assumption) | (with_reducible exact Below.refl _ _) | (with_reducible exact Cels.nil _) | (with_reducible refine Cels.cons ?_ ?_) | (with_reducible refine Own.mk ?_ ?_ ?_ ?_) | ((with_reducible refine Cel.new ?_ rfl); first | (with_reducible rfl) | omega | (simp; done) | (simp; omega)) | (with_reducible refine Cel.alloc ?_ _) | (with_reducible refine Cel.drew ?_) | (with_reducible refine Cel.setS ?_ _) | (with_reducible refine Has.set ?_ _ _) | (with_reducible exact Has.of (by assumption)) | (with_reducible refine Cel.setO ?_ ?_ _) | (with_reducible refine Cel.keep (by assumption) ?_) | (with_reducible refine Below.alloc ?_ ?_ _) | (with_reducible refine Below.drew ?_) | (with_reducible refine Below.setCell ?_ ?_ _) | (with_reducible refine below_keep ?_ ?_ (by assumption)) | omega | (simp; done) | (simp; omega)))⟩)

set_option maxRecDepth 100000 in
set_option maxHeartbeats 4000000 in
theorem law4_bbc (a l u d r s t x : Int) (w : World) (h1 : pE a l u d r t = 0) (h0 : -1 ≤ pV a l u d r t) (h00 : pV a l u d r t ≤ 1) (f1 : pE a l u d s t = 0) (f2 : s < r) (g1 : pE a l u d r x = 0) (g2 : t < x) (k1 : pV a l u d r t < 1) (k2 : uE a l u d t = 0) (k3 : r < uV a l u d t) : Calls Try.prog 6 #[ck a l u d, .int .i64 r, .int .i64 s, .int .i64 t, .int .i64 x] w fun e w' => e = .returned (.bool true) ∧ Below w.heap.size w w' := by
  go_enter Try.func6, Try.ntmps6
  go_wp2_with fail
  refine (head_any _).mono ?_
  rintro e w1 ⟨rfl, hb1⟩
  have hs1 := hb1.size; (try simp at hs1)
  have O1 : Own w (w.heap.size + 1) w1 [(w.heap.size, 0, .int .i64 a), (w.heap.size, 1, .int .i64 l), (w.heap.size, 2, .int .i64 u), (w.heap.size, 3, .int .i64 d)] := (by (repeat' (first | (with_reducible assumption) | (with_reducible exact Below.refl _ _) | (with_reducible exact Cels.nil _) | (with_reducible refine Cels.cons ?_ ?_) | (with_reducible refine Own.mk ?_ ?_ ?_ ?_) | ((with_reducible refine Cel.new ?_ rfl); first | (with_reducible rfl) | omega | (simp; done) | (simp; omega)) | (with_reducible refine Cel.alloc ?_ _) | (with_reducible refine Cel.drew ?_) | (with_reducible refine Cel.setS ?_ _) | (with_reducible refine Has.set ?_ _ _) | (with_reducible exact Has.of (by assumption)) | (with_reducible refine Cel.setO ?_ ?_ _) | (with_reducible refine Cel.keep (by assumption) ?_) | (with_reducible refine Below.alloc ?_ ?_ _) | (with_reducible refine Below.drew ?_) | (with_reducible refine Below.setCell ?_ ?_ _) | (with_reducible refine below_keep ?_ ?_ (by assumption)) | omega | (simp; done) | (simp; omega))))
  have hB1 := O1.below; have hz1 := O1.size; have hl1 := O1.le; have S1_0 : Cel w1 (w.heap.size) 0 (.int .i64 a) := O1.cels.1; have S1_1 : Cel w1 (w.heap.size) 1 (.int .i64 l) := O1.cels.2.1; have S1_2 : Cel w1 (w.heap.size) 2 (.int .i64 u) := O1.cels.2.2.1; have S1_3 : Cel w1 (w.heap.size) 3 (.int .i64 d) := O1.cels.2.2.2.1
  go_wp2_with fail
  refine (passed_any a l u d r t _).mono ?_
  rintro e w2 ⟨rfl, hb2⟩
  have hs2 := hb2.size; (try simp at hs2)
  have O2 : Own w (w.heap.size + 1) w2 [(w.heap.size, 0, .int .i64 a), (w.heap.size, 1, .int .i64 l), (w.heap.size, 2, .int .i64 u), (w.heap.size, 3, .int .i64 d)] := (by (repeat' (first | (with_reducible assumption) | (with_reducible exact Below.refl _ _) | (with_reducible exact Cels.nil _) | (with_reducible refine Cels.cons ?_ ?_) | (with_reducible refine Own.mk ?_ ?_ ?_ ?_) | ((with_reducible refine Cel.new ?_ rfl); first | (with_reducible rfl) | omega | (simp; done) | (simp; omega)) | (with_reducible refine Cel.alloc ?_ _) | (with_reducible refine Cel.drew ?_) | (with_reducible refine Cel.setS ?_ _) | (with_reducible refine Has.set ?_ _ _) | (with_reducible exact Has.of (by assumption)) | (with_reducible refine Cel.setO ?_ ?_ _) | (with_reducible refine Cel.keep (by assumption) ?_) | (with_reducible refine Below.alloc ?_ ?_ _) | (with_reducible refine Below.drew ?_) | (with_reducible refine Below.setCell ?_ ?_ _) | (with_reducible refine below_keep ?_ ?_ (by assumption)) | omega | (simp; done) | (simp; omega))))
  have hB2 := O2.below; have hz2 := O2.size; have hl2 := O2.le; have S2_0 : Cel w2 (w.heap.size) 0 (.int .i64 a) := O2.cels.1; have S2_1 : Cel w2 (w.heap.size) 1 (.int .i64 l) := O2.cels.2.1; have S2_2 : Cel w2 (w.heap.size) 2 (.int .i64 u) := O2.cels.2.2.1; have S2_3 : Cel w2 (w.heap.size) 3 (.int .i64 d) := O2.cels.2.2.2.1
  clear O1 S1_0 S1_1 S1_2 S1_3
  go_wp2_with fail
  refine (passed_any a l u d s t _).mono ?_
  rintro e w3 ⟨rfl, hb3⟩
  have hs3 := hb3.size; (try simp at hs3)
  have O3 : Own w (w.heap.size + 1) w3 [(w.heap.size, 0, .int .i64 a), (w.heap.size, 1, .int .i64 l), (w.heap.size, 2, .int .i64 u), (w.heap.size, 3, .int .i64 d)] := (by (repeat' (first | (with_reducible assumption) | (with_reducible exact Below.refl _ _) | (with_reducible exact Cels.nil _) | (with_reducible refine Cels.cons ?_ ?_) | (with_reducible refine Own.mk ?_ ?_ ?_ ?_) | ((with_reducible refine Cel.new ?_ rfl); first | (with_reducible rfl) | omega | (simp; done) | (simp; omega)) | (with_reducible refine Cel.alloc ?_ _) | (with_reducible refine Cel.drew ?_) | (with_reducible refine Cel.setS ?_ _) | (with_reducible refine Has.set ?_ _ _) | (with_reducible exact Has.of (by assumption)) | (with_reducible refine Cel.setO ?_ ?_ _) | (with_reducible refine Cel.keep (by assumption) ?_) | (with_reducible refine Below.alloc ?_ ?_ _) | (with_reducible refine Below.drew ?_) | (with_reducible refine Below.setCell ?_ ?_ _) | (with_reducible refine below_keep ?_ ?_ (by assumption)) | omega | (simp; done) | (simp; omega))))
  have hB3 := O3.below; have hz3 := O3.size; have hl3 := O3.le; have S3_0 : Cel w3 (w.heap.size) 0 (.int .i64 a) := O3.cels.1; have S3_1 : Cel w3 (w.heap.size) 1 (.int .i64 l) := O3.cels.2.1; have S3_2 : Cel w3 (w.heap.size) 2 (.int .i64 u) := O3.cels.2.2.1; have S3_3 : Cel w3 (w.heap.size) 3 (.int .i64 d) := O3.cels.2.2.2.1
  clear O2 S2_0 S2_1 S2_2 S2_3
  go_wp2_with fail
  refine (passed_any a l u d r x _).mono ?_
  rintro e w4 ⟨rfl, hb4⟩
  have hs4 := hb4.size; (try simp at hs4)
  have O4 : Own w (w.heap.size + 1) w4 [(w.heap.size, 0, .int .i64 a), (w.heap.size, 1, .int .i64 l), (w.heap.size, 2, .int .i64 u), (w.heap.size, 3, .int .i64 d)] := (by (repeat' (first | (with_reducible assumption) | (with_reducible exact Below.refl _ _) | (with_reducible exact Cels.nil _) | (with_reducible refine Cels.cons ?_ ?_) | (with_reducible refine Own.mk ?_ ?_ ?_ ?_) | ((with_reducible refine Cel.new ?_ rfl); first | (with_reducible rfl) | omega | (simp; done) | (simp; omega)) | (with_reducible refine Cel.alloc ?_ _) | (with_reducible refine Cel.drew ?_) | (with_reducible refine Cel.setS ?_ _) | (with_reducible refine Has.set ?_ _ _) | (with_reducible exact Has.of (by assumption)) | (with_reducible refine Cel.setO ?_ ?_ _) | (with_reducible refine Cel.keep (by assumption) ?_) | (with_reducible refine Below.alloc ?_ ?_ _) | (with_reducible refine Below.drew ?_) | (with_reducible refine Below.setCell ?_ ?_ _) | (with_reducible refine below_keep ?_ ?_ (by assumption)) | omega | (simp; done) | (simp; omega))))
  have hB4 := O4.below; have hz4 := O4.size; have hl4 := O4.le; have S4_0 : Cel w4 (w.heap.size) 0 (.int .i64 a) := O4.cels.1; have S4_1 : Cel w4 (w.heap.size) 1 (.int .i64 l) := O4.cels.2.1; have S4_2 : Cel w4 (w.heap.size) 2 (.int .i64 u) := O4.cels.2.2.1; have S4_3 : Cel w4 (w.heap.size) 3 (.int .i64 d) := O4.cels.2.2.2.1
  clear O3 S3_0 S3_1 S3_2 S3_3
  go_wp2_with fail
  refine (sure_any a l u d t _).mono ?_
  rintro e w5 ⟨rfl, hb5⟩
  have hs5 := hb5.size; (try simp at hs5)
  have O5 : Own w (w.heap.size + 1) w5 [] := (by (repeat' (first | (with_reducible assumption) | (with_reducible exact Below.refl _ _) | (with_reducible exact Cels.nil _) | (with_reducible refine Cels.cons ?_ ?_) | (with_reducible refine Own.mk ?_ ?_ ?_ ?_) | ((with_reducible refine Cel.new ?_ rfl); first | (with_reducible rfl) | omega | (simp; done) | (simp; omega)) | (with_reducible refine Cel.alloc ?_ _) | (with_reducible refine Cel.drew ?_) | (with_reducible refine Cel.setS ?_ _) | (with_reducible refine Has.set ?_ _ _) | (with_reducible exact Has.of (by assumption)) | (with_reducible refine Cel.setO ?_ ?_ _) | (with_reducible refine Cel.keep (by assumption) ?_) | (with_reducible refine Below.alloc ?_ ?_ _) | (with_reducible refine Below.drew ?_) | (with_reducible refine Below.setCell ?_ ?_ _) | (with_reducible refine below_keep ?_ ?_ (by assumption)) | omega | (simp; done) | (simp; omega))))
  have hB5 := O5.below; have hz5 := O5.size; have hl5 := O5.le
  clear O4 S4_0 S4_1 S4_2 S4_3
  go_wp2
  all_goals first
    | (exfalso; omega)
    | (go_ret; exact ⟨rb (by first | rfl | (simp; done) | (rw [beq_iff_eq, Bool.eq_iff_iff]; simp; omega) | (simp; omega)), by (repeat' (first | (with_reducible assumption) | (with_reducible exact Below.refl _ _) | (with_reducible exact Cels.nil _) | (with_reducible refine Cels.cons ?_ ?_) | (with_reducible refine Own.mk ?_ ?_ ?_ ?_) | ((with_reducible refine Cel.new ?_ rfl); first | (with_reducible rfl) | omega | (simp; done) | (simp; omega)) | (with_reducible refine Cel.alloc ?_ _) | (with_reducible refine Cel.drew ?_) | (with_reducible refine Cel.setS ?_ _) | (with_reducible refine Has.set ?_ _ _) | (with_reducible exact Has.of (by assumption)) | (with_reducible refine Cel.setO ?_ ?_ _) | (with_reducible refine Cel.keep (by assumption) ?_) | (with_reducible refine Below.alloc ?_ ?_ _) | (with_reducible refine Below.drew ?_) | (with_reducible refine Below.setCell ?_ ?_ _) | (with_reducible refine below_keep ?_ ?_ (by assumption)) | omega | (simp; done) | (simp; omega)))⟩)

set_option maxRecDepth 100000 in
set_option maxHeartbeats 4000000 in
theorem law4_bca (a l u d r s t x : Int) (w : World) (h1 : pE a l u d r t = 0) (h0 : -1 ≤ pV a l u d r t) (h00 : pV a l u d r t ≤ 1) (f1 : pE a l u d s t = 0) (f2 : s < r) (g1 : pE a l u d r x = 0) (g2 : x ≤ t) (g3 : pV a l u d r t ≤ pV a l u d r x) (k1 : pV a l u d r t = 1) (k2 : uE a l u d t = 0) (k3 : uV a l u d t ≤ r) : Calls Try.prog 6 #[ck a l u d, .int .i64 r, .int .i64 s, .int .i64 t, .int .i64 x] w fun e w' => e = .returned (.bool true) ∧ Below w.heap.size w w' := by
  go_enter Try.func6, Try.ntmps6
  go_wp2_with fail
  refine (head_any _).mono ?_
  rintro e w1 ⟨rfl, hb1⟩
  have hs1 := hb1.size; (try simp at hs1)
  have O1 : Own w (w.heap.size + 1) w1 [(w.heap.size, 0, .int .i64 a), (w.heap.size, 1, .int .i64 l), (w.heap.size, 2, .int .i64 u), (w.heap.size, 3, .int .i64 d)] := (by (repeat' (first | (with_reducible assumption) | (with_reducible exact Below.refl _ _) | (with_reducible exact Cels.nil _) | (with_reducible refine Cels.cons ?_ ?_) | (with_reducible refine Own.mk ?_ ?_ ?_ ?_) | ((with_reducible refine Cel.new ?_ rfl); first | (with_reducible rfl) | omega | (simp; done) | (simp; omega)) | (with_reducible refine Cel.alloc ?_ _) | (with_reducible refine Cel.drew ?_) | (with_reducible refine Cel.setS ?_ _) | (with_reducible refine Has.set ?_ _ _) | (with_reducible exact Has.of (by assumption)) | (with_reducible refine Cel.setO ?_ ?_ _) | (with_reducible refine Cel.keep (by assumption) ?_) | (with_reducible refine Below.alloc ?_ ?_ _) | (with_reducible refine Below.drew ?_) | (with_reducible refine Below.setCell ?_ ?_ _) | (with_reducible refine below_keep ?_ ?_ (by assumption)) | omega | (simp; done) | (simp; omega))))
  have hB1 := O1.below; have hz1 := O1.size; have hl1 := O1.le; have S1_0 : Cel w1 (w.heap.size) 0 (.int .i64 a) := O1.cels.1; have S1_1 : Cel w1 (w.heap.size) 1 (.int .i64 l) := O1.cels.2.1; have S1_2 : Cel w1 (w.heap.size) 2 (.int .i64 u) := O1.cels.2.2.1; have S1_3 : Cel w1 (w.heap.size) 3 (.int .i64 d) := O1.cels.2.2.2.1
  go_wp2_with fail
  refine (passed_any a l u d r t _).mono ?_
  rintro e w2 ⟨rfl, hb2⟩
  have hs2 := hb2.size; (try simp at hs2)
  have O2 : Own w (w.heap.size + 1) w2 [(w.heap.size, 0, .int .i64 a), (w.heap.size, 1, .int .i64 l), (w.heap.size, 2, .int .i64 u), (w.heap.size, 3, .int .i64 d)] := (by (repeat' (first | (with_reducible assumption) | (with_reducible exact Below.refl _ _) | (with_reducible exact Cels.nil _) | (with_reducible refine Cels.cons ?_ ?_) | (with_reducible refine Own.mk ?_ ?_ ?_ ?_) | ((with_reducible refine Cel.new ?_ rfl); first | (with_reducible rfl) | omega | (simp; done) | (simp; omega)) | (with_reducible refine Cel.alloc ?_ _) | (with_reducible refine Cel.drew ?_) | (with_reducible refine Cel.setS ?_ _) | (with_reducible refine Has.set ?_ _ _) | (with_reducible exact Has.of (by assumption)) | (with_reducible refine Cel.setO ?_ ?_ _) | (with_reducible refine Cel.keep (by assumption) ?_) | (with_reducible refine Below.alloc ?_ ?_ _) | (with_reducible refine Below.drew ?_) | (with_reducible refine Below.setCell ?_ ?_ _) | (with_reducible refine below_keep ?_ ?_ (by assumption)) | omega | (simp; done) | (simp; omega))))
  have hB2 := O2.below; have hz2 := O2.size; have hl2 := O2.le; have S2_0 : Cel w2 (w.heap.size) 0 (.int .i64 a) := O2.cels.1; have S2_1 : Cel w2 (w.heap.size) 1 (.int .i64 l) := O2.cels.2.1; have S2_2 : Cel w2 (w.heap.size) 2 (.int .i64 u) := O2.cels.2.2.1; have S2_3 : Cel w2 (w.heap.size) 3 (.int .i64 d) := O2.cels.2.2.2.1
  clear O1 S1_0 S1_1 S1_2 S1_3
  go_wp2_with fail
  refine (passed_any a l u d s t _).mono ?_
  rintro e w3 ⟨rfl, hb3⟩
  have hs3 := hb3.size; (try simp at hs3)
  have O3 : Own w (w.heap.size + 1) w3 [(w.heap.size, 0, .int .i64 a), (w.heap.size, 1, .int .i64 l), (w.heap.size, 2, .int .i64 u), (w.heap.size, 3, .int .i64 d)] := (by (repeat' (first | (with_reducible assumption) | (with_reducible exact Below.refl _ _) | (with_reducible exact Cels.nil _) | (with_reducible refine Cels.cons ?_ ?_) | (with_reducible refine Own.mk ?_ ?_ ?_ ?_) | ((with_reducible refine Cel.new ?_ rfl); first | (with_reducible rfl) | omega | (simp; done) | (simp; omega)) | (with_reducible refine Cel.alloc ?_ _) | (with_reducible refine Cel.drew ?_) | (with_reducible refine Cel.setS ?_ _) | (with_reducible refine Has.set ?_ _ _) | (with_reducible exact Has.of (by assumption)) | (with_reducible refine Cel.setO ?_ ?_ _) | (with_reducible refine Cel.keep (by assumption) ?_) | (with_reducible refine Below.alloc ?_ ?_ _) | (with_reducible refine Below.drew ?_) | (with_reducible refine Below.setCell ?_ ?_ _) | (with_reducible refine below_keep ?_ ?_ (by assumption)) | omega | (simp; done) | (simp; omega))))
  have hB3 := O3.below; have hz3 := O3.size; have hl3 := O3.le; have S3_0 : Cel w3 (w.heap.size) 0 (.int .i64 a) := O3.cels.1; have S3_1 : Cel w3 (w.heap.size) 1 (.int .i64 l) := O3.cels.2.1; have S3_2 : Cel w3 (w.heap.size) 2 (.int .i64 u) := O3.cels.2.2.1; have S3_3 : Cel w3 (w.heap.size) 3 (.int .i64 d) := O3.cels.2.2.2.1
  clear O2 S2_0 S2_1 S2_2 S2_3
  go_wp2_with fail
  refine (passed_any a l u d r x _).mono ?_
  rintro e w4 ⟨rfl, hb4⟩
  have hs4 := hb4.size; (try simp at hs4)
  have O4 : Own w (w.heap.size + 1) w4 [(w.heap.size, 0, .int .i64 a), (w.heap.size, 1, .int .i64 l), (w.heap.size, 2, .int .i64 u), (w.heap.size, 3, .int .i64 d)] := (by (repeat' (first | (with_reducible assumption) | (with_reducible exact Below.refl _ _) | (with_reducible exact Cels.nil _) | (with_reducible refine Cels.cons ?_ ?_) | (with_reducible refine Own.mk ?_ ?_ ?_ ?_) | ((with_reducible refine Cel.new ?_ rfl); first | (with_reducible rfl) | omega | (simp; done) | (simp; omega)) | (with_reducible refine Cel.alloc ?_ _) | (with_reducible refine Cel.drew ?_) | (with_reducible refine Cel.setS ?_ _) | (with_reducible refine Has.set ?_ _ _) | (with_reducible exact Has.of (by assumption)) | (with_reducible refine Cel.setO ?_ ?_ _) | (with_reducible refine Cel.keep (by assumption) ?_) | (with_reducible refine Below.alloc ?_ ?_ _) | (with_reducible refine Below.drew ?_) | (with_reducible refine Below.setCell ?_ ?_ _) | (with_reducible refine below_keep ?_ ?_ (by assumption)) | omega | (simp; done) | (simp; omega))))
  have hB4 := O4.below; have hz4 := O4.size; have hl4 := O4.le; have S4_0 : Cel w4 (w.heap.size) 0 (.int .i64 a) := O4.cels.1; have S4_1 : Cel w4 (w.heap.size) 1 (.int .i64 l) := O4.cels.2.1; have S4_2 : Cel w4 (w.heap.size) 2 (.int .i64 u) := O4.cels.2.2.1; have S4_3 : Cel w4 (w.heap.size) 3 (.int .i64 d) := O4.cels.2.2.2.1
  clear O3 S3_0 S3_1 S3_2 S3_3
  go_wp2_with fail
  refine (sure_any a l u d t _).mono ?_
  rintro e w5 ⟨rfl, hb5⟩
  have hs5 := hb5.size; (try simp at hs5)
  have O5 : Own w (w.heap.size + 1) w5 [] := (by (repeat' (first | (with_reducible assumption) | (with_reducible exact Below.refl _ _) | (with_reducible exact Cels.nil _) | (with_reducible refine Cels.cons ?_ ?_) | (with_reducible refine Own.mk ?_ ?_ ?_ ?_) | ((with_reducible refine Cel.new ?_ rfl); first | (with_reducible rfl) | omega | (simp; done) | (simp; omega)) | (with_reducible refine Cel.alloc ?_ _) | (with_reducible refine Cel.drew ?_) | (with_reducible refine Cel.setS ?_ _) | (with_reducible refine Has.set ?_ _ _) | (with_reducible exact Has.of (by assumption)) | (with_reducible refine Cel.setO ?_ ?_ _) | (with_reducible refine Cel.keep (by assumption) ?_) | (with_reducible refine Below.alloc ?_ ?_ _) | (with_reducible refine Below.drew ?_) | (with_reducible refine Below.setCell ?_ ?_ _) | (with_reducible refine below_keep ?_ ?_ (by assumption)) | omega | (simp; done) | (simp; omega))))
  have hB5 := O5.below; have hz5 := O5.size; have hl5 := O5.le
  clear O4 S4_0 S4_1 S4_2 S4_3
  go_wp2
  all_goals first
    | (exfalso; omega)
    | (go_ret; exact ⟨rb (by first | rfl | (simp; done) | (rw [beq_iff_eq, Bool.eq_iff_iff]; simp; omega) | (simp; omega)), by (repeat' (first | (with_reducible assumption) | (with_reducible exact Below.refl _ _) | (with_reducible exact Cels.nil _) | (with_reducible refine Cels.cons ?_ ?_) | (with_reducible refine Own.mk ?_ ?_ ?_ ?_) | ((with_reducible refine Cel.new ?_ rfl); first | (with_reducible rfl) | omega | (simp; done) | (simp; omega)) | (with_reducible refine Cel.alloc ?_ _) | (with_reducible refine Cel.drew ?_) | (with_reducible refine Cel.setS ?_ _) | (with_reducible refine Has.set ?_ _ _) | (with_reducible exact Has.of (by assumption)) | (with_reducible refine Cel.setO ?_ ?_ _) | (with_reducible refine Cel.keep (by assumption) ?_) | (with_reducible refine Below.alloc ?_ ?_ _) | (with_reducible refine Below.drew ?_) | (with_reducible refine Below.setCell ?_ ?_ _) | (with_reducible refine below_keep ?_ ?_ (by assumption)) | omega | (simp; done) | (simp; omega)))⟩)

set_option maxRecDepth 100000 in
set_option maxHeartbeats 4000000 in
theorem law4_bcb (a l u d r s t x : Int) (w : World) (h1 : pE a l u d r t = 0) (h0 : -1 ≤ pV a l u d r t) (h00 : pV a l u d r t ≤ 1) (f1 : pE a l u d s t = 0) (f2 : s < r) (g1 : pE a l u d r x = 0) (g2 : x ≤ t) (g3 : pV a l u d r t ≤ pV a l u d r x) (k1 : pV a l u d r t < 1) (k2 : ¬ uE a l u d t = 0) : Calls Try.prog 6 #[ck a l u d, .int .i64 r, .int .i64 s, .int .i64 t, .int .i64 x] w fun e w' => e = .returned (.bool true) ∧ Below w.heap.size w w' := by
  go_enter Try.func6, Try.ntmps6
  go_wp2_with fail
  refine (head_any _).mono ?_
  rintro e w1 ⟨rfl, hb1⟩
  have hs1 := hb1.size; (try simp at hs1)
  have O1 : Own w (w.heap.size + 1) w1 [(w.heap.size, 0, .int .i64 a), (w.heap.size, 1, .int .i64 l), (w.heap.size, 2, .int .i64 u), (w.heap.size, 3, .int .i64 d)] := (by (repeat' (first | (with_reducible assumption) | (with_reducible exact Below.refl _ _) | (with_reducible exact Cels.nil _) | (with_reducible refine Cels.cons ?_ ?_) | (with_reducible refine Own.mk ?_ ?_ ?_ ?_) | ((with_reducible refine Cel.new ?_ rfl); first | (with_reducible rfl) | omega | (simp; done) | (simp; omega)) | (with_reducible refine Cel.alloc ?_ _) | (with_reducible refine Cel.drew ?_) | (with_reducible refine Cel.setS ?_ _) | (with_reducible refine Has.set ?_ _ _) | (with_reducible exact Has.of (by assumption)) | (with_reducible refine Cel.setO ?_ ?_ _) | (with_reducible refine Cel.keep (by assumption) ?_) | (with_reducible refine Below.alloc ?_ ?_ _) | (with_reducible refine Below.drew ?_) | (with_reducible refine Below.setCell ?_ ?_ _) | (with_reducible refine below_keep ?_ ?_ (by assumption)) | omega | (simp; done) | (simp; omega))))
  have hB1 := O1.below; have hz1 := O1.size; have hl1 := O1.le; have S1_0 : Cel w1 (w.heap.size) 0 (.int .i64 a) := O1.cels.1; have S1_1 : Cel w1 (w.heap.size) 1 (.int .i64 l) := O1.cels.2.1; have S1_2 : Cel w1 (w.heap.size) 2 (.int .i64 u) := O1.cels.2.2.1; have S1_3 : Cel w1 (w.heap.size) 3 (.int .i64 d) := O1.cels.2.2.2.1
  go_wp2_with fail
  refine (passed_any a l u d r t _).mono ?_
  rintro e w2 ⟨rfl, hb2⟩
  have hs2 := hb2.size; (try simp at hs2)
  have O2 : Own w (w.heap.size + 1) w2 [(w.heap.size, 0, .int .i64 a), (w.heap.size, 1, .int .i64 l), (w.heap.size, 2, .int .i64 u), (w.heap.size, 3, .int .i64 d)] := (by (repeat' (first | (with_reducible assumption) | (with_reducible exact Below.refl _ _) | (with_reducible exact Cels.nil _) | (with_reducible refine Cels.cons ?_ ?_) | (with_reducible refine Own.mk ?_ ?_ ?_ ?_) | ((with_reducible refine Cel.new ?_ rfl); first | (with_reducible rfl) | omega | (simp; done) | (simp; omega)) | (with_reducible refine Cel.alloc ?_ _) | (with_reducible refine Cel.drew ?_) | (with_reducible refine Cel.setS ?_ _) | (with_reducible refine Has.set ?_ _ _) | (with_reducible exact Has.of (by assumption)) | (with_reducible refine Cel.setO ?_ ?_ _) | (with_reducible refine Cel.keep (by assumption) ?_) | (with_reducible refine Below.alloc ?_ ?_ _) | (with_reducible refine Below.drew ?_) | (with_reducible refine Below.setCell ?_ ?_ _) | (with_reducible refine below_keep ?_ ?_ (by assumption)) | omega | (simp; done) | (simp; omega))))
  have hB2 := O2.below; have hz2 := O2.size; have hl2 := O2.le; have S2_0 : Cel w2 (w.heap.size) 0 (.int .i64 a) := O2.cels.1; have S2_1 : Cel w2 (w.heap.size) 1 (.int .i64 l) := O2.cels.2.1; have S2_2 : Cel w2 (w.heap.size) 2 (.int .i64 u) := O2.cels.2.2.1; have S2_3 : Cel w2 (w.heap.size) 3 (.int .i64 d) := O2.cels.2.2.2.1
  clear O1 S1_0 S1_1 S1_2 S1_3
  go_wp2_with fail
  refine (passed_any a l u d s t _).mono ?_
  rintro e w3 ⟨rfl, hb3⟩
  have hs3 := hb3.size; (try simp at hs3)
  have O3 : Own w (w.heap.size + 1) w3 [(w.heap.size, 0, .int .i64 a), (w.heap.size, 1, .int .i64 l), (w.heap.size, 2, .int .i64 u), (w.heap.size, 3, .int .i64 d)] := (by (repeat' (first | (with_reducible assumption) | (with_reducible exact Below.refl _ _) | (with_reducible exact Cels.nil _) | (with_reducible refine Cels.cons ?_ ?_) | (with_reducible refine Own.mk ?_ ?_ ?_ ?_) | ((with_reducible refine Cel.new ?_ rfl); first | (with_reducible rfl) | omega | (simp; done) | (simp; omega)) | (with_reducible refine Cel.alloc ?_ _) | (with_reducible refine Cel.drew ?_) | (with_reducible refine Cel.setS ?_ _) | (with_reducible refine Has.set ?_ _ _) | (with_reducible exact Has.of (by assumption)) | (with_reducible refine Cel.setO ?_ ?_ _) | (with_reducible refine Cel.keep (by assumption) ?_) | (with_reducible refine Below.alloc ?_ ?_ _) | (with_reducible refine Below.drew ?_) | (with_reducible refine Below.setCell ?_ ?_ _) | (with_reducible refine below_keep ?_ ?_ (by assumption)) | omega | (simp; done) | (simp; omega))))
  have hB3 := O3.below; have hz3 := O3.size; have hl3 := O3.le; have S3_0 : Cel w3 (w.heap.size) 0 (.int .i64 a) := O3.cels.1; have S3_1 : Cel w3 (w.heap.size) 1 (.int .i64 l) := O3.cels.2.1; have S3_2 : Cel w3 (w.heap.size) 2 (.int .i64 u) := O3.cels.2.2.1; have S3_3 : Cel w3 (w.heap.size) 3 (.int .i64 d) := O3.cels.2.2.2.1
  clear O2 S2_0 S2_1 S2_2 S2_3
  go_wp2_with fail
  refine (passed_any a l u d r x _).mono ?_
  rintro e w4 ⟨rfl, hb4⟩
  have hs4 := hb4.size; (try simp at hs4)
  have O4 : Own w (w.heap.size + 1) w4 [(w.heap.size, 0, .int .i64 a), (w.heap.size, 1, .int .i64 l), (w.heap.size, 2, .int .i64 u), (w.heap.size, 3, .int .i64 d)] := (by (repeat' (first | (with_reducible assumption) | (with_reducible exact Below.refl _ _) | (with_reducible exact Cels.nil _) | (with_reducible refine Cels.cons ?_ ?_) | (with_reducible refine Own.mk ?_ ?_ ?_ ?_) | ((with_reducible refine Cel.new ?_ rfl); first | (with_reducible rfl) | omega | (simp; done) | (simp; omega)) | (with_reducible refine Cel.alloc ?_ _) | (with_reducible refine Cel.drew ?_) | (with_reducible refine Cel.setS ?_ _) | (with_reducible refine Has.set ?_ _ _) | (with_reducible exact Has.of (by assumption)) | (with_reducible refine Cel.setO ?_ ?_ _) | (with_reducible refine Cel.keep (by assumption) ?_) | (with_reducible refine Below.alloc ?_ ?_ _) | (with_reducible refine Below.drew ?_) | (with_reducible refine Below.setCell ?_ ?_ _) | (with_reducible refine below_keep ?_ ?_ (by assumption)) | omega | (simp; done) | (simp; omega))))
  have hB4 := O4.below; have hz4 := O4.size; have hl4 := O4.le; have S4_0 : Cel w4 (w.heap.size) 0 (.int .i64 a) := O4.cels.1; have S4_1 : Cel w4 (w.heap.size) 1 (.int .i64 l) := O4.cels.2.1; have S4_2 : Cel w4 (w.heap.size) 2 (.int .i64 u) := O4.cels.2.2.1; have S4_3 : Cel w4 (w.heap.size) 3 (.int .i64 d) := O4.cels.2.2.2.1
  clear O3 S3_0 S3_1 S3_2 S3_3
  go_wp2_with fail
  refine (sure_any a l u d t _).mono ?_
  rintro e w5 ⟨rfl, hb5⟩
  have hs5 := hb5.size; (try simp at hs5)
  have O5 : Own w (w.heap.size + 1) w5 [] := (by (repeat' (first | (with_reducible assumption) | (with_reducible exact Below.refl _ _) | (with_reducible exact Cels.nil _) | (with_reducible refine Cels.cons ?_ ?_) | (with_reducible refine Own.mk ?_ ?_ ?_ ?_) | ((with_reducible refine Cel.new ?_ rfl); first | (with_reducible rfl) | omega | (simp; done) | (simp; omega)) | (with_reducible refine Cel.alloc ?_ _) | (with_reducible refine Cel.drew ?_) | (with_reducible refine Cel.setS ?_ _) | (with_reducible refine Has.set ?_ _ _) | (with_reducible exact Has.of (by assumption)) | (with_reducible refine Cel.setO ?_ ?_ _) | (with_reducible refine Cel.keep (by assumption) ?_) | (with_reducible refine Below.alloc ?_ ?_ _) | (with_reducible refine Below.drew ?_) | (with_reducible refine Below.setCell ?_ ?_ _) | (with_reducible refine below_keep ?_ ?_ (by assumption)) | omega | (simp; done) | (simp; omega))))
  have hB5 := O5.below; have hz5 := O5.size; have hl5 := O5.le
  clear O4 S4_0 S4_1 S4_2 S4_3
  go_wp2
  all_goals first
    | (exfalso; omega)
    | (go_ret; exact ⟨rb (by first | rfl | (simp; done) | (rw [beq_iff_eq, Bool.eq_iff_iff]; simp; omega) | (simp; omega)), by (repeat' (first | (with_reducible assumption) | (with_reducible exact Below.refl _ _) | (with_reducible exact Cels.nil _) | (with_reducible refine Cels.cons ?_ ?_) | (with_reducible refine Own.mk ?_ ?_ ?_ ?_) | ((with_reducible refine Cel.new ?_ rfl); first | (with_reducible rfl) | omega | (simp; done) | (simp; omega)) | (with_reducible refine Cel.alloc ?_ _) | (with_reducible refine Cel.drew ?_) | (with_reducible refine Cel.setS ?_ _) | (with_reducible refine Has.set ?_ _ _) | (with_reducible exact Has.of (by assumption)) | (with_reducible refine Cel.setO ?_ ?_ _) | (with_reducible refine Cel.keep (by assumption) ?_) | (with_reducible refine Below.alloc ?_ ?_ _) | (with_reducible refine Below.drew ?_) | (with_reducible refine Below.setCell ?_ ?_ _) | (with_reducible refine below_keep ?_ ?_ (by assumption)) | omega | (simp; done) | (simp; omega)))⟩)

set_option maxRecDepth 100000 in
set_option maxHeartbeats 4000000 in
theorem law4_bcc (a l u d r s t x : Int) (w : World) (h1 : pE a l u d r t = 0) (h0 : -1 ≤ pV a l u d r t) (h00 : pV a l u d r t ≤ 1) (f1 : pE a l u d s t = 0) (f2 : s < r) (g1 : pE a l u d r x = 0) (g2 : x ≤ t) (g3 : pV a l u d r t ≤ pV a l u d r x) (k1 : pV a l u d r t < 1) (k2 : uE a l u d t = 0) (k3 : r < uV a l u d t) : Calls Try.prog 6 #[ck a l u d, .int .i64 r, .int .i64 s, .int .i64 t, .int .i64 x] w fun e w' => e = .returned (.bool true) ∧ Below w.heap.size w w' := by
  go_enter Try.func6, Try.ntmps6
  go_wp2_with fail
  refine (head_any _).mono ?_
  rintro e w1 ⟨rfl, hb1⟩
  have hs1 := hb1.size; (try simp at hs1)
  have O1 : Own w (w.heap.size + 1) w1 [(w.heap.size, 0, .int .i64 a), (w.heap.size, 1, .int .i64 l), (w.heap.size, 2, .int .i64 u), (w.heap.size, 3, .int .i64 d)] := (by (repeat' (first | (with_reducible assumption) | (with_reducible exact Below.refl _ _) | (with_reducible exact Cels.nil _) | (with_reducible refine Cels.cons ?_ ?_) | (with_reducible refine Own.mk ?_ ?_ ?_ ?_) | ((with_reducible refine Cel.new ?_ rfl); first | (with_reducible rfl) | omega | (simp; done) | (simp; omega)) | (with_reducible refine Cel.alloc ?_ _) | (with_reducible refine Cel.drew ?_) | (with_reducible refine Cel.setS ?_ _) | (with_reducible refine Has.set ?_ _ _) | (with_reducible exact Has.of (by assumption)) | (with_reducible refine Cel.setO ?_ ?_ _) | (with_reducible refine Cel.keep (by assumption) ?_) | (with_reducible refine Below.alloc ?_ ?_ _) | (with_reducible refine Below.drew ?_) | (with_reducible refine Below.setCell ?_ ?_ _) | (with_reducible refine below_keep ?_ ?_ (by assumption)) | omega | (simp; done) | (simp; omega))))
  have hB1 := O1.below; have hz1 := O1.size; have hl1 := O1.le; have S1_0 : Cel w1 (w.heap.size) 0 (.int .i64 a) := O1.cels.1; have S1_1 : Cel w1 (w.heap.size) 1 (.int .i64 l) := O1.cels.2.1; have S1_2 : Cel w1 (w.heap.size) 2 (.int .i64 u) := O1.cels.2.2.1; have S1_3 : Cel w1 (w.heap.size) 3 (.int .i64 d) := O1.cels.2.2.2.1
  go_wp2_with fail
  refine (passed_any a l u d r t _).mono ?_
  rintro e w2 ⟨rfl, hb2⟩
  have hs2 := hb2.size; (try simp at hs2)
  have O2 : Own w (w.heap.size + 1) w2 [(w.heap.size, 0, .int .i64 a), (w.heap.size, 1, .int .i64 l), (w.heap.size, 2, .int .i64 u), (w.heap.size, 3, .int .i64 d)] := (by (repeat' (first | (with_reducible assumption) | (with_reducible exact Below.refl _ _) | (with_reducible exact Cels.nil _) | (with_reducible refine Cels.cons ?_ ?_) | (with_reducible refine Own.mk ?_ ?_ ?_ ?_) | ((with_reducible refine Cel.new ?_ rfl); first | (with_reducible rfl) | omega | (simp; done) | (simp; omega)) | (with_reducible refine Cel.alloc ?_ _) | (with_reducible refine Cel.drew ?_) | (with_reducible refine Cel.setS ?_ _) | (with_reducible refine Has.set ?_ _ _) | (with_reducible exact Has.of (by assumption)) | (with_reducible refine Cel.setO ?_ ?_ _) | (with_reducible refine Cel.keep (by assumption) ?_) | (with_reducible refine Below.alloc ?_ ?_ _) | (with_reducible refine Below.drew ?_) | (with_reducible refine Below.setCell ?_ ?_ _) | (with_reducible refine below_keep ?_ ?_ (by assumption)) | omega | (simp; done) | (simp; omega))))
  have hB2 := O2.below; have hz2 := O2.size; have hl2 := O2.le; have S2_0 : Cel w2 (w.heap.size) 0 (.int .i64 a) := O2.cels.1; have S2_1 : Cel w2 (w.heap.size) 1 (.int .i64 l) := O2.cels.2.1; have S2_2 : Cel w2 (w.heap.size) 2 (.int .i64 u) := O2.cels.2.2.1; have S2_3 : Cel w2 (w.heap.size) 3 (.int .i64 d) := O2.cels.2.2.2.1
  clear O1 S1_0 S1_1 S1_2 S1_3
  go_wp2_with fail
  refine (passed_any a l u d s t _).mono ?_
  rintro e w3 ⟨rfl, hb3⟩
  have hs3 := hb3.size; (try simp at hs3)
  have O3 : Own w (w.heap.size + 1) w3 [(w.heap.size, 0, .int .i64 a), (w.heap.size, 1, .int .i64 l), (w.heap.size, 2, .int .i64 u), (w.heap.size, 3, .int .i64 d)] := (by (repeat' (first | (with_reducible assumption) | (with_reducible exact Below.refl _ _) | (with_reducible exact Cels.nil _) | (with_reducible refine Cels.cons ?_ ?_) | (with_reducible refine Own.mk ?_ ?_ ?_ ?_) | ((with_reducible refine Cel.new ?_ rfl); first | (with_reducible rfl) | omega | (simp; done) | (simp; omega)) | (with_reducible refine Cel.alloc ?_ _) | (with_reducible refine Cel.drew ?_) | (with_reducible refine Cel.setS ?_ _) | (with_reducible refine Has.set ?_ _ _) | (with_reducible exact Has.of (by assumption)) | (with_reducible refine Cel.setO ?_ ?_ _) | (with_reducible refine Cel.keep (by assumption) ?_) | (with_reducible refine Below.alloc ?_ ?_ _) | (with_reducible refine Below.drew ?_) | (with_reducible refine Below.setCell ?_ ?_ _) | (with_reducible refine below_keep ?_ ?_ (by assumption)) | omega | (simp; done) | (simp; omega))))
  have hB3 := O3.below; have hz3 := O3.size; have hl3 := O3.le; have S3_0 : Cel w3 (w.heap.size) 0 (.int .i64 a) := O3.cels.1; have S3_1 : Cel w3 (w.heap.size) 1 (.int .i64 l) := O3.cels.2.1; have S3_2 : Cel w3 (w.heap.size) 2 (.int .i64 u) := O3.cels.2.2.1; have S3_3 : Cel w3 (w.heap.size) 3 (.int .i64 d) := O3.cels.2.2.2.1
  clear O2 S2_0 S2_1 S2_2 S2_3
  go_wp2_with fail
  refine (passed_any a l u d r x _).mono ?_
  rintro e w4 ⟨rfl, hb4⟩
  have hs4 := hb4.size; (try simp at hs4)
  have O4 : Own w (w.heap.size + 1) w4 [(w.heap.size, 0, .int .i64 a), (w.heap.size, 1, .int .i64 l), (w.heap.size, 2, .int .i64 u), (w.heap.size, 3, .int .i64 d)] := (by (repeat' (first | (with_reducible assumption) | (with_reducible exact Below.refl _ _) | (with_reducible exact Cels.nil _) | (with_reducible refine Cels.cons ?_ ?_) | (with_reducible refine Own.mk ?_ ?_ ?_ ?_) | ((with_reducible refine Cel.new ?_ rfl); first | (with_reducible rfl) | omega | (simp; done) | (simp; omega)) | (with_reducible refine Cel.alloc ?_ _) | (with_reducible refine Cel.drew ?_) | (with_reducible refine Cel.setS ?_ _) | (with_reducible refine Has.set ?_ _ _) | (with_reducible exact Has.of (by assumption)) | (with_reducible refine Cel.setO ?_ ?_ _) | (with_reducible refine Cel.keep (by assumption) ?_) | (with_reducible refine Below.alloc ?_ ?_ _) | (with_reducible refine Below.drew ?_) | (with_reducible refine Below.setCell ?_ ?_ _) | (with_reducible refine below_keep ?_ ?_ (by assumption)) | omega | (simp; done) | (simp; omega))))
  have hB4 := O4.below; have hz4 := O4.size; have hl4 := O4.le; have S4_0 : Cel w4 (w.heap.size) 0 (.int .i64 a) := O4.cels.1; have S4_1 : Cel w4 (w.heap.size) 1 (.int .i64 l) := O4.cels.2.1; have S4_2 : Cel w4 (w.heap.size) 2 (.int .i64 u) := O4.cels.2.2.1; have S4_3 : Cel w4 (w.heap.size) 3 (.int .i64 d) := O4.cels.2.2.2.1
  clear O3 S3_0 S3_1 S3_2 S3_3
  go_wp2_with fail
  refine (sure_any a l u d t _).mono ?_
  rintro e w5 ⟨rfl, hb5⟩
  have hs5 := hb5.size; (try simp at hs5)
  have O5 : Own w (w.heap.size + 1) w5 [] := (by (repeat' (first | (with_reducible assumption) | (with_reducible exact Below.refl _ _) | (with_reducible exact Cels.nil _) | (with_reducible refine Cels.cons ?_ ?_) | (with_reducible refine Own.mk ?_ ?_ ?_ ?_) | ((with_reducible refine Cel.new ?_ rfl); first | (with_reducible rfl) | omega | (simp; done) | (simp; omega)) | (with_reducible refine Cel.alloc ?_ _) | (with_reducible refine Cel.drew ?_) | (with_reducible refine Cel.setS ?_ _) | (with_reducible refine Has.set ?_ _ _) | (with_reducible exact Has.of (by assumption)) | (with_reducible refine Cel.setO ?_ ?_ _) | (with_reducible refine Cel.keep (by assumption) ?_) | (with_reducible refine Below.alloc ?_ ?_ _) | (with_reducible refine Below.drew ?_) | (with_reducible refine Below.setCell ?_ ?_ _) | (with_reducible refine below_keep ?_ ?_ (by assumption)) | omega | (simp; done) | (simp; omega))))
  have hB5 := O5.below; have hz5 := O5.size; have hl5 := O5.le
  clear O4 S4_0 S4_1 S4_2 S4_3
  go_wp2
  all_goals first
    | (exfalso; omega)
    | (go_ret; exact ⟨rb (by first | rfl | (simp; done) | (rw [beq_iff_eq, Bool.eq_iff_iff]; simp; omega) | (simp; omega)), by (repeat' (first | (with_reducible assumption) | (with_reducible exact Below.refl _ _) | (with_reducible exact Cels.nil _) | (with_reducible refine Cels.cons ?_ ?_) | (with_reducible refine Own.mk ?_ ?_ ?_ ?_) | ((with_reducible refine Cel.new ?_ rfl); first | (with_reducible rfl) | omega | (simp; done) | (simp; omega)) | (with_reducible refine Cel.alloc ?_ _) | (with_reducible refine Cel.drew ?_) | (with_reducible refine Cel.setS ?_ _) | (with_reducible refine Has.set ?_ _ _) | (with_reducible exact Has.of (by assumption)) | (with_reducible refine Cel.setO ?_ ?_ _) | (with_reducible refine Cel.keep (by assumption) ?_) | (with_reducible refine Below.alloc ?_ ?_ _) | (with_reducible refine Below.drew ?_) | (with_reducible refine Below.setCell ?_ ?_ _) | (with_reducible refine below_keep ?_ ?_ (by assumption)) | omega | (simp; done) | (simp; omega)))⟩)

set_option maxRecDepth 100000 in
set_option maxHeartbeats 4000000 in
theorem law4_caa (a l u d r s t x : Int) (w : World) (h1 : pE a l u d r t = 0) (h0 : -1 ≤ pV a l u d r t) (h00 : pV a l u d r t ≤ 1) (f1 : pE a l u d s t = 0) (f2 : r ≤ s) (f3 : pV a l u d r t ≤ pV a l u d s t) (g1 : ¬ pE a l u d r x = 0) (k1 : pV a l u d r t = 1) (k2 : uE a l u d t = 0) (k3 : uV a l u d t ≤ r) : Calls Try.prog 6 #[ck a l u d, .int .i64 r, .int .i64 s, .int .i64 t, .int .i64 x] w fun e w' => e = .returned (.bool true) ∧ Below w.heap.size w w' := by
  go_enter Try.func6, Try.ntmps6
  go_wp2_with fail
  refine (head_any _).mono ?_
  rintro e w1 ⟨rfl, hb1⟩
  have hs1 := hb1.size; (try simp at hs1)
  have O1 : Own w (w.heap.size + 1) w1 [(w.heap.size, 0, .int .i64 a), (w.heap.size, 1, .int .i64 l), (w.heap.size, 2, .int .i64 u), (w.heap.size, 3, .int .i64 d)] := (by (repeat' (first | (with_reducible assumption) | (with_reducible exact Below.refl _ _) | (with_reducible exact Cels.nil _) | (with_reducible refine Cels.cons ?_ ?_) | (with_reducible refine Own.mk ?_ ?_ ?_ ?_) | ((with_reducible refine Cel.new ?_ rfl); first | (with_reducible rfl) | omega | (simp; done) | (simp; omega)) | (with_reducible refine Cel.alloc ?_ _) | (with_reducible refine Cel.drew ?_) | (with_reducible refine Cel.setS ?_ _) | (with_reducible refine Has.set ?_ _ _) | (with_reducible exact Has.of (by assumption)) | (with_reducible refine Cel.setO ?_ ?_ _) | (with_reducible refine Cel.keep (by assumption) ?_) | (with_reducible refine Below.alloc ?_ ?_ _) | (with_reducible refine Below.drew ?_) | (with_reducible refine Below.setCell ?_ ?_ _) | (with_reducible refine below_keep ?_ ?_ (by assumption)) | omega | (simp; done) | (simp; omega))))
  have hB1 := O1.below; have hz1 := O1.size; have hl1 := O1.le; have S1_0 : Cel w1 (w.heap.size) 0 (.int .i64 a) := O1.cels.1; have S1_1 : Cel w1 (w.heap.size) 1 (.int .i64 l) := O1.cels.2.1; have S1_2 : Cel w1 (w.heap.size) 2 (.int .i64 u) := O1.cels.2.2.1; have S1_3 : Cel w1 (w.heap.size) 3 (.int .i64 d) := O1.cels.2.2.2.1
  go_wp2_with fail
  refine (passed_any a l u d r t _).mono ?_
  rintro e w2 ⟨rfl, hb2⟩
  have hs2 := hb2.size; (try simp at hs2)
  have O2 : Own w (w.heap.size + 1) w2 [(w.heap.size, 0, .int .i64 a), (w.heap.size, 1, .int .i64 l), (w.heap.size, 2, .int .i64 u), (w.heap.size, 3, .int .i64 d)] := (by (repeat' (first | (with_reducible assumption) | (with_reducible exact Below.refl _ _) | (with_reducible exact Cels.nil _) | (with_reducible refine Cels.cons ?_ ?_) | (with_reducible refine Own.mk ?_ ?_ ?_ ?_) | ((with_reducible refine Cel.new ?_ rfl); first | (with_reducible rfl) | omega | (simp; done) | (simp; omega)) | (with_reducible refine Cel.alloc ?_ _) | (with_reducible refine Cel.drew ?_) | (with_reducible refine Cel.setS ?_ _) | (with_reducible refine Has.set ?_ _ _) | (with_reducible exact Has.of (by assumption)) | (with_reducible refine Cel.setO ?_ ?_ _) | (with_reducible refine Cel.keep (by assumption) ?_) | (with_reducible refine Below.alloc ?_ ?_ _) | (with_reducible refine Below.drew ?_) | (with_reducible refine Below.setCell ?_ ?_ _) | (with_reducible refine below_keep ?_ ?_ (by assumption)) | omega | (simp; done) | (simp; omega))))
  have hB2 := O2.below; have hz2 := O2.size; have hl2 := O2.le; have S2_0 : Cel w2 (w.heap.size) 0 (.int .i64 a) := O2.cels.1; have S2_1 : Cel w2 (w.heap.size) 1 (.int .i64 l) := O2.cels.2.1; have S2_2 : Cel w2 (w.heap.size) 2 (.int .i64 u) := O2.cels.2.2.1; have S2_3 : Cel w2 (w.heap.size) 3 (.int .i64 d) := O2.cels.2.2.2.1
  clear O1 S1_0 S1_1 S1_2 S1_3
  go_wp2_with fail
  refine (passed_any a l u d s t _).mono ?_
  rintro e w3 ⟨rfl, hb3⟩
  have hs3 := hb3.size; (try simp at hs3)
  have O3 : Own w (w.heap.size + 1) w3 [(w.heap.size, 0, .int .i64 a), (w.heap.size, 1, .int .i64 l), (w.heap.size, 2, .int .i64 u), (w.heap.size, 3, .int .i64 d)] := (by (repeat' (first | (with_reducible assumption) | (with_reducible exact Below.refl _ _) | (with_reducible exact Cels.nil _) | (with_reducible refine Cels.cons ?_ ?_) | (with_reducible refine Own.mk ?_ ?_ ?_ ?_) | ((with_reducible refine Cel.new ?_ rfl); first | (with_reducible rfl) | omega | (simp; done) | (simp; omega)) | (with_reducible refine Cel.alloc ?_ _) | (with_reducible refine Cel.drew ?_) | (with_reducible refine Cel.setS ?_ _) | (with_reducible refine Has.set ?_ _ _) | (with_reducible exact Has.of (by assumption)) | (with_reducible refine Cel.setO ?_ ?_ _) | (with_reducible refine Cel.keep (by assumption) ?_) | (with_reducible refine Below.alloc ?_ ?_ _) | (with_reducible refine Below.drew ?_) | (with_reducible refine Below.setCell ?_ ?_ _) | (with_reducible refine below_keep ?_ ?_ (by assumption)) | omega | (simp; done) | (simp; omega))))
  have hB3 := O3.below; have hz3 := O3.size; have hl3 := O3.le; have S3_0 : Cel w3 (w.heap.size) 0 (.int .i64 a) := O3.cels.1; have S3_1 : Cel w3 (w.heap.size) 1 (.int .i64 l) := O3.cels.2.1; have S3_2 : Cel w3 (w.heap.size) 2 (.int .i64 u) := O3.cels.2.2.1; have S3_3 : Cel w3 (w.heap.size) 3 (.int .i64 d) := O3.cels.2.2.2.1
  clear O2 S2_0 S2_1 S2_2 S2_3
  go_wp2_with fail
  refine (passed_any a l u d r x _).mono ?_
  rintro e w4 ⟨rfl, hb4⟩
  have hs4 := hb4.size; (try simp at hs4)
  have O4 : Own w (w.heap.size + 1) w4 [(w.heap.size, 0, .int .i64 a), (w.heap.size, 1, .int .i64 l), (w.heap.size, 2, .int .i64 u), (w.heap.size, 3, .int .i64 d)] := (by (repeat' (first | (with_reducible assumption) | (with_reducible exact Below.refl _ _) | (with_reducible exact Cels.nil _) | (with_reducible refine Cels.cons ?_ ?_) | (with_reducible refine Own.mk ?_ ?_ ?_ ?_) | ((with_reducible refine Cel.new ?_ rfl); first | (with_reducible rfl) | omega | (simp; done) | (simp; omega)) | (with_reducible refine Cel.alloc ?_ _) | (with_reducible refine Cel.drew ?_) | (with_reducible refine Cel.setS ?_ _) | (with_reducible refine Has.set ?_ _ _) | (with_reducible exact Has.of (by assumption)) | (with_reducible refine Cel.setO ?_ ?_ _) | (with_reducible refine Cel.keep (by assumption) ?_) | (with_reducible refine Below.alloc ?_ ?_ _) | (with_reducible refine Below.drew ?_) | (with_reducible refine Below.setCell ?_ ?_ _) | (with_reducible refine below_keep ?_ ?_ (by assumption)) | omega | (simp; done) | (simp; omega))))
  have hB4 := O4.below; have hz4 := O4.size; have hl4 := O4.le; have S4_0 : Cel w4 (w.heap.size) 0 (.int .i64 a) := O4.cels.1; have S4_1 : Cel w4 (w.heap.size) 1 (.int .i64 l) := O4.cels.2.1; have S4_2 : Cel w4 (w.heap.size) 2 (.int .i64 u) := O4.cels.2.2.1; have S4_3 : Cel w4 (w.heap.size) 3 (.int .i64 d) := O4.cels.2.2.2.1
  clear O3 S3_0 S3_1 S3_2 S3_3
  go_wp2_with fail
  refine (sure_any a l u d t _).mono ?_
  rintro e w5 ⟨rfl, hb5⟩
  have hs5 := hb5.size; (try simp at hs5)
  have O5 : Own w (w.heap.size + 1) w5 [] := (by (repeat' (first | (with_reducible assumption) | (with_reducible exact Below.refl _ _) | (with_reducible exact Cels.nil _) | (with_reducible refine Cels.cons ?_ ?_) | (with_reducible refine Own.mk ?_ ?_ ?_ ?_) | ((with_reducible refine Cel.new ?_ rfl); first | (with_reducible rfl) | omega | (simp; done) | (simp; omega)) | (with_reducible refine Cel.alloc ?_ _) | (with_reducible refine Cel.drew ?_) | (with_reducible refine Cel.setS ?_ _) | (with_reducible refine Has.set ?_ _ _) | (with_reducible exact Has.of (by assumption)) | (with_reducible refine Cel.setO ?_ ?_ _) | (with_reducible refine Cel.keep (by assumption) ?_) | (with_reducible refine Below.alloc ?_ ?_ _) | (with_reducible refine Below.drew ?_) | (with_reducible refine Below.setCell ?_ ?_ _) | (with_reducible refine below_keep ?_ ?_ (by assumption)) | omega | (simp; done) | (simp; omega))))
  have hB5 := O5.below; have hz5 := O5.size; have hl5 := O5.le
  clear O4 S4_0 S4_1 S4_2 S4_3
  go_wp2
  all_goals first
    | (exfalso; omega)
    | (go_ret; exact ⟨rb (by first | rfl | (simp; done) | (rw [beq_iff_eq, Bool.eq_iff_iff]; simp; omega) | (simp; omega)), by (repeat' (first | (with_reducible assumption) | (with_reducible exact Below.refl _ _) | (with_reducible exact Cels.nil _) | (with_reducible refine Cels.cons ?_ ?_) | (with_reducible refine Own.mk ?_ ?_ ?_ ?_) | ((with_reducible refine Cel.new ?_ rfl); first | (with_reducible rfl) | omega | (simp; done) | (simp; omega)) | (with_reducible refine Cel.alloc ?_ _) | (with_reducible refine Cel.drew ?_) | (with_reducible refine Cel.setS ?_ _) | (with_reducible refine Has.set ?_ _ _) | (with_reducible exact Has.of (by assumption)) | (with_reducible refine Cel.setO ?_ ?_ _) | (with_reducible refine Cel.keep (by assumption) ?_) | (with_reducible refine Below.alloc ?_ ?_ _) | (with_reducible refine Below.drew ?_) | (with_reducible refine Below.setCell ?_ ?_ _) | (with_reducible refine below_keep ?_ ?_ (by assumption)) | omega | (simp; done) | (simp; omega)))⟩)

set_option maxRecDepth 100000 in
set_option maxHeartbeats 4000000 in
theorem law4_cab (a l u d r s t x : Int) (w : World) (h1 : pE a l u d r t = 0) (h0 : -1 ≤ pV a l u d r t) (h00 : pV a l u d r t ≤ 1) (f1 : pE a l u d s t = 0) (f2 : r ≤ s) (f3 : pV a l u d r t ≤ pV a l u d s t) (g1 : ¬ pE a l u d r x = 0) (k1 : pV a l u d r t < 1) (k2 : ¬ uE a l u d t = 0) : Calls Try.prog 6 #[ck a l u d, .int .i64 r, .int .i64 s, .int .i64 t, .int .i64 x] w fun e w' => e = .returned (.bool true) ∧ Below w.heap.size w w' := by
  go_enter Try.func6, Try.ntmps6
  go_wp2_with fail
  refine (head_any _).mono ?_
  rintro e w1 ⟨rfl, hb1⟩
  have hs1 := hb1.size; (try simp at hs1)
  have O1 : Own w (w.heap.size + 1) w1 [(w.heap.size, 0, .int .i64 a), (w.heap.size, 1, .int .i64 l), (w.heap.size, 2, .int .i64 u), (w.heap.size, 3, .int .i64 d)] := (by (repeat' (first | (with_reducible assumption) | (with_reducible exact Below.refl _ _) | (with_reducible exact Cels.nil _) | (with_reducible refine Cels.cons ?_ ?_) | (with_reducible refine Own.mk ?_ ?_ ?_ ?_) | ((with_reducible refine Cel.new ?_ rfl); first | (with_reducible rfl) | omega | (simp; done) | (simp; omega)) | (with_reducible refine Cel.alloc ?_ _) | (with_reducible refine Cel.drew ?_) | (with_reducible refine Cel.setS ?_ _) | (with_reducible refine Has.set ?_ _ _) | (with_reducible exact Has.of (by assumption)) | (with_reducible refine Cel.setO ?_ ?_ _) | (with_reducible refine Cel.keep (by assumption) ?_) | (with_reducible refine Below.alloc ?_ ?_ _) | (with_reducible refine Below.drew ?_) | (with_reducible refine Below.setCell ?_ ?_ _) | (with_reducible refine below_keep ?_ ?_ (by assumption)) | omega | (simp; done) | (simp; omega))))
  have hB1 := O1.below; have hz1 := O1.size; have hl1 := O1.le; have S1_0 : Cel w1 (w.heap.size) 0 (.int .i64 a) := O1.cels.1; have S1_1 : Cel w1 (w.heap.size) 1 (.int .i64 l) := O1.cels.2.1; have S1_2 : Cel w1 (w.heap.size) 2 (.int .i64 u) := O1.cels.2.2.1; have S1_3 : Cel w1 (w.heap.size) 3 (.int .i64 d) := O1.cels.2.2.2.1
  go_wp2_with fail
  refine (passed_any a l u d r t _).mono ?_
  rintro e w2 ⟨rfl, hb2⟩
  have hs2 := hb2.size; (try simp at hs2)
  have O2 : Own w (w.heap.size + 1) w2 [(w.heap.size, 0, .int .i64 a), (w.heap.size, 1, .int .i64 l), (w.heap.size, 2, .int .i64 u), (w.heap.size, 3, .int .i64 d)] := (by (repeat' (first | (with_reducible assumption) | (with_reducible exact Below.refl _ _) | (with_reducible exact Cels.nil _) | (with_reducible refine Cels.cons ?_ ?_) | (with_reducible refine Own.mk ?_ ?_ ?_ ?_) | ((with_reducible refine Cel.new ?_ rfl); first | (with_reducible rfl) | omega | (simp; done) | (simp; omega)) | (with_reducible refine Cel.alloc ?_ _) | (with_reducible refine Cel.drew ?_) | (with_reducible refine Cel.setS ?_ _) | (with_reducible refine Has.set ?_ _ _) | (with_reducible exact Has.of (by assumption)) | (with_reducible refine Cel.setO ?_ ?_ _) | (with_reducible refine Cel.keep (by assumption) ?_) | (with_reducible refine Below.alloc ?_ ?_ _) | (with_reducible refine Below.drew ?_) | (with_reducible refine Below.setCell ?_ ?_ _) | (with_reducible refine below_keep ?_ ?_ (by assumption)) | omega | (simp; done) | (simp; omega))))
  have hB2 := O2.below; have hz2 := O2.size; have hl2 := O2.le; have S2_0 : Cel w2 (w.heap.size) 0 (.int .i64 a) := O2.cels.1; have S2_1 : Cel w2 (w.heap.size) 1 (.int .i64 l) := O2.cels.2.1; have S2_2 : Cel w2 (w.heap.size) 2 (.int .i64 u) := O2.cels.2.2.1; have S2_3 : Cel w2 (w.heap.size) 3 (.int .i64 d) := O2.cels.2.2.2.1
  clear O1 S1_0 S1_1 S1_2 S1_3
  go_wp2_with fail
  refine (passed_any a l u d s t _).mono ?_
  rintro e w3 ⟨rfl, hb3⟩
  have hs3 := hb3.size; (try simp at hs3)
  have O3 : Own w (w.heap.size + 1) w3 [(w.heap.size, 0, .int .i64 a), (w.heap.size, 1, .int .i64 l), (w.heap.size, 2, .int .i64 u), (w.heap.size, 3, .int .i64 d)] := (by (repeat' (first | (with_reducible assumption) | (with_reducible exact Below.refl _ _) | (with_reducible exact Cels.nil _) | (with_reducible refine Cels.cons ?_ ?_) | (with_reducible refine Own.mk ?_ ?_ ?_ ?_) | ((with_reducible refine Cel.new ?_ rfl); first | (with_reducible rfl) | omega | (simp; done) | (simp; omega)) | (with_reducible refine Cel.alloc ?_ _) | (with_reducible refine Cel.drew ?_) | (with_reducible refine Cel.setS ?_ _) | (with_reducible refine Has.set ?_ _ _) | (with_reducible exact Has.of (by assumption)) | (with_reducible refine Cel.setO ?_ ?_ _) | (with_reducible refine Cel.keep (by assumption) ?_) | (with_reducible refine Below.alloc ?_ ?_ _) | (with_reducible refine Below.drew ?_) | (with_reducible refine Below.setCell ?_ ?_ _) | (with_reducible refine below_keep ?_ ?_ (by assumption)) | omega | (simp; done) | (simp; omega))))
  have hB3 := O3.below; have hz3 := O3.size; have hl3 := O3.le; have S3_0 : Cel w3 (w.heap.size) 0 (.int .i64 a) := O3.cels.1; have S3_1 : Cel w3 (w.heap.size) 1 (.int .i64 l) := O3.cels.2.1; have S3_2 : Cel w3 (w.heap.size) 2 (.int .i64 u) := O3.cels.2.2.1; have S3_3 : Cel w3 (w.heap.size) 3 (.int .i64 d) := O3.cels.2.2.2.1
  clear O2 S2_0 S2_1 S2_2 S2_3
  go_wp2_with fail
  refine (passed_any a l u d r x _).mono ?_
  rintro e w4 ⟨rfl, hb4⟩
  have hs4 := hb4.size; (try simp at hs4)
  have O4 : Own w (w.heap.size + 1) w4 [(w.heap.size, 0, .int .i64 a), (w.heap.size, 1, .int .i64 l), (w.heap.size, 2, .int .i64 u), (w.heap.size, 3, .int .i64 d)] := (by (repeat' (first | (with_reducible assumption) | (with_reducible exact Below.refl _ _) | (with_reducible exact Cels.nil _) | (with_reducible refine Cels.cons ?_ ?_) | (with_reducible refine Own.mk ?_ ?_ ?_ ?_) | ((with_reducible refine Cel.new ?_ rfl); first | (with_reducible rfl) | omega | (simp; done) | (simp; omega)) | (with_reducible refine Cel.alloc ?_ _) | (with_reducible refine Cel.drew ?_) | (with_reducible refine Cel.setS ?_ _) | (with_reducible refine Has.set ?_ _ _) | (with_reducible exact Has.of (by assumption)) | (with_reducible refine Cel.setO ?_ ?_ _) | (with_reducible refine Cel.keep (by assumption) ?_) | (with_reducible refine Below.alloc ?_ ?_ _) | (with_reducible refine Below.drew ?_) | (with_reducible refine Below.setCell ?_ ?_ _) | (with_reducible refine below_keep ?_ ?_ (by assumption)) | omega | (simp; done) | (simp; omega))))
  have hB4 := O4.below; have hz4 := O4.size; have hl4 := O4.le; have S4_0 : Cel w4 (w.heap.size) 0 (.int .i64 a) := O4.cels.1; have S4_1 : Cel w4 (w.heap.size) 1 (.int .i64 l) := O4.cels.2.1; have S4_2 : Cel w4 (w.heap.size) 2 (.int .i64 u) := O4.cels.2.2.1; have S4_3 : Cel w4 (w.heap.size) 3 (.int .i64 d) := O4.cels.2.2.2.1
  clear O3 S3_0 S3_1 S3_2 S3_3
  go_wp2_with fail
  refine (sure_any a l u d t _).mono ?_
  rintro e w5 ⟨rfl, hb5⟩
  have hs5 := hb5.size; (try simp at hs5)
  have O5 : Own w (w.heap.size + 1) w5 [] := (by (repeat' (first | (with_reducible assumption) | (with_reducible exact Below.refl _ _) | (with_reducible exact Cels.nil _) | (with_reducible refine Cels.cons ?_ ?_) | (with_reducible refine Own.mk ?_ ?_ ?_ ?_) | ((with_reducible refine Cel.new ?_ rfl); first | (with_reducible rfl) | omega | (simp; done) | (simp; omega)) | (with_reducible refine Cel.alloc ?_ _) | (with_reducible refine Cel.drew ?_) | (with_reducible refine Cel.setS ?_ _) | (with_reducible refine Has.set ?_ _ _) | (with_reducible exact Has.of (by assumption)) | (with_reducible refine Cel.setO ?_ ?_ _) | (with_reducible refine Cel.keep (by assumption) ?_) | (with_reducible refine Below.alloc ?_ ?_ _) | (with_reducible refine Below.drew ?_) | (with_reducible refine Below.setCell ?_ ?_ _) | (with_reducible refine below_keep ?_ ?_ (by assumption)) | omega | (simp; done) | (simp; omega))))
  have hB5 := O5.below; have hz5 := O5.size; have hl5 := O5.le
  clear O4 S4_0 S4_1 S4_2 S4_3
  go_wp2
  all_goals first
    | (exfalso; omega)
    | (go_ret; exact ⟨rb (by first | rfl | (simp; done) | (rw [beq_iff_eq, Bool.eq_iff_iff]; simp; omega) | (simp; omega)), by (repeat' (first | (with_reducible assumption) | (with_reducible exact Below.refl _ _) | (with_reducible exact Cels.nil _) | (with_reducible refine Cels.cons ?_ ?_) | (with_reducible refine Own.mk ?_ ?_ ?_ ?_) | ((with_reducible refine Cel.new ?_ rfl); first | (with_reducible rfl) | omega | (simp; done) | (simp; omega)) | (with_reducible refine Cel.alloc ?_ _) | (with_reducible refine Cel.drew ?_) | (with_reducible refine Cel.setS ?_ _) | (with_reducible refine Has.set ?_ _ _) | (with_reducible exact Has.of (by assumption)) | (with_reducible refine Cel.setO ?_ ?_ _) | (with_reducible refine Cel.keep (by assumption) ?_) | (with_reducible refine Below.alloc ?_ ?_ _) | (with_reducible refine Below.drew ?_) | (with_reducible refine Below.setCell ?_ ?_ _) | (with_reducible refine below_keep ?_ ?_ (by assumption)) | omega | (simp; done) | (simp; omega)))⟩)

set_option maxRecDepth 100000 in
set_option maxHeartbeats 4000000 in
theorem law4_cac (a l u d r s t x : Int) (w : World) (h1 : pE a l u d r t = 0) (h0 : -1 ≤ pV a l u d r t) (h00 : pV a l u d r t ≤ 1) (f1 : pE a l u d s t = 0) (f2 : r ≤ s) (f3 : pV a l u d r t ≤ pV a l u d s t) (g1 : ¬ pE a l u d r x = 0) (k1 : pV a l u d r t < 1) (k2 : uE a l u d t = 0) (k3 : r < uV a l u d t) : Calls Try.prog 6 #[ck a l u d, .int .i64 r, .int .i64 s, .int .i64 t, .int .i64 x] w fun e w' => e = .returned (.bool true) ∧ Below w.heap.size w w' := by
  go_enter Try.func6, Try.ntmps6
  go_wp2_with fail
  refine (head_any _).mono ?_
  rintro e w1 ⟨rfl, hb1⟩
  have hs1 := hb1.size; (try simp at hs1)
  have O1 : Own w (w.heap.size + 1) w1 [(w.heap.size, 0, .int .i64 a), (w.heap.size, 1, .int .i64 l), (w.heap.size, 2, .int .i64 u), (w.heap.size, 3, .int .i64 d)] := (by (repeat' (first | (with_reducible assumption) | (with_reducible exact Below.refl _ _) | (with_reducible exact Cels.nil _) | (with_reducible refine Cels.cons ?_ ?_) | (with_reducible refine Own.mk ?_ ?_ ?_ ?_) | ((with_reducible refine Cel.new ?_ rfl); first | (with_reducible rfl) | omega | (simp; done) | (simp; omega)) | (with_reducible refine Cel.alloc ?_ _) | (with_reducible refine Cel.drew ?_) | (with_reducible refine Cel.setS ?_ _) | (with_reducible refine Has.set ?_ _ _) | (with_reducible exact Has.of (by assumption)) | (with_reducible refine Cel.setO ?_ ?_ _) | (with_reducible refine Cel.keep (by assumption) ?_) | (with_reducible refine Below.alloc ?_ ?_ _) | (with_reducible refine Below.drew ?_) | (with_reducible refine Below.setCell ?_ ?_ _) | (with_reducible refine below_keep ?_ ?_ (by assumption)) | omega | (simp; done) | (simp; omega))))
  have hB1 := O1.below; have hz1 := O1.size; have hl1 := O1.le; have S1_0 : Cel w1 (w.heap.size) 0 (.int .i64 a) := O1.cels.1; have S1_1 : Cel w1 (w.heap.size) 1 (.int .i64 l) := O1.cels.2.1; have S1_2 : Cel w1 (w.heap.size) 2 (.int .i64 u) := O1.cels.2.2.1; have S1_3 : Cel w1 (w.heap.size) 3 (.int .i64 d) := O1.cels.2.2.2.1
  go_wp2_with fail
  refine (passed_any a l u d r t _).mono ?_
  rintro e w2 ⟨rfl, hb2⟩
  have hs2 := hb2.size; (try simp at hs2)
  have O2 : Own w (w.heap.size + 1) w2 [(w.heap.size, 0, .int .i64 a), (w.heap.size, 1, .int .i64 l), (w.heap.size, 2, .int .i64 u), (w.heap.size, 3, .int .i64 d)] := (by (repeat' (first | (with_reducible assumption) | (with_reducible exact Below.refl _ _) | (with_reducible exact Cels.nil _) | (with_reducible refine Cels.cons ?_ ?_) | (with_reducible refine Own.mk ?_ ?_ ?_ ?_) | ((with_reducible refine Cel.new ?_ rfl); first | (with_reducible rfl) | omega | (simp; done) | (simp; omega)) | (with_reducible refine Cel.alloc ?_ _) | (with_reducible refine Cel.drew ?_) | (with_reducible refine Cel.setS ?_ _) | (with_reducible refine Has.set ?_ _ _) | (with_reducible exact Has.of (by assumption)) | (with_reducible refine Cel.setO ?_ ?_ _) | (with_reducible refine Cel.keep (by assumption) ?_) | (with_reducible refine Below.alloc ?_ ?_ _) | (with_reducible refine Below.drew ?_) | (with_reducible refine Below.setCell ?_ ?_ _) | (with_reducible refine below_keep ?_ ?_ (by assumption)) | omega | (simp; done) | (simp; omega))))
  have hB2 := O2.below; have hz2 := O2.size; have hl2 := O2.le; have S2_0 : Cel w2 (w.heap.size) 0 (.int .i64 a) := O2.cels.1; have S2_1 : Cel w2 (w.heap.size) 1 (.int .i64 l) := O2.cels.2.1; have S2_2 : Cel w2 (w.heap.size) 2 (.int .i64 u) := O2.cels.2.2.1; have S2_3 : Cel w2 (w.heap.size) 3 (.int .i64 d) := O2.cels.2.2.2.1
  clear O1 S1_0 S1_1 S1_2 S1_3
  go_wp2_with fail
  refine (passed_any a l u d s t _).mono ?_
  rintro e w3 ⟨rfl, hb3⟩
  have hs3 := hb3.size; (try simp at hs3)
  have O3 : Own w (w.heap.size + 1) w3 [(w.heap.size, 0, .int .i64 a), (w.heap.size, 1, .int .i64 l), (w.heap.size, 2, .int .i64 u), (w.heap.size, 3, .int .i64 d)] := (by (repeat' (first | (with_reducible assumption) | (with_reducible exact Below.refl _ _) | (with_reducible exact Cels.nil _) | (with_reducible refine Cels.cons ?_ ?_) | (with_reducible refine Own.mk ?_ ?_ ?_ ?_) | ((with_reducible refine Cel.new ?_ rfl); first | (with_reducible rfl) | omega | (simp; done) | (simp; omega)) | (with_reducible refine Cel.alloc ?_ _) | (with_reducible refine Cel.drew ?_) | (with_reducible refine Cel.setS ?_ _) | (with_reducible refine Has.set ?_ _ _) | (with_reducible exact Has.of (by assumption)) | (with_reducible refine Cel.setO ?_ ?_ _) | (with_reducible refine Cel.keep (by assumption) ?_) | (with_reducible refine Below.alloc ?_ ?_ _) | (with_reducible refine Below.drew ?_) | (with_reducible refine Below.setCell ?_ ?_ _) | (with_reducible refine below_keep ?_ ?_ (by assumption)) | omega | (simp; done) | (simp; omega))))
  have hB3 := O3.below; have hz3 := O3.size; have hl3 := O3.le; have S3_0 : Cel w3 (w.heap.size) 0 (.int .i64 a) := O3.cels.1; have S3_1 : Cel w3 (w.heap.size) 1 (.int .i64 l) := O3.cels.2.1; have S3_2 : Cel w3 (w.heap.size) 2 (.int .i64 u) := O3.cels.2.2.1; have S3_3 : Cel w3 (w.heap.size) 3 (.int .i64 d) := O3.cels.2.2.2.1
  clear O2 S2_0 S2_1 S2_2 S2_3
  go_wp2_with fail
  refine (passed_any a l u d r x _).mono ?_
  rintro e w4 ⟨rfl, hb4⟩
  have hs4 := hb4.size; (try simp at hs4)
  have O4 : Own w (w.heap.size + 1) w4 [(w.heap.size, 0, .int .i64 a), (w.heap.size, 1, .int .i64 l), (w.heap.size, 2, .int .i64 u), (w.heap.size, 3, .int .i64 d)] := (by (repeat' (first | (with_reducible assumption) | (with_reducible exact Below.refl _ _) | (with_reducible exact Cels.nil _) | (with_reducible refine Cels.cons ?_ ?_) | (with_reducible refine Own.mk ?_ ?_ ?_ ?_) | ((with_reducible refine Cel.new ?_ rfl); first | (with_reducible rfl) | omega | (simp; done) | (simp; omega)) | (with_reducible refine Cel.alloc ?_ _) | (with_reducible refine Cel.drew ?_) | (with_reducible refine Cel.setS ?_ _) | (with_reducible refine Has.set ?_ _ _) | (with_reducible exact Has.of (by assumption)) | (with_reducible refine Cel.setO ?_ ?_ _) | (with_reducible refine Cel.keep (by assumption) ?_) | (with_reducible refine Below.alloc ?_ ?_ _) | (with_reducible refine Below.drew ?_) | (with_reducible refine Below.setCell ?_ ?_ _) | (with_reducible refine below_keep ?_ ?_ (by assumption)) | omega | (simp; done) | (simp; omega))))
  have hB4 := O4.below; have hz4 := O4.size; have hl4 := O4.le; have S4_0 : Cel w4 (w.heap.size) 0 (.int .i64 a) := O4.cels.1; have S4_1 : Cel w4 (w.heap.size) 1 (.int .i64 l) := O4.cels.2.1; have S4_2 : Cel w4 (w.heap.size) 2 (.int .i64 u) := O4.cels.2.2.1; have S4_3 : Cel w4 (w.heap.size) 3 (.int .i64 d) := O4.cels.2.2.2.1
  clear O3 S3_0 S3_1 S3_2 S3_3
  go_wp2_with fail
  refine (sure_any a l u d t _).mono ?_
  rintro e w5 ⟨rfl, hb5⟩
  have hs5 := hb5.size; (try simp at hs5)
  have O5 : Own w (w.heap.size + 1) w5 [] := (by (repeat' (first | (with_reducible assumption) | (with_reducible exact Below.refl _ _) | (with_reducible exact Cels.nil _) | (with_reducible refine Cels.cons ?_ ?_) | (with_reducible refine Own.mk ?_ ?_ ?_ ?_) | ((with_reducible refine Cel.new ?_ rfl); first | (with_reducible rfl) | omega | (simp; done) | (simp; omega)) | (with_reducible refine Cel.alloc ?_ _) | (with_reducible refine Cel.drew ?_) | (with_reducible refine Cel.setS ?_ _) | (with_reducible refine Has.set ?_ _ _) | (with_reducible exact Has.of (by assumption)) | (with_reducible refine Cel.setO ?_ ?_ _) | (with_reducible refine Cel.keep (by assumption) ?_) | (with_reducible refine Below.alloc ?_ ?_ _) | (with_reducible refine Below.drew ?_) | (with_reducible refine Below.setCell ?_ ?_ _) | (with_reducible refine below_keep ?_ ?_ (by assumption)) | omega | (simp; done) | (simp; omega))))
  have hB5 := O5.below; have hz5 := O5.size; have hl5 := O5.le
  clear O4 S4_0 S4_1 S4_2 S4_3
  go_wp2
  all_goals first
    | (exfalso; omega)
    | (go_ret; exact ⟨rb (by first | rfl | (simp; done) | (rw [beq_iff_eq, Bool.eq_iff_iff]; simp; omega) | (simp; omega)), by (repeat' (first | (with_reducible assumption) | (with_reducible exact Below.refl _ _) | (with_reducible exact Cels.nil _) | (with_reducible refine Cels.cons ?_ ?_) | (with_reducible refine Own.mk ?_ ?_ ?_ ?_) | ((with_reducible refine Cel.new ?_ rfl); first | (with_reducible rfl) | omega | (simp; done) | (simp; omega)) | (with_reducible refine Cel.alloc ?_ _) | (with_reducible refine Cel.drew ?_) | (with_reducible refine Cel.setS ?_ _) | (with_reducible refine Has.set ?_ _ _) | (with_reducible exact Has.of (by assumption)) | (with_reducible refine Cel.setO ?_ ?_ _) | (with_reducible refine Cel.keep (by assumption) ?_) | (with_reducible refine Below.alloc ?_ ?_ _) | (with_reducible refine Below.drew ?_) | (with_reducible refine Below.setCell ?_ ?_ _) | (with_reducible refine below_keep ?_ ?_ (by assumption)) | omega | (simp; done) | (simp; omega)))⟩)

set_option maxRecDepth 100000 in
set_option maxHeartbeats 4000000 in
theorem law4_cba (a l u d r s t x : Int) (w : World) (h1 : pE a l u d r t = 0) (h0 : -1 ≤ pV a l u d r t) (h00 : pV a l u d r t ≤ 1) (f1 : pE a l u d s t = 0) (f2 : r ≤ s) (f3 : pV a l u d r t ≤ pV a l u d s t) (g1 : pE a l u d r x = 0) (g2 : t < x) (k1 : pV a l u d r t = 1) (k2 : uE a l u d t = 0) (k3 : uV a l u d t ≤ r) : Calls Try.prog 6 #[ck a l u d, .int .i64 r, .int .i64 s, .int .i64 t, .int .i64 x] w fun e w' => e = .returned (.bool true) ∧ Below w.heap.size w w' := by
  go_enter Try.func6, Try.ntmps6
  go_wp2_with fail
  refine (head_any _).mono ?_
  rintro e w1 ⟨rfl, hb1⟩
  have hs1 := hb1.size; (try simp at hs1)
  have O1 : Own w (w.heap.size + 1) w1 [(w.heap.size, 0, .int .i64 a), (w.heap.size, 1, .int .i64 l), (w.heap.size, 2, .int .i64 u), (w.heap.size, 3, .int .i64 d)] := (by (repeat' (first | (with_reducible assumption) | (with_reducible exact Below.refl _ _) | (with_reducible exact Cels.nil _) | (with_reducible refine Cels.cons ?_ ?_) | (with_reducible refine Own.mk ?_ ?_ ?_ ?_) | ((with_reducible refine Cel.new ?_ rfl); first | (with_reducible rfl) | omega | (simp; done) | (simp; omega)) | (with_reducible refine Cel.alloc ?_ _) | (with_reducible refine Cel.drew ?_) | (with_reducible refine Cel.setS ?_ _) | (with_reducible refine Has.set ?_ _ _) | (with_reducible exact Has.of (by assumption)) | (with_reducible refine Cel.setO ?_ ?_ _) | (with_reducible refine Cel.keep (by assumption) ?_) | (with_reducible refine Below.alloc ?_ ?_ _) | (with_reducible refine Below.drew ?_) | (with_reducible refine Below.setCell ?_ ?_ _) | (with_reducible refine below_keep ?_ ?_ (by assumption)) | omega | (simp; done) | (simp; omega))))
  have hB1 := O1.below; have hz1 := O1.size; have hl1 := O1.le; have S1_0 : Cel w1 (w.heap.size) 0 (.int .i64 a) := O1.cels.1; have S1_1 : Cel w1 (w.heap.size) 1 (.int .i64 l) := O1.cels.2.1; have S1_2 : Cel w1 (w.heap.size) 2 (.int .i64 u) := O1.cels.2.2.1; have S1_3 : Cel w1 (w.heap.size) 3 (.int .i64 d) := O1.cels.2.2.2.1
  go_wp2_with fail
  refine (passed_any a l u d r t _).mono ?_
  rintro e w2 ⟨rfl, hb2⟩
  have hs2 := hb2.size; (try simp at hs2)
  have O2 : Own w (w.heap.size + 1) w2 [(w.heap.size, 0, .int .i64 a), (w.heap.size, 1, .int .i64 l), (w.heap.size, 2, .int .i64 u), (w.heap.size, 3, .int .i64 d)] := (by (repeat' (first | (with_reducible assumption) | (with_reducible exact Below.refl _ _) | (with_reducible exact Cels.nil _) | (with_reducible refine Cels.cons ?_ ?_) | (with_reducible refine Own.mk ?_ ?_ ?_ ?_) | ((with_reducible refine Cel.new ?_ rfl); first | (with_reducible rfl) | omega | (simp; done) | (simp; omega)) | (with_reducible refine Cel.alloc ?_ _) | (with_reducible refine Cel.drew ?_) | (with_reducible refine Cel.setS ?_ _) | (with_reducible refine Has.set ?_ _ _) | (with_reducible exact Has.of (by assumption)) | (with_reducible refine Cel.setO ?_ ?_ _) | (with_reducible refine Cel.keep (by assumption) ?_) | (with_reducible refine Below.alloc ?_ ?_ _) | (with_reducible refine Below.drew ?_) | (with_reducible refine Below.setCell ?_ ?_ _) | (with_reducible refine below_keep ?_ ?_ (by assumption)) | omega | (simp; done) | (simp; omega))))
  have hB2 := O2.below; have hz2 := O2.size; have hl2 := O2.le; have S2_0 : Cel w2 (w.heap.size) 0 (.int .i64 a) := O2.cels.1; have S2_1 : Cel w2 (w.heap.size) 1 (.int .i64 l) := O2.cels.2.1; have S2_2 : Cel w2 (w.heap.size) 2 (.int .i64 u) := O2.cels.2.2.1; have S2_3 : Cel w2 (w.heap.size) 3 (.int .i64 d) := O2.cels.2.2.2.1
  clear O1 S1_0 S1_1 S1_2 S1_3
  go_wp2_with fail
  refine (passed_any a l u d s t _).mono ?_
  rintro e w3 ⟨rfl, hb3⟩
  have hs3 := hb3.size; (try simp at hs3)
  have O3 : Own w (w.heap.size + 1) w3 [(w.heap.size, 0, .int .i64 a), (w.heap.size, 1, .int .i64 l), (w.heap.size, 2, .int .i64 u), (w.heap.size, 3, .int .i64 d)] := (by (repeat' (first | (with_reducible assumption) | (with_reducible exact Below.refl _ _) | (with_reducible exact Cels.nil _) | (with_reducible refine Cels.cons ?_ ?_) | (with_reducible refine Own.mk ?_ ?_ ?_ ?_) | ((with_reducible refine Cel.new ?_ rfl); first | (with_reducible rfl) | omega | (simp; done) | (simp; omega)) | (with_reducible refine Cel.alloc ?_ _) | (with_reducible refine Cel.drew ?_) | (with_reducible refine Cel.setS ?_ _) | (with_reducible refine Has.set ?_ _ _) | (with_reducible exact Has.of (by assumption)) | (with_reducible refine Cel.setO ?_ ?_ _) | (with_reducible refine Cel.keep (by assumption) ?_) | (with_reducible refine Below.alloc ?_ ?_ _) | (with_reducible refine Below.drew ?_) | (with_reducible refine Below.setCell ?_ ?_ _) | (with_reducible refine below_keep ?_ ?_ (by assumption)) | omega | (simp; done) | (simp; omega))))
  have hB3 := O3.below; have hz3 := O3.size; have hl3 := O3.le; have S3_0 : Cel w3 (w.heap.size) 0 (.int .i64 a) := O3.cels.1; have S3_1 : Cel w3 (w.heap.size) 1 (.int .i64 l) := O3.cels.2.1; have S3_2 : Cel w3 (w.heap.size) 2 (.int .i64 u) := O3.cels.2.2.1; have S3_3 : Cel w3 (w.heap.size) 3 (.int .i64 d) := O3.cels.2.2.2.1
  clear O2 S2_0 S2_1 S2_2 S2_3
  go_wp2_with fail
  refine (passed_any a l u d r x _).mono ?_
  rintro e w4 ⟨rfl, hb4⟩
  have hs4 := hb4.size; (try simp at hs4)
  have O4 : Own w (w.heap.size + 1) w4 [(w.heap.size, 0, .int .i64 a), (w.heap.size, 1, .int .i64 l), (w.heap.size, 2, .int .i64 u), (w.heap.size, 3, .int .i64 d)] := (by (repeat' (first | (with_reducible assumption) | (with_reducible exact Below.refl _ _) | (with_reducible exact Cels.nil _) | (with_reducible refine Cels.cons ?_ ?_) | (with_reducible refine Own.mk ?_ ?_ ?_ ?_) | ((with_reducible refine Cel.new ?_ rfl); first | (with_reducible rfl) | omega | (simp; done) | (simp; omega)) | (with_reducible refine Cel.alloc ?_ _) | (with_reducible refine Cel.drew ?_) | (with_reducible refine Cel.setS ?_ _) | (with_reducible refine Has.set ?_ _ _) | (with_reducible exact Has.of (by assumption)) | (with_reducible refine Cel.setO ?_ ?_ _) | (with_reducible refine Cel.keep (by assumption) ?_) | (with_reducible refine Below.alloc ?_ ?_ _) | (with_reducible refine Below.drew ?_) | (with_reducible refine Below.setCell ?_ ?_ _) | (with_reducible refine below_keep ?_ ?_ (by assumption)) | omega | (simp; done) | (simp; omega))))
  have hB4 := O4.below; have hz4 := O4.size; have hl4 := O4.le; have S4_0 : Cel w4 (w.heap.size) 0 (.int .i64 a) := O4.cels.1; have S4_1 : Cel w4 (w.heap.size) 1 (.int .i64 l) := O4.cels.2.1; have S4_2 : Cel w4 (w.heap.size) 2 (.int .i64 u) := O4.cels.2.2.1; have S4_3 : Cel w4 (w.heap.size) 3 (.int .i64 d) := O4.cels.2.2.2.1
  clear O3 S3_0 S3_1 S3_2 S3_3
  go_wp2_with fail
  refine (sure_any a l u d t _).mono ?_
  rintro e w5 ⟨rfl, hb5⟩
  have hs5 := hb5.size; (try simp at hs5)
  have O5 : Own w (w.heap.size + 1) w5 [] := (by (repeat' (first | (with_reducible assumption) | (with_reducible exact Below.refl _ _) | (with_reducible exact Cels.nil _) | (with_reducible refine Cels.cons ?_ ?_) | (with_reducible refine Own.mk ?_ ?_ ?_ ?_) | ((with_reducible refine Cel.new ?_ rfl); first | (with_reducible rfl) | omega | (simp; done) | (simp; omega)) | (with_reducible refine Cel.alloc ?_ _) | (with_reducible refine Cel.drew ?_) | (with_reducible refine Cel.setS ?_ _) | (with_reducible refine Has.set ?_ _ _) | (with_reducible exact Has.of (by assumption)) | (with_reducible refine Cel.setO ?_ ?_ _) | (with_reducible refine Cel.keep (by assumption) ?_) | (with_reducible refine Below.alloc ?_ ?_ _) | (with_reducible refine Below.drew ?_) | (with_reducible refine Below.setCell ?_ ?_ _) | (with_reducible refine below_keep ?_ ?_ (by assumption)) | omega | (simp; done) | (simp; omega))))
  have hB5 := O5.below; have hz5 := O5.size; have hl5 := O5.le
  clear O4 S4_0 S4_1 S4_2 S4_3
  go_wp2
  all_goals first
    | (exfalso; omega)
    | (go_ret; exact ⟨rb (by first | rfl | (simp; done) | (rw [beq_iff_eq, Bool.eq_iff_iff]; simp; omega) | (simp; omega)), by (repeat' (first | (with_reducible assumption) | (with_reducible exact Below.refl _ _) | (with_reducible exact Cels.nil _) | (with_reducible refine Cels.cons ?_ ?_) | (with_reducible refine Own.mk ?_ ?_ ?_ ?_) | ((with_reducible refine Cel.new ?_ rfl); first | (with_reducible rfl) | omega | (simp; done) | (simp; omega)) | (with_reducible refine Cel.alloc ?_ _) | (with_reducible refine Cel.drew ?_) | (with_reducible refine Cel.setS ?_ _) | (with_reducible refine Has.set ?_ _ _) | (with_reducible exact Has.of (by assumption)) | (with_reducible refine Cel.setO ?_ ?_ _) | (with_reducible refine Cel.keep (by assumption) ?_) | (with_reducible refine Below.alloc ?_ ?_ _) | (with_reducible refine Below.drew ?_) | (with_reducible refine Below.setCell ?_ ?_ _) | (with_reducible refine below_keep ?_ ?_ (by assumption)) | omega | (simp; done) | (simp; omega)))⟩)

set_option maxRecDepth 100000 in
set_option maxHeartbeats 4000000 in
theorem law4_cbb (a l u d r s t x : Int) (w : World) (h1 : pE a l u d r t = 0) (h0 : -1 ≤ pV a l u d r t) (h00 : pV a l u d r t ≤ 1) (f1 : pE a l u d s t = 0) (f2 : r ≤ s) (f3 : pV a l u d r t ≤ pV a l u d s t) (g1 : pE a l u d r x = 0) (g2 : t < x) (k1 : pV a l u d r t < 1) (k2 : ¬ uE a l u d t = 0) : Calls Try.prog 6 #[ck a l u d, .int .i64 r, .int .i64 s, .int .i64 t, .int .i64 x] w fun e w' => e = .returned (.bool true) ∧ Below w.heap.size w w' := by
  go_enter Try.func6, Try.ntmps6
  go_wp2_with fail
  refine (head_any _).mono ?_
  rintro e w1 ⟨rfl, hb1⟩
  have hs1 := hb1.size; (try simp at hs1)
  have O1 : Own w (w.heap.size + 1) w1 [(w.heap.size, 0, .int .i64 a), (w.heap.size, 1, .int .i64 l), (w.heap.size, 2, .int .i64 u), (w.heap.size, 3, .int .i64 d)] := (by (repeat' (first | (with_reducible assumption) | (with_reducible exact Below.refl _ _) | (with_reducible exact Cels.nil _) | (with_reducible refine Cels.cons ?_ ?_) | (with_reducible refine Own.mk ?_ ?_ ?_ ?_) | ((with_reducible refine Cel.new ?_ rfl); first | (with_reducible rfl) | omega | (simp; done) | (simp; omega)) | (with_reducible refine Cel.alloc ?_ _) | (with_reducible refine Cel.drew ?_) | (with_reducible refine Cel.setS ?_ _) | (with_reducible refine Has.set ?_ _ _) | (with_reducible exact Has.of (by assumption)) | (with_reducible refine Cel.setO ?_ ?_ _) | (with_reducible refine Cel.keep (by assumption) ?_) | (with_reducible refine Below.alloc ?_ ?_ _) | (with_reducible refine Below.drew ?_) | (with_reducible refine Below.setCell ?_ ?_ _) | (with_reducible refine below_keep ?_ ?_ (by assumption)) | omega | (simp; done) | (simp; omega))))
  have hB1 := O1.below; have hz1 := O1.size; have hl1 := O1.le; have S1_0 : Cel w1 (w.heap.size) 0 (.int .i64 a) := O1.cels.1; have S1_1 : Cel w1 (w.heap.size) 1 (.int .i64 l) := O1.cels.2.1; have S1_2 : Cel w1 (w.heap.size) 2 (.int .i64 u) := O1.cels.2.2.1; have S1_3 : Cel w1 (w.heap.size) 3 (.int .i64 d) := O1.cels.2.2.2.1
  go_wp2_with fail
  refine (passed_any a l u d r t _).mono ?_
  rintro e w2 ⟨rfl, hb2⟩
  have hs2 := hb2.size; (try simp at hs2)
  have O2 : Own w (w.heap.size + 1) w2 [(w.heap.size, 0, .int .i64 a), (w.heap.size, 1, .int .i64 l), (w.heap.size, 2, .int .i64 u), (w.heap.size, 3, .int .i64 d)] := (by (repeat' (first | (with_reducible assumption) | (with_reducible exact Below.refl _ _) | (with_reducible exact Cels.nil _) | (with_reducible refine Cels.cons ?_ ?_) | (with_reducible refine Own.mk ?_ ?_ ?_ ?_) | ((with_reducible refine Cel.new ?_ rfl); first | (with_reducible rfl) | omega | (simp; done) | (simp; omega)) | (with_reducible refine Cel.alloc ?_ _) | (with_reducible refine Cel.drew ?_) | (with_reducible refine Cel.setS ?_ _) | (with_reducible refine Has.set ?_ _ _) | (with_reducible exact Has.of (by assumption)) | (with_reducible refine Cel.setO ?_ ?_ _) | (with_reducible refine Cel.keep (by assumption) ?_) | (with_reducible refine Below.alloc ?_ ?_ _) | (with_reducible refine Below.drew ?_) | (with_reducible refine Below.setCell ?_ ?_ _) | (with_reducible refine below_keep ?_ ?_ (by assumption)) | omega | (simp; done) | (simp; omega))))
  have hB2 := O2.below; have hz2 := O2.size; have hl2 := O2.le; have S2_0 : Cel w2 (w.heap.size) 0 (.int .i64 a) := O2.cels.1; have S2_1 : Cel w2 (w.heap.size) 1 (.int .i64 l) := O2.cels.2.1; have S2_2 : Cel w2 (w.heap.size) 2 (.int .i64 u) := O2.cels.2.2.1; have S2_3 : Cel w2 (w.heap.size) 3 (.int .i64 d) := O2.cels.2.2.2.1
  clear O1 S1_0 S1_1 S1_2 S1_3
  go_wp2_with fail
  refine (passed_any a l u d s t _).mono ?_
  rintro e w3 ⟨rfl, hb3⟩
  have hs3 := hb3.size; (try simp at hs3)
  have O3 : Own w (w.heap.size + 1) w3 [(w.heap.size, 0, .int .i64 a), (w.heap.size, 1, .int .i64 l), (w.heap.size, 2, .int .i64 u), (w.heap.size, 3, .int .i64 d)] := (by (repeat' (first | (with_reducible assumption) | (with_reducible exact Below.refl _ _) | (with_reducible exact Cels.nil _) | (with_reducible refine Cels.cons ?_ ?_) | (with_reducible refine Own.mk ?_ ?_ ?_ ?_) | ((with_reducible refine Cel.new ?_ rfl); first | (with_reducible rfl) | omega | (simp; done) | (simp; omega)) | (with_reducible refine Cel.alloc ?_ _) | (with_reducible refine Cel.drew ?_) | (with_reducible refine Cel.setS ?_ _) | (with_reducible refine Has.set ?_ _ _) | (with_reducible exact Has.of (by assumption)) | (with_reducible refine Cel.setO ?_ ?_ _) | (with_reducible refine Cel.keep (by assumption) ?_) | (with_reducible refine Below.alloc ?_ ?_ _) | (with_reducible refine Below.drew ?_) | (with_reducible refine Below.setCell ?_ ?_ _) | (with_reducible refine below_keep ?_ ?_ (by assumption)) | omega | (simp; done) | (simp; omega))))
  have hB3 := O3.below; have hz3 := O3.size; have hl3 := O3.le; have S3_0 : Cel w3 (w.heap.size) 0 (.int .i64 a) := O3.cels.1; have S3_1 : Cel w3 (w.heap.size) 1 (.int .i64 l) := O3.cels.2.1; have S3_2 : Cel w3 (w.heap.size) 2 (.int .i64 u) := O3.cels.2.2.1; have S3_3 : Cel w3 (w.heap.size) 3 (.int .i64 d) := O3.cels.2.2.2.1
  clear O2 S2_0 S2_1 S2_2 S2_3
  go_wp2_with fail
  refine (passed_any a l u d r x _).mono ?_
  rintro e w4 ⟨rfl, hb4⟩
  have hs4 := hb4.size; (try simp at hs4)
  have O4 : Own w (w.heap.size + 1) w4 [(w.heap.size, 0, .int .i64 a), (w.heap.size, 1, .int .i64 l), (w.heap.size, 2, .int .i64 u), (w.heap.size, 3, .int .i64 d)] := (by (repeat' (first | (with_reducible assumption) | (with_reducible exact Below.refl _ _) | (with_reducible exact Cels.nil _) | (with_reducible refine Cels.cons ?_ ?_) | (with_reducible refine Own.mk ?_ ?_ ?_ ?_) | ((with_reducible refine Cel.new ?_ rfl); first | (with_reducible rfl) | omega | (simp; done) | (simp; omega)) | (with_reducible refine Cel.alloc ?_ _) | (with_reducible refine Cel.drew ?_) | (with_reducible refine Cel.setS ?_ _) | (with_reducible refine Has.set ?_ _ _) | (with_reducible exact Has.of (by assumption)) | (with_reducible refine Cel.setO ?_ ?_ _) | (with_reducible refine Cel.keep (by assumption) ?_) | (with_reducible refine Below.alloc ?_ ?_ _) | (with_reducible refine Below.drew ?_) | (with_reducible refine Below.setCell ?_ ?_ _) | (with_reducible refine below_keep ?_ ?_ (by assumption)) | omega | (simp; done) | (simp; omega))))
  have hB4 := O4.below; have hz4 := O4.size; have hl4 := O4.le; have S4_0 : Cel w4 (w.heap.size) 0 (.int .i64 a) := O4.cels.1; have S4_1 : Cel w4 (w.heap.size) 1 (.int .i64 l) := O4.cels.2.1; have S4_2 : Cel w4 (w.heap.size) 2 (.int .i64 u) := O4.cels.2.2.1; have S4_3 : Cel w4 (w.heap.size) 3 (.int .i64 d) := O4.cels.2.2.2.1
  clear O3 S3_0 S3_1 S3_2 S3_3
  go_wp2_with fail
  refine (sure_any a l u d t _).mono ?_
  rintro e w5 ⟨rfl, hb5⟩
  have hs5 := hb5.size; (try simp at hs5)
  have O5 : Own w (w.heap.size + 1) w5 [] := (by (repeat' (first | (with_reducible assumption) | (with_reducible exact Below.refl _ _) | (with_reducible exact Cels.nil _) | (with_reducible refine Cels.cons ?_ ?_) | (with_reducible refine Own.mk ?_ ?_ ?_ ?_) | ((with_reducible refine Cel.new ?_ rfl); first | (with_reducible rfl) | omega | (simp; done) | (simp; omega)) | (with_reducible refine Cel.alloc ?_ _) | (with_reducible refine Cel.drew ?_) | (with_reducible refine Cel.setS ?_ _) | (with_reducible refine Has.set ?_ _ _) | (with_reducible exact Has.of (by assumption)) | (with_reducible refine Cel.setO ?_ ?_ _) | (with_reducible refine Cel.keep (by assumption) ?_) | (with_reducible refine Below.alloc ?_ ?_ _) | (with_reducible refine Below.drew ?_) | (with_reducible refine Below.setCell ?_ ?_ _) | (with_reducible refine below_keep ?_ ?_ (by assumption)) | omega | (simp; done) | (simp; omega))))
  have hB5 := O5.below; have hz5 := O5.size; have hl5 := O5.le
  clear O4 S4_0 S4_1 S4_2 S4_3
  go_wp2
  all_goals first
    | (exfalso; omega)
    | (go_ret; exact ⟨rb (by first | rfl | (simp; done) | (rw [beq_iff_eq, Bool.eq_iff_iff]; simp; omega) | (simp; omega)), by (repeat' (first | (with_reducible assumption) | (with_reducible exact Below.refl _ _) | (with_reducible exact Cels.nil _) | (with_reducible refine Cels.cons ?_ ?_) | (with_reducible refine Own.mk ?_ ?_ ?_ ?_) | ((with_reducible refine Cel.new ?_ rfl); first | (with_reducible rfl) | omega | (simp; done) | (simp; omega)) | (with_reducible refine Cel.alloc ?_ _) | (with_reducible refine Cel.drew ?_) | (with_reducible refine Cel.setS ?_ _) | (with_reducible refine Has.set ?_ _ _) | (with_reducible exact Has.of (by assumption)) | (with_reducible refine Cel.setO ?_ ?_ _) | (with_reducible refine Cel.keep (by assumption) ?_) | (with_reducible refine Below.alloc ?_ ?_ _) | (with_reducible refine Below.drew ?_) | (with_reducible refine Below.setCell ?_ ?_ _) | (with_reducible refine below_keep ?_ ?_ (by assumption)) | omega | (simp; done) | (simp; omega)))⟩)

set_option maxRecDepth 100000 in
set_option maxHeartbeats 4000000 in
theorem law4_cbc (a l u d r s t x : Int) (w : World) (h1 : pE a l u d r t = 0) (h0 : -1 ≤ pV a l u d r t) (h00 : pV a l u d r t ≤ 1) (f1 : pE a l u d s t = 0) (f2 : r ≤ s) (f3 : pV a l u d r t ≤ pV a l u d s t) (g1 : pE a l u d r x = 0) (g2 : t < x) (k1 : pV a l u d r t < 1) (k2 : uE a l u d t = 0) (k3 : r < uV a l u d t) : Calls Try.prog 6 #[ck a l u d, .int .i64 r, .int .i64 s, .int .i64 t, .int .i64 x] w fun e w' => e = .returned (.bool true) ∧ Below w.heap.size w w' := by
  go_enter Try.func6, Try.ntmps6
  go_wp2_with fail
  refine (head_any _).mono ?_
  rintro e w1 ⟨rfl, hb1⟩
  have hs1 := hb1.size; (try simp at hs1)
  have O1 : Own w (w.heap.size + 1) w1 [(w.heap.size, 0, .int .i64 a), (w.heap.size, 1, .int .i64 l), (w.heap.size, 2, .int .i64 u), (w.heap.size, 3, .int .i64 d)] := (by (repeat' (first | (with_reducible assumption) | (with_reducible exact Below.refl _ _) | (with_reducible exact Cels.nil _) | (with_reducible refine Cels.cons ?_ ?_) | (with_reducible refine Own.mk ?_ ?_ ?_ ?_) | ((with_reducible refine Cel.new ?_ rfl); first | (with_reducible rfl) | omega | (simp; done) | (simp; omega)) | (with_reducible refine Cel.alloc ?_ _) | (with_reducible refine Cel.drew ?_) | (with_reducible refine Cel.setS ?_ _) | (with_reducible refine Has.set ?_ _ _) | (with_reducible exact Has.of (by assumption)) | (with_reducible refine Cel.setO ?_ ?_ _) | (with_reducible refine Cel.keep (by assumption) ?_) | (with_reducible refine Below.alloc ?_ ?_ _) | (with_reducible refine Below.drew ?_) | (with_reducible refine Below.setCell ?_ ?_ _) | (with_reducible refine below_keep ?_ ?_ (by assumption)) | omega | (simp; done) | (simp; omega))))
  have hB1 := O1.below; have hz1 := O1.size; have hl1 := O1.le; have S1_0 : Cel w1 (w.heap.size) 0 (.int .i64 a) := O1.cels.1; have S1_1 : Cel w1 (w.heap.size) 1 (.int .i64 l) := O1.cels.2.1; have S1_2 : Cel w1 (w.heap.size) 2 (.int .i64 u) := O1.cels.2.2.1; have S1_3 : Cel w1 (w.heap.size) 3 (.int .i64 d) := O1.cels.2.2.2.1
  go_wp2_with fail
  refine (passed_any a l u d r t _).mono ?_
  rintro e w2 ⟨rfl, hb2⟩
  have hs2 := hb2.size; (try simp at hs2)
  have O2 : Own w (w.heap.size + 1) w2 [(w.heap.size, 0, .int .i64 a), (w.heap.size, 1, .int .i64 l), (w.heap.size, 2, .int .i64 u), (w.heap.size, 3, .int .i64 d)] := (by (repeat' (first | (with_reducible assumption) | (with_reducible exact Below.refl _ _) | (with_reducible exact Cels.nil _) | (with_reducible refine Cels.cons ?_ ?_) | (with_reducible refine Own.mk ?_ ?_ ?_ ?_) | ((with_reducible refine Cel.new ?_ rfl); first | (with_reducible rfl) | omega | (simp; done) | (simp; omega)) | (with_reducible refine Cel.alloc ?_ _) | (with_reducible refine Cel.drew ?_) | (with_reducible refine Cel.setS ?_ _) | (with_reducible refine Has.set ?_ _ _) | (with_reducible exact Has.of (by assumption)) | (with_reducible refine Cel.setO ?_ ?_ _) | (with_reducible refine Cel.keep (by assumption) ?_) | (with_reducible refine Below.alloc ?_ ?_ _) | (with_reducible refine Below.drew ?_) | (with_reducible refine Below.setCell ?_ ?_ _) | (with_reducible refine below_keep ?_ ?_ (by assumption)) | omega | (simp; done) | (simp; omega))))
  have hB2 := O2.below; have hz2 := O2.size; have hl2 := O2.le; have S2_0 : Cel w2 (w.heap.size) 0 (.int .i64 a) := O2.cels.1; have S2_1 : Cel w2 (w.heap.size) 1 (.int .i64 l) := O2.cels.2.1; have S2_2 : Cel w2 (w.heap.size) 2 (.int .i64 u) := O2.cels.2.2.1; have S2_3 : Cel w2 (w.heap.size) 3 (.int .i64 d) := O2.cels.2.2.2.1
  clear O1 S1_0 S1_1 S1_2 S1_3
  go_wp2_with fail
  refine (passed_any a l u d s t _).mono ?_
  rintro e w3 ⟨rfl, hb3⟩
  have hs3 := hb3.size; (try simp at hs3)
  have O3 : Own w (w.heap.size + 1) w3 [(w.heap.size, 0, .int .i64 a), (w.heap.size, 1, .int .i64 l), (w.heap.size, 2, .int .i64 u), (w.heap.size, 3, .int .i64 d)] := (by (repeat' (first | (with_reducible assumption) | (with_reducible exact Below.refl _ _) | (with_reducible exact Cels.nil _) | (with_reducible refine Cels.cons ?_ ?_) | (with_reducible refine Own.mk ?_ ?_ ?_ ?_) | ((with_reducible refine Cel.new ?_ rfl); first | (with_reducible rfl) | omega | (simp; done) | (simp; omega)) | (with_reducible refine Cel.alloc ?_ _) | (with_reducible refine Cel.drew ?_) | (with_reducible refine Cel.setS ?_ _) | (with_reducible refine Has.set ?_ _ _) | (with_reducible exact Has.of (by assumption)) | (with_reducible refine Cel.setO ?_ ?_ _) | (with_reducible refine Cel.keep (by assumption) ?_) | (with_reducible refine Below.alloc ?_ ?_ _) | (with_reducible refine Below.drew ?_) | (with_reducible refine Below.setCell ?_ ?_ _) | (with_reducible refine below_keep ?_ ?_ (by assumption)) | omega | (simp; done) | (simp; omega))))
  have hB3 := O3.below; have hz3 := O3.size; have hl3 := O3.le; have S3_0 : Cel w3 (w.heap.size) 0 (.int .i64 a) := O3.cels.1; have S3_1 : Cel w3 (w.heap.size) 1 (.int .i64 l) := O3.cels.2.1; have S3_2 : Cel w3 (w.heap.size) 2 (.int .i64 u) := O3.cels.2.2.1; have S3_3 : Cel w3 (w.heap.size) 3 (.int .i64 d) := O3.cels.2.2.2.1
  clear O2 S2_0 S2_1 S2_2 S2_3
  go_wp2_with fail
  refine (passed_any a l u d r x _).mono ?_
  rintro e w4 ⟨rfl, hb4⟩
  have hs4 := hb4.size; (try simp at hs4)
  have O4 : Own w (w.heap.size + 1) w4 [(w.heap.size, 0, .int .i64 a), (w.heap.size, 1, .int .i64 l), (w.heap.size, 2, .int .i64 u), (w.heap.size, 3, .int .i64 d)] := (by (repeat' (first | (with_reducible assumption) | (with_reducible exact Below.refl _ _) | (with_reducible exact Cels.nil _) | (with_reducible refine Cels.cons ?_ ?_) | (with_reducible refine Own.mk ?_ ?_ ?_ ?_) | ((with_reducible refine Cel.new ?_ rfl); first | (with_reducible rfl) | omega | (simp; done) | (simp; omega)) | (with_reducible refine Cel.alloc ?_ _) | (with_reducible refine Cel.drew ?_) | (with_reducible refine Cel.setS ?_ _) | (with_reducible refine Has.set ?_ _ _) | (with_reducible exact Has.of (by assumption)) | (with_reducible refine Cel.setO ?_ ?_ _) | (with_reducible refine Cel.keep (by assumption) ?_) | (with_reducible refine Below.alloc ?_ ?_ _) | (with_reducible refine Below.drew ?_) | (with_reducible refine Below.setCell ?_ ?_ _) | (with_reducible refine below_keep ?_ ?_ (by assumption)) | omega | (simp; done) | (simp; omega))))
  have hB4 := O4.below; have hz4 := O4.size; have hl4 := O4.le; have S4_0 : Cel w4 (w.heap.size) 0 (.int .i64 a) := O4.cels.1; have S4_1 : Cel w4 (w.heap.size) 1 (.int .i64 l) := O4.cels.2.1; have S4_2 : Cel w4 (w.heap.size) 2 (.int .i64 u) := O4.cels.2.2.1; have S4_3 : Cel w4 (w.heap.size) 3 (.int .i64 d) := O4.cels.2.2.2.1
  clear O3 S3_0 S3_1 S3_2 S3_3
  go_wp2_with fail
  refine (sure_any a l u d t _).mono ?_
  rintro e w5 ⟨rfl, hb5⟩
  have hs5 := hb5.size; (try simp at hs5)
  have O5 : Own w (w.heap.size + 1) w5 [] := (by (repeat' (first | (with_reducible assumption) | (with_reducible exact Below.refl _ _) | (with_reducible exact Cels.nil _) | (with_reducible refine Cels.cons ?_ ?_) | (with_reducible refine Own.mk ?_ ?_ ?_ ?_) | ((with_reducible refine Cel.new ?_ rfl); first | (with_reducible rfl) | omega | (simp; done) | (simp; omega)) | (with_reducible refine Cel.alloc ?_ _) | (with_reducible refine Cel.drew ?_) | (with_reducible refine Cel.setS ?_ _) | (with_reducible refine Has.set ?_ _ _) | (with_reducible exact Has.of (by assumption)) | (with_reducible refine Cel.setO ?_ ?_ _) | (with_reducible refine Cel.keep (by assumption) ?_) | (with_reducible refine Below.alloc ?_ ?_ _) | (with_reducible refine Below.drew ?_) | (with_reducible refine Below.setCell ?_ ?_ _) | (with_reducible refine below_keep ?_ ?_ (by assumption)) | omega | (simp; done) | (simp; omega))))
  have hB5 := O5.below; have hz5 := O5.size; have hl5 := O5.le
  clear O4 S4_0 S4_1 S4_2 S4_3
  go_wp2
  all_goals first
    | (exfalso; omega)
    | (go_ret; exact ⟨rb (by first | rfl | (simp; done) | (rw [beq_iff_eq, Bool.eq_iff_iff]; simp; omega) | (simp; omega)), by (repeat' (first | (with_reducible assumption) | (with_reducible exact Below.refl _ _) | (with_reducible exact Cels.nil _) | (with_reducible refine Cels.cons ?_ ?_) | (with_reducible refine Own.mk ?_ ?_ ?_ ?_) | ((with_reducible refine Cel.new ?_ rfl); first | (with_reducible rfl) | omega | (simp; done) | (simp; omega)) | (with_reducible refine Cel.alloc ?_ _) | (with_reducible refine Cel.drew ?_) | (with_reducible refine Cel.setS ?_ _) | (with_reducible refine Has.set ?_ _ _) | (with_reducible exact Has.of (by assumption)) | (with_reducible refine Cel.setO ?_ ?_ _) | (with_reducible refine Cel.keep (by assumption) ?_) | (with_reducible refine Below.alloc ?_ ?_ _) | (with_reducible refine Below.drew ?_) | (with_reducible refine Below.setCell ?_ ?_ _) | (with_reducible refine below_keep ?_ ?_ (by assumption)) | omega | (simp; done) | (simp; omega)))⟩)

set_option maxRecDepth 100000 in
set_option maxHeartbeats 4000000 in
theorem law4_cca (a l u d r s t x : Int) (w : World) (h1 : pE a l u d r t = 0) (h0 : -1 ≤ pV a l u d r t) (h00 : pV a l u d r t ≤ 1) (f1 : pE a l u d s t = 0) (f2 : r ≤ s) (f3 : pV a l u d r t ≤ pV a l u d s t) (g1 : pE a l u d r x = 0) (g2 : x ≤ t) (g3 : pV a l u d r t ≤ pV a l u d r x) (k1 : pV a l u d r t = 1) (k2 : uE a l u d t = 0) (k3 : uV a l u d t ≤ r) : Calls Try.prog 6 #[ck a l u d, .int .i64 r, .int .i64 s, .int .i64 t, .int .i64 x] w fun e w' => e = .returned (.bool true) ∧ Below w.heap.size w w' := by
  go_enter Try.func6, Try.ntmps6
  go_wp2_with fail
  refine (head_any _).mono ?_
  rintro e w1 ⟨rfl, hb1⟩
  have hs1 := hb1.size; (try simp at hs1)
  have O1 : Own w (w.heap.size + 1) w1 [(w.heap.size, 0, .int .i64 a), (w.heap.size, 1, .int .i64 l), (w.heap.size, 2, .int .i64 u), (w.heap.size, 3, .int .i64 d)] := (by (repeat' (first | (with_reducible assumption) | (with_reducible exact Below.refl _ _) | (with_reducible exact Cels.nil _) | (with_reducible refine Cels.cons ?_ ?_) | (with_reducible refine Own.mk ?_ ?_ ?_ ?_) | ((with_reducible refine Cel.new ?_ rfl); first | (with_reducible rfl) | omega | (simp; done) | (simp; omega)) | (with_reducible refine Cel.alloc ?_ _) | (with_reducible refine Cel.drew ?_) | (with_reducible refine Cel.setS ?_ _) | (with_reducible refine Has.set ?_ _ _) | (with_reducible exact Has.of (by assumption)) | (with_reducible refine Cel.setO ?_ ?_ _) | (with_reducible refine Cel.keep (by assumption) ?_) | (with_reducible refine Below.alloc ?_ ?_ _) | (with_reducible refine Below.drew ?_) | (with_reducible refine Below.setCell ?_ ?_ _) | (with_reducible refine below_keep ?_ ?_ (by assumption)) | omega | (simp; done) | (simp; omega))))
  have hB1 := O1.below; have hz1 := O1.size; have hl1 := O1.le; have S1_0 : Cel w1 (w.heap.size) 0 (.int .i64 a) := O1.cels.1; have S1_1 : Cel w1 (w.heap.size) 1 (.int .i64 l) := O1.cels.2.1; have S1_2 : Cel w1 (w.heap.size) 2 (.int .i64 u) := O1.cels.2.2.1; have S1_3 : Cel w1 (w.heap.size) 3 (.int .i64 d) := O1.cels.2.2.2.1
  go_wp2_with fail
  refine (passed_any a l u d r t _).mono ?_
  rintro e w2 ⟨rfl, hb2⟩
  have hs2 := hb2.size; (try simp at hs2)
  have O2 : Own w (w.heap.size + 1) w2 [(w.heap.size, 0, .int .i64 a), (w.heap.size, 1, .int .i64 l), (w.heap.size, 2, .int .i64 u), (w.heap.size, 3, .int .i64 d)] := (by (repeat' (first | (with_reducible assumption) | (with_reducible exact Below.refl _ _) | (with_reducible exact Cels.nil _) | (with_reducible refine Cels.cons ?_ ?_) | (with_reducible refine Own.mk ?_ ?_ ?_ ?_) | ((with_reducible refine Cel.new ?_ rfl); first | (with_reducible rfl) | omega | (simp; done) | (simp; omega)) | (with_reducible refine Cel.alloc ?_ _) | (with_reducible refine Cel.drew ?_) | (with_reducible refine Cel.setS ?_ _) | (with_reducible refine Has.set ?_ _ _) | (with_reducible exact Has.of (by assumption)) | (with_reducible refine Cel.setO ?_ ?_ _) | (with_reducible refine Cel.keep (by assumption) ?_) | (with_reducible refine Below.alloc ?_ ?_ _) | (with_reducible refine Below.drew ?_) | (with_reducible refine Below.setCell ?_ ?_ _) | (with_reducible refine below_keep ?_ ?_ (by assumption)) | omega | (simp; done) | (simp; omega))))
  have hB2 := O2.below; have hz2 := O2.size; have hl2 := O2.le; have S2_0 : Cel w2 (w.heap.size) 0 (.int .i64 a) := O2.cels.1; have S2_1 : Cel w2 (w.heap.size) 1 (.int .i64 l) := O2.cels.2.1; have S2_2 : Cel w2 (w.heap.size) 2 (.int .i64 u) := O2.cels.2.2.1; have S2_3 : Cel w2 (w.heap.size) 3 (.int .i64 d) := O2.cels.2.2.2.1
  clear O1 S1_0 S1_1 S1_2 S1_3
  go_wp2_with fail
  refine (passed_any a l u d s t _).mono ?_
  rintro e w3 ⟨rfl, hb3⟩
  have hs3 := hb3.size; (try simp at hs3)
  have O3 : Own w (w.heap.size + 1) w3 [(w.heap.size, 0, .int .i64 a), (w.heap.size, 1, .int .i64 l), (w.heap.size, 2, .int .i64 u), (w.heap.size, 3, .int .i64 d)] := (by (repeat' (first | (with_reducible assumption) | (with_reducible exact Below.refl _ _) | (with_reducible exact Cels.nil _) | (with_reducible refine Cels.cons ?_ ?_) | (with_reducible refine Own.mk ?_ ?_ ?_ ?_) | ((with_reducible refine Cel.new ?_ rfl); first | (with_reducible rfl) | omega | (simp; done) | (simp; omega)) | (with_reducible refine Cel.alloc ?_ _) | (with_reducible refine Cel.drew ?_) | (with_reducible refine Cel.setS ?_ _) | (with_reducible refine Has.set ?_ _ _) | (with_reducible exact Has.of (by assumption)) | (with_reducible refine Cel.setO ?_ ?_ _) | (with_reducible refine Cel.keep (by assumption) ?_) | (with_reducible refine Below.alloc ?_ ?_ _) | (with_reducible refine Below.drew ?_) | (with_reducible refine Below.setCell ?_ ?_ _) | (with_reducible refine below_keep ?_ ?_ (by assumption)) | omega | (simp; done) | (simp; omega))))
  have hB3 := O3.below; have hz3 := O3.size; have hl3 := O3.le; have S3_0 : Cel w3 (w.heap.size) 0 (.int .i64 a) := O3.cels.1; have S3_1 : Cel w3 (w.heap.size) 1 (.int .i64 l) := O3.cels.2.1; have S3_2 : Cel w3 (w.heap.size) 2 (.int .i64 u) := O3.cels.2.2.1; have S3_3 : Cel w3 (w.heap.size) 3 (.int .i64 d) := O3.cels.2.2.2.1
  clear O2 S2_0 S2_1 S2_2 S2_3
  go_wp2_with fail
  refine (passed_any a l u d r x _).mono ?_
  rintro e w4 ⟨rfl, hb4⟩
  have hs4 := hb4.size; (try simp at hs4)
  have O4 : Own w (w.heap.size + 1) w4 [(w.heap.size, 0, .int .i64 a), (w.heap.size, 1, .int .i64 l), (w.heap.size, 2, .int .i64 u), (w.heap.size, 3, .int .i64 d)] := (by (repeat' (first | (with_reducible assumption) | (with_reducible exact Below.refl _ _) | (with_reducible exact Cels.nil _) | (with_reducible refine Cels.cons ?_ ?_) | (with_reducible refine Own.mk ?_ ?_ ?_ ?_) | ((with_reducible refine Cel.new ?_ rfl); first | (with_reducible rfl) | omega | (simp; done) | (simp; omega)) | (with_reducible refine Cel.alloc ?_ _) | (with_reducible refine Cel.drew ?_) | (with_reducible refine Cel.setS ?_ _) | (with_reducible refine Has.set ?_ _ _) | (with_reducible exact Has.of (by assumption)) | (with_reducible refine Cel.setO ?_ ?_ _) | (with_reducible refine Cel.keep (by assumption) ?_) | (with_reducible refine Below.alloc ?_ ?_ _) | (with_reducible refine Below.drew ?_) | (with_reducible refine Below.setCell ?_ ?_ _) | (with_reducible refine below_keep ?_ ?_ (by assumption)) | omega | (simp; done) | (simp; omega))))
  have hB4 := O4.below; have hz4 := O4.size; have hl4 := O4.le; have S4_0 : Cel w4 (w.heap.size) 0 (.int .i64 a) := O4.cels.1; have S4_1 : Cel w4 (w.heap.size) 1 (.int .i64 l) := O4.cels.2.1; have S4_2 : Cel w4 (w.heap.size) 2 (.int .i64 u) := O4.cels.2.2.1; have S4_3 : Cel w4 (w.heap.size) 3 (.int .i64 d) := O4.cels.2.2.2.1
  clear O3 S3_0 S3_1 S3_2 S3_3
  go_wp2_with fail
  refine (sure_any a l u d t _).mono ?_
  rintro e w5 ⟨rfl, hb5⟩
  have hs5 := hb5.size; (try simp at hs5)
  have O5 : Own w (w.heap.size + 1) w5 [] := (by (repeat' (first | (with_reducible assumption) | (with_reducible exact Below.refl _ _) | (with_reducible exact Cels.nil _) | (with_reducible refine Cels.cons ?_ ?_) | (with_reducible refine Own.mk ?_ ?_ ?_ ?_) | ((with_reducible refine Cel.new ?_ rfl); first | (with_reducible rfl) | omega | (simp; done) | (simp; omega)) | (with_reducible refine Cel.alloc ?_ _) | (with_reducible refine Cel.drew ?_) | (with_reducible refine Cel.setS ?_ _) | (with_reducible refine Has.set ?_ _ _) | (with_reducible exact Has.of (by assumption)) | (with_reducible refine Cel.setO ?_ ?_ _) | (with_reducible refine Cel.keep (by assumption) ?_) | (with_reducible refine Below.alloc ?_ ?_ _) | (with_reducible refine Below.drew ?_) | (with_reducible refine Below.setCell ?_ ?_ _) | (with_reducible refine below_keep ?_ ?_ (by assumption)) | omega | (simp; done) | (simp; omega))))
  have hB5 := O5.below; have hz5 := O5.size; have hl5 := O5.le
  clear O4 S4_0 S4_1 S4_2 S4_3
  go_wp2
  all_goals first
    | (exfalso; omega)
    | (go_ret; exact ⟨rb (by first | rfl | (simp; done) | (rw [beq_iff_eq, Bool.eq_iff_iff]; simp; omega) | (simp; omega)), by (repeat' (first | (with_reducible assumption) | (with_reducible exact Below.refl _ _) | (with_reducible exact Cels.nil _) | (with_reducible refine Cels.cons ?_ ?_) | (with_reducible refine Own.mk ?_ ?_ ?_ ?_) | ((with_reducible refine Cel.new ?_ rfl); first | (with_reducible rfl) | omega | (simp; done) | (simp; omega)) | (with_reducible refine Cel.alloc ?_ _) | (with_reducible refine Cel.drew ?_) | (with_reducible refine Cel.setS ?_ _) | (with_reducible refine Has.set ?_ _ _) | (with_reducible exact Has.of (by assumption)) | (with_reducible refine Cel.setO ?_ ?_ _) | (with_reducible refine Cel.keep (by assumption) ?_) | (with_reducible refine Below.alloc ?_ ?_ _) | (with_reducible refine Below.drew ?_) | (with_reducible refine Below.setCell ?_ ?_ _) | (with_reducible refine below_keep ?_ ?_ (by assumption)) | omega | (simp; done) | (simp; omega)))⟩)

set_option maxRecDepth 100000 in
set_option maxHeartbeats 4000000 in
theorem law4_ccb (a l u d r s t x : Int) (w : World) (h1 : pE a l u d r t = 0) (h0 : -1 ≤ pV a l u d r t) (h00 : pV a l u d r t ≤ 1) (f1 : pE a l u d s t = 0) (f2 : r ≤ s) (f3 : pV a l u d r t ≤ pV a l u d s t) (g1 : pE a l u d r x = 0) (g2 : x ≤ t) (g3 : pV a l u d r t ≤ pV a l u d r x) (k1 : pV a l u d r t < 1) (k2 : ¬ uE a l u d t = 0) : Calls Try.prog 6 #[ck a l u d, .int .i64 r, .int .i64 s, .int .i64 t, .int .i64 x] w fun e w' => e = .returned (.bool true) ∧ Below w.heap.size w w' := by
  go_enter Try.func6, Try.ntmps6
  go_wp2_with fail
  refine (head_any _).mono ?_
  rintro e w1 ⟨rfl, hb1⟩
  have hs1 := hb1.size; (try simp at hs1)
  have O1 : Own w (w.heap.size + 1) w1 [(w.heap.size, 0, .int .i64 a), (w.heap.size, 1, .int .i64 l), (w.heap.size, 2, .int .i64 u), (w.heap.size, 3, .int .i64 d)] := (by (repeat' (first | (with_reducible assumption) | (with_reducible exact Below.refl _ _) | (with_reducible exact Cels.nil _) | (with_reducible refine Cels.cons ?_ ?_) | (with_reducible refine Own.mk ?_ ?_ ?_ ?_) | ((with_reducible refine Cel.new ?_ rfl); first | (with_reducible rfl) | omega | (simp; done) | (simp; omega)) | (with_reducible refine Cel.alloc ?_ _) | (with_reducible refine Cel.drew ?_) | (with_reducible refine Cel.setS ?_ _) | (with_reducible refine Has.set ?_ _ _) | (with_reducible exact Has.of (by assumption)) | (with_reducible refine Cel.setO ?_ ?_ _) | (with_reducible refine Cel.keep (by assumption) ?_) | (with_reducible refine Below.alloc ?_ ?_ _) | (with_reducible refine Below.drew ?_) | (with_reducible refine Below.setCell ?_ ?_ _) | (with_reducible refine below_keep ?_ ?_ (by assumption)) | omega | (simp; done) | (simp; omega))))
  have hB1 := O1.below; have hz1 := O1.size; have hl1 := O1.le; have S1_0 : Cel w1 (w.heap.size) 0 (.int .i64 a) := O1.cels.1; have S1_1 : Cel w1 (w.heap.size) 1 (.int .i64 l) := O1.cels.2.1; have S1_2 : Cel w1 (w.heap.size) 2 (.int .i64 u) := O1.cels.2.2.1; have S1_3 : Cel w1 (w.heap.size) 3 (.int .i64 d) := O1.cels.2.2.2.1
  go_wp2_with fail
  refine (passed_any a l u d r t _).mono ?_
  rintro e w2 ⟨rfl, hb2⟩
  have hs2 := hb2.size; (try simp at hs2)
  have O2 : Own w (w.heap.size + 1) w2 [(w.heap.size, 0, .int .i64 a), (w.heap.size, 1, .int .i64 l), (w.heap.size, 2, .int .i64 u), (w.heap.size, 3, .int .i64 d)] := (by (repeat' (first | (with_reducible assumption) | (with_reducible exact Below.refl _ _) | (with_reducible exact Cels.nil _) | (with_reducible refine Cels.cons ?_ ?_) | (with_reducible refine Own.mk ?_ ?_ ?_ ?_) | ((with_reducible refine Cel.new ?_ rfl); first | (with_reducible rfl) | omega | (simp; done) | (simp; omega)) | (with_reducible refine Cel.alloc ?_ _) | (with_reducible refine Cel.drew ?_) | (with_reducible refine Cel.setS ?_ _) | (with_reducible refine Has.set ?_ _ _) | (with_reducible exact Has.of (by assumption)) | (with_reducible refine Cel.setO ?_ ?_ _) | (with_reducible refine Cel.keep (by assumption) ?_) | (with_reducible refine Below.alloc ?_ ?_ _) | (with_reducible refine Below.drew ?_) | (with_reducible refine Below.setCell ?_ ?_ _) | (with_reducible refine below_keep ?_ ?_ (by assumption)) | omega | (simp; done) | (simp; omega))))
  have hB2 := O2.below; have hz2 := O2.size; have hl2 := O2.le; have S2_0 : Cel w2 (w.heap.size) 0 (.int .i64 a) := O2.cels.1; have S2_1 : Cel w2 (w.heap.size) 1 (.int .i64 l) := O2.cels.2.1; have S2_2 : Cel w2 (w.heap.size) 2 (.int .i64 u) := O2.cels.2.2.1; have S2_3 : Cel w2 (w.heap.size) 3 (.int .i64 d) := O2.cels.2.2.2.1
  clear O1 S1_0 S1_1 S1_2 S1_3
  go_wp2_with fail
  refine (passed_any a l u d s t _).mono ?_
  rintro e w3 ⟨rfl, hb3⟩
  have hs3 := hb3.size; (try simp at hs3)
  have O3 : Own w (w.heap.size + 1) w3 [(w.heap.size, 0, .int .i64 a), (w.heap.size, 1, .int .i64 l), (w.heap.size, 2, .int .i64 u), (w.heap.size, 3, .int .i64 d)] := (by (repeat' (first | (with_reducible assumption) | (with_reducible exact Below.refl _ _) | (with_reducible exact Cels.nil _) | (with_reducible refine Cels.cons ?_ ?_) | (with_reducible refine Own.mk ?_ ?_ ?_ ?_) | ((with_reducible refine Cel.new ?_ rfl); first | (with_reducible rfl) | omega | (simp; done) | (simp; omega)) | (with_reducible refine Cel.alloc ?_ _) | (with_reducible refine Cel.drew ?_) | (with_reducible refine Cel.setS ?_ _) | (with_reducible refine Has.set ?_ _ _) | (with_reducible exact Has.of (by assumption)) | (with_reducible refine Cel.setO ?_ ?_ _) | (with_reducible refine Cel.keep (by assumption) ?_) | (with_reducible refine Below.alloc ?_ ?_ _) | (with_reducible refine Below.drew ?_) | (with_reducible refine Below.setCell ?_ ?_ _) | (with_reducible refine below_keep ?_ ?_ (by assumption)) | omega | (simp; done) | (simp; omega))))
  have hB3 := O3.below; have hz3 := O3.size; have hl3 := O3.le; have S3_0 : Cel w3 (w.heap.size) 0 (.int .i64 a) := O3.cels.1; have S3_1 : Cel w3 (w.heap.size) 1 (.int .i64 l) := O3.cels.2.1; have S3_2 : Cel w3 (w.heap.size) 2 (.int .i64 u) := O3.cels.2.2.1; have S3_3 : Cel w3 (w.heap.size) 3 (.int .i64 d) := O3.cels.2.2.2.1
  clear O2 S2_0 S2_1 S2_2 S2_3
  go_wp2_with fail
  refine (passed_any a l u d r x _).mono ?_
  rintro e w4 ⟨rfl, hb4⟩
  have hs4 := hb4.size; (try simp at hs4)
  have O4 : Own w (w.heap.size + 1) w4 [(w.heap.size, 0, .int .i64 a), (w.heap.size, 1, .int .i64 l), (w.heap.size, 2, .int .i64 u), (w.heap.size, 3, .int .i64 d)] := (by (repeat' (first | (with_reducible assumption) | (with_reducible exact Below.refl _ _) | (with_reducible exact Cels.nil _) | (with_reducible refine Cels.cons ?_ ?_) | (with_reducible refine Own.mk ?_ ?_ ?_ ?_) | ((with_reducible refine Cel.new ?_ rfl); first | (with_reducible rfl) | omega | (simp; done) | (simp; omega)) | (with_reducible refine Cel.alloc ?_ _) | (with_reducible refine Cel.drew ?_) | (with_reducible refine Cel.setS ?_ _) | (with_reducible refine Has.set ?_ _ _) | (with_reducible exact Has.of (by assumption)) | (with_reducible refine Cel.setO ?_ ?_ _) | (with_reducible refine Cel.keep (by assumption) ?_) | (with_reducible refine Below.alloc ?_ ?_ _) | (with_reducible refine Below.drew ?_) | (with_reducible refine Below.setCell ?_ ?_ _) | (with_reducible refine below_keep ?_ ?_ (by assumption)) | omega | (simp; done) | (simp; omega))))
  have hB4 := O4.below; have hz4 := O4.size; have hl4 := O4.le; have S4_0 : Cel w4 (w.heap.size) 0 (.int .i64 a) := O4.cels.1; have S4_1 : Cel w4 (w.heap.size) 1 (.int .i64 l) := O4.cels.2.1; have S4_2 : Cel w4 (w.heap.size) 2 (.int .i64 u) := O4.cels.2.2.1; have S4_3 : Cel w4 (w.heap.size) 3 (.int .i64 d) := O4.cels.2.2.2.1
  clear O3 S3_0 S3_1 S3_2 S3_3
  go_wp2_with fail
  refine (sure_any a l u d t _).mono ?_
  rintro e w5 ⟨rfl, hb5⟩
  have hs5 := hb5.size; (try simp at hs5)
  have O5 : Own w (w.heap.size + 1) w5 [] := (by (repeat' (first | (with_reducible assumption) | (with_reducible exact Below.refl _ _) | (with_reducible exact Cels.nil _) | (with_reducible refine Cels.cons ?_ ?_) | (with_reducible refine Own.mk ?_ ?_ ?_ ?_) | ((with_reducible refine Cel.new ?_ rfl); first | (with_reducible rfl) | omega | (simp; done) | (simp; omega)) | (with_reducible refine Cel.alloc ?_ _) | (with_reducible refine Cel.drew ?_) | (with_reducible refine Cel.setS ?_ _) | (with_reducible refine Has.set ?_ _ _) | (with_reducible exact Has.of (by assumption)) | (with_reducible refine Cel.setO ?_ ?_ _) | (with_reducible refine Cel.keep (by assumption) ?_) | (with_reducible refine Below.alloc ?_ ?_ _) | (with_reducible refine Below.drew ?_) | (with_reducible refine Below.setCell ?_ ?_ _) | (with_reducible refine below_keep ?_ ?_ (by assumption)) | omega | (simp; done) | (simp; omega))))
  have hB5 := O5.below; have hz5 := O5.size; have hl5 := O5.le
  clear O4 S4_0 S4_1 S4_2 S4_3
  go_wp2
  all_goals first
    | (exfalso; omega)
    | (go_ret; exact ⟨rb (by first | rfl | (simp; done) | (rw [beq_iff_eq, Bool.eq_iff_iff]; simp; omega) | (simp; omega)), by (repeat' (first | (with_reducible assumption) | (with_reducible exact Below.refl _ _) | (with_reducible exact Cels.nil _) | (with_reducible refine Cels.cons ?_ ?_) | (with_reducible refine Own.mk ?_ ?_ ?_ ?_) | ((with_reducible refine Cel.new ?_ rfl); first | (with_reducible rfl) | omega | (simp; done) | (simp; omega)) | (with_reducible refine Cel.alloc ?_ _) | (with_reducible refine Cel.drew ?_) | (with_reducible refine Cel.setS ?_ _) | (with_reducible refine Has.set ?_ _ _) | (with_reducible exact Has.of (by assumption)) | (with_reducible refine Cel.setO ?_ ?_ _) | (with_reducible refine Cel.keep (by assumption) ?_) | (with_reducible refine Below.alloc ?_ ?_ _) | (with_reducible refine Below.drew ?_) | (with_reducible refine Below.setCell ?_ ?_ _) | (with_reducible refine below_keep ?_ ?_ (by assumption)) | omega | (simp; done) | (simp; omega)))⟩)

set_option maxRecDepth 100000 in
set_option maxHeartbeats 4000000 in
theorem law4_ccc (a l u d r s t x : Int) (w : World) (h1 : pE a l u d r t = 0) (h0 : -1 ≤ pV a l u d r t) (h00 : pV a l u d r t ≤ 1) (f1 : pE a l u d s t = 0) (f2 : r ≤ s) (f3 : pV a l u d r t ≤ pV a l u d s t) (g1 : pE a l u d r x = 0) (g2 : x ≤ t) (g3 : pV a l u d r t ≤ pV a l u d r x) (k1 : pV a l u d r t < 1) (k2 : uE a l u d t = 0) (k3 : r < uV a l u d t) : Calls Try.prog 6 #[ck a l u d, .int .i64 r, .int .i64 s, .int .i64 t, .int .i64 x] w fun e w' => e = .returned (.bool true) ∧ Below w.heap.size w w' := by
  go_enter Try.func6, Try.ntmps6
  go_wp2_with fail
  refine (head_any _).mono ?_
  rintro e w1 ⟨rfl, hb1⟩
  have hs1 := hb1.size; (try simp at hs1)
  have O1 : Own w (w.heap.size + 1) w1 [(w.heap.size, 0, .int .i64 a), (w.heap.size, 1, .int .i64 l), (w.heap.size, 2, .int .i64 u), (w.heap.size, 3, .int .i64 d)] := (by (repeat' (first | (with_reducible assumption) | (with_reducible exact Below.refl _ _) | (with_reducible exact Cels.nil _) | (with_reducible refine Cels.cons ?_ ?_) | (with_reducible refine Own.mk ?_ ?_ ?_ ?_) | ((with_reducible refine Cel.new ?_ rfl); first | (with_reducible rfl) | omega | (simp; done) | (simp; omega)) | (with_reducible refine Cel.alloc ?_ _) | (with_reducible refine Cel.drew ?_) | (with_reducible refine Cel.setS ?_ _) | (with_reducible refine Has.set ?_ _ _) | (with_reducible exact Has.of (by assumption)) | (with_reducible refine Cel.setO ?_ ?_ _) | (with_reducible refine Cel.keep (by assumption) ?_) | (with_reducible refine Below.alloc ?_ ?_ _) | (with_reducible refine Below.drew ?_) | (with_reducible refine Below.setCell ?_ ?_ _) | (with_reducible refine below_keep ?_ ?_ (by assumption)) | omega | (simp; done) | (simp; omega))))
  have hB1 := O1.below; have hz1 := O1.size; have hl1 := O1.le; have S1_0 : Cel w1 (w.heap.size) 0 (.int .i64 a) := O1.cels.1; have S1_1 : Cel w1 (w.heap.size) 1 (.int .i64 l) := O1.cels.2.1; have S1_2 : Cel w1 (w.heap.size) 2 (.int .i64 u) := O1.cels.2.2.1; have S1_3 : Cel w1 (w.heap.size) 3 (.int .i64 d) := O1.cels.2.2.2.1
  go_wp2_with fail
  refine (passed_any a l u d r t _).mono ?_
  rintro e w2 ⟨rfl, hb2⟩
  have hs2 := hb2.size; (try simp at hs2)
  have O2 : Own w (w.heap.size + 1) w2 [(w.heap.size, 0, .int .i64 a), (w.heap.size, 1, .int .i64 l), (w.heap.size, 2, .int .i64 u), (w.heap.size, 3, .int .i64 d)] := (by (repeat' (first | (with_reducible assumption) | (with_reducible exact Below.refl _ _) | (with_reducible exact Cels.nil _) | (with_reducible refine Cels.cons ?_ ?_) | (with_reducible refine Own.mk ?_ ?_ ?_ ?_) | ((with_reducible refine Cel.new ?_ rfl); first | (with_reducible rfl) | omega | (simp; done) | (simp; omega)) | (with_reducible refine Cel.alloc ?_ _) | (with_reducible refine Cel.drew ?_) | (with_reducible refine Cel.setS ?_ _) | (with_reducible refine Has.set ?_ _ _) | (with_reducible exact Has.of (by assumption)) | (with_reducible refine Cel.setO ?_ ?_ _) | (with_reducible refine Cel.keep (by assumption) ?_) | (with_reducible refine Below.alloc ?_ ?_ _) | (with_reducible refine Below.drew ?_) | (with_reducible refine Below.setCell ?_ ?_ _) | (with_reducible refine below_keep ?_ ?_ (by assumption)) | omega | (simp; done) | (simp; omega))))
  have hB2 := O2.below; have hz2 := O2.size; have hl2 := O2.le; have S2_0 : Cel w2 (w.heap.size) 0 (.int .i64 a) := O2.cels.1; have S2_1 : Cel w2 (w.heap.size) 1 (.int .i64 l) := O2.cels.2.1; have S2_2 : Cel w2 (w.heap.size) 2 (.int .i64 u) := O2.cels.2.2.1; have S2_3 : Cel w2 (w.heap.size) 3 (.int .i64 d) := O2.cels.2.2.2.1
  clear O1 S1_0 S1_1 S1_2 S1_3
  go_wp2_with fail
  refine (passed_any a l u d s t _).mono ?_
  rintro e w3 ⟨rfl, hb3⟩
  have hs3 := hb3.size; (try simp at hs3)
  have O3 : Own w (w.heap.size + 1) w3 [(w.heap.size, 0, .int .i64 a), (w.heap.size, 1, .int .i64 l), (w.heap.size, 2, .int .i64 u), (w.heap.size, 3, .int .i64 d)] := (by (repeat' (first | (with_reducible assumption) | (with_reducible exact Below.refl _ _) | (with_reducible exact Cels.nil _) | (with_reducible refine Cels.cons ?_ ?_) | (with_reducible refine Own.mk ?_ ?_ ?_ ?_) | ((with_reducible refine Cel.new ?_ rfl); first | (with_reducible rfl) | omega | (simp; done) | (simp; omega)) | (with_reducible refine Cel.alloc ?_ _) | (with_reducible refine Cel.drew ?_) | (with_reducible refine Cel.setS ?_ _) | (with_reducible refine Has.set ?_ _ _) | (with_reducible exact Has.of (by assumption)) | (with_reducible refine Cel.setO ?_ ?_ _) | (with_reducible refine Cel.keep (by assumption) ?_) | (with_reducible refine Below.alloc ?_ ?_ _) | (with_reducible refine Below.drew ?_) | (with_reducible refine Below.setCell ?_ ?_ _) | (with_reducible refine below_keep ?_ ?_ (by assumption)) | omega | (simp; done) | (simp; omega))))
  have hB3 := O3.below; have hz3 := O3.size; have hl3 := O3.le; have S3_0 : Cel w3 (w.heap.size) 0 (.int .i64 a) := O3.cels.1; have S3_1 : Cel w3 (w.heap.size) 1 (.int .i64 l) := O3.cels.2.1; have S3_2 : Cel w3 (w.heap.size) 2 (.int .i64 u) := O3.cels.2.2.1; have S3_3 : Cel w3 (w.heap.size) 3 (.int .i64 d) := O3.cels.2.2.2.1
  clear O2 S2_0 S2_1 S2_2 S2_3
  go_wp2_with fail
  refine (passed_any a l u d r x _).mono ?_
  rintro e w4 ⟨rfl, hb4⟩
  have hs4 := hb4.size; (try simp at hs4)
  have O4 : Own w (w.heap.size + 1) w4 [(w.heap.size, 0, .int .i64 a), (w.heap.size, 1, .int .i64 l), (w.heap.size, 2, .int .i64 u), (w.heap.size, 3, .int .i64 d)] := (by (repeat' (first | (with_reducible assumption) | (with_reducible exact Below.refl _ _) | (with_reducible exact Cels.nil _) | (with_reducible refine Cels.cons ?_ ?_) | (with_reducible refine Own.mk ?_ ?_ ?_ ?_) | ((with_reducible refine Cel.new ?_ rfl); first | (with_reducible rfl) | omega | (simp; done) | (simp; omega)) | (with_reducible refine Cel.alloc ?_ _) | (with_reducible refine Cel.drew ?_) | (with_reducible refine Cel.setS ?_ _) | (with_reducible refine Has.set ?_ _ _) | (with_reducible exact Has.of (by assumption)) | (with_reducible refine Cel.setO ?_ ?_ _) | (with_reducible refine Cel.keep (by assumption) ?_) | (with_reducible refine Below.alloc ?_ ?_ _) | (with_reducible refine Below.drew ?_) | (with_reducible refine Below.setCell ?_ ?_ _) | (with_reducible refine below_keep ?_ ?_ (by assumption)) | omega | (simp; done) | (simp; omega))))
  have hB4 := O4.below; have hz4 := O4.size; have hl4 := O4.le; have S4_0 : Cel w4 (w.heap.size) 0 (.int .i64 a) := O4.cels.1; have S4_1 : Cel w4 (w.heap.size) 1 (.int .i64 l) := O4.cels.2.1; have S4_2 : Cel w4 (w.heap.size) 2 (.int .i64 u) := O4.cels.2.2.1; have S4_3 : Cel w4 (w.heap.size) 3 (.int .i64 d) := O4.cels.2.2.2.1
  clear O3 S3_0 S3_1 S3_2 S3_3
  go_wp2_with fail
  refine (sure_any a l u d t _).mono ?_
  rintro e w5 ⟨rfl, hb5⟩
  have hs5 := hb5.size; (try simp at hs5)
  have O5 : Own w (w.heap.size + 1) w5 [] := (by (repeat' (first | (with_reducible assumption) | (with_reducible exact Below.refl _ _) | (with_reducible exact Cels.nil _) | (with_reducible refine Cels.cons ?_ ?_) | (with_reducible refine Own.mk ?_ ?_ ?_ ?_) | ((with_reducible refine Cel.new ?_ rfl); first | (with_reducible rfl) | omega | (simp; done) | (simp; omega)) | (with_reducible refine Cel.alloc ?_ _) | (with_reducible refine Cel.drew ?_) | (with_reducible refine Cel.setS ?_ _) | (with_reducible refine Has.set ?_ _ _) | (with_reducible exact Has.of (by assumption)) | (with_reducible refine Cel.setO ?_ ?_ _) | (with_reducible refine Cel.keep (by assumption) ?_) | (with_reducible refine Below.alloc ?_ ?_ _) | (with_reducible refine Below.drew ?_) | (with_reducible refine Below.setCell ?_ ?_ _) | (with_reducible refine below_keep ?_ ?_ (by assumption)) | omega | (simp; done) | (simp; omega))))
  have hB5 := O5.below; have hz5 := O5.size; have hl5 := O5.le
  clear O4 S4_0 S4_1 S4_2 S4_3
  go_wp2
  all_goals first
    | (exfalso; omega)
    | (go_ret; exact ⟨rb (by first | rfl | (simp; done) | (rw [beq_iff_eq, Bool.eq_iff_iff]; simp; omega) | (simp; omega)), by (repeat' (first | (with_reducible assumption) | (with_reducible exact Below.refl _ _) | (with_reducible exact Cels.nil _) | (with_reducible refine Cels.cons ?_ ?_) | (with_reducible refine Own.mk ?_ ?_ ?_ ?_) | ((with_reducible refine Cel.new ?_ rfl); first | (with_reducible rfl) | omega | (simp; done) | (simp; omega)) | (with_reducible refine Cel.alloc ?_ _) | (with_reducible refine Cel.drew ?_) | (with_reducible refine Cel.setS ?_ _) | (with_reducible refine Has.set ?_ _ _) | (with_reducible exact Has.of (by assumption)) | (with_reducible refine Cel.setO ?_ ?_ _) | (with_reducible refine Cel.keep (by assumption) ?_) | (with_reducible refine Below.alloc ?_ ?_ _) | (with_reducible refine Below.drew ?_) | (with_reducible refine Below.setCell ?_ ?_ _) | (with_reducible refine below_keep ?_ ?_ (by assumption)) | omega | (simp; done) | (simp; omega)))⟩)

theorem law4 (a l u d r s t x : Int) (w : World) : Calls Try.prog 6 #[ck a l u d, .int .i64 r, .int .i64 s, .int .i64 t, .int .i64 x] w fun e w' => e = .returned (.bool true) ∧ Below w.heap.size w w' := by
  by_cases h1 : pE a l u d r t = 0
  · have hc := pV_cases a l u d r t
    have hs := p4c h1
    by_cases f1 : pE a l u d s t = 0
    · by_cases f2 : s < r
      · skip
        by_cases g1 : pE a l u d r x = 0
        · by_cases g2 : t < x
          · skip
            by_cases k1 : pV a l u d r t = 1
            · exact law4_bba a l u d r s t x w h1 (by omega) (by omega) f1 f2 g1 g2 k1 (hs.1 k1).1 (hs.1 k1).2
            · by_cases k2 : uE a l u d t = 0
              · exact law4_bbc a l u d r s t x w h1 (by omega) (by omega) f1 f2 g1 g2 (by omega) k2 (by omega)
              · exact law4_bbb a l u d r s t x w h1 (by omega) (by omega) f1 f2 g1 g2 (by omega) k2
          · skip
            by_cases k1 : pV a l u d r t = 1
            · exact law4_bca a l u d r s t x w h1 (by omega) (by omega) f1 f2 g1 (by omega) (p4b h1 g1 (by omega)) k1 (hs.1 k1).1 (hs.1 k1).2
            · by_cases k2 : uE a l u d t = 0
              · exact law4_bcc a l u d r s t x w h1 (by omega) (by omega) f1 f2 g1 (by omega) (p4b h1 g1 (by omega)) (by omega) k2 (by omega)
              · exact law4_bcb a l u d r s t x w h1 (by omega) (by omega) f1 f2 g1 (by omega) (p4b h1 g1 (by omega)) (by omega) k2
        · skip
          by_cases k1 : pV a l u d r t = 1
          · exact law4_baa a l u d r s t x w h1 (by omega) (by omega) f1 f2 g1 k1 (hs.1 k1).1 (hs.1 k1).2
          · by_cases k2 : uE a l u d t = 0
            · exact law4_bac a l u d r s t x w h1 (by omega) (by omega) f1 f2 g1 (by omega) k2 (by omega)
            · exact law4_bab a l u d r s t x w h1 (by omega) (by omega) f1 f2 g1 (by omega) k2
      · skip
        by_cases g1 : pE a l u d r x = 0
        · by_cases g2 : t < x
          · skip
            by_cases k1 : pV a l u d r t = 1
            · exact law4_cba a l u d r s t x w h1 (by omega) (by omega) f1 (by omega) (p4a h1 f1 (by omega)) g1 g2 k1 (hs.1 k1).1 (hs.1 k1).2
            · by_cases k2 : uE a l u d t = 0
              · exact law4_cbc a l u d r s t x w h1 (by omega) (by omega) f1 (by omega) (p4a h1 f1 (by omega)) g1 g2 (by omega) k2 (by omega)
              · exact law4_cbb a l u d r s t x w h1 (by omega) (by omega) f1 (by omega) (p4a h1 f1 (by omega)) g1 g2 (by omega) k2
          · skip
            by_cases k1 : pV a l u d r t = 1
            · exact law4_cca a l u d r s t x w h1 (by omega) (by omega) f1 (by omega) (p4a h1 f1 (by omega)) g1 (by omega) (p4b h1 g1 (by omega)) k1 (hs.1 k1).1 (hs.1 k1).2
            · by_cases k2 : uE a l u d t = 0
              · exact law4_ccc a l u d r s t x w h1 (by omega) (by omega) f1 (by omega) (p4a h1 f1 (by omega)) g1 (by omega) (p4b h1 g1 (by omega)) (by omega) k2 (by omega)
              · exact law4_ccb a l u d r s t x w h1 (by omega) (by omega) f1 (by omega) (p4a h1 f1 (by omega)) g1 (by omega) (p4b h1 g1 (by omega)) (by omega) k2
        · skip
          by_cases k1 : pV a l u d r t = 1
          · exact law4_caa a l u d r s t x w h1 (by omega) (by omega) f1 (by omega) (p4a h1 f1 (by omega)) g1 k1 (hs.1 k1).1 (hs.1 k1).2
          · by_cases k2 : uE a l u d t = 0
            · exact law4_cac a l u d r s t x w h1 (by omega) (by omega) f1 (by omega) (p4a h1 f1 (by omega)) g1 (by omega) k2 (by omega)
            · exact law4_cab a l u d r s t x w h1 (by omega) (by omega) f1 (by omega) (p4a h1 f1 (by omega)) g1 (by omega) k2
    · skip
      by_cases g1 : pE a l u d r x = 0
      · by_cases g2 : t < x
        · skip
          by_cases k1 : pV a l u d r t = 1
          · exact law4_aba a l u d r s t x w h1 (by omega) (by omega) f1 g1 g2 k1 (hs.1 k1).1 (hs.1 k1).2
          · by_cases k2 : uE a l u d t = 0
            · exact law4_abc a l u d r s t x w h1 (by omega) (by omega) f1 g1 g2 (by omega) k2 (by omega)
            · exact law4_abb a l u d r s t x w h1 (by omega) (by omega) f1 g1 g2 (by omega) k2
        · skip
          by_cases k1 : pV a l u d r t = 1
          · exact law4_aca a l u d r s t x w h1 (by omega) (by omega) f1 g1 (by omega) (p4b h1 g1 (by omega)) k1 (hs.1 k1).1 (hs.1 k1).2
          · by_cases k2 : uE a l u d t = 0
            · exact law4_acc a l u d r s t x w h1 (by omega) (by omega) f1 g1 (by omega) (p4b h1 g1 (by omega)) (by omega) k2 (by omega)
            · exact law4_acb a l u d r s t x w h1 (by omega) (by omega) f1 g1 (by omega) (p4b h1 g1 (by omega)) (by omega) k2
      · skip
        by_cases k1 : pV a l u d r t = 1
        · exact law4_aaa a l u d r s t x w h1 (by omega) (by omega) f1 g1 k1 (hs.1 k1).1 (hs.1 k1).2
        · by_cases k2 : uE a l u d t = 0
          · exact law4_aac a l u d r s t x w h1 (by omega) (by omega) f1 g1 (by omega) k2 (by omega)
          · exact law4_aab a l u d r s t x w h1 (by omega) (by omega) f1 g1 (by omega) k2
  · exact law4_e a l u d r s t x w h1 (pV_no h1)

end Go.Proofs.Ytphmfkellojecaa
