/- The walks of a law. -/
import Derived.Test.YtphmfkellojecaaX
set_option linter.unusedVariables false
set_option linter.unusedSimpArgs false
namespace Go.Proofs.Ytphmfkellojecaa
open Go.RowKit
attribute [local go_sem] World.cell?_alloc_some frozen_alloc_some isSome_alloc isSome_setCell

set_option maxRecDepth 100000 in
set_option maxHeartbeats 4000000 in
theorem law7_e1 (a l u d f r t : Int) (w : World) (h1 : tE a l u d a = 1) : Calls Try.prog 9 #[ck a l u d, .int .i64 f, .int .i64 r, .int .i64 t] w fun e w' => e = .returned (.bool true) ∧ Below w.heap.size w w' := by
  go_enter Try.func9, Try.ntmps9
  go_wp2_with fail
  refine (head_any _).mono ?_
  rintro e w1 ⟨rfl, hb1⟩
  have hs1 := hb1.size; (try simp at hs1)
  have O1 : Own w (w.heap.size + 1) w1 [(w.heap.size, 0, .int .i64 a), (w.heap.size, 1, .int .i64 l), (w.heap.size, 2, .int .i64 u), (w.heap.size, 3, .int .i64 d)] := (by (repeat' (first | (with_reducible assumption) | (with_reducible exact Below.refl _ _) | (with_reducible exact Cels.nil _) | (with_reducible refine Cels.cons ?_ ?_) | (with_reducible refine Own.mk ?_ ?_ ?_ ?_) | ((with_reducible refine Cel.new ?_ rfl); first | (with_reducible rfl) | omega | (simp; done) | (simp; omega)) | (with_reducible refine Cel.alloc ?_ _) | (with_reducible refine Cel.drew ?_) | (with_reducible refine Cel.setS ?_ _) | (with_reducible refine Has.set ?_ _ _) | (with_reducible exact Has.of (by assumption)) | (with_reducible refine Cel.setO ?_ ?_ _) | (with_reducible refine Cel.keep (by assumption) ?_) | (with_reducible refine Below.alloc ?_ ?_ _) | (with_reducible refine Below.drew ?_) | (with_reducible refine Below.setCell ?_ ?_ _) | (with_reducible refine below_keep ?_ ?_ (by assumption)) | omega | (simp; done) | (simp; omega))))
  have hB1 := O1.below; have hz1 := O1.size; have hl1 := O1.le; have S1_0 : Cel w1 (w.heap.size) 0 (.int .i64 a) := O1.cels.1; have S1_1 : Cel w1 (w.heap.size) 1 (.int .i64 l) := O1.cels.2.1; have S1_2 : Cel w1 (w.heap.size) 2 (.int .i64 u) := O1.cels.2.2.1; have S1_3 : Cel w1 (w.heap.size) 3 (.int .i64 d) := O1.cels.2.2.2.1
  go_wp2_with fail
  refine (true_any a l u d a _).mono ?_
  rintro e w2 ⟨rfl, hb2⟩
  have hs2 := hb2.size; (try simp at hs2)
  have O2 : Own w (w.heap.size + 1) w2 [(w.heap.size, 0, .int .i64 a), (w.heap.size, 1, .int .i64 l), (w.heap.size, 2, .int .i64 u), (w.heap.size, 3, .int .i64 d)] := (by (repeat' (first | (with_reducible assumption) | (with_reducible exact Below.refl _ _) | (with_reducible exact Cels.nil _) | (with_reducible refine Cels.cons ?_ ?_) | (with_reducible refine Own.mk ?_ ?_ ?_ ?_) | ((with_reducible refine Cel.new ?_ rfl); first | (with_reducible rfl) | omega | (simp; done) | (simp; omega)) | (with_reducible refine Cel.alloc ?_ _) | (with_reducible refine Cel.drew ?_) | (with_reducible refine Cel.setS ?_ _) | (with_reducible refine Has.set ?_ _ _) | (with_reducible exact Has.of (by assumption)) | (with_reducible refine Cel.setO ?_ ?_ _) | (with_reducible refine Cel.keep (by assumption) ?_) | (with_reducible refine Below.alloc ?_ ?_ _) | (with_reducible refine Below.drew ?_) | (with_reducible refine Below.setCell ?_ ?_ _) | (with_reducible refine below_keep ?_ ?_ (by assumption)) | omega | (simp; done) | (simp; omega))))
  have hB2 := O2.below; have hz2 := O2.size; have hl2 := O2.le; have S2_0 : Cel w2 (w.heap.size) 0 (.int .i64 a) := O2.cels.1; have S2_1 : Cel w2 (w.heap.size) 1 (.int .i64 l) := O2.cels.2.1; have S2_2 : Cel w2 (w.heap.size) 2 (.int .i64 u) := O2.cels.2.2.1; have S2_3 : Cel w2 (w.heap.size) 3 (.int .i64 d) := O2.cels.2.2.2.1
  clear O1 S1_0 S1_1 S1_2 S1_3
  go_wp2_with fail
  refine (true_any a l u d r _).mono ?_
  rintro e w3 ⟨rfl, hb3⟩
  have hs3 := hb3.size; (try simp at hs3)
  have O3 : Own w (w2.heap.size + 1) w3 [(w2.heap.size, 0, .int .i64 (tLo a l u d a)), (w2.heap.size, 1, .int .i64 (tHi a l u d a))] := (by (repeat' (first | (with_reducible assumption) | (with_reducible exact Below.refl _ _) | (with_reducible exact Cels.nil _) | (with_reducible refine Cels.cons ?_ ?_) | (with_reducible refine Own.mk ?_ ?_ ?_ ?_) | ((with_reducible refine Cel.new ?_ rfl); first | (with_reducible rfl) | omega | (simp; done) | (simp; omega)) | (with_reducible refine Cel.alloc ?_ _) | (with_reducible refine Cel.drew ?_) | (with_reducible refine Cel.setS ?_ _) | (with_reducible refine Has.set ?_ _ _) | (with_reducible exact Has.of (by assumption)) | (with_reducible refine Cel.setO ?_ ?_ _) | (with_reducible refine Cel.keep (by assumption) ?_) | (with_reducible refine Below.alloc ?_ ?_ _) | (with_reducible refine Below.drew ?_) | (with_reducible refine Below.setCell ?_ ?_ _) | (with_reducible refine below_keep ?_ ?_ (by assumption)) | omega | (simp; done) | (simp; omega))))
  have hB3 := O3.below; have hz3 := O3.size; have hl3 := O3.le; have S3_0 : Cel w3 (w2.heap.size) 0 (.int .i64 (tLo a l u d a)) := O3.cels.1; have S3_1 : Cel w3 (w2.heap.size) 1 (.int .i64 (tHi a l u d a)) := O3.cels.2.1
  clear O2 S2_0 S2_1 S2_2 S2_3
  go_wp2
  all_goals first
    | (exfalso; omega)
    | (go_ret; exact ⟨rb (by first | rfl | (simp; done) | (rw [beq_iff_eq, Bool.eq_iff_iff]; simp; omega) | (simp; omega)), by (repeat' (first | (with_reducible assumption) | (with_reducible exact Below.refl _ _) | (with_reducible exact Cels.nil _) | (with_reducible refine Cels.cons ?_ ?_) | (with_reducible refine Own.mk ?_ ?_ ?_ ?_) | ((with_reducible refine Cel.new ?_ rfl); first | (with_reducible rfl) | omega | (simp; done) | (simp; omega)) | (with_reducible refine Cel.alloc ?_ _) | (with_reducible refine Cel.drew ?_) | (with_reducible refine Cel.setS ?_ _) | (with_reducible refine Has.set ?_ _ _) | (with_reducible exact Has.of (by assumption)) | (with_reducible refine Cel.setO ?_ ?_ _) | (with_reducible refine Cel.keep (by assumption) ?_) | (with_reducible refine Below.alloc ?_ ?_ _) | (with_reducible refine Below.drew ?_) | (with_reducible refine Below.setCell ?_ ?_ _) | (with_reducible refine below_keep ?_ ?_ (by assumption)) | omega | (simp; done) | (simp; omega)))⟩)

set_option maxRecDepth 100000 in
set_option maxHeartbeats 4000000 in
theorem law7_e4 (a l u d f r t : Int) (w : World) (h1 : tE a l u d a = 4) : Calls Try.prog 9 #[ck a l u d, .int .i64 f, .int .i64 r, .int .i64 t] w fun e w' => e = .returned (.bool true) ∧ Below w.heap.size w w' := by
  go_enter Try.func9, Try.ntmps9
  go_wp2_with fail
  refine (head_any _).mono ?_
  rintro e w1 ⟨rfl, hb1⟩
  have hs1 := hb1.size; (try simp at hs1)
  have O1 : Own w (w.heap.size + 1) w1 [(w.heap.size, 0, .int .i64 a), (w.heap.size, 1, .int .i64 l), (w.heap.size, 2, .int .i64 u), (w.heap.size, 3, .int .i64 d)] := (by (repeat' (first | (with_reducible assumption) | (with_reducible exact Below.refl _ _) | (with_reducible exact Cels.nil _) | (with_reducible refine Cels.cons ?_ ?_) | (with_reducible refine Own.mk ?_ ?_ ?_ ?_) | ((with_reducible refine Cel.new ?_ rfl); first | (with_reducible rfl) | omega | (simp; done) | (simp; omega)) | (with_reducible refine Cel.alloc ?_ _) | (with_reducible refine Cel.drew ?_) | (with_reducible refine Cel.setS ?_ _) | (with_reducible refine Has.set ?_ _ _) | (with_reducible exact Has.of (by assumption)) | (with_reducible refine Cel.setO ?_ ?_ _) | (with_reducible refine Cel.keep (by assumption) ?_) | (with_reducible refine Below.alloc ?_ ?_ _) | (with_reducible refine Below.drew ?_) | (with_reducible refine Below.setCell ?_ ?_ _) | (with_reducible refine below_keep ?_ ?_ (by assumption)) | omega | (simp; done) | (simp; omega))))
  have hB1 := O1.below; have hz1 := O1.size; have hl1 := O1.le; have S1_0 : Cel w1 (w.heap.size) 0 (.int .i64 a) := O1.cels.1; have S1_1 : Cel w1 (w.heap.size) 1 (.int .i64 l) := O1.cels.2.1; have S1_2 : Cel w1 (w.heap.size) 2 (.int .i64 u) := O1.cels.2.2.1; have S1_3 : Cel w1 (w.heap.size) 3 (.int .i64 d) := O1.cels.2.2.2.1
  go_wp2_with fail
  refine (true_any a l u d a _).mono ?_
  rintro e w2 ⟨rfl, hb2⟩
  have hs2 := hb2.size; (try simp at hs2)
  have O2 : Own w (w.heap.size + 1) w2 [(w.heap.size, 0, .int .i64 a), (w.heap.size, 1, .int .i64 l), (w.heap.size, 2, .int .i64 u), (w.heap.size, 3, .int .i64 d)] := (by (repeat' (first | (with_reducible assumption) | (with_reducible exact Below.refl _ _) | (with_reducible exact Cels.nil _) | (with_reducible refine Cels.cons ?_ ?_) | (with_reducible refine Own.mk ?_ ?_ ?_ ?_) | ((with_reducible refine Cel.new ?_ rfl); first | (with_reducible rfl) | omega | (simp; done) | (simp; omega)) | (with_reducible refine Cel.alloc ?_ _) | (with_reducible refine Cel.drew ?_) | (with_reducible refine Cel.setS ?_ _) | (with_reducible refine Has.set ?_ _ _) | (with_reducible exact Has.of (by assumption)) | (with_reducible refine Cel.setO ?_ ?_ _) | (with_reducible refine Cel.keep (by assumption) ?_) | (with_reducible refine Below.alloc ?_ ?_ _) | (with_reducible refine Below.drew ?_) | (with_reducible refine Below.setCell ?_ ?_ _) | (with_reducible refine below_keep ?_ ?_ (by assumption)) | omega | (simp; done) | (simp; omega))))
  have hB2 := O2.below; have hz2 := O2.size; have hl2 := O2.le; have S2_0 : Cel w2 (w.heap.size) 0 (.int .i64 a) := O2.cels.1; have S2_1 : Cel w2 (w.heap.size) 1 (.int .i64 l) := O2.cels.2.1; have S2_2 : Cel w2 (w.heap.size) 2 (.int .i64 u) := O2.cels.2.2.1; have S2_3 : Cel w2 (w.heap.size) 3 (.int .i64 d) := O2.cels.2.2.2.1
  clear O1 S1_0 S1_1 S1_2 S1_3
  go_wp2_with fail
  refine (true_any a l u d r _).mono ?_
  rintro e w3 ⟨rfl, hb3⟩
  have hs3 := hb3.size; (try simp at hs3)
  have O3 : Own w (w2.heap.size + 1) w3 [(w2.heap.size, 0, .int .i64 (tLo a l u d a)), (w2.heap.size, 1, .int .i64 (tHi a l u d a))] := (by (repeat' (first | (with_reducible assumption) | (with_reducible exact Below.refl _ _) | (with_reducible exact Cels.nil _) | (with_reducible refine Cels.cons ?_ ?_) | (with_reducible refine Own.mk ?_ ?_ ?_ ?_) | ((with_reducible refine Cel.new ?_ rfl); first | (with_reducible rfl) | omega | (simp; done) | (simp; omega)) | (with_reducible refine Cel.alloc ?_ _) | (with_reducible refine Cel.drew ?_) | (with_reducible refine Cel.setS ?_ _) | (with_reducible refine Has.set ?_ _ _) | (with_reducible exact Has.of (by assumption)) | (with_reducible refine Cel.setO ?_ ?_ _) | (with_reducible refine Cel.keep (by assumption) ?_) | (with_reducible refine Below.alloc ?_ ?_ _) | (with_reducible refine Below.drew ?_) | (with_reducible refine Below.setCell ?_ ?_ _) | (with_reducible refine below_keep ?_ ?_ (by assumption)) | omega | (simp; done) | (simp; omega))))
  have hB3 := O3.below; have hz3 := O3.size; have hl3 := O3.le; have S3_0 : Cel w3 (w2.heap.size) 0 (.int .i64 (tLo a l u d a)) := O3.cels.1; have S3_1 : Cel w3 (w2.heap.size) 1 (.int .i64 (tHi a l u d a)) := O3.cels.2.1
  clear O2 S2_0 S2_1 S2_2 S2_3
  go_wp2
  all_goals first
    | (exfalso; omega)
    | (go_ret; exact ⟨rb (by first | rfl | (simp; done) | (rw [beq_iff_eq, Bool.eq_iff_iff]; simp; omega) | (simp; omega)), by (repeat' (first | (with_reducible assumption) | (with_reducible exact Below.refl _ _) | (with_reducible exact Cels.nil _) | (with_reducible refine Cels.cons ?_ ?_) | (with_reducible refine Own.mk ?_ ?_ ?_ ?_) | ((with_reducible refine Cel.new ?_ rfl); first | (with_reducible rfl) | omega | (simp; done) | (simp; omega)) | (with_reducible refine Cel.alloc ?_ _) | (with_reducible refine Cel.drew ?_) | (with_reducible refine Cel.setS ?_ _) | (with_reducible refine Has.set ?_ _ _) | (with_reducible exact Has.of (by assumption)) | (with_reducible refine Cel.setO ?_ ?_ _) | (with_reducible refine Cel.keep (by assumption) ?_) | (with_reducible refine Below.alloc ?_ ?_ _) | (with_reducible refine Below.drew ?_) | (with_reducible refine Below.setCell ?_ ?_ _) | (with_reducible refine below_keep ?_ ?_ (by assumption)) | omega | (simp; done) | (simp; omega)))⟩)

set_option maxRecDepth 100000 in
set_option maxHeartbeats 4000000 in
theorem law7_r1 (a l u d f r t : Int) (w : World) (h1 : tE a l u d a = 0) (h2 : tE a l u d r = 1) : Calls Try.prog 9 #[ck a l u d, .int .i64 f, .int .i64 r, .int .i64 t] w fun e w' => e = .returned (.bool true) ∧ Below w.heap.size w w' := by
  go_enter Try.func9, Try.ntmps9
  go_wp2_with fail
  refine (head_any _).mono ?_
  rintro e w1 ⟨rfl, hb1⟩
  have hs1 := hb1.size; (try simp at hs1)
  have O1 : Own w (w.heap.size + 1) w1 [(w.heap.size, 0, .int .i64 a), (w.heap.size, 1, .int .i64 l), (w.heap.size, 2, .int .i64 u), (w.heap.size, 3, .int .i64 d)] := (by (repeat' (first | (with_reducible assumption) | (with_reducible exact Below.refl _ _) | (with_reducible exact Cels.nil _) | (with_reducible refine Cels.cons ?_ ?_) | (with_reducible refine Own.mk ?_ ?_ ?_ ?_) | ((with_reducible refine Cel.new ?_ rfl); first | (with_reducible rfl) | omega | (simp; done) | (simp; omega)) | (with_reducible refine Cel.alloc ?_ _) | (with_reducible refine Cel.drew ?_) | (with_reducible refine Cel.setS ?_ _) | (with_reducible refine Has.set ?_ _ _) | (with_reducible exact Has.of (by assumption)) | (with_reducible refine Cel.setO ?_ ?_ _) | (with_reducible refine Cel.keep (by assumption) ?_) | (with_reducible refine Below.alloc ?_ ?_ _) | (with_reducible refine Below.drew ?_) | (with_reducible refine Below.setCell ?_ ?_ _) | (with_reducible refine below_keep ?_ ?_ (by assumption)) | omega | (simp; done) | (simp; omega))))
  have hB1 := O1.below; have hz1 := O1.size; have hl1 := O1.le; have S1_0 : Cel w1 (w.heap.size) 0 (.int .i64 a) := O1.cels.1; have S1_1 : Cel w1 (w.heap.size) 1 (.int .i64 l) := O1.cels.2.1; have S1_2 : Cel w1 (w.heap.size) 2 (.int .i64 u) := O1.cels.2.2.1; have S1_3 : Cel w1 (w.heap.size) 3 (.int .i64 d) := O1.cels.2.2.2.1
  go_wp2_with fail
  refine (true_any a l u d a _).mono ?_
  rintro e w2 ⟨rfl, hb2⟩
  have hs2 := hb2.size; (try simp at hs2)
  have O2 : Own w (w.heap.size + 1) w2 [(w.heap.size, 0, .int .i64 a), (w.heap.size, 1, .int .i64 l), (w.heap.size, 2, .int .i64 u), (w.heap.size, 3, .int .i64 d)] := (by (repeat' (first | (with_reducible assumption) | (with_reducible exact Below.refl _ _) | (with_reducible exact Cels.nil _) | (with_reducible refine Cels.cons ?_ ?_) | (with_reducible refine Own.mk ?_ ?_ ?_ ?_) | ((with_reducible refine Cel.new ?_ rfl); first | (with_reducible rfl) | omega | (simp; done) | (simp; omega)) | (with_reducible refine Cel.alloc ?_ _) | (with_reducible refine Cel.drew ?_) | (with_reducible refine Cel.setS ?_ _) | (with_reducible refine Has.set ?_ _ _) | (with_reducible exact Has.of (by assumption)) | (with_reducible refine Cel.setO ?_ ?_ _) | (with_reducible refine Cel.keep (by assumption) ?_) | (with_reducible refine Below.alloc ?_ ?_ _) | (with_reducible refine Below.drew ?_) | (with_reducible refine Below.setCell ?_ ?_ _) | (with_reducible refine below_keep ?_ ?_ (by assumption)) | omega | (simp; done) | (simp; omega))))
  have hB2 := O2.below; have hz2 := O2.size; have hl2 := O2.le; have S2_0 : Cel w2 (w.heap.size) 0 (.int .i64 a) := O2.cels.1; have S2_1 : Cel w2 (w.heap.size) 1 (.int .i64 l) := O2.cels.2.1; have S2_2 : Cel w2 (w.heap.size) 2 (.int .i64 u) := O2.cels.2.2.1; have S2_3 : Cel w2 (w.heap.size) 3 (.int .i64 d) := O2.cels.2.2.2.1
  clear O1 S1_0 S1_1 S1_2 S1_3
  go_wp2_with fail
  refine (true_any a l u d r _).mono ?_
  rintro e w3 ⟨rfl, hb3⟩
  have hs3 := hb3.size; (try simp at hs3)
  have O3 : Own w (w2.heap.size + 1) w3 [(w2.heap.size, 0, .int .i64 (tLo a l u d a)), (w2.heap.size, 1, .int .i64 (tHi a l u d a))] := (by (repeat' (first | (with_reducible assumption) | (with_reducible exact Below.refl _ _) | (with_reducible exact Cels.nil _) | (with_reducible refine Cels.cons ?_ ?_) | (with_reducible refine Own.mk ?_ ?_ ?_ ?_) | ((with_reducible refine Cel.new ?_ rfl); first | (with_reducible rfl) | omega | (simp; done) | (simp; omega)) | (with_reducible refine Cel.alloc ?_ _) | (with_reducible refine Cel.drew ?_) | (with_reducible refine Cel.setS ?_ _) | (with_reducible refine Has.set ?_ _ _) | (with_reducible exact Has.of (by assumption)) | (with_reducible refine Cel.setO ?_ ?_ _) | (with_reducible refine Cel.keep (by assumption) ?_) | (with_reducible refine Below.alloc ?_ ?_ _) | (with_reducible refine Below.drew ?_) | (with_reducible refine Below.setCell ?_ ?_ _) | (with_reducible refine below_keep ?_ ?_ (by assumption)) | omega | (simp; done) | (simp; omega))))
  have hB3 := O3.below; have hz3 := O3.size; have hl3 := O3.le; have S3_0 : Cel w3 (w2.heap.size) 0 (.int .i64 (tLo a l u d a)) := O3.cels.1; have S3_1 : Cel w3 (w2.heap.size) 1 (.int .i64 (tHi a l u d a)) := O3.cels.2.1
  clear O2 S2_0 S2_1 S2_2 S2_3
  go_wp2
  all_goals first
    | (exfalso; omega)
    | (go_ret; exact ⟨rb (by first | rfl | (simp; done) | (rw [beq_iff_eq, Bool.eq_iff_iff]; simp; omega) | (simp; omega)), by (repeat' (first | (with_reducible assumption) | (with_reducible exact Below.refl _ _) | (with_reducible exact Cels.nil _) | (with_reducible refine Cels.cons ?_ ?_) | (with_reducible refine Own.mk ?_ ?_ ?_ ?_) | ((with_reducible refine Cel.new ?_ rfl); first | (with_reducible rfl) | omega | (simp; done) | (simp; omega)) | (with_reducible refine Cel.alloc ?_ _) | (with_reducible refine Cel.drew ?_) | (with_reducible refine Cel.setS ?_ _) | (with_reducible refine Has.set ?_ _ _) | (with_reducible exact Has.of (by assumption)) | (with_reducible refine Cel.setO ?_ ?_ _) | (with_reducible refine Cel.keep (by assumption) ?_) | (with_reducible refine Below.alloc ?_ ?_ _) | (with_reducible refine Below.drew ?_) | (with_reducible refine Below.setCell ?_ ?_ _) | (with_reducible refine below_keep ?_ ?_ (by assumption)) | omega | (simp; done) | (simp; omega)))⟩)

set_option maxRecDepth 100000 in
set_option maxHeartbeats 4000000 in
theorem law7_a0 (a l u d f r t : Int) (w : World) (h1 : tE a l u d a = 0) (h2 : tE a l u d r = 0) (h3 : f < tLo a l u d a) : Calls Try.prog 9 #[ck a l u d, .int .i64 f, .int .i64 r, .int .i64 t] w fun e w' => e = .returned (.bool true) ∧ Below w.heap.size w w' := by
  go_enter Try.func9, Try.ntmps9
  go_wp2_with fail
  refine (head_any _).mono ?_
  rintro e w1 ⟨rfl, hb1⟩
  have hs1 := hb1.size; (try simp at hs1)
  have O1 : Own w (w.heap.size + 1) w1 [(w.heap.size, 0, .int .i64 a), (w.heap.size, 1, .int .i64 l), (w.heap.size, 2, .int .i64 u), (w.heap.size, 3, .int .i64 d)] := (by (repeat' (first | (with_reducible assumption) | (with_reducible exact Below.refl _ _) | (with_reducible exact Cels.nil _) | (with_reducible refine Cels.cons ?_ ?_) | (with_reducible refine Own.mk ?_ ?_ ?_ ?_) | ((with_reducible refine Cel.new ?_ rfl); first | (with_reducible rfl) | omega | (simp; done) | (simp; omega)) | (with_reducible refine Cel.alloc ?_ _) | (with_reducible refine Cel.drew ?_) | (with_reducible refine Cel.setS ?_ _) | (with_reducible refine Has.set ?_ _ _) | (with_reducible exact Has.of (by assumption)) | (with_reducible refine Cel.setO ?_ ?_ _) | (with_reducible refine Cel.keep (by assumption) ?_) | (with_reducible refine Below.alloc ?_ ?_ _) | (with_reducible refine Below.drew ?_) | (with_reducible refine Below.setCell ?_ ?_ _) | (with_reducible refine below_keep ?_ ?_ (by assumption)) | omega | (simp; done) | (simp; omega))))
  have hB1 := O1.below; have hz1 := O1.size; have hl1 := O1.le; have S1_0 : Cel w1 (w.heap.size) 0 (.int .i64 a) := O1.cels.1; have S1_1 : Cel w1 (w.heap.size) 1 (.int .i64 l) := O1.cels.2.1; have S1_2 : Cel w1 (w.heap.size) 2 (.int .i64 u) := O1.cels.2.2.1; have S1_3 : Cel w1 (w.heap.size) 3 (.int .i64 d) := O1.cels.2.2.2.1
  go_wp2_with fail
  refine (true_any a l u d a _).mono ?_
  rintro e w2 ⟨rfl, hb2⟩
  have hs2 := hb2.size; (try simp at hs2)
  have O2 : Own w (w.heap.size + 1) w2 [(w.heap.size, 0, .int .i64 a), (w.heap.size, 1, .int .i64 l), (w.heap.size, 2, .int .i64 u), (w.heap.size, 3, .int .i64 d)] := (by (repeat' (first | (with_reducible assumption) | (with_reducible exact Below.refl _ _) | (with_reducible exact Cels.nil _) | (with_reducible refine Cels.cons ?_ ?_) | (with_reducible refine Own.mk ?_ ?_ ?_ ?_) | ((with_reducible refine Cel.new ?_ rfl); first | (with_reducible rfl) | omega | (simp; done) | (simp; omega)) | (with_reducible refine Cel.alloc ?_ _) | (with_reducible refine Cel.drew ?_) | (with_reducible refine Cel.setS ?_ _) | (with_reducible refine Has.set ?_ _ _) | (with_reducible exact Has.of (by assumption)) | (with_reducible refine Cel.setO ?_ ?_ _) | (with_reducible refine Cel.keep (by assumption) ?_) | (with_reducible refine Below.alloc ?_ ?_ _) | (with_reducible refine Below.drew ?_) | (with_reducible refine Below.setCell ?_ ?_ _) | (with_reducible refine below_keep ?_ ?_ (by assumption)) | omega | (simp; done) | (simp; omega))))
  have hB2 := O2.below; have hz2 := O2.size; have hl2 := O2.le; have S2_0 : Cel w2 (w.heap.size) 0 (.int .i64 a) := O2.cels.1; have S2_1 : Cel w2 (w.heap.size) 1 (.int .i64 l) := O2.cels.2.1; have S2_2 : Cel w2 (w.heap.size) 2 (.int .i64 u) := O2.cels.2.2.1; have S2_3 : Cel w2 (w.heap.size) 3 (.int .i64 d) := O2.cels.2.2.2.1
  clear O1 S1_0 S1_1 S1_2 S1_3
  go_wp2_with fail
  refine (true_any a l u d r _).mono ?_
  rintro e w3 ⟨rfl, hb3⟩
  have hs3 := hb3.size; (try simp at hs3)
  have O3 : Own w (w2.heap.size + 1) w3 [(w2.heap.size, 0, .int .i64 (tLo a l u d a)), (w2.heap.size, 1, .int .i64 (tHi a l u d a))] := (by (repeat' (first | (with_reducible assumption) | (with_reducible exact Below.refl _ _) | (with_reducible exact Cels.nil _) | (with_reducible refine Cels.cons ?_ ?_) | (with_reducible refine Own.mk ?_ ?_ ?_ ?_) | ((with_reducible refine Cel.new ?_ rfl); first | (with_reducible rfl) | omega | (simp; done) | (simp; omega)) | (with_reducible refine Cel.alloc ?_ _) | (with_reducible refine Cel.drew ?_) | (with_reducible refine Cel.setS ?_ _) | (with_reducible refine Has.set ?_ _ _) | (with_reducible exact Has.of (by assumption)) | (with_reducible refine Cel.setO ?_ ?_ _) | (with_reducible refine Cel.keep (by assumption) ?_) | (with_reducible refine Below.alloc ?_ ?_ _) | (with_reducible refine Below.drew ?_) | (with_reducible refine Below.setCell ?_ ?_ _) | (with_reducible refine below_keep ?_ ?_ (by assumption)) | omega | (simp; done) | (simp; omega))))
  have hB3 := O3.below; have hz3 := O3.size; have hl3 := O3.le; have S3_0 : Cel w3 (w2.heap.size) 0 (.int .i64 (tLo a l u d a)) := O3.cels.1; have S3_1 : Cel w3 (w2.heap.size) 1 (.int .i64 (tHi a l u d a)) := O3.cels.2.1
  clear O2 S2_0 S2_1 S2_2 S2_3
  go_wp2
  all_goals first
    | (exfalso; omega)
    | (go_ret; exact ⟨rb (by first | rfl | (simp; done) | (rw [beq_iff_eq, Bool.eq_iff_iff]; simp; omega) | (simp; omega)), by (repeat' (first | (with_reducible assumption) | (with_reducible exact Below.refl _ _) | (with_reducible exact Cels.nil _) | (with_reducible refine Cels.cons ?_ ?_) | (with_reducible refine Own.mk ?_ ?_ ?_ ?_) | ((with_reducible refine Cel.new ?_ rfl); first | (with_reducible rfl) | omega | (simp; done) | (simp; omega)) | (with_reducible refine Cel.alloc ?_ _) | (with_reducible refine Cel.drew ?_) | (with_reducible refine Cel.setS ?_ _) | (with_reducible refine Has.set ?_ _ _) | (with_reducible exact Has.of (by assumption)) | (with_reducible refine Cel.setO ?_ ?_ _) | (with_reducible refine Cel.keep (by assumption) ?_) | (with_reducible refine Below.alloc ?_ ?_ _) | (with_reducible refine Below.drew ?_) | (with_reducible refine Below.setCell ?_ ?_ _) | (with_reducible refine below_keep ?_ ?_ (by assumption)) | omega | (simp; done) | (simp; omega)))⟩)

set_option maxRecDepth 100000 in
set_option maxHeartbeats 4000000 in
theorem law7_b0 (a l u d f r t : Int) (w : World) (h1 : tE a l u d a = 0) (h2 : tE a l u d r = 0) (h3 : tLo a l u d a ≤ f) (h4 : tHi a l u d a < f) : Calls Try.prog 9 #[ck a l u d, .int .i64 f, .int .i64 r, .int .i64 t] w fun e w' => e = .returned (.bool true) ∧ Below w.heap.size w w' := by
  go_enter Try.func9, Try.ntmps9
  go_wp2_with fail
  refine (head_any _).mono ?_
  rintro e w1 ⟨rfl, hb1⟩
  have hs1 := hb1.size; (try simp at hs1)
  have O1 : Own w (w.heap.size + 1) w1 [(w.heap.size, 0, .int .i64 a), (w.heap.size, 1, .int .i64 l), (w.heap.size, 2, .int .i64 u), (w.heap.size, 3, .int .i64 d)] := (by (repeat' (first | (with_reducible assumption) | (with_reducible exact Below.refl _ _) | (with_reducible exact Cels.nil _) | (with_reducible refine Cels.cons ?_ ?_) | (with_reducible refine Own.mk ?_ ?_ ?_ ?_) | ((with_reducible refine Cel.new ?_ rfl); first | (with_reducible rfl) | omega | (simp; done) | (simp; omega)) | (with_reducible refine Cel.alloc ?_ _) | (with_reducible refine Cel.drew ?_) | (with_reducible refine Cel.setS ?_ _) | (with_reducible refine Has.set ?_ _ _) | (with_reducible exact Has.of (by assumption)) | (with_reducible refine Cel.setO ?_ ?_ _) | (with_reducible refine Cel.keep (by assumption) ?_) | (with_reducible refine Below.alloc ?_ ?_ _) | (with_reducible refine Below.drew ?_) | (with_reducible refine Below.setCell ?_ ?_ _) | (with_reducible refine below_keep ?_ ?_ (by assumption)) | omega | (simp; done) | (simp; omega))))
  have hB1 := O1.below; have hz1 := O1.size; have hl1 := O1.le; have S1_0 : Cel w1 (w.heap.size) 0 (.int .i64 a) := O1.cels.1; have S1_1 : Cel w1 (w.heap.size) 1 (.int .i64 l) := O1.cels.2.1; have S1_2 : Cel w1 (w.heap.size) 2 (.int .i64 u) := O1.cels.2.2.1; have S1_3 : Cel w1 (w.heap.size) 3 (.int .i64 d) := O1.cels.2.2.2.1
  go_wp2_with fail
  refine (true_any a l u d a _).mono ?_
  rintro e w2 ⟨rfl, hb2⟩
  have hs2 := hb2.size; (try simp at hs2)
  have O2 : Own w (w.heap.size + 1) w2 [(w.heap.size, 0, .int .i64 a), (w.heap.size, 1, .int .i64 l), (w.heap.size, 2, .int .i64 u), (w.heap.size, 3, .int .i64 d)] := (by (repeat' (first | (with_reducible assumption) | (with_reducible exact Below.refl _ _) | (with_reducible exact Cels.nil _) | (with_reducible refine Cels.cons ?_ ?_) | (with_reducible refine Own.mk ?_ ?_ ?_ ?_) | ((with_reducible refine Cel.new ?_ rfl); first | (with_reducible rfl) | omega | (simp; done) | (simp; omega)) | (with_reducible refine Cel.alloc ?_ _) | (with_reducible refine Cel.drew ?_) | (with_reducible refine Cel.setS ?_ _) | (with_reducible refine Has.set ?_ _ _) | (with_reducible exact Has.of (by assumption)) | (with_reducible refine Cel.setO ?_ ?_ _) | (with_reducible refine Cel.keep (by assumption) ?_) | (with_reducible refine Below.alloc ?_ ?_ _) | (with_reducible refine Below.drew ?_) | (with_reducible refine Below.setCell ?_ ?_ _) | (with_reducible refine below_keep ?_ ?_ (by assumption)) | omega | (simp; done) | (simp; omega))))
  have hB2 := O2.below; have hz2 := O2.size; have hl2 := O2.le; have S2_0 : Cel w2 (w.heap.size) 0 (.int .i64 a) := O2.cels.1; have S2_1 : Cel w2 (w.heap.size) 1 (.int .i64 l) := O2.cels.2.1; have S2_2 : Cel w2 (w.heap.size) 2 (.int .i64 u) := O2.cels.2.2.1; have S2_3 : Cel w2 (w.heap.size) 3 (.int .i64 d) := O2.cels.2.2.2.1
  clear O1 S1_0 S1_1 S1_2 S1_3
  go_wp2_with fail
  refine (true_any a l u d r _).mono ?_
  rintro e w3 ⟨rfl, hb3⟩
  have hs3 := hb3.size; (try simp at hs3)
  have O3 : Own w (w2.heap.size + 1) w3 [(w2.heap.size, 0, .int .i64 (tLo a l u d a)), (w2.heap.size, 1, .int .i64 (tHi a l u d a))] := (by (repeat' (first | (with_reducible assumption) | (with_reducible exact Below.refl _ _) | (with_reducible exact Cels.nil _) | (with_reducible refine Cels.cons ?_ ?_) | (with_reducible refine Own.mk ?_ ?_ ?_ ?_) | ((with_reducible refine Cel.new ?_ rfl); first | (with_reducible rfl) | omega | (simp; done) | (simp; omega)) | (with_reducible refine Cel.alloc ?_ _) | (with_reducible refine Cel.drew ?_) | (with_reducible refine Cel.setS ?_ _) | (with_reducible refine Has.set ?_ _ _) | (with_reducible exact Has.of (by assumption)) | (with_reducible refine Cel.setO ?_ ?_ _) | (with_reducible refine Cel.keep (by assumption) ?_) | (with_reducible refine Below.alloc ?_ ?_ _) | (with_reducible refine Below.drew ?_) | (with_reducible refine Below.setCell ?_ ?_ _) | (with_reducible refine below_keep ?_ ?_ (by assumption)) | omega | (simp; done) | (simp; omega))))
  have hB3 := O3.below; have hz3 := O3.size; have hl3 := O3.le; have S3_0 : Cel w3 (w2.heap.size) 0 (.int .i64 (tLo a l u d a)) := O3.cels.1; have S3_1 : Cel w3 (w2.heap.size) 1 (.int .i64 (tHi a l u d a)) := O3.cels.2.1
  clear O2 S2_0 S2_1 S2_2 S2_3
  go_wp2
  all_goals first
    | (exfalso; omega)
    | (go_ret; exact ⟨rb (by first | rfl | (simp; done) | (rw [beq_iff_eq, Bool.eq_iff_iff]; simp; omega) | (simp; omega)), by (repeat' (first | (with_reducible assumption) | (with_reducible exact Below.refl _ _) | (with_reducible exact Cels.nil _) | (with_reducible refine Cels.cons ?_ ?_) | (with_reducible refine Own.mk ?_ ?_ ?_ ?_) | ((with_reducible refine Cel.new ?_ rfl); first | (with_reducible rfl) | omega | (simp; done) | (simp; omega)) | (with_reducible refine Cel.alloc ?_ _) | (with_reducible refine Cel.drew ?_) | (with_reducible refine Cel.setS ?_ _) | (with_reducible refine Has.set ?_ _ _) | (with_reducible exact Has.of (by assumption)) | (with_reducible refine Cel.setO ?_ ?_ _) | (with_reducible refine Cel.keep (by assumption) ?_) | (with_reducible refine Below.alloc ?_ ?_ _) | (with_reducible refine Below.drew ?_) | (with_reducible refine Below.setCell ?_ ?_ _) | (with_reducible refine below_keep ?_ ?_ (by assumption)) | omega | (simp; done) | (simp; omega)))⟩)

set_option maxRecDepth 100000 in
set_option maxHeartbeats 4000000 in
theorem law7_c0 (a l u d f r t : Int) (w : World) (h1 : tE a l u d a = 0) (h2 : tE a l u d r = 0) (h3 : tLo a l u d a ≤ f) (h4 : f ≤ tHi a l u d a) (h5 : t < 0) : Calls Try.prog 9 #[ck a l u d, .int .i64 f, .int .i64 r, .int .i64 t] w fun e w' => e = .returned (.bool true) ∧ Below w.heap.size w w' := by
  go_enter Try.func9, Try.ntmps9
  go_wp2_with fail
  refine (head_any _).mono ?_
  rintro e w1 ⟨rfl, hb1⟩
  have hs1 := hb1.size; (try simp at hs1)
  have O1 : Own w (w.heap.size + 1) w1 [(w.heap.size, 0, .int .i64 a), (w.heap.size, 1, .int .i64 l), (w.heap.size, 2, .int .i64 u), (w.heap.size, 3, .int .i64 d)] := (by (repeat' (first | (with_reducible assumption) | (with_reducible exact Below.refl _ _) | (with_reducible exact Cels.nil _) | (with_reducible refine Cels.cons ?_ ?_) | (with_reducible refine Own.mk ?_ ?_ ?_ ?_) | ((with_reducible refine Cel.new ?_ rfl); first | (with_reducible rfl) | omega | (simp; done) | (simp; omega)) | (with_reducible refine Cel.alloc ?_ _) | (with_reducible refine Cel.drew ?_) | (with_reducible refine Cel.setS ?_ _) | (with_reducible refine Has.set ?_ _ _) | (with_reducible exact Has.of (by assumption)) | (with_reducible refine Cel.setO ?_ ?_ _) | (with_reducible refine Cel.keep (by assumption) ?_) | (with_reducible refine Below.alloc ?_ ?_ _) | (with_reducible refine Below.drew ?_) | (with_reducible refine Below.setCell ?_ ?_ _) | (with_reducible refine below_keep ?_ ?_ (by assumption)) | omega | (simp; done) | (simp; omega))))
  have hB1 := O1.below; have hz1 := O1.size; have hl1 := O1.le; have S1_0 : Cel w1 (w.heap.size) 0 (.int .i64 a) := O1.cels.1; have S1_1 : Cel w1 (w.heap.size) 1 (.int .i64 l) := O1.cels.2.1; have S1_2 : Cel w1 (w.heap.size) 2 (.int .i64 u) := O1.cels.2.2.1; have S1_3 : Cel w1 (w.heap.size) 3 (.int .i64 d) := O1.cels.2.2.2.1
  go_wp2_with fail
  refine (true_any a l u d a _).mono ?_
  rintro e w2 ⟨rfl, hb2⟩
  have hs2 := hb2.size; (try simp at hs2)
  have O2 : Own w (w.heap.size + 1) w2 [(w.heap.size, 0, .int .i64 a), (w.heap.size, 1, .int .i64 l), (w.heap.size, 2, .int .i64 u), (w.heap.size, 3, .int .i64 d)] := (by (repeat' (first | (with_reducible assumption) | (with_reducible exact Below.refl _ _) | (with_reducible exact Cels.nil _) | (with_reducible refine Cels.cons ?_ ?_) | (with_reducible refine Own.mk ?_ ?_ ?_ ?_) | ((with_reducible refine Cel.new ?_ rfl); first | (with_reducible rfl) | omega | (simp; done) | (simp; omega)) | (with_reducible refine Cel.alloc ?_ _) | (with_reducible refine Cel.drew ?_) | (with_reducible refine Cel.setS ?_ _) | (with_reducible refine Has.set ?_ _ _) | (with_reducible exact Has.of (by assumption)) | (with_reducible refine Cel.setO ?_ ?_ _) | (with_reducible refine Cel.keep (by assumption) ?_) | (with_reducible refine Below.alloc ?_ ?_ _) | (with_reducible refine Below.drew ?_) | (with_reducible refine Below.setCell ?_ ?_ _) | (with_reducible refine below_keep ?_ ?_ (by assumption)) | omega | (simp; done) | (simp; omega))))
  have hB2 := O2.below; have hz2 := O2.size; have hl2 := O2.le; have S2_0 : Cel w2 (w.heap.size) 0 (.int .i64 a) := O2.cels.1; have S2_1 : Cel w2 (w.heap.size) 1 (.int .i64 l) := O2.cels.2.1; have S2_2 : Cel w2 (w.heap.size) 2 (.int .i64 u) := O2.cels.2.2.1; have S2_3 : Cel w2 (w.heap.size) 3 (.int .i64 d) := O2.cels.2.2.2.1
  clear O1 S1_0 S1_1 S1_2 S1_3
  go_wp2_with fail
  refine (true_any a l u d r _).mono ?_
  rintro e w3 ⟨rfl, hb3⟩
  have hs3 := hb3.size; (try simp at hs3)
  have O3 : Own w (w2.heap.size + 1) w3 [(w2.heap.size, 0, .int .i64 (tLo a l u d a)), (w2.heap.size, 1, .int .i64 (tHi a l u d a))] := (by (repeat' (first | (with_reducible assumption) | (with_reducible exact Below.refl _ _) | (with_reducible exact Cels.nil _) | (with_reducible refine Cels.cons ?_ ?_) | (with_reducible refine Own.mk ?_ ?_ ?_ ?_) | ((with_reducible refine Cel.new ?_ rfl); first | (with_reducible rfl) | omega | (simp; done) | (simp; omega)) | (with_reducible refine Cel.alloc ?_ _) | (with_reducible refine Cel.drew ?_) | (with_reducible refine Cel.setS ?_ _) | (with_reducible refine Has.set ?_ _ _) | (with_reducible exact Has.of (by assumption)) | (with_reducible refine Cel.setO ?_ ?_ _) | (with_reducible refine Cel.keep (by assumption) ?_) | (with_reducible refine Below.alloc ?_ ?_ _) | (with_reducible refine Below.drew ?_) | (with_reducible refine Below.setCell ?_ ?_ _) | (with_reducible refine below_keep ?_ ?_ (by assumption)) | omega | (simp; done) | (simp; omega))))
  have hB3 := O3.below; have hz3 := O3.size; have hl3 := O3.le; have S3_0 : Cel w3 (w2.heap.size) 0 (.int .i64 (tLo a l u d a)) := O3.cels.1; have S3_1 : Cel w3 (w2.heap.size) 1 (.int .i64 (tHi a l u d a)) := O3.cels.2.1
  clear O2 S2_0 S2_1 S2_2 S2_3
  go_wp2
  all_goals first
    | (exfalso; omega)
    | (go_ret; exact ⟨rb (by first | rfl | (simp; done) | (rw [beq_iff_eq, Bool.eq_iff_iff]; simp; omega) | (simp; omega)), by (repeat' (first | (with_reducible assumption) | (with_reducible exact Below.refl _ _) | (with_reducible exact Cels.nil _) | (with_reducible refine Cels.cons ?_ ?_) | (with_reducible refine Own.mk ?_ ?_ ?_ ?_) | ((with_reducible refine Cel.new ?_ rfl); first | (with_reducible rfl) | omega | (simp; done) | (simp; omega)) | (with_reducible refine Cel.alloc ?_ _) | (with_reducible refine Cel.drew ?_) | (with_reducible refine Cel.setS ?_ _) | (with_reducible refine Has.set ?_ _ _) | (with_reducible exact Has.of (by assumption)) | (with_reducible refine Cel.setO ?_ ?_ _) | (with_reducible refine Cel.keep (by assumption) ?_) | (with_reducible refine Below.alloc ?_ ?_ _) | (with_reducible refine Below.drew ?_) | (with_reducible refine Below.setCell ?_ ?_ _) | (with_reducible refine below_keep ?_ ?_ (by assumption)) | omega | (simp; done) | (simp; omega)))⟩)

set_option maxRecDepth 100000 in
set_option maxHeartbeats 4000000 in
theorem law7_d0 (a l u d f r t : Int) (w : World) (h1 : tE a l u d a = 0) (h2 : tE a l u d r = 0) (h3 : tLo a l u d a ≤ f) (h4 : f ≤ tHi a l u d a) (h5 : 0 ≤ t) (h6 : 10000000 < t) : Calls Try.prog 9 #[ck a l u d, .int .i64 f, .int .i64 r, .int .i64 t] w fun e w' => e = .returned (.bool true) ∧ Below w.heap.size w w' := by
  go_enter Try.func9, Try.ntmps9
  go_wp2_with fail
  refine (head_any _).mono ?_
  rintro e w1 ⟨rfl, hb1⟩
  have hs1 := hb1.size; (try simp at hs1)
  have O1 : Own w (w.heap.size + 1) w1 [(w.heap.size, 0, .int .i64 a), (w.heap.size, 1, .int .i64 l), (w.heap.size, 2, .int .i64 u), (w.heap.size, 3, .int .i64 d)] := (by (repeat' (first | (with_reducible assumption) | (with_reducible exact Below.refl _ _) | (with_reducible exact Cels.nil _) | (with_reducible refine Cels.cons ?_ ?_) | (with_reducible refine Own.mk ?_ ?_ ?_ ?_) | ((with_reducible refine Cel.new ?_ rfl); first | (with_reducible rfl) | omega | (simp; done) | (simp; omega)) | (with_reducible refine Cel.alloc ?_ _) | (with_reducible refine Cel.drew ?_) | (with_reducible refine Cel.setS ?_ _) | (with_reducible refine Has.set ?_ _ _) | (with_reducible exact Has.of (by assumption)) | (with_reducible refine Cel.setO ?_ ?_ _) | (with_reducible refine Cel.keep (by assumption) ?_) | (with_reducible refine Below.alloc ?_ ?_ _) | (with_reducible refine Below.drew ?_) | (with_reducible refine Below.setCell ?_ ?_ _) | (with_reducible refine below_keep ?_ ?_ (by assumption)) | omega | (simp; done) | (simp; omega))))
  have hB1 := O1.below; have hz1 := O1.size; have hl1 := O1.le; have S1_0 : Cel w1 (w.heap.size) 0 (.int .i64 a) := O1.cels.1; have S1_1 : Cel w1 (w.heap.size) 1 (.int .i64 l) := O1.cels.2.1; have S1_2 : Cel w1 (w.heap.size) 2 (.int .i64 u) := O1.cels.2.2.1; have S1_3 : Cel w1 (w.heap.size) 3 (.int .i64 d) := O1.cels.2.2.2.1
  go_wp2_with fail
  refine (true_any a l u d a _).mono ?_
  rintro e w2 ⟨rfl, hb2⟩
  have hs2 := hb2.size; (try simp at hs2)
  have O2 : Own w (w.heap.size + 1) w2 [(w.heap.size, 0, .int .i64 a), (w.heap.size, 1, .int .i64 l), (w.heap.size, 2, .int .i64 u), (w.heap.size, 3, .int .i64 d)] := (by (repeat' (first | (with_reducible assumption) | (with_reducible exact Below.refl _ _) | (with_reducible exact Cels.nil _) | (with_reducible refine Cels.cons ?_ ?_) | (with_reducible refine Own.mk ?_ ?_ ?_ ?_) | ((with_reducible refine Cel.new ?_ rfl); first | (with_reducible rfl) | omega | (simp; done) | (simp; omega)) | (with_reducible refine Cel.alloc ?_ _) | (with_reducible refine Cel.drew ?_) | (with_reducible refine Cel.setS ?_ _) | (with_reducible refine Has.set ?_ _ _) | (with_reducible exact Has.of (by assumption)) | (with_reducible refine Cel.setO ?_ ?_ _) | (with_reducible refine Cel.keep (by assumption) ?_) | (with_reducible refine Below.alloc ?_ ?_ _) | (with_reducible refine Below.drew ?_) | (with_reducible refine Below.setCell ?_ ?_ _) | (with_reducible refine below_keep ?_ ?_ (by assumption)) | omega | (simp; done) | (simp; omega))))
  have hB2 := O2.below; have hz2 := O2.size; have hl2 := O2.le; have S2_0 : Cel w2 (w.heap.size) 0 (.int .i64 a) := O2.cels.1; have S2_1 : Cel w2 (w.heap.size) 1 (.int .i64 l) := O2.cels.2.1; have S2_2 : Cel w2 (w.heap.size) 2 (.int .i64 u) := O2.cels.2.2.1; have S2_3 : Cel w2 (w.heap.size) 3 (.int .i64 d) := O2.cels.2.2.2.1
  clear O1 S1_0 S1_1 S1_2 S1_3
  go_wp2_with fail
  refine (true_any a l u d r _).mono ?_
  rintro e w3 ⟨rfl, hb3⟩
  have hs3 := hb3.size; (try simp at hs3)
  have O3 : Own w (w2.heap.size + 1) w3 [(w2.heap.size, 0, .int .i64 (tLo a l u d a)), (w2.heap.size, 1, .int .i64 (tHi a l u d a))] := (by (repeat' (first | (with_reducible assumption) | (with_reducible exact Below.refl _ _) | (with_reducible exact Cels.nil _) | (with_reducible refine Cels.cons ?_ ?_) | (with_reducible refine Own.mk ?_ ?_ ?_ ?_) | ((with_reducible refine Cel.new ?_ rfl); first | (with_reducible rfl) | omega | (simp; done) | (simp; omega)) | (with_reducible refine Cel.alloc ?_ _) | (with_reducible refine Cel.drew ?_) | (with_reducible refine Cel.setS ?_ _) | (with_reducible refine Has.set ?_ _ _) | (with_reducible exact Has.of (by assumption)) | (with_reducible refine Cel.setO ?_ ?_ _) | (with_reducible refine Cel.keep (by assumption) ?_) | (with_reducible refine Below.alloc ?_ ?_ _) | (with_reducible refine Below.drew ?_) | (with_reducible refine Below.setCell ?_ ?_ _) | (with_reducible refine below_keep ?_ ?_ (by assumption)) | omega | (simp; done) | (simp; omega))))
  have hB3 := O3.below; have hz3 := O3.size; have hl3 := O3.le; have S3_0 : Cel w3 (w2.heap.size) 0 (.int .i64 (tLo a l u d a)) := O3.cels.1; have S3_1 : Cel w3 (w2.heap.size) 1 (.int .i64 (tHi a l u d a)) := O3.cels.2.1
  clear O2 S2_0 S2_1 S2_2 S2_3
  go_wp2
  all_goals first
    | (exfalso; omega)
    | (go_ret; exact ⟨rb (by first | rfl | (simp; done) | (rw [beq_iff_eq, Bool.eq_iff_iff]; simp; omega) | (simp; omega)), by (repeat' (first | (with_reducible assumption) | (with_reducible exact Below.refl _ _) | (with_reducible exact Cels.nil _) | (with_reducible refine Cels.cons ?_ ?_) | (with_reducible refine Own.mk ?_ ?_ ?_ ?_) | ((with_reducible refine Cel.new ?_ rfl); first | (with_reducible rfl) | omega | (simp; done) | (simp; omega)) | (with_reducible refine Cel.alloc ?_ _) | (with_reducible refine Cel.drew ?_) | (with_reducible refine Cel.setS ?_ _) | (with_reducible refine Has.set ?_ _ _) | (with_reducible exact Has.of (by assumption)) | (with_reducible refine Cel.setO ?_ ?_ _) | (with_reducible refine Cel.keep (by assumption) ?_) | (with_reducible refine Below.alloc ?_ ?_ _) | (with_reducible refine Below.drew ?_) | (with_reducible refine Below.setCell ?_ ?_ _) | (with_reducible refine below_keep ?_ ?_ (by assumption)) | omega | (simp; done) | (simp; omega)))⟩)

set_option maxRecDepth 100000 in
set_option maxHeartbeats 4000000 in
theorem law7_g0p (a l u d f r t : Int) (w : World) (h1 : tE a l u d a = 0) (h2 : tE a l u d r = 0) (h3 : tLo a l u d a ≤ f) (h4 : f ≤ tHi a l u d a) (h5 : 0 ≤ t) (h6 : t ≤ 10000000) (a0 : 0 ≤ a) (a1 : a ≤ r) (a2 : r ≤ 10000000) (p0 : 0 ≤ d * (r - a)) (p1 : d * (r - a) ≤ 10000001000) (d0 : 0 ≤ d) (d1 : d ≤ 1000) (h7 : t - f - (r - a) < -(t - f - (r - a))) (h8 : d * (r - a) < (-(t - f - (r - a))) * 1000000) : Calls Try.prog 9 #[ck a l u d, .int .i64 f, .int .i64 r, .int .i64 t] w fun e w' => e = .returned (.bool true) ∧ Below w.heap.size w w' := by
  obtain ⟨b1, b2, b3, b4, b5⟩ := t_bd a l u d a
  go_enter Try.func9, Try.ntmps9
  go_wp2_with fail
  refine (head_any _).mono ?_
  rintro e w1 ⟨rfl, hb1⟩
  have hs1 := hb1.size; (try simp at hs1)
  have O1 : Own w (w.heap.size + 1) w1 [(w.heap.size, 0, .int .i64 a), (w.heap.size, 1, .int .i64 l), (w.heap.size, 2, .int .i64 u), (w.heap.size, 3, .int .i64 d)] := (by (repeat' (first | (with_reducible assumption) | (with_reducible exact Below.refl _ _) | (with_reducible exact Cels.nil _) | (with_reducible refine Cels.cons ?_ ?_) | (with_reducible refine Own.mk ?_ ?_ ?_ ?_) | ((with_reducible refine Cel.new ?_ rfl); first | (with_reducible rfl) | omega | (simp; done) | (simp; omega)) | (with_reducible refine Cel.alloc ?_ _) | (with_reducible refine Cel.drew ?_) | (with_reducible refine Cel.setS ?_ _) | (with_reducible refine Has.set ?_ _ _) | (with_reducible exact Has.of (by assumption)) | (with_reducible refine Cel.setO ?_ ?_ _) | (with_reducible refine Cel.keep (by assumption) ?_) | (with_reducible refine Below.alloc ?_ ?_ _) | (with_reducible refine Below.drew ?_) | (with_reducible refine Below.setCell ?_ ?_ _) | (with_reducible refine below_keep ?_ ?_ (by assumption)) | omega | (simp; done) | (simp; omega))))
  have hB1 := O1.below; have hz1 := O1.size; have hl1 := O1.le; have S1_0 : Cel w1 (w.heap.size) 0 (.int .i64 a) := O1.cels.1; have S1_1 : Cel w1 (w.heap.size) 1 (.int .i64 l) := O1.cels.2.1; have S1_2 : Cel w1 (w.heap.size) 2 (.int .i64 u) := O1.cels.2.2.1; have S1_3 : Cel w1 (w.heap.size) 3 (.int .i64 d) := O1.cels.2.2.2.1
  go_wp2_with fail
  refine (true_any a l u d a _).mono ?_
  rintro e w2 ⟨rfl, hb2⟩
  have hs2 := hb2.size; (try simp at hs2)
  have O2 : Own w (w.heap.size + 1) w2 [(w.heap.size, 0, .int .i64 a), (w.heap.size, 1, .int .i64 l), (w.heap.size, 2, .int .i64 u), (w.heap.size, 3, .int .i64 d)] := (by (repeat' (first | (with_reducible assumption) | (with_reducible exact Below.refl _ _) | (with_reducible exact Cels.nil _) | (with_reducible refine Cels.cons ?_ ?_) | (with_reducible refine Own.mk ?_ ?_ ?_ ?_) | ((with_reducible refine Cel.new ?_ rfl); first | (with_reducible rfl) | omega | (simp; done) | (simp; omega)) | (with_reducible refine Cel.alloc ?_ _) | (with_reducible refine Cel.drew ?_) | (with_reducible refine Cel.setS ?_ _) | (with_reducible refine Has.set ?_ _ _) | (with_reducible exact Has.of (by assumption)) | (with_reducible refine Cel.setO ?_ ?_ _) | (with_reducible refine Cel.keep (by assumption) ?_) | (with_reducible refine Below.alloc ?_ ?_ _) | (with_reducible refine Below.drew ?_) | (with_reducible refine Below.setCell ?_ ?_ _) | (with_reducible refine below_keep ?_ ?_ (by assumption)) | omega | (simp; done) | (simp; omega))))
  have hB2 := O2.below; have hz2 := O2.size; have hl2 := O2.le; have S2_0 : Cel w2 (w.heap.size) 0 (.int .i64 a) := O2.cels.1; have S2_1 : Cel w2 (w.heap.size) 1 (.int .i64 l) := O2.cels.2.1; have S2_2 : Cel w2 (w.heap.size) 2 (.int .i64 u) := O2.cels.2.2.1; have S2_3 : Cel w2 (w.heap.size) 3 (.int .i64 d) := O2.cels.2.2.2.1
  clear O1 S1_0 S1_1 S1_2 S1_3
  go_wp2_with fail
  refine (true_any a l u d r _).mono ?_
  rintro e w3 ⟨rfl, hb3⟩
  have hs3 := hb3.size; (try simp at hs3)
  have O3 : Own w (w2.heap.size + 1) w3 [(w.heap.size, 0, .int .i64 a), (w.heap.size, 1, .int .i64 l), (w.heap.size, 2, .int .i64 u), (w.heap.size, 3, .int .i64 d), (w2.heap.size, 0, .int .i64 (tLo a l u d a)), (w2.heap.size, 1, .int .i64 (tHi a l u d a))] := (by (repeat' (first | (with_reducible assumption) | (with_reducible exact Below.refl _ _) | (with_reducible exact Cels.nil _) | (with_reducible refine Cels.cons ?_ ?_) | (with_reducible refine Own.mk ?_ ?_ ?_ ?_) | ((with_reducible refine Cel.new ?_ rfl); first | (with_reducible rfl) | omega | (simp; done) | (simp; omega)) | (with_reducible refine Cel.alloc ?_ _) | (with_reducible refine Cel.drew ?_) | (with_reducible refine Cel.setS ?_ _) | (with_reducible refine Has.set ?_ _ _) | (with_reducible exact Has.of (by assumption)) | (with_reducible refine Cel.setO ?_ ?_ _) | (with_reducible refine Cel.keep (by assumption) ?_) | (with_reducible refine Below.alloc ?_ ?_ _) | (with_reducible refine Below.drew ?_) | (with_reducible refine Below.setCell ?_ ?_ _) | (with_reducible refine below_keep ?_ ?_ (by assumption)) | omega | (simp; done) | (simp; omega))))
  have hB3 := O3.below; have hz3 := O3.size; have hl3 := O3.le; have S3_0 : Cel w3 (w.heap.size) 0 (.int .i64 a) := O3.cels.1; have S3_1 : Cel w3 (w.heap.size) 1 (.int .i64 l) := O3.cels.2.1; have S3_2 : Cel w3 (w.heap.size) 2 (.int .i64 u) := O3.cels.2.2.1; have S3_3 : Cel w3 (w.heap.size) 3 (.int .i64 d) := O3.cels.2.2.2.1; have S3_4 : Cel w3 (w2.heap.size) 0 (.int .i64 (tLo a l u d a)) := O3.cels.2.2.2.2.1; have S3_5 : Cel w3 (w2.heap.size) 1 (.int .i64 (tHi a l u d a)) := O3.cels.2.2.2.2.2.1
  clear O2 S2_0 S2_1 S2_2 S2_3
  go_wp2
  all_goals first
    | (exfalso; omega)
    | (go_ret; exact ⟨rb (by first | rfl | (simp; done) | (rw [beq_iff_eq, Bool.eq_iff_iff]; simp; omega) | (simp; omega)), by (repeat' (first | (with_reducible assumption) | (with_reducible exact Below.refl _ _) | (with_reducible exact Cels.nil _) | (with_reducible refine Cels.cons ?_ ?_) | (with_reducible refine Own.mk ?_ ?_ ?_ ?_) | ((with_reducible refine Cel.new ?_ rfl); first | (with_reducible rfl) | omega | (simp; done) | (simp; omega)) | (with_reducible refine Cel.alloc ?_ _) | (with_reducible refine Cel.drew ?_) | (with_reducible refine Cel.setS ?_ _) | (with_reducible refine Has.set ?_ _ _) | (with_reducible exact Has.of (by assumption)) | (with_reducible refine Cel.setO ?_ ?_ _) | (with_reducible refine Cel.keep (by assumption) ?_) | (with_reducible refine Below.alloc ?_ ?_ _) | (with_reducible refine Below.drew ?_) | (with_reducible refine Below.setCell ?_ ?_ _) | (with_reducible refine below_keep ?_ ?_ (by assumption)) | omega | (simp; done) | (simp; omega)))⟩)

set_option maxRecDepth 100000 in
set_option maxHeartbeats 4000000 in
theorem law7_yp (a l u d f r t : Int) (w : World) (h1 : tE a l u d a = 0) (h2 : tE a l u d r = 0) (h3 : tLo a l u d a ≤ f) (h4 : f ≤ tHi a l u d a) (h5 : 0 ≤ t) (h6 : t ≤ 10000000) (a0 : 0 ≤ a) (a1 : a ≤ r) (a2 : r ≤ 10000000) (p0 : 0 ≤ d * (r - a)) (p1 : d * (r - a) ≤ 10000001000) (d0 : 0 ≤ d) (d1 : d ≤ 1000) (h7 : t - f - (r - a) < -(t - f - (r - a))) (h8 : (-(t - f - (r - a))) * 1000000 ≤ d * (r - a)) (k1 : tLo a l u d r ≤ t) (k2 : t ≤ tHi a l u d r) : Calls Try.prog 9 #[ck a l u d, .int .i64 f, .int .i64 r, .int .i64 t] w fun e w' => e = .returned (.bool true) ∧ Below w.heap.size w w' := by
  obtain ⟨b1, b2, b3, b4, b5⟩ := t_bd a l u d a
  go_enter Try.func9, Try.ntmps9
  go_wp2_with fail
  refine (head_any _).mono ?_
  rintro e w1 ⟨rfl, hb1⟩
  have hs1 := hb1.size; (try simp at hs1)
  have O1 : Own w (w.heap.size + 1) w1 [(w.heap.size, 0, .int .i64 a), (w.heap.size, 1, .int .i64 l), (w.heap.size, 2, .int .i64 u), (w.heap.size, 3, .int .i64 d)] := (by (repeat' (first | (with_reducible assumption) | (with_reducible exact Below.refl _ _) | (with_reducible exact Cels.nil _) | (with_reducible refine Cels.cons ?_ ?_) | (with_reducible refine Own.mk ?_ ?_ ?_ ?_) | ((with_reducible refine Cel.new ?_ rfl); first | (with_reducible rfl) | omega | (simp; done) | (simp; omega)) | (with_reducible refine Cel.alloc ?_ _) | (with_reducible refine Cel.drew ?_) | (with_reducible refine Cel.setS ?_ _) | (with_reducible refine Has.set ?_ _ _) | (with_reducible exact Has.of (by assumption)) | (with_reducible refine Cel.setO ?_ ?_ _) | (with_reducible refine Cel.keep (by assumption) ?_) | (with_reducible refine Below.alloc ?_ ?_ _) | (with_reducible refine Below.drew ?_) | (with_reducible refine Below.setCell ?_ ?_ _) | (with_reducible refine below_keep ?_ ?_ (by assumption)) | omega | (simp; done) | (simp; omega))))
  have hB1 := O1.below; have hz1 := O1.size; have hl1 := O1.le; have S1_0 : Cel w1 (w.heap.size) 0 (.int .i64 a) := O1.cels.1; have S1_1 : Cel w1 (w.heap.size) 1 (.int .i64 l) := O1.cels.2.1; have S1_2 : Cel w1 (w.heap.size) 2 (.int .i64 u) := O1.cels.2.2.1; have S1_3 : Cel w1 (w.heap.size) 3 (.int .i64 d) := O1.cels.2.2.2.1
  go_wp2_with fail
  refine (true_any a l u d a _).mono ?_
  rintro e w2 ⟨rfl, hb2⟩
  have hs2 := hb2.size; (try simp at hs2)
  have O2 : Own w (w.heap.size + 1) w2 [(w.heap.size, 0, .int .i64 a), (w.heap.size, 1, .int .i64 l), (w.heap.size, 2, .int .i64 u), (w.heap.size, 3, .int .i64 d)] := (by (repeat' (first | (with_reducible assumption) | (with_reducible exact Below.refl _ _) | (with_reducible exact Cels.nil _) | (with_reducible refine Cels.cons ?_ ?_) | (with_reducible refine Own.mk ?_ ?_ ?_ ?_) | ((with_reducible refine Cel.new ?_ rfl); first | (with_reducible rfl) | omega | (simp; done) | (simp; omega)) | (with_reducible refine Cel.alloc ?_ _) | (with_reducible refine Cel.drew ?_) | (with_reducible refine Cel.setS ?_ _) | (with_reducible refine Has.set ?_ _ _) | (with_reducible exact Has.of (by assumption)) | (with_reducible refine Cel.setO ?_ ?_ _) | (with_reducible refine Cel.keep (by assumption) ?_) | (with_reducible refine Below.alloc ?_ ?_ _) | (with_reducible refine Below.drew ?_) | (with_reducible refine Below.setCell ?_ ?_ _) | (with_reducible refine below_keep ?_ ?_ (by assumption)) | omega | (simp; done) | (simp; omega))))
  have hB2 := O2.below; have hz2 := O2.size; have hl2 := O2.le; have S2_0 : Cel w2 (w.heap.size) 0 (.int .i64 a) := O2.cels.1; have S2_1 : Cel w2 (w.heap.size) 1 (.int .i64 l) := O2.cels.2.1; have S2_2 : Cel w2 (w.heap.size) 2 (.int .i64 u) := O2.cels.2.2.1; have S2_3 : Cel w2 (w.heap.size) 3 (.int .i64 d) := O2.cels.2.2.2.1
  clear O1 S1_0 S1_1 S1_2 S1_3
  go_wp2_with fail
  refine (true_any a l u d r _).mono ?_
  rintro e w3 ⟨rfl, hb3⟩
  have hs3 := hb3.size; (try simp at hs3)
  have O3 : Own w (w2.heap.size + 1) w3 [(w.heap.size, 0, .int .i64 a), (w.heap.size, 1, .int .i64 l), (w.heap.size, 2, .int .i64 u), (w.heap.size, 3, .int .i64 d), (w2.heap.size, 0, .int .i64 (tLo a l u d a)), (w2.heap.size, 1, .int .i64 (tHi a l u d a))] := (by (repeat' (first | (with_reducible assumption) | (with_reducible exact Below.refl _ _) | (with_reducible exact Cels.nil _) | (with_reducible refine Cels.cons ?_ ?_) | (with_reducible refine Own.mk ?_ ?_ ?_ ?_) | ((with_reducible refine Cel.new ?_ rfl); first | (with_reducible rfl) | omega | (simp; done) | (simp; omega)) | (with_reducible refine Cel.alloc ?_ _) | (with_reducible refine Cel.drew ?_) | (with_reducible refine Cel.setS ?_ _) | (with_reducible refine Has.set ?_ _ _) | (with_reducible exact Has.of (by assumption)) | (with_reducible refine Cel.setO ?_ ?_ _) | (with_reducible refine Cel.keep (by assumption) ?_) | (with_reducible refine Below.alloc ?_ ?_ _) | (with_reducible refine Below.drew ?_) | (with_reducible refine Below.setCell ?_ ?_ _) | (with_reducible refine below_keep ?_ ?_ (by assumption)) | omega | (simp; done) | (simp; omega))))
  have hB3 := O3.below; have hz3 := O3.size; have hl3 := O3.le; have S3_0 : Cel w3 (w.heap.size) 0 (.int .i64 a) := O3.cels.1; have S3_1 : Cel w3 (w.heap.size) 1 (.int .i64 l) := O3.cels.2.1; have S3_2 : Cel w3 (w.heap.size) 2 (.int .i64 u) := O3.cels.2.2.1; have S3_3 : Cel w3 (w.heap.size) 3 (.int .i64 d) := O3.cels.2.2.2.1; have S3_4 : Cel w3 (w2.heap.size) 0 (.int .i64 (tLo a l u d a)) := O3.cels.2.2.2.2.1; have S3_5 : Cel w3 (w2.heap.size) 1 (.int .i64 (tHi a l u d a)) := O3.cels.2.2.2.2.2.1
  clear O2 S2_0 S2_1 S2_2 S2_3
  go_wp2
  all_goals first
    | (exfalso; omega)
    | (go_ret; exact ⟨rb (by first | rfl | (simp; done) | (rw [beq_iff_eq, Bool.eq_iff_iff]; simp; omega) | (simp; omega)), by (repeat' (first | (with_reducible assumption) | (with_reducible exact Below.refl _ _) | (with_reducible exact Cels.nil _) | (with_reducible refine Cels.cons ?_ ?_) | (with_reducible refine Own.mk ?_ ?_ ?_ ?_) | ((with_reducible refine Cel.new ?_ rfl); first | (with_reducible rfl) | omega | (simp; done) | (simp; omega)) | (with_reducible refine Cel.alloc ?_ _) | (with_reducible refine Cel.drew ?_) | (with_reducible refine Cel.setS ?_ _) | (with_reducible refine Has.set ?_ _ _) | (with_reducible exact Has.of (by assumption)) | (with_reducible refine Cel.setO ?_ ?_ _) | (with_reducible refine Cel.keep (by assumption) ?_) | (with_reducible refine Below.alloc ?_ ?_ _) | (with_reducible refine Below.drew ?_) | (with_reducible refine Below.setCell ?_ ?_ _) | (with_reducible refine below_keep ?_ ?_ (by assumption)) | omega | (simp; done) | (simp; omega)))⟩)

set_option maxRecDepth 100000 in
set_option maxHeartbeats 4000000 in
theorem law7_g0q (a l u d f r t : Int) (w : World) (h1 : tE a l u d a = 0) (h2 : tE a l u d r = 0) (h3 : tLo a l u d a ≤ f) (h4 : f ≤ tHi a l u d a) (h5 : 0 ≤ t) (h6 : t ≤ 10000000) (a0 : 0 ≤ a) (a1 : a ≤ r) (a2 : r ≤ 10000000) (p0 : 0 ≤ d * (r - a)) (p1 : d * (r - a) ≤ 10000001000) (d0 : 0 ≤ d) (d1 : d ≤ 1000) (h7 : -(t - f - (r - a)) ≤ t - f - (r - a)) (h8 : d * (r - a) < ((t - f - (r - a))) * 1000000) : Calls Try.prog 9 #[ck a l u d, .int .i64 f, .int .i64 r, .int .i64 t] w fun e w' => e = .returned (.bool true) ∧ Below w.heap.size w w' := by
  obtain ⟨b1, b2, b3, b4, b5⟩ := t_bd a l u d a
  go_enter Try.func9, Try.ntmps9
  go_wp2_with fail
  refine (head_any _).mono ?_
  rintro e w1 ⟨rfl, hb1⟩
  have hs1 := hb1.size; (try simp at hs1)
  have O1 : Own w (w.heap.size + 1) w1 [(w.heap.size, 0, .int .i64 a), (w.heap.size, 1, .int .i64 l), (w.heap.size, 2, .int .i64 u), (w.heap.size, 3, .int .i64 d)] := (by (repeat' (first | (with_reducible assumption) | (with_reducible exact Below.refl _ _) | (with_reducible exact Cels.nil _) | (with_reducible refine Cels.cons ?_ ?_) | (with_reducible refine Own.mk ?_ ?_ ?_ ?_) | ((with_reducible refine Cel.new ?_ rfl); first | (with_reducible rfl) | omega | (simp; done) | (simp; omega)) | (with_reducible refine Cel.alloc ?_ _) | (with_reducible refine Cel.drew ?_) | (with_reducible refine Cel.setS ?_ _) | (with_reducible refine Has.set ?_ _ _) | (with_reducible exact Has.of (by assumption)) | (with_reducible refine Cel.setO ?_ ?_ _) | (with_reducible refine Cel.keep (by assumption) ?_) | (with_reducible refine Below.alloc ?_ ?_ _) | (with_reducible refine Below.drew ?_) | (with_reducible refine Below.setCell ?_ ?_ _) | (with_reducible refine below_keep ?_ ?_ (by assumption)) | omega | (simp; done) | (simp; omega))))
  have hB1 := O1.below; have hz1 := O1.size; have hl1 := O1.le; have S1_0 : Cel w1 (w.heap.size) 0 (.int .i64 a) := O1.cels.1; have S1_1 : Cel w1 (w.heap.size) 1 (.int .i64 l) := O1.cels.2.1; have S1_2 : Cel w1 (w.heap.size) 2 (.int .i64 u) := O1.cels.2.2.1; have S1_3 : Cel w1 (w.heap.size) 3 (.int .i64 d) := O1.cels.2.2.2.1
  go_wp2_with fail
  refine (true_any a l u d a _).mono ?_
  rintro e w2 ⟨rfl, hb2⟩
  have hs2 := hb2.size; (try simp at hs2)
  have O2 : Own w (w.heap.size + 1) w2 [(w.heap.size, 0, .int .i64 a), (w.heap.size, 1, .int .i64 l), (w.heap.size, 2, .int .i64 u), (w.heap.size, 3, .int .i64 d)] := (by (repeat' (first | (with_reducible assumption) | (with_reducible exact Below.refl _ _) | (with_reducible exact Cels.nil _) | (with_reducible refine Cels.cons ?_ ?_) | (with_reducible refine Own.mk ?_ ?_ ?_ ?_) | ((with_reducible refine Cel.new ?_ rfl); first | (with_reducible rfl) | omega | (simp; done) | (simp; omega)) | (with_reducible refine Cel.alloc ?_ _) | (with_reducible refine Cel.drew ?_) | (with_reducible refine Cel.setS ?_ _) | (with_reducible refine Has.set ?_ _ _) | (with_reducible exact Has.of (by assumption)) | (with_reducible refine Cel.setO ?_ ?_ _) | (with_reducible refine Cel.keep (by assumption) ?_) | (with_reducible refine Below.alloc ?_ ?_ _) | (with_reducible refine Below.drew ?_) | (with_reducible refine Below.setCell ?_ ?_ _) | (with_reducible refine below_keep ?_ ?_ (by assumption)) | omega | (simp; done) | (simp; omega))))
  have hB2 := O2.below; have hz2 := O2.size; have hl2 := O2.le; have S2_0 : Cel w2 (w.heap.size) 0 (.int .i64 a) := O2.cels.1; have S2_1 : Cel w2 (w.heap.size) 1 (.int .i64 l) := O2.cels.2.1; have S2_2 : Cel w2 (w.heap.size) 2 (.int .i64 u) := O2.cels.2.2.1; have S2_3 : Cel w2 (w.heap.size) 3 (.int .i64 d) := O2.cels.2.2.2.1
  clear O1 S1_0 S1_1 S1_2 S1_3
  go_wp2_with fail
  refine (true_any a l u d r _).mono ?_
  rintro e w3 ⟨rfl, hb3⟩
  have hs3 := hb3.size; (try simp at hs3)
  have O3 : Own w (w2.heap.size + 1) w3 [(w.heap.size, 0, .int .i64 a), (w.heap.size, 1, .int .i64 l), (w.heap.size, 2, .int .i64 u), (w.heap.size, 3, .int .i64 d), (w2.heap.size, 0, .int .i64 (tLo a l u d a)), (w2.heap.size, 1, .int .i64 (tHi a l u d a))] := (by (repeat' (first | (with_reducible assumption) | (with_reducible exact Below.refl _ _) | (with_reducible exact Cels.nil _) | (with_reducible refine Cels.cons ?_ ?_) | (with_reducible refine Own.mk ?_ ?_ ?_ ?_) | ((with_reducible refine Cel.new ?_ rfl); first | (with_reducible rfl) | omega | (simp; done) | (simp; omega)) | (with_reducible refine Cel.alloc ?_ _) | (with_reducible refine Cel.drew ?_) | (with_reducible refine Cel.setS ?_ _) | (with_reducible refine Has.set ?_ _ _) | (with_reducible exact Has.of (by assumption)) | (with_reducible refine Cel.setO ?_ ?_ _) | (with_reducible refine Cel.keep (by assumption) ?_) | (with_reducible refine Below.alloc ?_ ?_ _) | (with_reducible refine Below.drew ?_) | (with_reducible refine Below.setCell ?_ ?_ _) | (with_reducible refine below_keep ?_ ?_ (by assumption)) | omega | (simp; done) | (simp; omega))))
  have hB3 := O3.below; have hz3 := O3.size; have hl3 := O3.le; have S3_0 : Cel w3 (w.heap.size) 0 (.int .i64 a) := O3.cels.1; have S3_1 : Cel w3 (w.heap.size) 1 (.int .i64 l) := O3.cels.2.1; have S3_2 : Cel w3 (w.heap.size) 2 (.int .i64 u) := O3.cels.2.2.1; have S3_3 : Cel w3 (w.heap.size) 3 (.int .i64 d) := O3.cels.2.2.2.1; have S3_4 : Cel w3 (w2.heap.size) 0 (.int .i64 (tLo a l u d a)) := O3.cels.2.2.2.2.1; have S3_5 : Cel w3 (w2.heap.size) 1 (.int .i64 (tHi a l u d a)) := O3.cels.2.2.2.2.2.1
  clear O2 S2_0 S2_1 S2_2 S2_3
  go_wp2
  all_goals first
    | (exfalso; omega)
    | (go_ret; exact ⟨rb (by first | rfl | (simp; done) | (rw [beq_iff_eq, Bool.eq_iff_iff]; simp; omega) | (simp; omega)), by (repeat' (first | (with_reducible assumption) | (with_reducible exact Below.refl _ _) | (with_reducible exact Cels.nil _) | (with_reducible refine Cels.cons ?_ ?_) | (with_reducible refine Own.mk ?_ ?_ ?_ ?_) | ((with_reducible refine Cel.new ?_ rfl); first | (with_reducible rfl) | omega | (simp; done) | (simp; omega)) | (with_reducible refine Cel.alloc ?_ _) | (with_reducible refine Cel.drew ?_) | (with_reducible refine Cel.setS ?_ _) | (with_reducible refine Has.set ?_ _ _) | (with_reducible exact Has.of (by assumption)) | (with_reducible refine Cel.setO ?_ ?_ _) | (with_reducible refine Cel.keep (by assumption) ?_) | (with_reducible refine Below.alloc ?_ ?_ _) | (with_reducible refine Below.drew ?_) | (with_reducible refine Below.setCell ?_ ?_ _) | (with_reducible refine below_keep ?_ ?_ (by assumption)) | omega | (simp; done) | (simp; omega)))⟩)

set_option maxRecDepth 100000 in
set_option maxHeartbeats 4000000 in
theorem law7_yq (a l u d f r t : Int) (w : World) (h1 : tE a l u d a = 0) (h2 : tE a l u d r = 0) (h3 : tLo a l u d a ≤ f) (h4 : f ≤ tHi a l u d a) (h5 : 0 ≤ t) (h6 : t ≤ 10000000) (a0 : 0 ≤ a) (a1 : a ≤ r) (a2 : r ≤ 10000000) (p0 : 0 ≤ d * (r - a)) (p1 : d * (r - a) ≤ 10000001000) (d0 : 0 ≤ d) (d1 : d ≤ 1000) (h7 : -(t - f - (r - a)) ≤ t - f - (r - a)) (h8 : ((t - f - (r - a))) * 1000000 ≤ d * (r - a)) (k1 : tLo a l u d r ≤ t) (k2 : t ≤ tHi a l u d r) : Calls Try.prog 9 #[ck a l u d, .int .i64 f, .int .i64 r, .int .i64 t] w fun e w' => e = .returned (.bool true) ∧ Below w.heap.size w w' := by
  obtain ⟨b1, b2, b3, b4, b5⟩ := t_bd a l u d a
  go_enter Try.func9, Try.ntmps9
  go_wp2_with fail
  refine (head_any _).mono ?_
  rintro e w1 ⟨rfl, hb1⟩
  have hs1 := hb1.size; (try simp at hs1)
  have O1 : Own w (w.heap.size + 1) w1 [(w.heap.size, 0, .int .i64 a), (w.heap.size, 1, .int .i64 l), (w.heap.size, 2, .int .i64 u), (w.heap.size, 3, .int .i64 d)] := (by (repeat' (first | (with_reducible assumption) | (with_reducible exact Below.refl _ _) | (with_reducible exact Cels.nil _) | (with_reducible refine Cels.cons ?_ ?_) | (with_reducible refine Own.mk ?_ ?_ ?_ ?_) | ((with_reducible refine Cel.new ?_ rfl); first | (with_reducible rfl) | omega | (simp; done) | (simp; omega)) | (with_reducible refine Cel.alloc ?_ _) | (with_reducible refine Cel.drew ?_) | (with_reducible refine Cel.setS ?_ _) | (with_reducible refine Has.set ?_ _ _) | (with_reducible exact Has.of (by assumption)) | (with_reducible refine Cel.setO ?_ ?_ _) | (with_reducible refine Cel.keep (by assumption) ?_) | (with_reducible refine Below.alloc ?_ ?_ _) | (with_reducible refine Below.drew ?_) | (with_reducible refine Below.setCell ?_ ?_ _) | (with_reducible refine below_keep ?_ ?_ (by assumption)) | omega | (simp; done) | (simp; omega))))
  have hB1 := O1.below; have hz1 := O1.size; have hl1 := O1.le; have S1_0 : Cel w1 (w.heap.size) 0 (.int .i64 a) := O1.cels.1; have S1_1 : Cel w1 (w.heap.size) 1 (.int .i64 l) := O1.cels.2.1; have S1_2 : Cel w1 (w.heap.size) 2 (.int .i64 u) := O1.cels.2.2.1; have S1_3 : Cel w1 (w.heap.size) 3 (.int .i64 d) := O1.cels.2.2.2.1
  go_wp2_with fail
  refine (true_any a l u d a _).mono ?_
  rintro e w2 ⟨rfl, hb2⟩
  have hs2 := hb2.size; (try simp at hs2)
  have O2 : Own w (w.heap.size + 1) w2 [(w.heap.size, 0, .int .i64 a), (w.heap.size, 1, .int .i64 l), (w.heap.size, 2, .int .i64 u), (w.heap.size, 3, .int .i64 d)] := (by (repeat' (first | (with_reducible assumption) | (with_reducible exact Below.refl _ _) | (with_reducible exact Cels.nil _) | (with_reducible refine Cels.cons ?_ ?_) | (with_reducible refine Own.mk ?_ ?_ ?_ ?_) | ((with_reducible refine Cel.new ?_ rfl); first | (with_reducible rfl) | omega | (simp; done) | (simp; omega)) | (with_reducible refine Cel.alloc ?_ _) | (with_reducible refine Cel.drew ?_) | (with_reducible refine Cel.setS ?_ _) | (with_reducible refine Has.set ?_ _ _) | (with_reducible exact Has.of (by assumption)) | (with_reducible refine Cel.setO ?_ ?_ _) | (with_reducible refine Cel.keep (by assumption) ?_) | (with_reducible refine Below.alloc ?_ ?_ _) | (with_reducible refine Below.drew ?_) | (with_reducible refine Below.setCell ?_ ?_ _) | (with_reducible refine below_keep ?_ ?_ (by assumption)) | omega | (simp; done) | (simp; omega))))
  have hB2 := O2.below; have hz2 := O2.size; have hl2 := O2.le; have S2_0 : Cel w2 (w.heap.size) 0 (.int .i64 a) := O2.cels.1; have S2_1 : Cel w2 (w.heap.size) 1 (.int .i64 l) := O2.cels.2.1; have S2_2 : Cel w2 (w.heap.size) 2 (.int .i64 u) := O2.cels.2.2.1; have S2_3 : Cel w2 (w.heap.size) 3 (.int .i64 d) := O2.cels.2.2.2.1
  clear O1 S1_0 S1_1 S1_2 S1_3
  go_wp2_with fail
  refine (true_any a l u d r _).mono ?_
  rintro e w3 ⟨rfl, hb3⟩
  have hs3 := hb3.size; (try simp at hs3)
  have O3 : Own w (w2.heap.size + 1) w3 [(w.heap.size, 0, .int .i64 a), (w.heap.size, 1, .int .i64 l), (w.heap.size, 2, .int .i64 u), (w.heap.size, 3, .int .i64 d), (w2.heap.size, 0, .int .i64 (tLo a l u d a)), (w2.heap.size, 1, .int .i64 (tHi a l u d a))] := (by (repeat' (first | (with_reducible assumption) | (with_reducible exact Below.refl _ _) | (with_reducible exact Cels.nil _) | (with_reducible refine Cels.cons ?_ ?_) | (with_reducible refine Own.mk ?_ ?_ ?_ ?_) | ((with_reducible refine Cel.new ?_ rfl); first | (with_reducible rfl) | omega | (simp; done) | (simp; omega)) | (with_reducible refine Cel.alloc ?_ _) | (with_reducible refine Cel.drew ?_) | (with_reducible refine Cel.setS ?_ _) | (with_reducible refine Has.set ?_ _ _) | (with_reducible exact Has.of (by assumption)) | (with_reducible refine Cel.setO ?_ ?_ _) | (with_reducible refine Cel.keep (by assumption) ?_) | (with_reducible refine Below.alloc ?_ ?_ _) | (with_reducible refine Below.drew ?_) | (with_reducible refine Below.setCell ?_ ?_ _) | (with_reducible refine below_keep ?_ ?_ (by assumption)) | omega | (simp; done) | (simp; omega))))
  have hB3 := O3.below; have hz3 := O3.size; have hl3 := O3.le; have S3_0 : Cel w3 (w.heap.size) 0 (.int .i64 a) := O3.cels.1; have S3_1 : Cel w3 (w.heap.size) 1 (.int .i64 l) := O3.cels.2.1; have S3_2 : Cel w3 (w.heap.size) 2 (.int .i64 u) := O3.cels.2.2.1; have S3_3 : Cel w3 (w.heap.size) 3 (.int .i64 d) := O3.cels.2.2.2.1; have S3_4 : Cel w3 (w2.heap.size) 0 (.int .i64 (tLo a l u d a)) := O3.cels.2.2.2.2.1; have S3_5 : Cel w3 (w2.heap.size) 1 (.int .i64 (tHi a l u d a)) := O3.cels.2.2.2.2.2.1
  clear O2 S2_0 S2_1 S2_2 S2_3
  go_wp2
  all_goals first
    | (exfalso; omega)
    | (go_ret; exact ⟨rb (by first | rfl | (simp; done) | (rw [beq_iff_eq, Bool.eq_iff_iff]; simp; omega) | (simp; omega)), by (repeat' (first | (with_reducible assumption) | (with_reducible exact Below.refl _ _) | (with_reducible exact Cels.nil _) | (with_reducible refine Cels.cons ?_ ?_) | (with_reducible refine Own.mk ?_ ?_ ?_ ?_) | ((with_reducible refine Cel.new ?_ rfl); first | (with_reducible rfl) | omega | (simp; done) | (simp; omega)) | (with_reducible refine Cel.alloc ?_ _) | (with_reducible refine Cel.drew ?_) | (with_reducible refine Cel.setS ?_ _) | (with_reducible refine Has.set ?_ _ _) | (with_reducible exact Has.of (by assumption)) | (with_reducible refine Cel.setO ?_ ?_ _) | (with_reducible refine Cel.keep (by assumption) ?_) | (with_reducible refine Below.alloc ?_ ?_ _) | (with_reducible refine Below.drew ?_) | (with_reducible refine Below.setCell ?_ ?_ _) | (with_reducible refine below_keep ?_ ?_ (by assumption)) | omega | (simp; done) | (simp; omega)))⟩)

set_option maxRecDepth 100000 in
set_option maxHeartbeats 4000000 in
theorem law7_a4 (a l u d f r t : Int) (w : World) (h1 : tE a l u d a = 0) (h2 : tE a l u d r = 4) (h3 : f < tLo a l u d a) : Calls Try.prog 9 #[ck a l u d, .int .i64 f, .int .i64 r, .int .i64 t] w fun e w' => e = .returned (.bool true) ∧ Below w.heap.size w w' := by
  go_enter Try.func9, Try.ntmps9
  go_wp2_with fail
  refine (head_any _).mono ?_
  rintro e w1 ⟨rfl, hb1⟩
  have hs1 := hb1.size; (try simp at hs1)
  have O1 : Own w (w.heap.size + 1) w1 [(w.heap.size, 0, .int .i64 a), (w.heap.size, 1, .int .i64 l), (w.heap.size, 2, .int .i64 u), (w.heap.size, 3, .int .i64 d)] := (by (repeat' (first | (with_reducible assumption) | (with_reducible exact Below.refl _ _) | (with_reducible exact Cels.nil _) | (with_reducible refine Cels.cons ?_ ?_) | (with_reducible refine Own.mk ?_ ?_ ?_ ?_) | ((with_reducible refine Cel.new ?_ rfl); first | (with_reducible rfl) | omega | (simp; done) | (simp; omega)) | (with_reducible refine Cel.alloc ?_ _) | (with_reducible refine Cel.drew ?_) | (with_reducible refine Cel.setS ?_ _) | (with_reducible refine Has.set ?_ _ _) | (with_reducible exact Has.of (by assumption)) | (with_reducible refine Cel.setO ?_ ?_ _) | (with_reducible refine Cel.keep (by assumption) ?_) | (with_reducible refine Below.alloc ?_ ?_ _) | (with_reducible refine Below.drew ?_) | (with_reducible refine Below.setCell ?_ ?_ _) | (with_reducible refine below_keep ?_ ?_ (by assumption)) | omega | (simp; done) | (simp; omega))))
  have hB1 := O1.below; have hz1 := O1.size; have hl1 := O1.le; have S1_0 : Cel w1 (w.heap.size) 0 (.int .i64 a) := O1.cels.1; have S1_1 : Cel w1 (w.heap.size) 1 (.int .i64 l) := O1.cels.2.1; have S1_2 : Cel w1 (w.heap.size) 2 (.int .i64 u) := O1.cels.2.2.1; have S1_3 : Cel w1 (w.heap.size) 3 (.int .i64 d) := O1.cels.2.2.2.1
  go_wp2_with fail
  refine (true_any a l u d a _).mono ?_
  rintro e w2 ⟨rfl, hb2⟩
  have hs2 := hb2.size; (try simp at hs2)
  have O2 : Own w (w.heap.size + 1) w2 [(w.heap.size, 0, .int .i64 a), (w.heap.size, 1, .int .i64 l), (w.heap.size, 2, .int .i64 u), (w.heap.size, 3, .int .i64 d)] := (by (repeat' (first | (with_reducible assumption) | (with_reducible exact Below.refl _ _) | (with_reducible exact Cels.nil _) | (with_reducible refine Cels.cons ?_ ?_) | (with_reducible refine Own.mk ?_ ?_ ?_ ?_) | ((with_reducible refine Cel.new ?_ rfl); first | (with_reducible rfl) | omega | (simp; done) | (simp; omega)) | (with_reducible refine Cel.alloc ?_ _) | (with_reducible refine Cel.drew ?_) | (with_reducible refine Cel.setS ?_ _) | (with_reducible refine Has.set ?_ _ _) | (with_reducible exact Has.of (by assumption)) | (with_reducible refine Cel.setO ?_ ?_ _) | (with_reducible refine Cel.keep (by assumption) ?_) | (with_reducible refine Below.alloc ?_ ?_ _) | (with_reducible refine Below.drew ?_) | (with_reducible refine Below.setCell ?_ ?_ _) | (with_reducible refine below_keep ?_ ?_ (by assumption)) | omega | (simp; done) | (simp; omega))))
  have hB2 := O2.below; have hz2 := O2.size; have hl2 := O2.le; have S2_0 : Cel w2 (w.heap.size) 0 (.int .i64 a) := O2.cels.1; have S2_1 : Cel w2 (w.heap.size) 1 (.int .i64 l) := O2.cels.2.1; have S2_2 : Cel w2 (w.heap.size) 2 (.int .i64 u) := O2.cels.2.2.1; have S2_3 : Cel w2 (w.heap.size) 3 (.int .i64 d) := O2.cels.2.2.2.1
  clear O1 S1_0 S1_1 S1_2 S1_3
  go_wp2_with fail
  refine (true_any a l u d r _).mono ?_
  rintro e w3 ⟨rfl, hb3⟩
  have hs3 := hb3.size; (try simp at hs3)
  have O3 : Own w (w2.heap.size + 1) w3 [(w2.heap.size, 0, .int .i64 (tLo a l u d a)), (w2.heap.size, 1, .int .i64 (tHi a l u d a))] := (by (repeat' (first | (with_reducible assumption) | (with_reducible exact Below.refl _ _) | (with_reducible exact Cels.nil _) | (with_reducible refine Cels.cons ?_ ?_) | (with_reducible refine Own.mk ?_ ?_ ?_ ?_) | ((with_reducible refine Cel.new ?_ rfl); first | (with_reducible rfl) | omega | (simp; done) | (simp; omega)) | (with_reducible refine Cel.alloc ?_ _) | (with_reducible refine Cel.drew ?_) | (with_reducible refine Cel.setS ?_ _) | (with_reducible refine Has.set ?_ _ _) | (with_reducible exact Has.of (by assumption)) | (with_reducible refine Cel.setO ?_ ?_ _) | (with_reducible refine Cel.keep (by assumption) ?_) | (with_reducible refine Below.alloc ?_ ?_ _) | (with_reducible refine Below.drew ?_) | (with_reducible refine Below.setCell ?_ ?_ _) | (with_reducible refine below_keep ?_ ?_ (by assumption)) | omega | (simp; done) | (simp; omega))))
  have hB3 := O3.below; have hz3 := O3.size; have hl3 := O3.le; have S3_0 : Cel w3 (w2.heap.size) 0 (.int .i64 (tLo a l u d a)) := O3.cels.1; have S3_1 : Cel w3 (w2.heap.size) 1 (.int .i64 (tHi a l u d a)) := O3.cels.2.1
  clear O2 S2_0 S2_1 S2_2 S2_3
  go_wp2
  all_goals first
    | (exfalso; omega)
    | (go_ret; exact ⟨rb (by first | rfl | (simp; done) | (rw [beq_iff_eq, Bool.eq_iff_iff]; simp; omega) | (simp; omega)), by (repeat' (first | (with_reducible assumption) | (with_reducible exact Below.refl _ _) | (with_reducible exact Cels.nil _) | (with_reducible refine Cels.cons ?_ ?_) | (with_reducible refine Own.mk ?_ ?_ ?_ ?_) | ((with_reducible refine Cel.new ?_ rfl); first | (with_reducible rfl) | omega | (simp; done) | (simp; omega)) | (with_reducible refine Cel.alloc ?_ _) | (with_reducible refine Cel.drew ?_) | (with_reducible refine Cel.setS ?_ _) | (with_reducible refine Has.set ?_ _ _) | (with_reducible exact Has.of (by assumption)) | (with_reducible refine Cel.setO ?_ ?_ _) | (with_reducible refine Cel.keep (by assumption) ?_) | (with_reducible refine Below.alloc ?_ ?_ _) | (with_reducible refine Below.drew ?_) | (with_reducible refine Below.setCell ?_ ?_ _) | (with_reducible refine below_keep ?_ ?_ (by assumption)) | omega | (simp; done) | (simp; omega)))⟩)

set_option maxRecDepth 100000 in
set_option maxHeartbeats 4000000 in
theorem law7_b4 (a l u d f r t : Int) (w : World) (h1 : tE a l u d a = 0) (h2 : tE a l u d r = 4) (h3 : tLo a l u d a ≤ f) (h4 : tHi a l u d a < f) : Calls Try.prog 9 #[ck a l u d, .int .i64 f, .int .i64 r, .int .i64 t] w fun e w' => e = .returned (.bool true) ∧ Below w.heap.size w w' := by
  go_enter Try.func9, Try.ntmps9
  go_wp2_with fail
  refine (head_any _).mono ?_
  rintro e w1 ⟨rfl, hb1⟩
  have hs1 := hb1.size; (try simp at hs1)
  have O1 : Own w (w.heap.size + 1) w1 [(w.heap.size, 0, .int .i64 a), (w.heap.size, 1, .int .i64 l), (w.heap.size, 2, .int .i64 u), (w.heap.size, 3, .int .i64 d)] := (by (repeat' (first | (with_reducible assumption) | (with_reducible exact Below.refl _ _) | (with_reducible exact Cels.nil _) | (with_reducible refine Cels.cons ?_ ?_) | (with_reducible refine Own.mk ?_ ?_ ?_ ?_) | ((with_reducible refine Cel.new ?_ rfl); first | (with_reducible rfl) | omega | (simp; done) | (simp; omega)) | (with_reducible refine Cel.alloc ?_ _) | (with_reducible refine Cel.drew ?_) | (with_reducible refine Cel.setS ?_ _) | (with_reducible refine Has.set ?_ _ _) | (with_reducible exact Has.of (by assumption)) | (with_reducible refine Cel.setO ?_ ?_ _) | (with_reducible refine Cel.keep (by assumption) ?_) | (with_reducible refine Below.alloc ?_ ?_ _) | (with_reducible refine Below.drew ?_) | (with_reducible refine Below.setCell ?_ ?_ _) | (with_reducible refine below_keep ?_ ?_ (by assumption)) | omega | (simp; done) | (simp; omega))))
  have hB1 := O1.below; have hz1 := O1.size; have hl1 := O1.le; have S1_0 : Cel w1 (w.heap.size) 0 (.int .i64 a) := O1.cels.1; have S1_1 : Cel w1 (w.heap.size) 1 (.int .i64 l) := O1.cels.2.1; have S1_2 : Cel w1 (w.heap.size) 2 (.int .i64 u) := O1.cels.2.2.1; have S1_3 : Cel w1 (w.heap.size) 3 (.int .i64 d) := O1.cels.2.2.2.1
  go_wp2_with fail
  refine (true_any a l u d a _).mono ?_
  rintro e w2 ⟨rfl, hb2⟩
  have hs2 := hb2.size; (try simp at hs2)
  have O2 : Own w (w.heap.size + 1) w2 [(w.heap.size, 0, .int .i64 a), (w.heap.size, 1, .int .i64 l), (w.heap.size, 2, .int .i64 u), (w.heap.size, 3, .int .i64 d)] := (by (repeat' (first | (with_reducible assumption) | (with_reducible exact Below.refl _ _) | (with_reducible exact Cels.nil _) | (with_reducible refine Cels.cons ?_ ?_) | (with_reducible refine Own.mk ?_ ?_ ?_ ?_) | ((with_reducible refine Cel.new ?_ rfl); first | (with_reducible rfl) | omega | (simp; done) | (simp; omega)) | (with_reducible refine Cel.alloc ?_ _) | (with_reducible refine Cel.drew ?_) | (with_reducible refine Cel.setS ?_ _) | (with_reducible refine Has.set ?_ _ _) | (with_reducible exact Has.of (by assumption)) | (with_reducible refine Cel.setO ?_ ?_ _) | (with_reducible refine Cel.keep (by assumption) ?_) | (with_reducible refine Below.alloc ?_ ?_ _) | (with_reducible refine Below.drew ?_) | (with_reducible refine Below.setCell ?_ ?_ _) | (with_reducible refine below_keep ?_ ?_ (by assumption)) | omega | (simp; done) | (simp; omega))))
  have hB2 := O2.below; have hz2 := O2.size; have hl2 := O2.le; have S2_0 : Cel w2 (w.heap.size) 0 (.int .i64 a) := O2.cels.1; have S2_1 : Cel w2 (w.heap.size) 1 (.int .i64 l) := O2.cels.2.1; have S2_2 : Cel w2 (w.heap.size) 2 (.int .i64 u) := O2.cels.2.2.1; have S2_3 : Cel w2 (w.heap.size) 3 (.int .i64 d) := O2.cels.2.2.2.1
  clear O1 S1_0 S1_1 S1_2 S1_3
  go_wp2_with fail
  refine (true_any a l u d r _).mono ?_
  rintro e w3 ⟨rfl, hb3⟩
  have hs3 := hb3.size; (try simp at hs3)
  have O3 : Own w (w2.heap.size + 1) w3 [(w2.heap.size, 0, .int .i64 (tLo a l u d a)), (w2.heap.size, 1, .int .i64 (tHi a l u d a))] := (by (repeat' (first | (with_reducible assumption) | (with_reducible exact Below.refl _ _) | (with_reducible exact Cels.nil _) | (with_reducible refine Cels.cons ?_ ?_) | (with_reducible refine Own.mk ?_ ?_ ?_ ?_) | ((with_reducible refine Cel.new ?_ rfl); first | (with_reducible rfl) | omega | (simp; done) | (simp; omega)) | (with_reducible refine Cel.alloc ?_ _) | (with_reducible refine Cel.drew ?_) | (with_reducible refine Cel.setS ?_ _) | (with_reducible refine Has.set ?_ _ _) | (with_reducible exact Has.of (by assumption)) | (with_reducible refine Cel.setO ?_ ?_ _) | (with_reducible refine Cel.keep (by assumption) ?_) | (with_reducible refine Below.alloc ?_ ?_ _) | (with_reducible refine Below.drew ?_) | (with_reducible refine Below.setCell ?_ ?_ _) | (with_reducible refine below_keep ?_ ?_ (by assumption)) | omega | (simp; done) | (simp; omega))))
  have hB3 := O3.below; have hz3 := O3.size; have hl3 := O3.le; have S3_0 : Cel w3 (w2.heap.size) 0 (.int .i64 (tLo a l u d a)) := O3.cels.1; have S3_1 : Cel w3 (w2.heap.size) 1 (.int .i64 (tHi a l u d a)) := O3.cels.2.1
  clear O2 S2_0 S2_1 S2_2 S2_3
  go_wp2
  all_goals first
    | (exfalso; omega)
    | (go_ret; exact ⟨rb (by first | rfl | (simp; done) | (rw [beq_iff_eq, Bool.eq_iff_iff]; simp; omega) | (simp; omega)), by (repeat' (first | (with_reducible assumption) | (with_reducible exact Below.refl _ _) | (with_reducible exact Cels.nil _) | (with_reducible refine Cels.cons ?_ ?_) | (with_reducible refine Own.mk ?_ ?_ ?_ ?_) | ((with_reducible refine Cel.new ?_ rfl); first | (with_reducible rfl) | omega | (simp; done) | (simp; omega)) | (with_reducible refine Cel.alloc ?_ _) | (with_reducible refine Cel.drew ?_) | (with_reducible refine Cel.setS ?_ _) | (with_reducible refine Has.set ?_ _ _) | (with_reducible exact Has.of (by assumption)) | (with_reducible refine Cel.setO ?_ ?_ _) | (with_reducible refine Cel.keep (by assumption) ?_) | (with_reducible refine Below.alloc ?_ ?_ _) | (with_reducible refine Below.drew ?_) | (with_reducible refine Below.setCell ?_ ?_ _) | (with_reducible refine below_keep ?_ ?_ (by assumption)) | omega | (simp; done) | (simp; omega)))⟩)

set_option maxRecDepth 100000 in
set_option maxHeartbeats 4000000 in
theorem law7_c4 (a l u d f r t : Int) (w : World) (h1 : tE a l u d a = 0) (h2 : tE a l u d r = 4) (h3 : tLo a l u d a ≤ f) (h4 : f ≤ tHi a l u d a) (h5 : t < 0) : Calls Try.prog 9 #[ck a l u d, .int .i64 f, .int .i64 r, .int .i64 t] w fun e w' => e = .returned (.bool true) ∧ Below w.heap.size w w' := by
  go_enter Try.func9, Try.ntmps9
  go_wp2_with fail
  refine (head_any _).mono ?_
  rintro e w1 ⟨rfl, hb1⟩
  have hs1 := hb1.size; (try simp at hs1)
  have O1 : Own w (w.heap.size + 1) w1 [(w.heap.size, 0, .int .i64 a), (w.heap.size, 1, .int .i64 l), (w.heap.size, 2, .int .i64 u), (w.heap.size, 3, .int .i64 d)] := (by (repeat' (first | (with_reducible assumption) | (with_reducible exact Below.refl _ _) | (with_reducible exact Cels.nil _) | (with_reducible refine Cels.cons ?_ ?_) | (with_reducible refine Own.mk ?_ ?_ ?_ ?_) | ((with_reducible refine Cel.new ?_ rfl); first | (with_reducible rfl) | omega | (simp; done) | (simp; omega)) | (with_reducible refine Cel.alloc ?_ _) | (with_reducible refine Cel.drew ?_) | (with_reducible refine Cel.setS ?_ _) | (with_reducible refine Has.set ?_ _ _) | (with_reducible exact Has.of (by assumption)) | (with_reducible refine Cel.setO ?_ ?_ _) | (with_reducible refine Cel.keep (by assumption) ?_) | (with_reducible refine Below.alloc ?_ ?_ _) | (with_reducible refine Below.drew ?_) | (with_reducible refine Below.setCell ?_ ?_ _) | (with_reducible refine below_keep ?_ ?_ (by assumption)) | omega | (simp; done) | (simp; omega))))
  have hB1 := O1.below; have hz1 := O1.size; have hl1 := O1.le; have S1_0 : Cel w1 (w.heap.size) 0 (.int .i64 a) := O1.cels.1; have S1_1 : Cel w1 (w.heap.size) 1 (.int .i64 l) := O1.cels.2.1; have S1_2 : Cel w1 (w.heap.size) 2 (.int .i64 u) := O1.cels.2.2.1; have S1_3 : Cel w1 (w.heap.size) 3 (.int .i64 d) := O1.cels.2.2.2.1
  go_wp2_with fail
  refine (true_any a l u d a _).mono ?_
  rintro e w2 ⟨rfl, hb2⟩
  have hs2 := hb2.size; (try simp at hs2)
  have O2 : Own w (w.heap.size + 1) w2 [(w.heap.size, 0, .int .i64 a), (w.heap.size, 1, .int .i64 l), (w.heap.size, 2, .int .i64 u), (w.heap.size, 3, .int .i64 d)] := (by (repeat' (first | (with_reducible assumption) | (with_reducible exact Below.refl _ _) | (with_reducible exact Cels.nil _) | (with_reducible refine Cels.cons ?_ ?_) | (with_reducible refine Own.mk ?_ ?_ ?_ ?_) | ((with_reducible refine Cel.new ?_ rfl); first | (with_reducible rfl) | omega | (simp; done) | (simp; omega)) | (with_reducible refine Cel.alloc ?_ _) | (with_reducible refine Cel.drew ?_) | (with_reducible refine Cel.setS ?_ _) | (with_reducible refine Has.set ?_ _ _) | (with_reducible exact Has.of (by assumption)) | (with_reducible refine Cel.setO ?_ ?_ _) | (with_reducible refine Cel.keep (by assumption) ?_) | (with_reducible refine Below.alloc ?_ ?_ _) | (with_reducible refine Below.drew ?_) | (with_reducible refine Below.setCell ?_ ?_ _) | (with_reducible refine below_keep ?_ ?_ (by assumption)) | omega | (simp; done) | (simp; omega))))
  have hB2 := O2.below; have hz2 := O2.size; have hl2 := O2.le; have S2_0 : Cel w2 (w.heap.size) 0 (.int .i64 a) := O2.cels.1; have S2_1 : Cel w2 (w.heap.size) 1 (.int .i64 l) := O2.cels.2.1; have S2_2 : Cel w2 (w.heap.size) 2 (.int .i64 u) := O2.cels.2.2.1; have S2_3 : Cel w2 (w.heap.size) 3 (.int .i64 d) := O2.cels.2.2.2.1
  clear O1 S1_0 S1_1 S1_2 S1_3
  go_wp2_with fail
  refine (true_any a l u d r _).mono ?_
  rintro e w3 ⟨rfl, hb3⟩
  have hs3 := hb3.size; (try simp at hs3)
  have O3 : Own w (w2.heap.size + 1) w3 [(w2.heap.size, 0, .int .i64 (tLo a l u d a)), (w2.heap.size, 1, .int .i64 (tHi a l u d a))] := (by (repeat' (first | (with_reducible assumption) | (with_reducible exact Below.refl _ _) | (with_reducible exact Cels.nil _) | (with_reducible refine Cels.cons ?_ ?_) | (with_reducible refine Own.mk ?_ ?_ ?_ ?_) | ((with_reducible refine Cel.new ?_ rfl); first | (with_reducible rfl) | omega | (simp; done) | (simp; omega)) | (with_reducible refine Cel.alloc ?_ _) | (with_reducible refine Cel.drew ?_) | (with_reducible refine Cel.setS ?_ _) | (with_reducible refine Has.set ?_ _ _) | (with_reducible exact Has.of (by assumption)) | (with_reducible refine Cel.setO ?_ ?_ _) | (with_reducible refine Cel.keep (by assumption) ?_) | (with_reducible refine Below.alloc ?_ ?_ _) | (with_reducible refine Below.drew ?_) | (with_reducible refine Below.setCell ?_ ?_ _) | (with_reducible refine below_keep ?_ ?_ (by assumption)) | omega | (simp; done) | (simp; omega))))
  have hB3 := O3.below; have hz3 := O3.size; have hl3 := O3.le; have S3_0 : Cel w3 (w2.heap.size) 0 (.int .i64 (tLo a l u d a)) := O3.cels.1; have S3_1 : Cel w3 (w2.heap.size) 1 (.int .i64 (tHi a l u d a)) := O3.cels.2.1
  clear O2 S2_0 S2_1 S2_2 S2_3
  go_wp2
  all_goals first
    | (exfalso; omega)
    | (go_ret; exact ⟨rb (by first | rfl | (simp; done) | (rw [beq_iff_eq, Bool.eq_iff_iff]; simp; omega) | (simp; omega)), by (repeat' (first | (with_reducible assumption) | (with_reducible exact Below.refl _ _) | (with_reducible exact Cels.nil _) | (with_reducible refine Cels.cons ?_ ?_) | (with_reducible refine Own.mk ?_ ?_ ?_ ?_) | ((with_reducible refine Cel.new ?_ rfl); first | (with_reducible rfl) | omega | (simp; done) | (simp; omega)) | (with_reducible refine Cel.alloc ?_ _) | (with_reducible refine Cel.drew ?_) | (with_reducible refine Cel.setS ?_ _) | (with_reducible refine Has.set ?_ _ _) | (with_reducible exact Has.of (by assumption)) | (with_reducible refine Cel.setO ?_ ?_ _) | (with_reducible refine Cel.keep (by assumption) ?_) | (with_reducible refine Below.alloc ?_ ?_ _) | (with_reducible refine Below.drew ?_) | (with_reducible refine Below.setCell ?_ ?_ _) | (with_reducible refine below_keep ?_ ?_ (by assumption)) | omega | (simp; done) | (simp; omega)))⟩)

set_option maxRecDepth 100000 in
set_option maxHeartbeats 4000000 in
theorem law7_d4 (a l u d f r t : Int) (w : World) (h1 : tE a l u d a = 0) (h2 : tE a l u d r = 4) (h3 : tLo a l u d a ≤ f) (h4 : f ≤ tHi a l u d a) (h5 : 0 ≤ t) (h6 : 10000000 < t) : Calls Try.prog 9 #[ck a l u d, .int .i64 f, .int .i64 r, .int .i64 t] w fun e w' => e = .returned (.bool true) ∧ Below w.heap.size w w' := by
  go_enter Try.func9, Try.ntmps9
  go_wp2_with fail
  refine (head_any _).mono ?_
  rintro e w1 ⟨rfl, hb1⟩
  have hs1 := hb1.size; (try simp at hs1)
  have O1 : Own w (w.heap.size + 1) w1 [(w.heap.size, 0, .int .i64 a), (w.heap.size, 1, .int .i64 l), (w.heap.size, 2, .int .i64 u), (w.heap.size, 3, .int .i64 d)] := (by (repeat' (first | (with_reducible assumption) | (with_reducible exact Below.refl _ _) | (with_reducible exact Cels.nil _) | (with_reducible refine Cels.cons ?_ ?_) | (with_reducible refine Own.mk ?_ ?_ ?_ ?_) | ((with_reducible refine Cel.new ?_ rfl); first | (with_reducible rfl) | omega | (simp; done) | (simp; omega)) | (with_reducible refine Cel.alloc ?_ _) | (with_reducible refine Cel.drew ?_) | (with_reducible refine Cel.setS ?_ _) | (with_reducible refine Has.set ?_ _ _) | (with_reducible exact Has.of (by assumption)) | (with_reducible refine Cel.setO ?_ ?_ _) | (with_reducible refine Cel.keep (by assumption) ?_) | (with_reducible refine Below.alloc ?_ ?_ _) | (with_reducible refine Below.drew ?_) | (with_reducible refine Below.setCell ?_ ?_ _) | (with_reducible refine below_keep ?_ ?_ (by assumption)) | omega | (simp; done) | (simp; omega))))
  have hB1 := O1.below; have hz1 := O1.size; have hl1 := O1.le; have S1_0 : Cel w1 (w.heap.size) 0 (.int .i64 a) := O1.cels.1; have S1_1 : Cel w1 (w.heap.size) 1 (.int .i64 l) := O1.cels.2.1; have S1_2 : Cel w1 (w.heap.size) 2 (.int .i64 u) := O1.cels.2.2.1; have S1_3 : Cel w1 (w.heap.size) 3 (.int .i64 d) := O1.cels.2.2.2.1
  go_wp2_with fail
  refine (true_any a l u d a _).mono ?_
  rintro e w2 ⟨rfl, hb2⟩
  have hs2 := hb2.size; (try simp at hs2)
  have O2 : Own w (w.heap.size + 1) w2 [(w.heap.size, 0, .int .i64 a), (w.heap.size, 1, .int .i64 l), (w.heap.size, 2, .int .i64 u), (w.heap.size, 3, .int .i64 d)] := (by (repeat' (first | (with_reducible assumption) | (with_reducible exact Below.refl _ _) | (with_reducible exact Cels.nil _) | (with_reducible refine Cels.cons ?_ ?_) | (with_reducible refine Own.mk ?_ ?_ ?_ ?_) | ((with_reducible refine Cel.new ?_ rfl); first | (with_reducible rfl) | omega | (simp; done) | (simp; omega)) | (with_reducible refine Cel.alloc ?_ _) | (with_reducible refine Cel.drew ?_) | (with_reducible refine Cel.setS ?_ _) | (with_reducible refine Has.set ?_ _ _) | (with_reducible exact Has.of (by assumption)) | (with_reducible refine Cel.setO ?_ ?_ _) | (with_reducible refine Cel.keep (by assumption) ?_) | (with_reducible refine Below.alloc ?_ ?_ _) | (with_reducible refine Below.drew ?_) | (with_reducible refine Below.setCell ?_ ?_ _) | (with_reducible refine below_keep ?_ ?_ (by assumption)) | omega | (simp; done) | (simp; omega))))
  have hB2 := O2.below; have hz2 := O2.size; have hl2 := O2.le; have S2_0 : Cel w2 (w.heap.size) 0 (.int .i64 a) := O2.cels.1; have S2_1 : Cel w2 (w.heap.size) 1 (.int .i64 l) := O2.cels.2.1; have S2_2 : Cel w2 (w.heap.size) 2 (.int .i64 u) := O2.cels.2.2.1; have S2_3 : Cel w2 (w.heap.size) 3 (.int .i64 d) := O2.cels.2.2.2.1
  clear O1 S1_0 S1_1 S1_2 S1_3
  go_wp2_with fail
  refine (true_any a l u d r _).mono ?_
  rintro e w3 ⟨rfl, hb3⟩
  have hs3 := hb3.size; (try simp at hs3)
  have O3 : Own w (w2.heap.size + 1) w3 [(w2.heap.size, 0, .int .i64 (tLo a l u d a)), (w2.heap.size, 1, .int .i64 (tHi a l u d a))] := (by (repeat' (first | (with_reducible assumption) | (with_reducible exact Below.refl _ _) | (with_reducible exact Cels.nil _) | (with_reducible refine Cels.cons ?_ ?_) | (with_reducible refine Own.mk ?_ ?_ ?_ ?_) | ((with_reducible refine Cel.new ?_ rfl); first | (with_reducible rfl) | omega | (simp; done) | (simp; omega)) | (with_reducible refine Cel.alloc ?_ _) | (with_reducible refine Cel.drew ?_) | (with_reducible refine Cel.setS ?_ _) | (with_reducible refine Has.set ?_ _ _) | (with_reducible exact Has.of (by assumption)) | (with_reducible refine Cel.setO ?_ ?_ _) | (with_reducible refine Cel.keep (by assumption) ?_) | (with_reducible refine Below.alloc ?_ ?_ _) | (with_reducible refine Below.drew ?_) | (with_reducible refine Below.setCell ?_ ?_ _) | (with_reducible refine below_keep ?_ ?_ (by assumption)) | omega | (simp; done) | (simp; omega))))
  have hB3 := O3.below; have hz3 := O3.size; have hl3 := O3.le; have S3_0 : Cel w3 (w2.heap.size) 0 (.int .i64 (tLo a l u d a)) := O3.cels.1; have S3_1 : Cel w3 (w2.heap.size) 1 (.int .i64 (tHi a l u d a)) := O3.cels.2.1
  clear O2 S2_0 S2_1 S2_2 S2_3
  go_wp2
  all_goals first
    | (exfalso; omega)
    | (go_ret; exact ⟨rb (by first | rfl | (simp; done) | (rw [beq_iff_eq, Bool.eq_iff_iff]; simp; omega) | (simp; omega)), by (repeat' (first | (with_reducible assumption) | (with_reducible exact Below.refl _ _) | (with_reducible exact Cels.nil _) | (with_reducible refine Cels.cons ?_ ?_) | (with_reducible refine Own.mk ?_ ?_ ?_ ?_) | ((with_reducible refine Cel.new ?_ rfl); first | (with_reducible rfl) | omega | (simp; done) | (simp; omega)) | (with_reducible refine Cel.alloc ?_ _) | (with_reducible refine Cel.drew ?_) | (with_reducible refine Cel.setS ?_ _) | (with_reducible refine Has.set ?_ _ _) | (with_reducible exact Has.of (by assumption)) | (with_reducible refine Cel.setO ?_ ?_ _) | (with_reducible refine Cel.keep (by assumption) ?_) | (with_reducible refine Below.alloc ?_ ?_ _) | (with_reducible refine Below.drew ?_) | (with_reducible refine Below.setCell ?_ ?_ _) | (with_reducible refine below_keep ?_ ?_ (by assumption)) | omega | (simp; done) | (simp; omega)))⟩)

set_option maxRecDepth 100000 in
set_option maxHeartbeats 4000000 in
theorem law7_g4p (a l u d f r t : Int) (w : World) (h1 : tE a l u d a = 0) (h2 : tE a l u d r = 4) (h3 : tLo a l u d a ≤ f) (h4 : f ≤ tHi a l u d a) (h5 : 0 ≤ t) (h6 : t ≤ 10000000) (a0 : 0 ≤ a) (a1 : a ≤ r) (a2 : r ≤ 10000000) (p0 : 0 ≤ d * (r - a)) (p1 : d * (r - a) ≤ 10000001000) (d0 : 0 ≤ d) (d1 : d ≤ 1000) (h7 : t - f - (r - a) < -(t - f - (r - a))) (h8 : d * (r - a) < (-(t - f - (r - a))) * 1000000) : Calls Try.prog 9 #[ck a l u d, .int .i64 f, .int .i64 r, .int .i64 t] w fun e w' => e = .returned (.bool true) ∧ Below w.heap.size w w' := by
  obtain ⟨b1, b2, b3, b4, b5⟩ := t_bd a l u d a
  go_enter Try.func9, Try.ntmps9
  go_wp2_with fail
  refine (head_any _).mono ?_
  rintro e w1 ⟨rfl, hb1⟩
  have hs1 := hb1.size; (try simp at hs1)
  have O1 : Own w (w.heap.size + 1) w1 [(w.heap.size, 0, .int .i64 a), (w.heap.size, 1, .int .i64 l), (w.heap.size, 2, .int .i64 u), (w.heap.size, 3, .int .i64 d)] := (by (repeat' (first | (with_reducible assumption) | (with_reducible exact Below.refl _ _) | (with_reducible exact Cels.nil _) | (with_reducible refine Cels.cons ?_ ?_) | (with_reducible refine Own.mk ?_ ?_ ?_ ?_) | ((with_reducible refine Cel.new ?_ rfl); first | (with_reducible rfl) | omega | (simp; done) | (simp; omega)) | (with_reducible refine Cel.alloc ?_ _) | (with_reducible refine Cel.drew ?_) | (with_reducible refine Cel.setS ?_ _) | (with_reducible refine Has.set ?_ _ _) | (with_reducible exact Has.of (by assumption)) | (with_reducible refine Cel.setO ?_ ?_ _) | (with_reducible refine Cel.keep (by assumption) ?_) | (with_reducible refine Below.alloc ?_ ?_ _) | (with_reducible refine Below.drew ?_) | (with_reducible refine Below.setCell ?_ ?_ _) | (with_reducible refine below_keep ?_ ?_ (by assumption)) | omega | (simp; done) | (simp; omega))))
  have hB1 := O1.below; have hz1 := O1.size; have hl1 := O1.le; have S1_0 : Cel w1 (w.heap.size) 0 (.int .i64 a) := O1.cels.1; have S1_1 : Cel w1 (w.heap.size) 1 (.int .i64 l) := O1.cels.2.1; have S1_2 : Cel w1 (w.heap.size) 2 (.int .i64 u) := O1.cels.2.2.1; have S1_3 : Cel w1 (w.heap.size) 3 (.int .i64 d) := O1.cels.2.2.2.1
  go_wp2_with fail
  refine (true_any a l u d a _).mono ?_
  rintro e w2 ⟨rfl, hb2⟩
  have hs2 := hb2.size; (try simp at hs2)
  have O2 : Own w (w.heap.size + 1) w2 [(w.heap.size, 0, .int .i64 a), (w.heap.size, 1, .int .i64 l), (w.heap.size, 2, .int .i64 u), (w.heap.size, 3, .int .i64 d)] := (by (repeat' (first | (with_reducible assumption) | (with_reducible exact Below.refl _ _) | (with_reducible exact Cels.nil _) | (with_reducible refine Cels.cons ?_ ?_) | (with_reducible refine Own.mk ?_ ?_ ?_ ?_) | ((with_reducible refine Cel.new ?_ rfl); first | (with_reducible rfl) | omega | (simp; done) | (simp; omega)) | (with_reducible refine Cel.alloc ?_ _) | (with_reducible refine Cel.drew ?_) | (with_reducible refine Cel.setS ?_ _) | (with_reducible refine Has.set ?_ _ _) | (with_reducible exact Has.of (by assumption)) | (with_reducible refine Cel.setO ?_ ?_ _) | (with_reducible refine Cel.keep (by assumption) ?_) | (with_reducible refine Below.alloc ?_ ?_ _) | (with_reducible refine Below.drew ?_) | (with_reducible refine Below.setCell ?_ ?_ _) | (with_reducible refine below_keep ?_ ?_ (by assumption)) | omega | (simp; done) | (simp; omega))))
  have hB2 := O2.below; have hz2 := O2.size; have hl2 := O2.le; have S2_0 : Cel w2 (w.heap.size) 0 (.int .i64 a) := O2.cels.1; have S2_1 : Cel w2 (w.heap.size) 1 (.int .i64 l) := O2.cels.2.1; have S2_2 : Cel w2 (w.heap.size) 2 (.int .i64 u) := O2.cels.2.2.1; have S2_3 : Cel w2 (w.heap.size) 3 (.int .i64 d) := O2.cels.2.2.2.1
  clear O1 S1_0 S1_1 S1_2 S1_3
  go_wp2_with fail
  refine (true_any a l u d r _).mono ?_
  rintro e w3 ⟨rfl, hb3⟩
  have hs3 := hb3.size; (try simp at hs3)
  have O3 : Own w (w2.heap.size + 1) w3 [(w.heap.size, 0, .int .i64 a), (w.heap.size, 1, .int .i64 l), (w.heap.size, 2, .int .i64 u), (w.heap.size, 3, .int .i64 d), (w2.heap.size, 0, .int .i64 (tLo a l u d a)), (w2.heap.size, 1, .int .i64 (tHi a l u d a))] := (by (repeat' (first | (with_reducible assumption) | (with_reducible exact Below.refl _ _) | (with_reducible exact Cels.nil _) | (with_reducible refine Cels.cons ?_ ?_) | (with_reducible refine Own.mk ?_ ?_ ?_ ?_) | ((with_reducible refine Cel.new ?_ rfl); first | (with_reducible rfl) | omega | (simp; done) | (simp; omega)) | (with_reducible refine Cel.alloc ?_ _) | (with_reducible refine Cel.drew ?_) | (with_reducible refine Cel.setS ?_ _) | (with_reducible refine Has.set ?_ _ _) | (with_reducible exact Has.of (by assumption)) | (with_reducible refine Cel.setO ?_ ?_ _) | (with_reducible refine Cel.keep (by assumption) ?_) | (with_reducible refine Below.alloc ?_ ?_ _) | (with_reducible refine Below.drew ?_) | (with_reducible refine Below.setCell ?_ ?_ _) | (with_reducible refine below_keep ?_ ?_ (by assumption)) | omega | (simp; done) | (simp; omega))))
  have hB3 := O3.below; have hz3 := O3.size; have hl3 := O3.le; have S3_0 : Cel w3 (w.heap.size) 0 (.int .i64 a) := O3.cels.1; have S3_1 : Cel w3 (w.heap.size) 1 (.int .i64 l) := O3.cels.2.1; have S3_2 : Cel w3 (w.heap.size) 2 (.int .i64 u) := O3.cels.2.2.1; have S3_3 : Cel w3 (w.heap.size) 3 (.int .i64 d) := O3.cels.2.2.2.1; have S3_4 : Cel w3 (w2.heap.size) 0 (.int .i64 (tLo a l u d a)) := O3.cels.2.2.2.2.1; have S3_5 : Cel w3 (w2.heap.size) 1 (.int .i64 (tHi a l u d a)) := O3.cels.2.2.2.2.2.1
  clear O2 S2_0 S2_1 S2_2 S2_3
  go_wp2
  all_goals first
    | (exfalso; omega)
    | (go_ret; exact ⟨rb (by first | rfl | (simp; done) | (rw [beq_iff_eq, Bool.eq_iff_iff]; simp; omega) | (simp; omega)), by (repeat' (first | (with_reducible assumption) | (with_reducible exact Below.refl _ _) | (with_reducible exact Cels.nil _) | (with_reducible refine Cels.cons ?_ ?_) | (with_reducible refine Own.mk ?_ ?_ ?_ ?_) | ((with_reducible refine Cel.new ?_ rfl); first | (with_reducible rfl) | omega | (simp; done) | (simp; omega)) | (with_reducible refine Cel.alloc ?_ _) | (with_reducible refine Cel.drew ?_) | (with_reducible refine Cel.setS ?_ _) | (with_reducible refine Has.set ?_ _ _) | (with_reducible exact Has.of (by assumption)) | (with_reducible refine Cel.setO ?_ ?_ _) | (with_reducible refine Cel.keep (by assumption) ?_) | (with_reducible refine Below.alloc ?_ ?_ _) | (with_reducible refine Below.drew ?_) | (with_reducible refine Below.setCell ?_ ?_ _) | (with_reducible refine below_keep ?_ ?_ (by assumption)) | omega | (simp; done) | (simp; omega)))⟩)

set_option maxRecDepth 100000 in
set_option maxHeartbeats 4000000 in
theorem law7_g4q (a l u d f r t : Int) (w : World) (h1 : tE a l u d a = 0) (h2 : tE a l u d r = 4) (h3 : tLo a l u d a ≤ f) (h4 : f ≤ tHi a l u d a) (h5 : 0 ≤ t) (h6 : t ≤ 10000000) (a0 : 0 ≤ a) (a1 : a ≤ r) (a2 : r ≤ 10000000) (p0 : 0 ≤ d * (r - a)) (p1 : d * (r - a) ≤ 10000001000) (d0 : 0 ≤ d) (d1 : d ≤ 1000) (h7 : -(t - f - (r - a)) ≤ t - f - (r - a)) (h8 : d * (r - a) < ((t - f - (r - a))) * 1000000) : Calls Try.prog 9 #[ck a l u d, .int .i64 f, .int .i64 r, .int .i64 t] w fun e w' => e = .returned (.bool true) ∧ Below w.heap.size w w' := by
  obtain ⟨b1, b2, b3, b4, b5⟩ := t_bd a l u d a
  go_enter Try.func9, Try.ntmps9
  go_wp2_with fail
  refine (head_any _).mono ?_
  rintro e w1 ⟨rfl, hb1⟩
  have hs1 := hb1.size; (try simp at hs1)
  have O1 : Own w (w.heap.size + 1) w1 [(w.heap.size, 0, .int .i64 a), (w.heap.size, 1, .int .i64 l), (w.heap.size, 2, .int .i64 u), (w.heap.size, 3, .int .i64 d)] := (by (repeat' (first | (with_reducible assumption) | (with_reducible exact Below.refl _ _) | (with_reducible exact Cels.nil _) | (with_reducible refine Cels.cons ?_ ?_) | (with_reducible refine Own.mk ?_ ?_ ?_ ?_) | ((with_reducible refine Cel.new ?_ rfl); first | (with_reducible rfl) | omega | (simp; done) | (simp; omega)) | (with_reducible refine Cel.alloc ?_ _) | (with_reducible refine Cel.drew ?_) | (with_reducible refine Cel.setS ?_ _) | (with_reducible refine Has.set ?_ _ _) | (with_reducible exact Has.of (by assumption)) | (with_reducible refine Cel.setO ?_ ?_ _) | (with_reducible refine Cel.keep (by assumption) ?_) | (with_reducible refine Below.alloc ?_ ?_ _) | (with_reducible refine Below.drew ?_) | (with_reducible refine Below.setCell ?_ ?_ _) | (with_reducible refine below_keep ?_ ?_ (by assumption)) | omega | (simp; done) | (simp; omega))))
  have hB1 := O1.below; have hz1 := O1.size; have hl1 := O1.le; have S1_0 : Cel w1 (w.heap.size) 0 (.int .i64 a) := O1.cels.1; have S1_1 : Cel w1 (w.heap.size) 1 (.int .i64 l) := O1.cels.2.1; have S1_2 : Cel w1 (w.heap.size) 2 (.int .i64 u) := O1.cels.2.2.1; have S1_3 : Cel w1 (w.heap.size) 3 (.int .i64 d) := O1.cels.2.2.2.1
  go_wp2_with fail
  refine (true_any a l u d a _).mono ?_
  rintro e w2 ⟨rfl, hb2⟩
  have hs2 := hb2.size; (try simp at hs2)
  have O2 : Own w (w.heap.size + 1) w2 [(w.heap.size, 0, .int .i64 a), (w.heap.size, 1, .int .i64 l), (w.heap.size, 2, .int .i64 u), (w.heap.size, 3, .int .i64 d)] := (by (repeat' (first | (with_reducible assumption) | (with_reducible exact Below.refl _ _) | (with_reducible exact Cels.nil _) | (with_reducible refine Cels.cons ?_ ?_) | (with_reducible refine Own.mk ?_ ?_ ?_ ?_) | ((with_reducible refine Cel.new ?_ rfl); first | (with_reducible rfl) | omega | (simp; done) | (simp; omega)) | (with_reducible refine Cel.alloc ?_ _) | (with_reducible refine Cel.drew ?_) | (with_reducible refine Cel.setS ?_ _) | (with_reducible refine Has.set ?_ _ _) | (with_reducible exact Has.of (by assumption)) | (with_reducible refine Cel.setO ?_ ?_ _) | (with_reducible refine Cel.keep (by assumption) ?_) | (with_reducible refine Below.alloc ?_ ?_ _) | (with_reducible refine Below.drew ?_) | (with_reducible refine Below.setCell ?_ ?_ _) | (with_reducible refine below_keep ?_ ?_ (by assumption)) | omega | (simp; done) | (simp; omega))))
  have hB2 := O2.below; have hz2 := O2.size; have hl2 := O2.le; have S2_0 : Cel w2 (w.heap.size) 0 (.int .i64 a) := O2.cels.1; have S2_1 : Cel w2 (w.heap.size) 1 (.int .i64 l) := O2.cels.2.1; have S2_2 : Cel w2 (w.heap.size) 2 (.int .i64 u) := O2.cels.2.2.1; have S2_3 : Cel w2 (w.heap.size) 3 (.int .i64 d) := O2.cels.2.2.2.1
  clear O1 S1_0 S1_1 S1_2 S1_3
  go_wp2_with fail
  refine (true_any a l u d r _).mono ?_
  rintro e w3 ⟨rfl, hb3⟩
  have hs3 := hb3.size; (try simp at hs3)
  have O3 : Own w (w2.heap.size + 1) w3 [(w.heap.size, 0, .int .i64 a), (w.heap.size, 1, .int .i64 l), (w.heap.size, 2, .int .i64 u), (w.heap.size, 3, .int .i64 d), (w2.heap.size, 0, .int .i64 (tLo a l u d a)), (w2.heap.size, 1, .int .i64 (tHi a l u d a))] := (by (repeat' (first | (with_reducible assumption) | (with_reducible exact Below.refl _ _) | (with_reducible exact Cels.nil _) | (with_reducible refine Cels.cons ?_ ?_) | (with_reducible refine Own.mk ?_ ?_ ?_ ?_) | ((with_reducible refine Cel.new ?_ rfl); first | (with_reducible rfl) | omega | (simp; done) | (simp; omega)) | (with_reducible refine Cel.alloc ?_ _) | (with_reducible refine Cel.drew ?_) | (with_reducible refine Cel.setS ?_ _) | (with_reducible refine Has.set ?_ _ _) | (with_reducible exact Has.of (by assumption)) | (with_reducible refine Cel.setO ?_ ?_ _) | (with_reducible refine Cel.keep (by assumption) ?_) | (with_reducible refine Below.alloc ?_ ?_ _) | (with_reducible refine Below.drew ?_) | (with_reducible refine Below.setCell ?_ ?_ _) | (with_reducible refine below_keep ?_ ?_ (by assumption)) | omega | (simp; done) | (simp; omega))))
  have hB3 := O3.below; have hz3 := O3.size; have hl3 := O3.le; have S3_0 : Cel w3 (w.heap.size) 0 (.int .i64 a) := O3.cels.1; have S3_1 : Cel w3 (w.heap.size) 1 (.int .i64 l) := O3.cels.2.1; have S3_2 : Cel w3 (w.heap.size) 2 (.int .i64 u) := O3.cels.2.2.1; have S3_3 : Cel w3 (w.heap.size) 3 (.int .i64 d) := O3.cels.2.2.2.1; have S3_4 : Cel w3 (w2.heap.size) 0 (.int .i64 (tLo a l u d a)) := O3.cels.2.2.2.2.1; have S3_5 : Cel w3 (w2.heap.size) 1 (.int .i64 (tHi a l u d a)) := O3.cels.2.2.2.2.2.1
  clear O2 S2_0 S2_1 S2_2 S2_3
  go_wp2
  all_goals first
    | (exfalso; omega)
    | (go_ret; exact ⟨rb (by first | rfl | (simp; done) | (rw [beq_iff_eq, Bool.eq_iff_iff]; simp; omega) | (simp; omega)), by (repeat' (first | (with_reducible assumption) | (with_reducible exact Below.refl _ _) | (with_reducible exact Cels.nil _) | (with_reducible refine Cels.cons ?_ ?_) | (with_reducible refine Own.mk ?_ ?_ ?_ ?_) | ((with_reducible refine Cel.new ?_ rfl); first | (with_reducible rfl) | omega | (simp; done) | (simp; omega)) | (with_reducible refine Cel.alloc ?_ _) | (with_reducible refine Cel.drew ?_) | (with_reducible refine Cel.setS ?_ _) | (with_reducible refine Has.set ?_ _ _) | (with_reducible exact Has.of (by assumption)) | (with_reducible refine Cel.setO ?_ ?_ _) | (with_reducible refine Cel.keep (by assumption) ?_) | (with_reducible refine Below.alloc ?_ ?_ _) | (with_reducible refine Below.drew ?_) | (with_reducible refine Below.setCell ?_ ?_ _) | (with_reducible refine below_keep ?_ ?_ (by assumption)) | omega | (simp; done) | (simp; omega)))⟩)

theorem t_in {a l u d r : Int} (h : ¬ tE a l u d r = 1) : a ≤ r ∧ r ≤ 10000000 := by
  rcases tE_01 a l u d r with h1 | h1 | h1
  · have := t0 h1; omega
  · exact absurd h1 h
  · have := t4 h1; omega
theorem law7 (a l u d f r t : Int) (w : World) : Calls Try.prog 9 #[ck a l u d, .int .i64 f, .int .i64 r, .int .i64 t] w fun e w' => e = .returned (.bool true) ∧ Below w.heap.size w w' := by
  rcases tE_01 a l u d a with h1 | h1 | h1
  · rcases tE_01 a l u d r with h2 | h2 | h2
    · skip
      by_cases h3 : f < tLo a l u d a
      · exact law7_a0 a l u d f r t w h1 h2 h3
      · by_cases h4 : tHi a l u d a < f
        · exact law7_b0 a l u d f r t w h1 h2 (by omega) h4
        · by_cases h5 : t < 0
          · exact law7_c0 a l u d f r t w h1 h2 (by omega) (by omega) h5
          · by_cases h6 : 10000000 < t
            · exact law7_d0 a l u d f r t w h1 h2 (by omega) (by omega) (by omega) h6
            · have hrr := t_in (a := a) (l := l) (u := u) (d := d) (r := r) (by omega)
              obtain ⟨hv, _⟩ := t0 h1
              obtain ⟨a0, a1, d0, d1, _⟩ := vld_bd hv
              obtain ⟨p0, p1⟩ := prod_bd d (r - a) d0 d1 (by omega) (by omega)
              have hp7 := p7 (l := l) (u := u) (f := f) (t := t) h1 (by omega : ¬ tE a l u d r = 1) (by omega) (by omega) (by omega) (by omega)
              by_cases h7 : t - f - (r - a) < -(t - f - (r - a))
              · by_cases h8 : d * (r - a) < (-(t - f - (r - a))) * 1000000
                · exact law7_g0p a l u d f r t w h1 h2 (by omega) (by omega) (by omega) (by omega) a0 hrr.1 hrr.2 p0 p1 d0 d1 h7 h8
                · have hy := hp7 (by rw [show max (t - f - (r - a)) (-(t - f - (r - a))) = -(t - f - (r - a)) by omega]; omega)
                  exact law7_yp a l u d f r t w h1 h2 (by omega) (by omega) (by omega) (by omega) a0 hrr.1 hrr.2 p0 p1 d0 d1 h7 (by omega) hy.2.1 hy.2.2
              · by_cases h8 : d * (r - a) < (t - f - (r - a)) * 1000000
                · exact law7_g0q a l u d f r t w h1 h2 (by omega) (by omega) (by omega) (by omega) a0 hrr.1 hrr.2 p0 p1 d0 d1 (by omega) h8
                · have hy := hp7 (by rw [show max (t - f - (r - a)) (-(t - f - (r - a))) = t - f - (r - a) by omega]; omega)
                  exact law7_yq a l u d f r t w h1 h2 (by omega) (by omega) (by omega) (by omega) a0 hrr.1 hrr.2 p0 p1 d0 d1 (by omega) (by omega) hy.2.1 hy.2.2
    · exact law7_r1 a l u d f r t w h1 h2
    · skip
      by_cases h3 : f < tLo a l u d a
      · exact law7_a4 a l u d f r t w h1 h2 h3
      · by_cases h4 : tHi a l u d a < f
        · exact law7_b4 a l u d f r t w h1 h2 (by omega) h4
        · by_cases h5 : t < 0
          · exact law7_c4 a l u d f r t w h1 h2 (by omega) (by omega) h5
          · by_cases h6 : 10000000 < t
            · exact law7_d4 a l u d f r t w h1 h2 (by omega) (by omega) (by omega) h6
            · have hrr := t_in (a := a) (l := l) (u := u) (d := d) (r := r) (by omega)
              obtain ⟨hv, _⟩ := t0 h1
              obtain ⟨a0, a1, d0, d1, _⟩ := vld_bd hv
              obtain ⟨p0, p1⟩ := prod_bd d (r - a) d0 d1 (by omega) (by omega)
              have hp7 := p7 (l := l) (u := u) (f := f) (t := t) h1 (by omega : ¬ tE a l u d r = 1) (by omega) (by omega) (by omega) (by omega)
              by_cases h7 : t - f - (r - a) < -(t - f - (r - a))
              · by_cases h8 : d * (r - a) < (-(t - f - (r - a))) * 1000000
                · exact law7_g4p a l u d f r t w h1 h2 (by omega) (by omega) (by omega) (by omega) a0 hrr.1 hrr.2 p0 p1 d0 d1 h7 h8
                · have hy := hp7 (by rw [show max (t - f - (r - a)) (-(t - f - (r - a))) = -(t - f - (r - a)) by omega]; omega)
                  omega
              · by_cases h8 : d * (r - a) < (t - f - (r - a)) * 1000000
                · exact law7_g4q a l u d f r t w h1 h2 (by omega) (by omega) (by omega) (by omega) a0 hrr.1 hrr.2 p0 p1 d0 d1 (by omega) h8
                · have hy := hp7 (by rw [show max (t - f - (r - a)) (-(t - f - (r - a))) = t - f - (r - a) by omega]; omega)
                  omega
  · exact law7_e1 a l u d f r t w h1
  · exact law7_e4 a l u d f r t w h1

end Go.Proofs.Ytphmfkellojecaa
