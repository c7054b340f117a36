/- Walks: the other text's True. -/
import Derived.Test.YtphmfkellojecaaF
import Derived.Test.YtphmfkellojecaaL
set_option linter.unusedVariables false
set_option linter.unusedSimpArgs false
namespace Go.Proofs.Ytphmfkellojecaa
open Go.RowKit
attribute [local go_sem] World.cell?_alloc_some frozen_alloc_some isSome_alloc isSome_setCell

set_option maxHeartbeats 800000 in
theorem rtrue_bad1 (a l u d r : Int) (w : World) (h1 : vld a l u d = false) :
    Calls Try.prog 15 #[ck a l u d, .int .i64 r] w fun e w' => e = .returned (.tuple #[sp (0) (0), .int .i64 1]) ∧ Below w.heap.size w w' := by
  go_enter Try.func15, Try.ntmps15
  go_wp2_with (first | (go_at_call 13; refine (rvalid_any _ _ _ _ _).mono ?_; rintro e w1 ⟨rfl, hb⟩; have hs := hb.size; (try simp at hs); have O : Own w (w.heap.size + 2) w1 [(w.heap.size, 0, .int .i64 a), (w.heap.size, 1, .int .i64 l), (w.heap.size, 2, .int .i64 u), (w.heap.size, 3, .int .i64 d), (w.heap.size + 1, 0, .int .i64 0), (w.heap.size + 1, 1, .int .i64 0)] := (by first | exact Own.keep (by assumption) hb | (repeat' (first | (with_reducible assumption) | (with_reducible exact Below.refl _ _) | (with_reducible exact Cels.nil _) | (with_reducible refine Cels.cons ?_ ?_) | (with_reducible refine Own.mk ?_ ?_ ?_ ?_) | ((with_reducible refine Cel.new ?_ rfl); first | (with_reducible rfl) | omega | (simp; done) | (simp; omega)) | (with_reducible refine Cel.alloc ?_ _) | (with_reducible refine Cel.drew ?_) | (with_reducible refine Cel.setS ?_ _) | (with_reducible refine Has.set ?_ _ _) | (with_reducible exact Has.of (by assumption)) | (with_reducible refine Cel.setO ?_ ?_ _) | (with_reducible refine Cel.keep (by assumption) ?_) | (with_reducible refine Below.alloc ?_ ?_ _) | (with_reducible refine Below.drew ?_) | (with_reducible refine Below.setCell ?_ ?_ _) | (with_reducible refine below_keep ?_ ?_ (by assumption)) | omega | (simp; done) | (simp; omega)))); have hB := O.below; have hz := O.size; have S0 : Cel w1 (w.heap.size) 0 (.int .i64 a) := O.cels.1; have S1 : Cel w1 (w.heap.size) 1 (.int .i64 l) := O.cels.2.1; have S2 : Cel w1 (w.heap.size) 2 (.int .i64 u) := O.cels.2.2.1; have S3 : Cel w1 (w.heap.size) 3 (.int .i64 d) := O.cels.2.2.2.1; have S4 : Cel w1 (w.heap.size + 1) 0 (.int .i64 0) := O.cels.2.2.2.2.1; have S5 : Cel w1 (w.heap.size + 1) 1 (.int .i64 0) := O.cels.2.2.2.2.2.1) | (go_at_call 35; refine (rreading_any _ _ _ _ _ _).mono ?_; rintro e w2 ⟨rfl, hb⟩; have hs := hb.size; (try simp at hs); have O : Own w (w.heap.size + 2) w2 [(w.heap.size, 0, .int .i64 a), (w.heap.size, 1, .int .i64 l), (w.heap.size, 2, .int .i64 u), (w.heap.size, 3, .int .i64 d), (w.heap.size + 1, 0, .int .i64 0), (w.heap.size + 1, 1, .int .i64 0)] := (by first | exact Own.keep (by assumption) hb | (repeat' (first | (with_reducible assumption) | (with_reducible exact Below.refl _ _) | (with_reducible exact Cels.nil _) | (with_reducible refine Cels.cons ?_ ?_) | (with_reducible refine Own.mk ?_ ?_ ?_ ?_) | ((with_reducible refine Cel.new ?_ rfl); first | (with_reducible rfl) | omega | (simp; done) | (simp; omega)) | (with_reducible refine Cel.alloc ?_ _) | (with_reducible refine Cel.drew ?_) | (with_reducible refine Cel.setS ?_ _) | (with_reducible refine Has.set ?_ _ _) | (with_reducible exact Has.of (by assumption)) | (with_reducible refine Cel.setO ?_ ?_ _) | (with_reducible refine Cel.keep (by assumption) ?_) | (with_reducible refine Below.alloc ?_ ?_ _) | (with_reducible refine Below.drew ?_) | (with_reducible refine Below.setCell ?_ ?_ _) | (with_reducible refine below_keep ?_ ?_ (by assumption)) | omega | (simp; done) | (simp; omega)))); have hB := O.below; have hz := O.size; have S0 : Cel w2 (w.heap.size) 0 (.int .i64 a) := O.cels.1; have S1 : Cel w2 (w.heap.size) 1 (.int .i64 l) := O.cels.2.1; have S2 : Cel w2 (w.heap.size) 2 (.int .i64 u) := O.cels.2.2.1; have S3 : Cel w2 (w.heap.size) 3 (.int .i64 d) := O.cels.2.2.2.1; have S4 : Cel w2 (w.heap.size + 1) 0 (.int .i64 0) := O.cels.2.2.2.2.1; have S5 : Cel w2 (w.heap.size + 1) 1 (.int .i64 0) := O.cels.2.2.2.2.2.1))
  all_goals
    refine bodyPost_ret (v := .tuple #[sp (0) (0), .int .i64 1]) (by simp [results, Try.results15, go_sem, *] <;> omega) rfl ⟨rfl, ?_⟩
    (repeat' (first | (with_reducible assumption) | (with_reducible exact Below.refl _ _) | (with_reducible exact Cels.nil _) | (with_reducible refine Cels.cons ?_ ?_) | (with_reducible refine Own.mk ?_ ?_ ?_ ?_) | ((with_reducible refine Cel.new ?_ rfl); first | (with_reducible rfl) | omega | (simp; done) | (simp; omega)) | (with_reducible refine Cel.alloc ?_ _) | (with_reducible refine Cel.drew ?_) | (with_reducible refine Cel.setS ?_ _) | (with_reducible refine Has.set ?_ _ _) | (with_reducible exact Has.of (by assumption)) | (with_reducible refine Cel.setO ?_ ?_ _) | (with_reducible refine Cel.keep (by assumption) ?_) | (with_reducible refine Below.alloc ?_ ?_ _) | (with_reducible refine Below.drew ?_) | (with_reducible refine Below.setCell ?_ ?_ _) | (with_reducible refine below_keep ?_ ?_ (by assumption)) | omega | (simp; done) | (simp; omega)))

set_option maxHeartbeats 800000 in
theorem rtrue_bad2 (a l u d r : Int) (w : World) (h1 : vld a l u d = true) (h2 : rdg a r = false) :
    Calls Try.prog 15 #[ck a l u d, .int .i64 r] w fun e w' => e = .returned (.tuple #[sp (0) (0), .int .i64 1]) ∧ Below w.heap.size w w' := by
  go_enter Try.func15, Try.ntmps15
  go_wp2_with (first | (go_at_call 13; refine (rvalid_any _ _ _ _ _).mono ?_; rintro e w1 ⟨rfl, hb⟩; have hs := hb.size; (try simp at hs); have O : Own w (w.heap.size + 2) w1 [(w.heap.size, 0, .int .i64 a), (w.heap.size, 1, .int .i64 l), (w.heap.size, 2, .int .i64 u), (w.heap.size, 3, .int .i64 d), (w.heap.size + 1, 0, .int .i64 0), (w.heap.size + 1, 1, .int .i64 0)] := (by first | exact Own.keep (by assumption) hb | (repeat' (first | (with_reducible assumption) | (with_reducible exact Below.refl _ _) | (with_reducible exact Cels.nil _) | (with_reducible refine Cels.cons ?_ ?_) | (with_reducible refine Own.mk ?_ ?_ ?_ ?_) | ((with_reducible refine Cel.new ?_ rfl); first | (with_reducible rfl) | omega | (simp; done) | (simp; omega)) | (with_reducible refine Cel.alloc ?_ _) | (with_reducible refine Cel.drew ?_) | (with_reducible refine Cel.setS ?_ _) | (with_reducible refine Has.set ?_ _ _) | (with_reducible exact Has.of (by assumption)) | (with_reducible refine Cel.setO ?_ ?_ _) | (with_reducible refine Cel.keep (by assumption) ?_) | (with_reducible refine Below.alloc ?_ ?_ _) | (with_reducible refine Below.drew ?_) | (with_reducible refine Below.setCell ?_ ?_ _) | (with_reducible refine below_keep ?_ ?_ (by assumption)) | omega | (simp; done) | (simp; omega)))); have hB := O.below; have hz := O.size; have S0 : Cel w1 (w.heap.size) 0 (.int .i64 a) := O.cels.1; have S1 : Cel w1 (w.heap.size) 1 (.int .i64 l) := O.cels.2.1; have S2 : Cel w1 (w.heap.size) 2 (.int .i64 u) := O.cels.2.2.1; have S3 : Cel w1 (w.heap.size) 3 (.int .i64 d) := O.cels.2.2.2.1; have S4 : Cel w1 (w.heap.size + 1) 0 (.int .i64 0) := O.cels.2.2.2.2.1; have S5 : Cel w1 (w.heap.size + 1) 1 (.int .i64 0) := O.cels.2.2.2.2.2.1) | (go_at_call 35; refine (rreading_any _ _ _ _ _ _).mono ?_; rintro e w2 ⟨rfl, hb⟩; have hs := hb.size; (try simp at hs); have O : Own w (w.heap.size + 2) w2 [(w.heap.size, 0, .int .i64 a), (w.heap.size, 1, .int .i64 l), (w.heap.size, 2, .int .i64 u), (w.heap.size, 3, .int .i64 d), (w.heap.size + 1, 0, .int .i64 0), (w.heap.size + 1, 1, .int .i64 0)] := (by first | exact Own.keep (by assumption) hb | (repeat' (first | (with_reducible assumption) | (with_reducible exact Below.refl _ _) | (with_reducible exact Cels.nil _) | (with_reducible refine Cels.cons ?_ ?_) | (with_reducible refine Own.mk ?_ ?_ ?_ ?_) | ((with_reducible refine Cel.new ?_ rfl); first | (with_reducible rfl) | omega | (simp; done) | (simp; omega)) | (with_reducible refine Cel.alloc ?_ _) | (with_reducible refine Cel.drew ?_) | (with_reducible refine Cel.setS ?_ _) | (with_reducible refine Has.set ?_ _ _) | (with_reducible exact Has.of (by assumption)) | (with_reducible refine Cel.setO ?_ ?_ _) | (with_reducible refine Cel.keep (by assumption) ?_) | (with_reducible refine Below.alloc ?_ ?_ _) | (with_reducible refine Below.drew ?_) | (with_reducible refine Below.setCell ?_ ?_ _) | (with_reducible refine below_keep ?_ ?_ (by assumption)) | omega | (simp; done) | (simp; omega)))); have hB := O.below; have hz := O.size; have S0 : Cel w2 (w.heap.size) 0 (.int .i64 a) := O.cels.1; have S1 : Cel w2 (w.heap.size) 1 (.int .i64 l) := O.cels.2.1; have S2 : Cel w2 (w.heap.size) 2 (.int .i64 u) := O.cels.2.2.1; have S3 : Cel w2 (w.heap.size) 3 (.int .i64 d) := O.cels.2.2.2.1; have S4 : Cel w2 (w.heap.size + 1) 0 (.int .i64 0) := O.cels.2.2.2.2.1; have S5 : Cel w2 (w.heap.size + 1) 1 (.int .i64 0) := O.cels.2.2.2.2.2.1))
  all_goals
    refine bodyPost_ret (v := .tuple #[sp (0) (0), .int .i64 1]) (by simp [results, Try.results15, go_sem, *] <;> omega) rfl ⟨rfl, ?_⟩
    (repeat' (first | (with_reducible assumption) | (with_reducible exact Below.refl _ _) | (with_reducible exact Cels.nil _) | (with_reducible refine Cels.cons ?_ ?_) | (with_reducible refine Own.mk ?_ ?_ ?_ ?_) | ((with_reducible refine Cel.new ?_ rfl); first | (with_reducible rfl) | omega | (simp; done) | (simp; omega)) | (with_reducible refine Cel.alloc ?_ _) | (with_reducible refine Cel.drew ?_) | (with_reducible refine Cel.setS ?_ _) | (with_reducible refine Has.set ?_ _ _) | (with_reducible exact Has.of (by assumption)) | (with_reducible refine Cel.setO ?_ ?_ _) | (with_reducible refine Cel.keep (by assumption) ?_) | (with_reducible refine Below.alloc ?_ ?_ _) | (with_reducible refine Below.drew ?_) | (with_reducible refine Below.setCell ?_ ?_ _) | (with_reducible refine below_keep ?_ ?_ (by assumption)) | omega | (simp; done) | (simp; omega)))

set_option maxHeartbeats 1600000 in
theorem rtrue_ok (a l u d r : Int) (w : World) (h1 : vld a l u d = true) (h2 : a ≤ r) (h3 : r ≤ 10000000) (h4 : (max 0 (r + l - slip a d r)) ≤ (min 10000000 (r + u + slip a d r))) :
    Calls Try.prog 15 #[ck a l u d, .int .i64 r] w fun e w' => e = .returned (.tuple #[sp ((max 0 (r + l - slip a d r))) ((min 10000000 (r + u + slip a d r))), .int .i64 0]) ∧ Below w.heap.size w w' := by
  obtain ⟨a0, a1, d0, d1, l0, l1, l2, u0, u1⟩ := vld_bd h1
  obtain ⟨p0, p1⟩ := slip_bd a d r d0 d1 h2 (by omega)
  have hr : rdg a r = true := decide_eq_true (by omega)
  go_enter Try.func15, Try.ntmps15
  go_wp2_with (first | (go_at_call 13; refine (rvalid_any _ _ _ _ _).mono ?_; rintro e w1 ⟨rfl, hb⟩; have hs := hb.size; (try simp at hs); have O : Own w (w.heap.size + 2) w1 [(w.heap.size, 0, .int .i64 a), (w.heap.size, 1, .int .i64 l), (w.heap.size, 2, .int .i64 u), (w.heap.size, 3, .int .i64 d), (w.heap.size + 1, 0, .int .i64 0), (w.heap.size + 1, 1, .int .i64 0)] := (by first | exact Own.keep (by assumption) hb | (repeat' (first | (with_reducible assumption) | (with_reducible exact Below.refl _ _) | (with_reducible exact Cels.nil _) | (with_reducible refine Cels.cons ?_ ?_) | (with_reducible refine Own.mk ?_ ?_ ?_ ?_) | ((with_reducible refine Cel.new ?_ rfl); first | (with_reducible rfl) | omega | (simp; done) | (simp; omega)) | (with_reducible refine Cel.alloc ?_ _) | (with_reducible refine Cel.drew ?_) | (with_reducible refine Cel.setS ?_ _) | (with_reducible refine Has.set ?_ _ _) | (with_reducible exact Has.of (by assumption)) | (with_reducible refine Cel.setO ?_ ?_ _) | (with_reducible refine Cel.keep (by assumption) ?_) | (with_reducible refine Below.alloc ?_ ?_ _) | (with_reducible refine Below.drew ?_) | (with_reducible refine Below.setCell ?_ ?_ _) | (with_reducible refine below_keep ?_ ?_ (by assumption)) | omega | (simp; done) | (simp; omega)))); have hB := O.below; have hz := O.size; have S0 : Cel w1 (w.heap.size) 0 (.int .i64 a) := O.cels.1; have S1 : Cel w1 (w.heap.size) 1 (.int .i64 l) := O.cels.2.1; have S2 : Cel w1 (w.heap.size) 2 (.int .i64 u) := O.cels.2.2.1; have S3 : Cel w1 (w.heap.size) 3 (.int .i64 d) := O.cels.2.2.2.1; have S4 : Cel w1 (w.heap.size + 1) 0 (.int .i64 0) := O.cels.2.2.2.2.1; have S5 : Cel w1 (w.heap.size + 1) 1 (.int .i64 0) := O.cels.2.2.2.2.2.1) | (go_at_call 35; refine (rreading_any _ _ _ _ _ _).mono ?_; rintro e w2 ⟨rfl, hb⟩; have hs := hb.size; (try simp at hs); have O : Own w (w.heap.size + 2) w2 [(w.heap.size, 0, .int .i64 a), (w.heap.size, 1, .int .i64 l), (w.heap.size, 2, .int .i64 u), (w.heap.size, 3, .int .i64 d), (w.heap.size + 1, 0, .int .i64 0), (w.heap.size + 1, 1, .int .i64 0)] := (by first | exact Own.keep (by assumption) hb | (repeat' (first | (with_reducible assumption) | (with_reducible exact Below.refl _ _) | (with_reducible exact Cels.nil _) | (with_reducible refine Cels.cons ?_ ?_) | (with_reducible refine Own.mk ?_ ?_ ?_ ?_) | ((with_reducible refine Cel.new ?_ rfl); first | (with_reducible rfl) | omega | (simp; done) | (simp; omega)) | (with_reducible refine Cel.alloc ?_ _) | (with_reducible refine Cel.drew ?_) | (with_reducible refine Cel.setS ?_ _) | (with_reducible refine Has.set ?_ _ _) | (with_reducible exact Has.of (by assumption)) | (with_reducible refine Cel.setO ?_ ?_ _) | (with_reducible refine Cel.keep (by assumption) ?_) | (with_reducible refine Below.alloc ?_ ?_ _) | (with_reducible refine Below.drew ?_) | (with_reducible refine Below.setCell ?_ ?_ _) | (with_reducible refine below_keep ?_ ?_ (by assumption)) | omega | (simp; done) | (simp; omega)))); have hB := O.below; have hz := O.size; have S0 : Cel w2 (w.heap.size) 0 (.int .i64 a) := O.cels.1; have S1 : Cel w2 (w.heap.size) 1 (.int .i64 l) := O.cels.2.1; have S2 : Cel w2 (w.heap.size) 2 (.int .i64 u) := O.cels.2.2.1; have S3 : Cel w2 (w.heap.size) 3 (.int .i64 d) := O.cels.2.2.2.1; have S4 : Cel w2 (w.heap.size + 1) 0 (.int .i64 0) := O.cels.2.2.2.2.1; have S5 : Cel w2 (w.heap.size + 1) 1 (.int .i64 0) := O.cels.2.2.2.2.2.1))
  refine wp_region_by (fun a0 L a' w' => ∃ nb : Nat, a' = pcs a0 [(17, L 0, ck a l u d), (18, L 1, .int .i64 r), (19, L 2, .int .i64 ((r + l - slip a d r))), (20, L 3, .int .i64 ((max 0 (r + l - slip a d r)))), (21, L 4, ck a l u d), (22, L 5, .int .i64 r), (23, L 6, .int .i64 ((r + u + slip a d r))), (24, L 7, .int .i64 ((min 10000000 (r + u + slip a d r)))), (25, L 8, sp (max 0 (r + l - slip a d r)) (min 10000000 (r + u + slip a d r))), (6, L 9, .pointer (some ⟨nb, 0, none⟩))] ∧ Own w (w.heap.size + 2) w' [(w.heap.size, 0, .int .i64 a), (w.heap.size, 1, .int .i64 l), (w.heap.size, 2, .int .i64 u), (w.heap.size, 3, .int .i64 d), (w.heap.size + 1, 0, .int .i64 0), (w.heap.size + 1, 1, .int .i64 0)] ∧ (L 9 = true → (w.heap.size + 2) ≤ nb ∧ Cels w' [(nb, 0, .int .i64 (bif L 10 then (max 0 (r + l - slip a d r)) else 0)), (nb, 1, .int .i64 (bif L 10 then (min 10000000 (r + u + slip a d r)) else 0))])) (by kernel_rfl) (by kernel_rfl) ?_ ?_ ?_
  · exact ⟨0, (pcs_start _ _ (by simp)).symm, by (repeat' (first | (with_reducible assumption) | (with_reducible exact Below.refl _ _) | (with_reducible exact Cels.nil _) | (with_reducible refine Cels.cons ?_ ?_) | (with_reducible refine Own.mk ?_ ?_ ?_ ?_) | ((with_reducible refine Cel.new ?_ rfl); first | (with_reducible rfl) | omega | (simp; done) | (simp; omega)) | (with_reducible refine Cel.alloc ?_ _) | (with_reducible refine Cel.drew ?_) | (with_reducible refine Cel.setS ?_ _) | (with_reducible refine Has.set ?_ _ _) | (with_reducible exact Has.of (by assumption)) | (with_reducible refine Cel.setO ?_ ?_ _) | (with_reducible refine Cel.keep (by assumption) ?_) | (with_reducible refine Below.alloc ?_ ?_ _) | (with_reducible refine Below.drew ?_) | (with_reducible refine Below.setCell ?_ ?_ _) | (with_reducible refine below_keep ?_ ?_ (by assumption)) | omega | (simp; done) | (simp; omega))), fun hff => (by cases hff)⟩
  · refine ⟨?_, ?_, ?_, ?_, ?_, ?_, ?_, ?_, ?_, ?_, ?_, trivial⟩
    · rintro L a' v ⟨nb, rfl, O, hn9⟩ hL hd hcl K hK
      have HK := Lib.hid hK
      clear hK
      have hB := O.below; have hz := O.size; have S0 : Cel v (w.heap.size) 0 (.int .i64 a) := O.cels.1; have S1 : Cel v (w.heap.size) 1 (.int .i64 l) := O.cels.2.1; have S2 : Cel v (w.heap.size) 2 (.int .i64 u) := O.cels.2.2.1; have S3 : Cel v (w.heap.size) 3 (.int .i64 d) := O.cels.2.2.2.1; have S4 : Cel v (w.heap.size + 1) 0 (.int .i64 0) := O.cels.2.2.2.2.1; have S5 : Cel v (w.heap.size + 1) 1 (.int .i64 0) := O.cels.2.2.2.2.2.1
      simp [Region.binds] at hd
      simp only [pcs, List.foldl_cons, List.foldl_nil, Act.put]
      go_simp
      exact HK.out _ _ ⟨nb, by simp [pcs, Act.put, upd, gomax, gomin, *] <;> omega, O, by simpa [upd] using hn9⟩
    · rintro L a' v ⟨nb, rfl, O, hn9⟩ hL hd hcl K hK
      have HK := Lib.hid hK
      clear hK
      have hB := O.below; have hz := O.size; have S0 : Cel v (w.heap.size) 0 (.int .i64 a) := O.cels.1; have S1 : Cel v (w.heap.size) 1 (.int .i64 l) := O.cels.2.1; have S2 : Cel v (w.heap.size) 2 (.int .i64 u) := O.cels.2.2.1; have S3 : Cel v (w.heap.size) 3 (.int .i64 d) := O.cels.2.2.2.1; have S4 : Cel v (w.heap.size + 1) 0 (.int .i64 0) := O.cels.2.2.2.2.1; have S5 : Cel v (w.heap.size + 1) 1 (.int .i64 0) := O.cels.2.2.2.2.2.1
      simp [Region.binds] at hd
      simp only [pcs, List.foldl_cons, List.foldl_nil, Act.put]
      go_simp
      exact HK.out _ _ ⟨nb, by simp [pcs, Act.put, upd, gomax, gomin, *] <;> omega, O, by simpa [upd] using hn9⟩
    · rintro L a' v ⟨nb, rfl, O, hn9⟩ hL hd hcl K hK
      have HK := Lib.hid hK
      clear hK
      have hB := O.below; have hz := O.size; have S0 : Cel v (w.heap.size) 0 (.int .i64 a) := O.cels.1; have S1 : Cel v (w.heap.size) 1 (.int .i64 l) := O.cels.2.1; have S2 : Cel v (w.heap.size) 2 (.int .i64 u) := O.cels.2.2.1; have S3 : Cel v (w.heap.size) 3 (.int .i64 d) := O.cels.2.2.2.1; have S4 : Cel v (w.heap.size + 1) 0 (.int .i64 0) := O.cels.2.2.2.2.1; have S5 : Cel v (w.heap.size + 1) 1 (.int .i64 0) := O.cels.2.2.2.2.2.1
      simp [Region.binds] at hd
      simp only [pcs, List.foldl_cons, List.foldl_nil, Act.put]
      go_simp
      refine (rlow_any a l u d r _ h1 h2 (by omega)).mono ?_
      rintro e v' ⟨rfl, hb⟩
      go_simp
      exact HK.out _ _ ⟨nb, by simp [pcs, Act.put, upd, gomax, gomin, *] <;> omega, O.keep hb, fun hx => ⟨(hn9 (by simpa [upd] using hx)).1, (hn9 (by simpa [upd] using hx)).2.keep hb⟩⟩
    · rintro L a' v ⟨nb, rfl, O, hn9⟩ hL hd hcl K hK
      have HK := Lib.hid hK
      clear hK
      have hB := O.below; have hz := O.size; have S0 : Cel v (w.heap.size) 0 (.int .i64 a) := O.cels.1; have S1 : Cel v (w.heap.size) 1 (.int .i64 l) := O.cels.2.1; have S2 : Cel v (w.heap.size) 2 (.int .i64 u) := O.cels.2.2.1; have S3 : Cel v (w.heap.size) 3 (.int .i64 d) := O.cels.2.2.2.1; have S4 : Cel v (w.heap.size + 1) 0 (.int .i64 0) := O.cels.2.2.2.2.1; have S5 : Cel v (w.heap.size + 1) 1 (.int .i64 0) := O.cels.2.2.2.2.2.1
      simp [Region.binds] at hd
      simp only [pcs, List.foldl_cons, List.foldl_nil, Act.put]
      go_simp
      exact HK.out _ _ ⟨nb, by simp [pcs, Act.put, upd, gomax, gomin, *] <;> omega, O, by simpa [upd] using hn9⟩
    · rintro L a' v ⟨nb, rfl, O, hn9⟩ hL hd hcl K hK
      have HK := Lib.hid hK
      clear hK
      have hB := O.below; have hz := O.size; have S0 : Cel v (w.heap.size) 0 (.int .i64 a) := O.cels.1; have S1 : Cel v (w.heap.size) 1 (.int .i64 l) := O.cels.2.1; have S2 : Cel v (w.heap.size) 2 (.int .i64 u) := O.cels.2.2.1; have S3 : Cel v (w.heap.size) 3 (.int .i64 d) := O.cels.2.2.2.1; have S4 : Cel v (w.heap.size + 1) 0 (.int .i64 0) := O.cels.2.2.2.2.1; have S5 : Cel v (w.heap.size + 1) 1 (.int .i64 0) := O.cels.2.2.2.2.2.1
      simp [Region.binds] at hd
      simp only [pcs, List.foldl_cons, List.foldl_nil, Act.put]
      go_simp
      exact HK.out _ _ ⟨nb, by simp [pcs, Act.put, upd, gomax, gomin, *] <;> omega, O, by simpa [upd] using hn9⟩
    · rintro L a' v ⟨nb, rfl, O, hn9⟩ hL hd hcl K hK
      have HK := Lib.hid hK
      clear hK
      have hB := O.below; have hz := O.size; have S0 : Cel v (w.heap.size) 0 (.int .i64 a) := O.cels.1; have S1 : Cel v (w.heap.size) 1 (.int .i64 l) := O.cels.2.1; have S2 : Cel v (w.heap.size) 2 (.int .i64 u) := O.cels.2.2.1; have S3 : Cel v (w.heap.size) 3 (.int .i64 d) := O.cels.2.2.2.1; have S4 : Cel v (w.heap.size + 1) 0 (.int .i64 0) := O.cels.2.2.2.2.1; have S5 : Cel v (w.heap.size + 1) 1 (.int .i64 0) := O.cels.2.2.2.2.2.1
      simp [Region.binds] at hd
      simp only [pcs, List.foldl_cons, List.foldl_nil, Act.put]
      go_simp
      exact HK.out _ _ ⟨nb, by simp [pcs, Act.put, upd, gomax, gomin, *] <;> omega, O, by simpa [upd] using hn9⟩
    · rintro L a' v ⟨nb, rfl, O, hn9⟩ hL hd hcl K hK
      have HK := Lib.hid hK
      clear hK
      have hB := O.below; have hz := O.size; have S0 : Cel v (w.heap.size) 0 (.int .i64 a) := O.cels.1; have S1 : Cel v (w.heap.size) 1 (.int .i64 l) := O.cels.2.1; have S2 : Cel v (w.heap.size) 2 (.int .i64 u) := O.cels.2.2.1; have S3 : Cel v (w.heap.size) 3 (.int .i64 d) := O.cels.2.2.2.1; have S4 : Cel v (w.heap.size + 1) 0 (.int .i64 0) := O.cels.2.2.2.2.1; have S5 : Cel v (w.heap.size + 1) 1 (.int .i64 0) := O.cels.2.2.2.2.2.1
      simp [Region.binds] at hd
      simp only [pcs, List.foldl_cons, List.foldl_nil, Act.put]
      go_simp
      refine (rhigh_any a l u d r _ h1 h2 (by omega)).mono ?_
      rintro e v' ⟨rfl, hb⟩
      go_simp
      exact HK.out _ _ ⟨nb, by simp [pcs, Act.put, upd, gomax, gomin, *] <;> omega, O.keep hb, fun hx => ⟨(hn9 (by simpa [upd] using hx)).1, (hn9 (by simpa [upd] using hx)).2.keep hb⟩⟩
    · rintro L a' v ⟨nb, rfl, O, hn9⟩ hL hd hcl K hK
      have HK := Lib.hid hK
      clear hK
      have hB := O.below; have hz := O.size; have S0 : Cel v (w.heap.size) 0 (.int .i64 a) := O.cels.1; have S1 : Cel v (w.heap.size) 1 (.int .i64 l) := O.cels.2.1; have S2 : Cel v (w.heap.size) 2 (.int .i64 u) := O.cels.2.2.1; have S3 : Cel v (w.heap.size) 3 (.int .i64 d) := O.cels.2.2.2.1; have S4 : Cel v (w.heap.size + 1) 0 (.int .i64 0) := O.cels.2.2.2.2.1; have S5 : Cel v (w.heap.size + 1) 1 (.int .i64 0) := O.cels.2.2.2.2.2.1
      simp [Region.binds] at hd
      simp only [pcs, List.foldl_cons, List.foldl_nil, Act.put]
      go_simp
      exact HK.out _ _ ⟨nb, by simp [pcs, Act.put, upd, gomax, gomin, *] <;> omega, O, by simpa [upd] using hn9⟩
    · rintro L a' v ⟨nb, rfl, O, hn9⟩ hL hd hcl K hK
      have HK := Lib.hid hK
      clear hK
      have hB := O.below; have hz := O.size; have S0 : Cel v (w.heap.size) 0 (.int .i64 a) := O.cels.1; have S1 : Cel v (w.heap.size) 1 (.int .i64 l) := O.cels.2.1; have S2 : Cel v (w.heap.size) 2 (.int .i64 u) := O.cels.2.2.1; have S3 : Cel v (w.heap.size) 3 (.int .i64 d) := O.cels.2.2.2.1; have S4 : Cel v (w.heap.size + 1) 0 (.int .i64 0) := O.cels.2.2.2.2.1; have S5 : Cel v (w.heap.size + 1) 1 (.int .i64 0) := O.cels.2.2.2.2.2.1
      simp [Region.binds] at hd
      simp only [pcs, List.foldl_cons, List.foldl_nil, Act.put]
      go_simp
      exact HK.out _ _ ⟨nb, by simp [pcs, Act.put, upd, gomax, gomin, *] <;> omega, O, by simpa [upd] using hn9⟩
    · rintro L a' v ⟨nb, rfl, O, hn9⟩ hL hd hcl K hK
      have HK := Lib.hid hK
      clear hK
      have hB := O.below; have hz := O.size; have S0 : Cel v (w.heap.size) 0 (.int .i64 a) := O.cels.1; have S1 : Cel v (w.heap.size) 1 (.int .i64 l) := O.cels.2.1; have S2 : Cel v (w.heap.size) 2 (.int .i64 u) := O.cels.2.2.1; have S3 : Cel v (w.heap.size) 3 (.int .i64 d) := O.cels.2.2.2.1; have S4 : Cel v (w.heap.size + 1) 0 (.int .i64 0) := O.cels.2.2.2.2.1; have S5 : Cel v (w.heap.size + 1) 1 (.int .i64 0) := O.cels.2.2.2.2.2.1
      simp [Region.binds] at hd
      have N10 : L 10 = false := (by cases hq : L 10 with | false => rfl | true => (have hc := hcl 10 _ rfl hq; simp [Region.binds, hL] at hc))
      simp only [pcs, List.foldl_cons, List.foldl_nil, Act.put]
      go_simp
      exact HK.out _ _ ⟨v.heap.size, by simp [pcs, Act.put, upd, gomax, gomin, *] <;> omega, O.alloc _, fun _ => ⟨O.size, by (simp only [upd]; simp only [N10, cond_false, Nat.reduceEqDiff, if_false, if_true, reduceIte]; (repeat' (first | (with_reducible assumption) | (with_reducible exact Below.refl _ _) | (with_reducible exact Cels.nil _) | (with_reducible refine Cels.cons ?_ ?_) | (with_reducible refine Own.mk ?_ ?_ ?_ ?_) | ((with_reducible refine Cel.new ?_ rfl); first | (with_reducible rfl) | omega | (simp; done) | (simp; omega)) | (with_reducible refine Cel.alloc ?_ _) | (with_reducible refine Cel.drew ?_) | (with_reducible refine Cel.setS ?_ _) | (with_reducible refine Has.set ?_ _ _) | (with_reducible exact Has.of (by assumption)) | (with_reducible refine Cel.setO ?_ ?_ _) | (with_reducible refine Cel.keep (by assumption) ?_) | (with_reducible refine Below.alloc ?_ ?_ _) | (with_reducible refine Below.drew ?_) | (with_reducible refine Below.setCell ?_ ?_ _) | (with_reducible refine below_keep ?_ ?_ (by assumption)) | omega | (simp; done) | (simp; omega))))⟩⟩
    · rintro L a' v ⟨nb, rfl, O, hn9⟩ hL hd hcl K hK
      have HK := Lib.hid hK
      clear hK
      have hB := O.below; have hz := O.size; have S0 : Cel v (w.heap.size) 0 (.int .i64 a) := O.cels.1; have S1 : Cel v (w.heap.size) 1 (.int .i64 l) := O.cels.2.1; have S2 : Cel v (w.heap.size) 2 (.int .i64 u) := O.cels.2.2.1; have S3 : Cel v (w.heap.size) 3 (.int .i64 d) := O.cels.2.2.2.1; have S4 : Cel v (w.heap.size + 1) 0 (.int .i64 0) := O.cels.2.2.2.2.1; have S5 : Cel v (w.heap.size + 1) 1 (.int .i64 0) := O.cels.2.2.2.2.2.1
      simp [Region.binds] at hd
      have yy := hn9 (by simp [*])
      have yn := yy.1; have y0 : Cel v (nb) 0 (.int .i64 (bif L 10 then (max 0 (r + l - slip a d r)) else 0)) := yy.2.1; have y1 : Cel v (nb) 1 (.int .i64 (bif L 10 then (min 10000000 (r + u + slip a d r)) else 0)) := yy.2.2.1
      simp only [pcs, List.foldl_cons, List.foldl_nil, Act.put]
      go_simp
      exact HK.out _ _ ⟨nb, by simp [pcs, Act.put, upd, gomax, gomin, *] <;> omega, ((O.setO _ yn (by simp <;> omega)).setO _ yn (by simp <;> omega)), fun _ => ⟨yn, by (simp only [upd]; simp only [cond_true, if_true, reduceIte]; (repeat' (first | (with_reducible assumption) | (with_reducible exact Below.refl _ _) | (with_reducible exact Cels.nil _) | (with_reducible refine Cels.cons ?_ ?_) | (with_reducible refine Own.mk ?_ ?_ ?_ ?_) | ((with_reducible refine Cel.new ?_ rfl); first | (with_reducible rfl) | omega | (simp; done) | (simp; omega)) | (with_reducible refine Cel.alloc ?_ _) | (with_reducible refine Cel.drew ?_) | (with_reducible refine Cel.setS ?_ _) | (with_reducible refine Has.set ?_ _ _) | (with_reducible exact Has.of (by assumption)) | (with_reducible refine Cel.setO ?_ ?_ _) | (with_reducible refine Cel.keep (by assumption) ?_) | (with_reducible refine Below.alloc ?_ ?_ _) | (with_reducible refine Below.drew ?_) | (with_reducible refine Below.setCell ?_ ?_ _) | (with_reducible refine below_keep ?_ ?_ (by assumption)) | omega | (simp; done) | (simp; omega))))⟩⟩
  · rintro L a' w' hL ⟨nb, ea, O, hn9⟩
    have hB := O.below; have hz := O.size; have S0 : Cel w' (w.heap.size) 0 (.int .i64 a) := O.cels.1; have S1 : Cel w' (w.heap.size) 1 (.int .i64 l) := O.cels.2.1; have S2 : Cel w' (w.heap.size) 2 (.int .i64 u) := O.cels.2.2.1; have S3 : Cel w' (w.heap.size) 3 (.int .i64 d) := O.cels.2.2.2.1; have S4 : Cel w' (w.heap.size + 1) 0 (.int .i64 0) := O.cels.2.2.2.2.1; have S5 : Cel w' (w.heap.size + 1) 1 (.int .i64 0) := O.cels.2.2.2.2.2.1
    have L0 := hL 0 (by decide); have L1 := hL 1 (by decide); have L2 := hL 2 (by decide); have L3 := hL 3 (by decide); have L4 := hL 4 (by decide); have L5 := hL 5 (by decide); have L6 := hL 6 (by decide); have L7 := hL 7 (by decide); have L8 := hL 8 (by decide); have L9 := hL 9 (by decide); have L10 := hL 10 (by decide)
    have yy9 := hn9 L9
    have yn9 := yy9.1; have y9_0 : Cel w' (nb) 0 (.int .i64 (bif L 10 then (max 0 (r + l - slip a d r)) else 0)) := yy9.2.1; have y9_1 : Cel w' (nb) 1 (.int .i64 (bif L 10 then (min 10000000 (r + u + slip a d r)) else 0)) := yy9.2.2.1
    clear yy9
    simp only [L0, L1, L2, L3, L4, L5, L6, L7, L8, L9, L10, cond_true] at y9_0 y9_1
    simp [pcs, Act.put, L0, L1, L2, L3, L4, L5, L6, L7, L8, L9, L10] at ea
    subst ea
    clear hL L0 L1 L2 L3 L4 L5 L6 L7 L8 L9 L10 hn9
    go_wp2
    refine bodyPost_ret (v := .tuple #[sp ((max 0 (r + l - slip a d r))) ((min 10000000 (r + u + slip a d r))), .int .i64 0]) (by simp [results, Try.results15, go_sem, *] <;> omega) rfl ⟨rfl, ?_⟩
    (repeat' (first | (with_reducible assumption) | (with_reducible exact Below.refl _ _) | (with_reducible exact Cels.nil _) | (with_reducible refine Cels.cons ?_ ?_) | (with_reducible refine Own.mk ?_ ?_ ?_ ?_) | ((with_reducible refine Cel.new ?_ rfl); first | (with_reducible rfl) | omega | (simp; done) | (simp; omega)) | (with_reducible refine Cel.alloc ?_ _) | (with_reducible refine Cel.drew ?_) | (with_reducible refine Cel.setS ?_ _) | (with_reducible refine Has.set ?_ _ _) | (with_reducible exact Has.of (by assumption)) | (with_reducible refine Cel.setO ?_ ?_ _) | (with_reducible refine Cel.keep (by assumption) ?_) | (with_reducible refine Below.alloc ?_ ?_ _) | (with_reducible refine Below.drew ?_) | (with_reducible refine Below.setCell ?_ ?_ _) | (with_reducible refine below_keep ?_ ?_ (by assumption)) | omega | (simp; done) | (simp; omega)))

set_option maxHeartbeats 1600000 in
theorem rtrue_none (a l u d r : Int) (w : World) (h1 : vld a l u d = true) (h2 : a ≤ r) (h3 : r ≤ 10000000) (h4 : (min 10000000 (r + u + slip a d r)) < (max 0 (r + l - slip a d r))) :
    Calls Try.prog 15 #[ck a l u d, .int .i64 r] w fun e w' => e = .returned (.tuple #[sp (0) (0), .int .i64 4]) ∧ Below w.heap.size w w' := by
  obtain ⟨a0, a1, d0, d1, l0, l1, l2, u0, u1⟩ := vld_bd h1
  obtain ⟨p0, p1⟩ := slip_bd a d r d0 d1 h2 (by omega)
  have hr : rdg a r = true := decide_eq_true (by omega)
  go_enter Try.func15, Try.ntmps15
  go_wp2_with (first | (go_at_call 13; refine (rvalid_any _ _ _ _ _).mono ?_; rintro e w1 ⟨rfl, hb⟩; have hs := hb.size; (try simp at hs); have O : Own w (w.heap.size + 2) w1 [(w.heap.size, 0, .int .i64 a), (w.heap.size, 1, .int .i64 l), (w.heap.size, 2, .int .i64 u), (w.heap.size, 3, .int .i64 d), (w.heap.size + 1, 0, .int .i64 0), (w.heap.size + 1, 1, .int .i64 0)] := (by first | exact Own.keep (by assumption) hb | (repeat' (first | (with_reducible assumption) | (with_reducible exact Below.refl _ _) | (with_reducible exact Cels.nil _) | (with_reducible refine Cels.cons ?_ ?_) | (with_reducible refine Own.mk ?_ ?_ ?_ ?_) | ((with_reducible refine Cel.new ?_ rfl); first | (with_reducible rfl) | omega | (simp; done) | (simp; omega)) | (with_reducible refine Cel.alloc ?_ _) | (with_reducible refine Cel.drew ?_) | (with_reducible refine Cel.setS ?_ _) | (with_reducible refine Has.set ?_ _ _) | (with_reducible exact Has.of (by assumption)) | (with_reducible refine Cel.setO ?_ ?_ _) | (with_reducible refine Cel.keep (by assumption) ?_) | (with_reducible refine Below.alloc ?_ ?_ _) | (with_reducible refine Below.drew ?_) | (with_reducible refine Below.setCell ?_ ?_ _) | (with_reducible refine below_keep ?_ ?_ (by assumption)) | omega | (simp; done) | (simp; omega)))); have hB := O.below; have hz := O.size; have S0 : Cel w1 (w.heap.size) 0 (.int .i64 a) := O.cels.1; have S1 : Cel w1 (w.heap.size) 1 (.int .i64 l) := O.cels.2.1; have S2 : Cel w1 (w.heap.size) 2 (.int .i64 u) := O.cels.2.2.1; have S3 : Cel w1 (w.heap.size) 3 (.int .i64 d) := O.cels.2.2.2.1; have S4 : Cel w1 (w.heap.size + 1) 0 (.int .i64 0) := O.cels.2.2.2.2.1; have S5 : Cel w1 (w.heap.size + 1) 1 (.int .i64 0) := O.cels.2.2.2.2.2.1) | (go_at_call 35; refine (rreading_any _ _ _ _ _ _).mono ?_; rintro e w2 ⟨rfl, hb⟩; have hs := hb.size; (try simp at hs); have O : Own w (w.heap.size + 2) w2 [(w.heap.size, 0, .int .i64 a), (w.heap.size, 1, .int .i64 l), (w.heap.size, 2, .int .i64 u), (w.heap.size, 3, .int .i64 d), (w.heap.size + 1, 0, .int .i64 0), (w.heap.size + 1, 1, .int .i64 0)] := (by first | exact Own.keep (by assumption) hb | (repeat' (first | (with_reducible assumption) | (with_reducible exact Below.refl _ _) | (with_reducible exact Cels.nil _) | (with_reducible refine Cels.cons ?_ ?_) | (with_reducible refine Own.mk ?_ ?_ ?_ ?_) | ((with_reducible refine Cel.new ?_ rfl); first | (with_reducible rfl) | omega | (simp; done) | (simp; omega)) | (with_reducible refine Cel.alloc ?_ _) | (with_reducible refine Cel.drew ?_) | (with_reducible refine Cel.setS ?_ _) | (with_reducible refine Has.set ?_ _ _) | (with_reducible exact Has.of (by assumption)) | (with_reducible refine Cel.setO ?_ ?_ _) | (with_reducible refine Cel.keep (by assumption) ?_) | (with_reducible refine Below.alloc ?_ ?_ _) | (with_reducible refine Below.drew ?_) | (with_reducible refine Below.setCell ?_ ?_ _) | (with_reducible refine below_keep ?_ ?_ (by assumption)) | omega | (simp; done) | (simp; omega)))); have hB := O.below; have hz := O.size; have S0 : Cel w2 (w.heap.size) 0 (.int .i64 a) := O.cels.1; have S1 : Cel w2 (w.heap.size) 1 (.int .i64 l) := O.cels.2.1; have S2 : Cel w2 (w.heap.size) 2 (.int .i64 u) := O.cels.2.2.1; have S3 : Cel w2 (w.heap.size) 3 (.int .i64 d) := O.cels.2.2.2.1; have S4 : Cel w2 (w.heap.size + 1) 0 (.int .i64 0) := O.cels.2.2.2.2.1; have S5 : Cel w2 (w.heap.size + 1) 1 (.int .i64 0) := O.cels.2.2.2.2.2.1))
  refine wp_region_by (fun a0 L a' w' => ∃ nb : Nat, a' = pcs a0 [(17, L 0, ck a l u d), (18, L 1, .int .i64 r), (19, L 2, .int .i64 ((r + l - slip a d r))), (20, L 3, .int .i64 ((max 0 (r + l - slip a d r)))), (21, L 4, ck a l u d), (22, L 5, .int .i64 r), (23, L 6, .int .i64 ((r + u + slip a d r))), (24, L 7, .int .i64 ((min 10000000 (r + u + slip a d r)))), (25, L 8, sp (max 0 (r + l - slip a d r)) (min 10000000 (r + u + slip a d r))), (6, L 9, .pointer (some ⟨nb, 0, none⟩))] ∧ Own w (w.heap.size + 2) w' [(w.heap.size, 0, .int .i64 a), (w.heap.size, 1, .int .i64 l), (w.heap.size, 2, .int .i64 u), (w.heap.size, 3, .int .i64 d), (w.heap.size + 1, 0, .int .i64 0), (w.heap.size + 1, 1, .int .i64 0)] ∧ (L 9 = true → (w.heap.size + 2) ≤ nb ∧ Cels w' [(nb, 0, .int .i64 (bif L 10 then (max 0 (r + l - slip a d r)) else 0)), (nb, 1, .int .i64 (bif L 10 then (min 10000000 (r + u + slip a d r)) else 0))])) (by kernel_rfl) (by kernel_rfl) ?_ ?_ ?_
  · exact ⟨0, (pcs_start _ _ (by simp)).symm, by (repeat' (first | (with_reducible assumption) | (with_reducible exact Below.refl _ _) | (with_reducible exact Cels.nil _) | (with_reducible refine Cels.cons ?_ ?_) | (with_reducible refine Own.mk ?_ ?_ ?_ ?_) | ((with_reducible refine Cel.new ?_ rfl); first | (with_reducible rfl) | omega | (simp; done) | (simp; omega)) | (with_reducible refine Cel.alloc ?_ _) | (with_reducible refine Cel.drew ?_) | (with_reducible refine Cel.setS ?_ _) | (with_reducible refine Has.set ?_ _ _) | (with_reducible exact Has.of (by assumption)) | (with_reducible refine Cel.setO ?_ ?_ _) | (with_reducible refine Cel.keep (by assumption) ?_) | (with_reducible refine Below.alloc ?_ ?_ _) | (with_reducible refine Below.drew ?_) | (with_reducible refine Below.setCell ?_ ?_ _) | (with_reducible refine below_keep ?_ ?_ (by assumption)) | omega | (simp; done) | (simp; omega))), fun hff => (by cases hff)⟩
  · refine ⟨?_, ?_, ?_, ?_, ?_, ?_, ?_, ?_, ?_, ?_, ?_, trivial⟩
    · rintro L a' v ⟨nb, rfl, O, hn9⟩ hL hd hcl K hK
      have HK := Lib.hid hK
      clear hK
      have hB := O.below; have hz := O.size; have S0 : Cel v (w.heap.size) 0 (.int .i64 a) := O.cels.1; have S1 : Cel v (w.heap.size) 1 (.int .i64 l) := O.cels.2.1; have S2 : Cel v (w.heap.size) 2 (.int .i64 u) := O.cels.2.2.1; have S3 : Cel v (w.heap.size) 3 (.int .i64 d) := O.cels.2.2.2.1; have S4 : Cel v (w.heap.size + 1) 0 (.int .i64 0) := O.cels.2.2.2.2.1; have S5 : Cel v (w.heap.size + 1) 1 (.int .i64 0) := O.cels.2.2.2.2.2.1
      simp [Region.binds] at hd
      simp only [pcs, List.foldl_cons, List.foldl_nil, Act.put]
      go_simp
      exact HK.out _ _ ⟨nb, by simp [pcs, Act.put, upd, gomax, gomin, *] <;> omega, O, by simpa [upd] using hn9⟩
    · rintro L a' v ⟨nb, rfl, O, hn9⟩ hL hd hcl K hK
      have HK := Lib.hid hK
      clear hK
      have hB := O.below; have hz := O.size; have S0 : Cel v (w.heap.size) 0 (.int .i64 a) := O.cels.1; have S1 : Cel v (w.heap.size) 1 (.int .i64 l) := O.cels.2.1; have S2 : Cel v (w.heap.size) 2 (.int .i64 u) := O.cels.2.2.1; have S3 : Cel v (w.heap.size) 3 (.int .i64 d) := O.cels.2.2.2.1; have S4 : Cel v (w.heap.size + 1) 0 (.int .i64 0) := O.cels.2.2.2.2.1; have S5 : Cel v (w.heap.size + 1) 1 (.int .i64 0) := O.cels.2.2.2.2.2.1
      simp [Region.binds] at hd
      simp only [pcs, List.foldl_cons, List.foldl_nil, Act.put]
      go_simp
      exact HK.out _ _ ⟨nb, by simp [pcs, Act.put, upd, gomax, gomin, *] <;> omega, O, by simpa [upd] using hn9⟩
    · rintro L a' v ⟨nb, rfl, O, hn9⟩ hL hd hcl K hK
      have HK := Lib.hid hK
      clear hK
      have hB := O.below; have hz := O.size; have S0 : Cel v (w.heap.size) 0 (.int .i64 a) := O.cels.1; have S1 : Cel v (w.heap.size) 1 (.int .i64 l) := O.cels.2.1; have S2 : Cel v (w.heap.size) 2 (.int .i64 u) := O.cels.2.2.1; have S3 : Cel v (w.heap.size) 3 (.int .i64 d) := O.cels.2.2.2.1; have S4 : Cel v (w.heap.size + 1) 0 (.int .i64 0) := O.cels.2.2.2.2.1; have S5 : Cel v (w.heap.size + 1) 1 (.int .i64 0) := O.cels.2.2.2.2.2.1
      simp [Region.binds] at hd
      simp only [pcs, List.foldl_cons, List.foldl_nil, Act.put]
      go_simp
      refine (rlow_any a l u d r _ h1 h2 (by omega)).mono ?_
      rintro e v' ⟨rfl, hb⟩
      go_simp
      exact HK.out _ _ ⟨nb, by simp [pcs, Act.put, upd, gomax, gomin, *] <;> omega, O.keep hb, fun hx => ⟨(hn9 (by simpa [upd] using hx)).1, (hn9 (by simpa [upd] using hx)).2.keep hb⟩⟩
    · rintro L a' v ⟨nb, rfl, O, hn9⟩ hL hd hcl K hK
      have HK := Lib.hid hK
      clear hK
      have hB := O.below; have hz := O.size; have S0 : Cel v (w.heap.size) 0 (.int .i64 a) := O.cels.1; have S1 : Cel v (w.heap.size) 1 (.int .i64 l) := O.cels.2.1; have S2 : Cel v (w.heap.size) 2 (.int .i64 u) := O.cels.2.2.1; have S3 : Cel v (w.heap.size) 3 (.int .i64 d) := O.cels.2.2.2.1; have S4 : Cel v (w.heap.size + 1) 0 (.int .i64 0) := O.cels.2.2.2.2.1; have S5 : Cel v (w.heap.size + 1) 1 (.int .i64 0) := O.cels.2.2.2.2.2.1
      simp [Region.binds] at hd
      simp only [pcs, List.foldl_cons, List.foldl_nil, Act.put]
      go_simp
      exact HK.out _ _ ⟨nb, by simp [pcs, Act.put, upd, gomax, gomin, *] <;> omega, O, by simpa [upd] using hn9⟩
    · rintro L a' v ⟨nb, rfl, O, hn9⟩ hL hd hcl K hK
      have HK := Lib.hid hK
      clear hK
      have hB := O.below; have hz := O.size; have S0 : Cel v (w.heap.size) 0 (.int .i64 a) := O.cels.1; have S1 : Cel v (w.heap.size) 1 (.int .i64 l) := O.cels.2.1; have S2 : Cel v (w.heap.size) 2 (.int .i64 u) := O.cels.2.2.1; have S3 : Cel v (w.heap.size) 3 (.int .i64 d) := O.cels.2.2.2.1; have S4 : Cel v (w.heap.size + 1) 0 (.int .i64 0) := O.cels.2.2.2.2.1; have S5 : Cel v (w.heap.size + 1) 1 (.int .i64 0) := O.cels.2.2.2.2.2.1
      simp [Region.binds] at hd
      simp only [pcs, List.foldl_cons, List.foldl_nil, Act.put]
      go_simp
      exact HK.out _ _ ⟨nb, by simp [pcs, Act.put, upd, gomax, gomin, *] <;> omega, O, by simpa [upd] using hn9⟩
    · rintro L a' v ⟨nb, rfl, O, hn9⟩ hL hd hcl K hK
      have HK := Lib.hid hK
      clear hK
      have hB := O.below; have hz := O.size; have S0 : Cel v (w.heap.size) 0 (.int .i64 a) := O.cels.1; have S1 : Cel v (w.heap.size) 1 (.int .i64 l) := O.cels.2.1; have S2 : Cel v (w.heap.size) 2 (.int .i64 u) := O.cels.2.2.1; have S3 : Cel v (w.heap.size) 3 (.int .i64 d) := O.cels.2.2.2.1; have S4 : Cel v (w.heap.size + 1) 0 (.int .i64 0) := O.cels.2.2.2.2.1; have S5 : Cel v (w.heap.size + 1) 1 (.int .i64 0) := O.cels.2.2.2.2.2.1
      simp [Region.binds] at hd
      simp only [pcs, List.foldl_cons, List.foldl_nil, Act.put]
      go_simp
      exact HK.out _ _ ⟨nb, by simp [pcs, Act.put, upd, gomax, gomin, *] <;> omega, O, by simpa [upd] using hn9⟩
    · rintro L a' v ⟨nb, rfl, O, hn9⟩ hL hd hcl K hK
      have HK := Lib.hid hK
      clear hK
      have hB := O.below; have hz := O.size; have S0 : Cel v (w.heap.size) 0 (.int .i64 a) := O.cels.1; have S1 : Cel v (w.heap.size) 1 (.int .i64 l) := O.cels.2.1; have S2 : Cel v (w.heap.size) 2 (.int .i64 u) := O.cels.2.2.1; have S3 : Cel v (w.heap.size) 3 (.int .i64 d) := O.cels.2.2.2.1; have S4 : Cel v (w.heap.size + 1) 0 (.int .i64 0) := O.cels.2.2.2.2.1; have S5 : Cel v (w.heap.size + 1) 1 (.int .i64 0) := O.cels.2.2.2.2.2.1
      simp [Region.binds] at hd
      simp only [pcs, List.foldl_cons, List.foldl_nil, Act.put]
      go_simp
      refine (rhigh_any a l u d r _ h1 h2 (by omega)).mono ?_
      rintro e v' ⟨rfl, hb⟩
      go_simp
      exact HK.out _ _ ⟨nb, by simp [pcs, Act.put, upd, gomax, gomin, *] <;> omega, O.keep hb, fun hx => ⟨(hn9 (by simpa [upd] using hx)).1, (hn9 (by simpa [upd] using hx)).2.keep hb⟩⟩
    · rintro L a' v ⟨nb, rfl, O, hn9⟩ hL hd hcl K hK
      have HK := Lib.hid hK
      clear hK
      have hB := O.below; have hz := O.size; have S0 : Cel v (w.heap.size) 0 (.int .i64 a) := O.cels.1; have S1 : Cel v (w.heap.size) 1 (.int .i64 l) := O.cels.2.1; have S2 : Cel v (w.heap.size) 2 (.int .i64 u) := O.cels.2.2.1; have S3 : Cel v (w.heap.size) 3 (.int .i64 d) := O.cels.2.2.2.1; have S4 : Cel v (w.heap.size + 1) 0 (.int .i64 0) := O.cels.2.2.2.2.1; have S5 : Cel v (w.heap.size + 1) 1 (.int .i64 0) := O.cels.2.2.2.2.2.1
      simp [Region.binds] at hd
      simp only [pcs, List.foldl_cons, List.foldl_nil, Act.put]
      go_simp
      exact HK.out _ _ ⟨nb, by simp [pcs, Act.put, upd, gomax, gomin, *] <;> omega, O, by simpa [upd] using hn9⟩
    · rintro L a' v ⟨nb, rfl, O, hn9⟩ hL hd hcl K hK
      have HK := Lib.hid hK
      clear hK
      have hB := O.below; have hz := O.size; have S0 : Cel v (w.heap.size) 0 (.int .i64 a) := O.cels.1; have S1 : Cel v (w.heap.size) 1 (.int .i64 l) := O.cels.2.1; have S2 : Cel v (w.heap.size) 2 (.int .i64 u) := O.cels.2.2.1; have S3 : Cel v (w.heap.size) 3 (.int .i64 d) := O.cels.2.2.2.1; have S4 : Cel v (w.heap.size + 1) 0 (.int .i64 0) := O.cels.2.2.2.2.1; have S5 : Cel v (w.heap.size + 1) 1 (.int .i64 0) := O.cels.2.2.2.2.2.1
      simp [Region.binds] at hd
      simp only [pcs, List.foldl_cons, List.foldl_nil, Act.put]
      go_simp
      exact HK.out _ _ ⟨nb, by simp [pcs, Act.put, upd, gomax, gomin, *] <;> omega, O, by simpa [upd] using hn9⟩
    · rintro L a' v ⟨nb, rfl, O, hn9⟩ hL hd hcl K hK
      have HK := Lib.hid hK
      clear hK
      have hB := O.below; have hz := O.size; have S0 : Cel v (w.heap.size) 0 (.int .i64 a) := O.cels.1; have S1 : Cel v (w.heap.size) 1 (.int .i64 l) := O.cels.2.1; have S2 : Cel v (w.heap.size) 2 (.int .i64 u) := O.cels.2.2.1; have S3 : Cel v (w.heap.size) 3 (.int .i64 d) := O.cels.2.2.2.1; have S4 : Cel v (w.heap.size + 1) 0 (.int .i64 0) := O.cels.2.2.2.2.1; have S5 : Cel v (w.heap.size + 1) 1 (.int .i64 0) := O.cels.2.2.2.2.2.1
      simp [Region.binds] at hd
      have N10 : L 10 = false := (by cases hq : L 10 with | false => rfl | true => (have hc := hcl 10 _ rfl hq; simp [Region.binds, hL] at hc))
      simp only [pcs, List.foldl_cons, List.foldl_nil, Act.put]
      go_simp
      exact HK.out _ _ ⟨v.heap.size, by simp [pcs, Act.put, upd, gomax, gomin, *] <;> omega, O.alloc _, fun _ => ⟨O.size, by (simp only [upd]; simp only [N10, cond_false, Nat.reduceEqDiff, if_false, if_true, reduceIte]; (repeat' (first | (with_reducible assumption) | (with_reducible exact Below.refl _ _) | (with_reducible exact Cels.nil _) | (with_reducible refine Cels.cons ?_ ?_) | (with_reducible refine Own.mk ?_ ?_ ?_ ?_) | ((with_reducible refine Cel.new ?_ rfl); first | (with_reducible rfl) | omega | (simp; done) | (simp; omega)) | (with_reducible refine Cel.alloc ?_ _) | (with_reducible refine Cel.drew ?_) | (with_reducible refine Cel.setS ?_ _) | (with_reducible refine Has.set ?_ _ _) | (with_reducible exact Has.of (by assumption)) | (with_reducible refine Cel.setO ?_ ?_ _) | (with_reducible refine Cel.keep (by assumption) ?_) | (with_reducible refine Below.alloc ?_ ?_ _) | (with_reducible refine Below.drew ?_) | (with_reducible refine Below.setCell ?_ ?_ _) | (with_reducible refine below_keep ?_ ?_ (by assumption)) | omega | (simp; done) | (simp; omega))))⟩⟩
    · rintro L a' v ⟨nb, rfl, O, hn9⟩ hL hd hcl K hK
      have HK := Lib.hid hK
      clear hK
      have hB := O.below; have hz := O.size; have S0 : Cel v (w.heap.size) 0 (.int .i64 a) := O.cels.1; have S1 : Cel v (w.heap.size) 1 (.int .i64 l) := O.cels.2.1; have S2 : Cel v (w.heap.size) 2 (.int .i64 u) := O.cels.2.2.1; have S3 : Cel v (w.heap.size) 3 (.int .i64 d) := O.cels.2.2.2.1; have S4 : Cel v (w.heap.size + 1) 0 (.int .i64 0) := O.cels.2.2.2.2.1; have S5 : Cel v (w.heap.size + 1) 1 (.int .i64 0) := O.cels.2.2.2.2.2.1
      simp [Region.binds] at hd
      have yy := hn9 (by simp [*])
      have yn := yy.1; have y0 : Cel v (nb) 0 (.int .i64 (bif L 10 then (max 0 (r + l - slip a d r)) else 0)) := yy.2.1; have y1 : Cel v (nb) 1 (.int .i64 (bif L 10 then (min 10000000 (r + u + slip a d r)) else 0)) := yy.2.2.1
      simp only [pcs, List.foldl_cons, List.foldl_nil, Act.put]
      go_simp
      exact HK.out _ _ ⟨nb, by simp [pcs, Act.put, upd, gomax, gomin, *] <;> omega, ((O.setO _ yn (by simp <;> omega)).setO _ yn (by simp <;> omega)), fun _ => ⟨yn, by (simp only [upd]; simp only [cond_true, if_true, reduceIte]; (repeat' (first | (with_reducible assumption) | (with_reducible exact Below.refl _ _) | (with_reducible exact Cels.nil _) | (with_reducible refine Cels.cons ?_ ?_) | (with_reducible refine Own.mk ?_ ?_ ?_ ?_) | ((with_reducible refine Cel.new ?_ rfl); first | (with_reducible rfl) | omega | (simp; done) | (simp; omega)) | (with_reducible refine Cel.alloc ?_ _) | (with_reducible refine Cel.drew ?_) | (with_reducible refine Cel.setS ?_ _) | (with_reducible refine Has.set ?_ _ _) | (with_reducible exact Has.of (by assumption)) | (with_reducible refine Cel.setO ?_ ?_ _) | (with_reducible refine Cel.keep (by assumption) ?_) | (with_reducible refine Below.alloc ?_ ?_ _) | (with_reducible refine Below.drew ?_) | (with_reducible refine Below.setCell ?_ ?_ _) | (with_reducible refine below_keep ?_ ?_ (by assumption)) | omega | (simp; done) | (simp; omega))))⟩⟩
  · rintro L a' w' hL ⟨nb, ea, O, hn9⟩
    have hB := O.below; have hz := O.size; have S0 : Cel w' (w.heap.size) 0 (.int .i64 a) := O.cels.1; have S1 : Cel w' (w.heap.size) 1 (.int .i64 l) := O.cels.2.1; have S2 : Cel w' (w.heap.size) 2 (.int .i64 u) := O.cels.2.2.1; have S3 : Cel w' (w.heap.size) 3 (.int .i64 d) := O.cels.2.2.2.1; have S4 : Cel w' (w.heap.size + 1) 0 (.int .i64 0) := O.cels.2.2.2.2.1; have S5 : Cel w' (w.heap.size + 1) 1 (.int .i64 0) := O.cels.2.2.2.2.2.1
    have L0 := hL 0 (by decide); have L1 := hL 1 (by decide); have L2 := hL 2 (by decide); have L3 := hL 3 (by decide); have L4 := hL 4 (by decide); have L5 := hL 5 (by decide); have L6 := hL 6 (by decide); have L7 := hL 7 (by decide); have L8 := hL 8 (by decide); have L9 := hL 9 (by decide); have L10 := hL 10 (by decide)
    have yy9 := hn9 L9
    have yn9 := yy9.1; have y9_0 : Cel w' (nb) 0 (.int .i64 (bif L 10 then (max 0 (r + l - slip a d r)) else 0)) := yy9.2.1; have y9_1 : Cel w' (nb) 1 (.int .i64 (bif L 10 then (min 10000000 (r + u + slip a d r)) else 0)) := yy9.2.2.1
    clear yy9
    simp only [L0, L1, L2, L3, L4, L5, L6, L7, L8, L9, L10, cond_true] at y9_0 y9_1
    simp [pcs, Act.put, L0, L1, L2, L3, L4, L5, L6, L7, L8, L9, L10] at ea
    subst ea
    clear hL L0 L1 L2 L3 L4 L5 L6 L7 L8 L9 L10 hn9
    go_wp2
    refine bodyPost_ret (v := .tuple #[sp (0) (0), .int .i64 4]) (by simp [results, Try.results15, go_sem, *] <;> omega) rfl ⟨rfl, ?_⟩
    (repeat' (first | (with_reducible assumption) | (with_reducible exact Below.refl _ _) | (with_reducible exact Cels.nil _) | (with_reducible refine Cels.cons ?_ ?_) | (with_reducible refine Own.mk ?_ ?_ ?_ ?_) | ((with_reducible refine Cel.new ?_ rfl); first | (with_reducible rfl) | omega | (simp; done) | (simp; omega)) | (with_reducible refine Cel.alloc ?_ _) | (with_reducible refine Cel.drew ?_) | (with_reducible refine Cel.setS ?_ _) | (with_reducible refine Has.set ?_ _ _) | (with_reducible exact Has.of (by assumption)) | (with_reducible refine Cel.setO ?_ ?_ _) | (with_reducible refine Cel.keep (by assumption) ?_) | (with_reducible refine Below.alloc ?_ ?_ _) | (with_reducible refine Below.drew ?_) | (with_reducible refine Below.setCell ?_ ?_ _) | (with_reducible refine below_keep ?_ ?_ (by assumption)) | omega | (simp; done) | (simp; omega)))

theorem rtrue_any (a l u d r : Int) (w : World) :
    Calls Try.prog 15 #[ck a l u d, .int .i64 r] w fun e w' => e = .returned (.tuple #[sp (tLo a l u d r) (tHi a l u d r), .int .i64 (tE a l u d r)]) ∧ Below w.heap.size w w' := by
  cases h : tOk a l u d r with
  | false =>
    obtain ⟨e1, e2, e3⟩ := t_bad h
    rw [e1, e2, e3]
    simp only [tOk, Bool.and_eq_false_iff] at h
    by_cases h1 : vld a l u d = true
    · exact rtrue_bad2 a l u d r w h1 (decide_eq_false (by simpa [h1] using h))
    · exact rtrue_bad1 a l u d r w (by simpa using h1)
  | true =>
    have h0 := h
    simp only [tOk, Bool.and_eq_true, decide_eq_true_eq] at h0
    obtain ⟨h1, h2, h3⟩ := h0
    by_cases h4 : max 0 (r + l - slip a d r) ≤ min 10000000 (r + u + slip a d r)
    · obtain ⟨e1, e2, e3⟩ := t_ok h h4
      rw [e1, e2, e3]; exact rtrue_ok a l u d r w h1 h2 h3 h4
    · obtain ⟨e1, e2, e3⟩ := t_none h (by omega)
      rw [e1, e2, e3]; exact rtrue_none a l u d r w h1 h2 h3 (by omega)

end Go.Proofs.Ytphmfkellojecaa
