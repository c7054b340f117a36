/- Walks: Shows, of both texts. -/
import Derived.Test.YtphmfkellojecaaJ
set_option linter.unusedVariables false
set_option linter.unusedSimpArgs false
namespace Go.Proofs.Ytphmfkellojecaa
open Go.RowKit
attribute [local go_sem] World.cell?_alloc_some frozen_alloc_some isSome_alloc isSome_setCell

def hE (a l u d t : Int) : Int := if vld a l u d = true ∧ tm t = true then (if fstL a l d (t + 1) - 1 < fstH a u d t then 4 else 0) else 1
def hLo (a l u d t : Int) : Int := on (hE a l u d t) (fstH a u d t)
def hHi (a l u d t : Int) : Int := on (hE a l u d t) (fstL a l d (t + 1) - 1)

set_option maxHeartbeats 1600000 in
theorem shows_bad1 (a l u d t : Int) (w : World) (h1 : vld a l u d = false) :
    Calls Try.prog 16 #[ck a l u d, .int .i64 t] w fun e w' => e = .returned (.tuple #[sp 0 0, .int .i64 1]) ∧ Below w.heap.size w w' := by
  go_enter Try.func16, Try.ntmps16
  go_wp2_with (first | (go_at_call 12; refine (valid_any _ _ _ _ _).mono ?_; rintro e w1 ⟨rfl, hb⟩; have hs := hb.size; (try simp at hs); have O : Own w (w.heap.size + 2) w1 [(w.heap.size, 0, .int .i64 a), (w.heap.size, 1, .int .i64 l), (w.heap.size, 2, .int .i64 u), (w.heap.size, 3, .int .i64 d), (w.heap.size + 1, 0, .int .i64 0), (w.heap.size + 1, 1, .int .i64 0)] := (by first | exact Own.keep (by assumption) hb | (repeat' (first | (with_reducible assumption) | (with_reducible exact Below.refl _ _) | (with_reducible exact Cels.nil _) | (with_reducible refine Cels.cons ?_ ?_) | (with_reducible refine Own.mk ?_ ?_ ?_ ?_) | ((with_reducible refine Cel.new ?_ rfl); first | (with_reducible rfl) | omega | (simp; done) | (simp; omega)) | (with_reducible refine Cel.alloc ?_ _) | (with_reducible refine Cel.drew ?_) | (with_reducible refine Cel.setS ?_ _) | (with_reducible refine Has.set ?_ _ _) | (with_reducible exact Has.of (by assumption)) | (with_reducible refine Cel.setO ?_ ?_ _) | (with_reducible refine Cel.keep (by assumption) ?_) | (with_reducible refine Below.alloc ?_ ?_ _) | (with_reducible refine Below.drew ?_) | (with_reducible refine Below.setCell ?_ ?_ _) | (with_reducible refine below_keep ?_ ?_ (by assumption)) | omega | (simp; done) | (simp; omega)))); have hB := O.below; have hz := O.size; have S0 : Cel w1 (w.heap.size) 0 (.int .i64 a) := O.cels.1; have S1 : Cel w1 (w.heap.size) 1 (.int .i64 l) := O.cels.2.1; have S2 : Cel w1 (w.heap.size) 2 (.int .i64 u) := O.cels.2.2.1; have S3 : Cel w1 (w.heap.size) 3 (.int .i64 d) := O.cels.2.2.2.1; have S4 : Cel w1 (w.heap.size + 1) 0 (.int .i64 0) := O.cels.2.2.2.2.1; have S5 : Cel w1 (w.heap.size + 1) 1 (.int .i64 0) := O.cels.2.2.2.2.2.1) | (go_at_call 29; refine (moment_any _ _).mono ?_; rintro e w' ⟨rfl, rfl⟩))
  all_goals
    refine bodyPost_ret (v := .tuple #[sp 0 0, .int .i64 1]) (by simp [results, Try.results16, go_sem, *] <;> omega) rfl ⟨rfl, ?_⟩
    (repeat' (first | (with_reducible assumption) | (with_reducible exact Below.refl _ _) | (with_reducible exact Cels.nil _) | (with_reducible refine Cels.cons ?_ ?_) | (with_reducible refine Own.mk ?_ ?_ ?_ ?_) | ((with_reducible refine Cel.new ?_ rfl); first | (with_reducible rfl) | omega | (simp; done) | (simp; omega)) | (with_reducible refine Cel.alloc ?_ _) | (with_reducible refine Cel.drew ?_) | (with_reducible refine Cel.setS ?_ _) | (with_reducible refine Has.set ?_ _ _) | (with_reducible exact Has.of (by assumption)) | (with_reducible refine Cel.setO ?_ ?_ _) | (with_reducible refine Cel.keep (by assumption) ?_) | (with_reducible refine Below.alloc ?_ ?_ _) | (with_reducible refine Below.drew ?_) | (with_reducible refine Below.setCell ?_ ?_ _) | (with_reducible refine below_keep ?_ ?_ (by assumption)) | omega | (simp; done) | (simp; omega)))

set_option maxHeartbeats 1600000 in
theorem shows_bad2 (a l u d t : Int) (w : World) (h1 : vld a l u d = true) (h2 : tm t = false) :
    Calls Try.prog 16 #[ck a l u d, .int .i64 t] w fun e w' => e = .returned (.tuple #[sp 0 0, .int .i64 1]) ∧ Below w.heap.size w w' := by
  go_enter Try.func16, Try.ntmps16
  go_wp2_with (first | (go_at_call 12; refine (valid_any _ _ _ _ _).mono ?_; rintro e w1 ⟨rfl, hb⟩; have hs := hb.size; (try simp at hs); have O : Own w (w.heap.size + 2) w1 [(w.heap.size, 0, .int .i64 a), (w.heap.size, 1, .int .i64 l), (w.heap.size, 2, .int .i64 u), (w.heap.size, 3, .int .i64 d), (w.heap.size + 1, 0, .int .i64 0), (w.heap.size + 1, 1, .int .i64 0)] := (by first | exact Own.keep (by assumption) hb | (repeat' (first | (with_reducible assumption) | (with_reducible exact Below.refl _ _) | (with_reducible exact Cels.nil _) | (with_reducible refine Cels.cons ?_ ?_) | (with_reducible refine Own.mk ?_ ?_ ?_ ?_) | ((with_reducible refine Cel.new ?_ rfl); first | (with_reducible rfl) | omega | (simp; done) | (simp; omega)) | (with_reducible refine Cel.alloc ?_ _) | (with_reducible refine Cel.drew ?_) | (with_reducible refine Cel.setS ?_ _) | (with_reducible refine Has.set ?_ _ _) | (with_reducible exact Has.of (by assumption)) | (with_reducible refine Cel.setO ?_ ?_ _) | (with_reducible refine Cel.keep (by assumption) ?_) | (with_reducible refine Below.alloc ?_ ?_ _) | (with_reducible refine Below.drew ?_) | (with_reducible refine Below.setCell ?_ ?_ _) | (with_reducible refine below_keep ?_ ?_ (by assumption)) | omega | (simp; done) | (simp; omega)))); have hB := O.below; have hz := O.size; have S0 : Cel w1 (w.heap.size) 0 (.int .i64 a) := O.cels.1; have S1 : Cel w1 (w.heap.size) 1 (.int .i64 l) := O.cels.2.1; have S2 : Cel w1 (w.heap.size) 2 (.int .i64 u) := O.cels.2.2.1; have S3 : Cel w1 (w.heap.size) 3 (.int .i64 d) := O.cels.2.2.2.1; have S4 : Cel w1 (w.heap.size + 1) 0 (.int .i64 0) := O.cels.2.2.2.2.1; have S5 : Cel w1 (w.heap.size + 1) 1 (.int .i64 0) := O.cels.2.2.2.2.2.1) | (go_at_call 29; refine (moment_any _ _).mono ?_; rintro e w' ⟨rfl, rfl⟩))
  all_goals
    refine bodyPost_ret (v := .tuple #[sp 0 0, .int .i64 1]) (by simp [results, Try.results16, go_sem, *] <;> omega) rfl ⟨rfl, ?_⟩
    (repeat' (first | (with_reducible assumption) | (with_reducible exact Below.refl _ _) | (with_reducible exact Cels.nil _) | (with_reducible refine Cels.cons ?_ ?_) | (with_reducible refine Own.mk ?_ ?_ ?_ ?_) | ((with_reducible refine Cel.new ?_ rfl); first | (with_reducible rfl) | omega | (simp; done) | (simp; omega)) | (with_reducible refine Cel.alloc ?_ _) | (with_reducible refine Cel.drew ?_) | (with_reducible refine Cel.setS ?_ _) | (with_reducible refine Has.set ?_ _ _) | (with_reducible exact Has.of (by assumption)) | (with_reducible refine Cel.setO ?_ ?_ _) | (with_reducible refine Cel.keep (by assumption) ?_) | (with_reducible refine Below.alloc ?_ ?_ _) | (with_reducible refine Below.drew ?_) | (with_reducible refine Below.setCell ?_ ?_ _) | (with_reducible refine below_keep ?_ ?_ (by assumption)) | omega | (simp; done) | (simp; omega)))

set_option maxHeartbeats 3200000 in
theorem shows_none (a l u d t : Int) (w : World) (h1 : vld a l u d = true) (h2 : tm t = true) (h3 : (fstL a l d (t + 1)) - 1 < (fstH a u d t)) :
    Calls Try.prog 16 #[ck a l u d, .int .i64 t] w fun e w' => e = .returned (.tuple #[sp 0 0, .int .i64 4]) ∧ Below w.heap.size w w' := by
  obtain ⟨b1, b2⟩ := tm_bd h2
  obtain ⟨a0, a1, d0, d1, l0, l1, l2, u0, u1⟩ := vld_bd h1
  obtain ⟨g1, g2⟩ := fstH_bd a u d t a1
  obtain ⟨g3, g4⟩ := fstL_bd a l d (t + 1) a1
  have hw1 : IntKind.i64.wrap (t + 1) = t + 1 := IntWalk.i64_in _ (by omega)
  have hw2 : IntKind.i64.wrap (fstL a l d (t + 1) - 1) = fstL a l d (t + 1) - 1 := IntWalk.i64_in _ (by omega)
  go_enter Try.func16, Try.ntmps16
  go_wp2_with (first | (go_at_call 12; refine (valid_any _ _ _ _ _).mono ?_; rintro e w1 ⟨rfl, hb⟩; have hs := hb.size; (try simp at hs); have O : Own w (w.heap.size + 2) w1 [(w.heap.size, 0, .int .i64 a), (w.heap.size, 1, .int .i64 l), (w.heap.size, 2, .int .i64 u), (w.heap.size, 3, .int .i64 d), (w.heap.size + 1, 0, .int .i64 0), (w.heap.size + 1, 1, .int .i64 0)] := (by first | exact Own.keep (by assumption) hb | (repeat' (first | (with_reducible assumption) | (with_reducible exact Below.refl _ _) | (with_reducible exact Cels.nil _) | (with_reducible refine Cels.cons ?_ ?_) | (with_reducible refine Own.mk ?_ ?_ ?_ ?_) | ((with_reducible refine Cel.new ?_ rfl); first | (with_reducible rfl) | omega | (simp; done) | (simp; omega)) | (with_reducible refine Cel.alloc ?_ _) | (with_reducible refine Cel.drew ?_) | (with_reducible refine Cel.setS ?_ _) | (with_reducible refine Has.set ?_ _ _) | (with_reducible exact Has.of (by assumption)) | (with_reducible refine Cel.setO ?_ ?_ _) | (with_reducible refine Cel.keep (by assumption) ?_) | (with_reducible refine Below.alloc ?_ ?_ _) | (with_reducible refine Below.drew ?_) | (with_reducible refine Below.setCell ?_ ?_ _) | (with_reducible refine below_keep ?_ ?_ (by assumption)) | omega | (simp; done) | (simp; omega)))); have hB := O.below; have hz := O.size; have S0 : Cel w1 (w.heap.size) 0 (.int .i64 a) := O.cels.1; have S1 : Cel w1 (w.heap.size) 1 (.int .i64 l) := O.cels.2.1; have S2 : Cel w1 (w.heap.size) 2 (.int .i64 u) := O.cels.2.2.1; have S3 : Cel w1 (w.heap.size) 3 (.int .i64 d) := O.cels.2.2.2.1; have S4 : Cel w1 (w.heap.size + 1) 0 (.int .i64 0) := O.cels.2.2.2.2.1; have S5 : Cel w1 (w.heap.size + 1) 1 (.int .i64 0) := O.cels.2.2.2.2.2.1) | (go_at_call 29; refine (moment_any _ _).mono ?_; rintro e w' ⟨rfl, rfl⟩))
  refine wp_region_by (fun a0 L a' w' => ∃ nb : Nat, a' = pcs a0 [(18, L 0, ck a l u d), (19, L 1, ck a l u d), (20, L 2, .func (.func 34) #[ck a l u d] #[]), (21, L 3, .int .i64 t), (22, L 4, .int .i64 ((fstH a u d t))), (23, L 5, ck a l u d), (24, L 6, ck a l u d), (25, L 7, .func (.func 33) #[ck a l u d] #[]), (26, L 8, .int .i64 t), (27, L 9, .int .i64 ((t + 1))), (28, L 10, .int .i64 ((fstL a l d (t + 1)))), (29, L 11, .int .i64 (((fstL a l d (t + 1)) - 1))), (30, L 12, sp (fstH a u d t) ((fstL a l d (t + 1)) - 1)), (7, L 13, .pointer (some ⟨nb, 0, none⟩))] ∧ Own w (w1.heap.size + 1) w' [(w.heap.size, 0, .int .i64 a), (w.heap.size, 1, .int .i64 l), (w.heap.size, 2, .int .i64 u), (w.heap.size, 3, .int .i64 d), (w.heap.size + 1, 0, .int .i64 0), (w.heap.size + 1, 1, .int .i64 0), (w1.heap.size, 0, .int .i64 a), (w1.heap.size, 1, .int .i64 l), (w1.heap.size, 2, .int .i64 u), (w1.heap.size, 3, .int .i64 d)] ∧ (L 13 = true → (w1.heap.size + 1) ≤ nb ∧ Cels w' [(nb, 0, .int .i64 (bif L 14 then (fstH a u d t) else 0)), (nb, 1, .int .i64 (bif L 14 then (fstL a l d (t + 1)) - 1 else 0))])) (by kernel_rfl) (by kernel_rfl) ?_ ?_ ?_
  · exact ⟨0, (pcs_start _ _ (by simp)).symm, by (repeat' (first | (with_reducible assumption) | (with_reducible exact Below.refl _ _) | (with_reducible exact Cels.nil _) | (with_reducible refine Cels.cons ?_ ?_) | (with_reducible refine Own.mk ?_ ?_ ?_ ?_) | ((with_reducible refine Cel.new ?_ rfl); first | (with_reducible rfl) | omega | (simp; done) | (simp; omega)) | (with_reducible refine Cel.alloc ?_ _) | (with_reducible refine Cel.drew ?_) | (with_reducible refine Cel.setS ?_ _) | (with_reducible refine Has.set ?_ _ _) | (with_reducible exact Has.of (by assumption)) | (with_reducible refine Cel.setO ?_ ?_ _) | (with_reducible refine Cel.keep (by assumption) ?_) | (with_reducible refine Below.alloc ?_ ?_ _) | (with_reducible refine Below.drew ?_) | (with_reducible refine Below.setCell ?_ ?_ _) | (with_reducible refine below_keep ?_ ?_ (by assumption)) | omega | (simp; done) | (simp; omega))), fun hff => (by cases hff)⟩
  · refine ⟨?_, ?_, ?_, ?_, ?_, ?_, ?_, ?_, ?_, ?_, ?_, ?_, ?_, ?_, ?_, trivial⟩
    · rintro L a' v ⟨nb, rfl, O, hn13⟩ hL hd hcl K hK
      have HK := Lib.hid hK
      clear hK
      have hB := O.below; have hz := O.size; have S0 : Cel v (w.heap.size) 0 (.int .i64 a) := O.cels.1; have S1 : Cel v (w.heap.size) 1 (.int .i64 l) := O.cels.2.1; have S2 : Cel v (w.heap.size) 2 (.int .i64 u) := O.cels.2.2.1; have S3 : Cel v (w.heap.size) 3 (.int .i64 d) := O.cels.2.2.2.1; have S4 : Cel v (w.heap.size + 1) 0 (.int .i64 0) := O.cels.2.2.2.2.1; have S5 : Cel v (w.heap.size + 1) 1 (.int .i64 0) := O.cels.2.2.2.2.2.1; have S6 : Cel v (w1.heap.size) 0 (.int .i64 a) := O.cels.2.2.2.2.2.2.1; have S7 : Cel v (w1.heap.size) 1 (.int .i64 l) := O.cels.2.2.2.2.2.2.2.1; have S8 : Cel v (w1.heap.size) 2 (.int .i64 u) := O.cels.2.2.2.2.2.2.2.2.1; have S9 : Cel v (w1.heap.size) 3 (.int .i64 d) := O.cels.2.2.2.2.2.2.2.2.2.1
      simp [Region.binds] at hd
      simp only [pcs, List.foldl_cons, List.foldl_nil, Act.put]
      go_simp
      exact HK.out _ _ ⟨nb, by simp [pcs, Act.put, upd, gomax, gomin, *] <;> omega, O, by simpa [upd] using hn13⟩
    · rintro L a' v ⟨nb, rfl, O, hn13⟩ hL hd hcl K hK
      have HK := Lib.hid hK
      clear hK
      have hB := O.below; have hz := O.size; have S0 : Cel v (w.heap.size) 0 (.int .i64 a) := O.cels.1; have S1 : Cel v (w.heap.size) 1 (.int .i64 l) := O.cels.2.1; have S2 : Cel v (w.heap.size) 2 (.int .i64 u) := O.cels.2.2.1; have S3 : Cel v (w.heap.size) 3 (.int .i64 d) := O.cels.2.2.2.1; have S4 : Cel v (w.heap.size + 1) 0 (.int .i64 0) := O.cels.2.2.2.2.1; have S5 : Cel v (w.heap.size + 1) 1 (.int .i64 0) := O.cels.2.2.2.2.2.1; have S6 : Cel v (w1.heap.size) 0 (.int .i64 a) := O.cels.2.2.2.2.2.2.1; have S7 : Cel v (w1.heap.size) 1 (.int .i64 l) := O.cels.2.2.2.2.2.2.2.1; have S8 : Cel v (w1.heap.size) 2 (.int .i64 u) := O.cels.2.2.2.2.2.2.2.2.1; have S9 : Cel v (w1.heap.size) 3 (.int .i64 d) := O.cels.2.2.2.2.2.2.2.2.2.1
      simp [Region.binds] at hd
      simp only [pcs, List.foldl_cons, List.foldl_nil, Act.put]
      go_simp
      exact HK.out _ _ ⟨nb, by simp [pcs, Act.put, upd, gomax, gomin, *] <;> omega, O, by simpa [upd] using hn13⟩
    · rintro L a' v ⟨nb, rfl, O, hn13⟩ hL hd hcl K hK
      have HK := Lib.hid hK
      clear hK
      have hB := O.below; have hz := O.size; have S0 : Cel v (w.heap.size) 0 (.int .i64 a) := O.cels.1; have S1 : Cel v (w.heap.size) 1 (.int .i64 l) := O.cels.2.1; have S2 : Cel v (w.heap.size) 2 (.int .i64 u) := O.cels.2.2.1; have S3 : Cel v (w.heap.size) 3 (.int .i64 d) := O.cels.2.2.2.1; have S4 : Cel v (w.heap.size + 1) 0 (.int .i64 0) := O.cels.2.2.2.2.1; have S5 : Cel v (w.heap.size + 1) 1 (.int .i64 0) := O.cels.2.2.2.2.2.1; have S6 : Cel v (w1.heap.size) 0 (.int .i64 a) := O.cels.2.2.2.2.2.2.1; have S7 : Cel v (w1.heap.size) 1 (.int .i64 l) := O.cels.2.2.2.2.2.2.2.1; have S8 : Cel v (w1.heap.size) 2 (.int .i64 u) := O.cels.2.2.2.2.2.2.2.2.1; have S9 : Cel v (w1.heap.size) 3 (.int .i64 d) := O.cels.2.2.2.2.2.2.2.2.2.1
      simp [Region.binds] at hd
      simp only [pcs, List.foldl_cons, List.foldl_nil, Act.put]
      go_simp
      exact HK.out _ _ ⟨nb, by simp [pcs, Act.put, upd, gomax, gomin, *] <;> omega, O, by simpa [upd] using hn13⟩
    · rintro L a' v ⟨nb, rfl, O, hn13⟩ hL hd hcl K hK
      have HK := Lib.hid hK
      clear hK
      have hB := O.below; have hz := O.size; have S0 : Cel v (w.heap.size) 0 (.int .i64 a) := O.cels.1; have S1 : Cel v (w.heap.size) 1 (.int .i64 l) := O.cels.2.1; have S2 : Cel v (w.heap.size) 2 (.int .i64 u) := O.cels.2.2.1; have S3 : Cel v (w.heap.size) 3 (.int .i64 d) := O.cels.2.2.2.1; have S4 : Cel v (w.heap.size + 1) 0 (.int .i64 0) := O.cels.2.2.2.2.1; have S5 : Cel v (w.heap.size + 1) 1 (.int .i64 0) := O.cels.2.2.2.2.2.1; have S6 : Cel v (w1.heap.size) 0 (.int .i64 a) := O.cels.2.2.2.2.2.2.1; have S7 : Cel v (w1.heap.size) 1 (.int .i64 l) := O.cels.2.2.2.2.2.2.2.1; have S8 : Cel v (w1.heap.size) 2 (.int .i64 u) := O.cels.2.2.2.2.2.2.2.2.1; have S9 : Cel v (w1.heap.size) 3 (.int .i64 d) := O.cels.2.2.2.2.2.2.2.2.2.1
      simp [Region.binds] at hd
      simp only [pcs, List.foldl_cons, List.foldl_nil, Act.put]
      go_simp
      exact HK.out _ _ ⟨nb, by simp [pcs, Act.put, upd, gomax, gomin, *] <;> omega, O, by simpa [upd] using hn13⟩
    · rintro L a' v ⟨nb, rfl, O, hn13⟩ hL hd hcl K hK
      have HK := Lib.hid hK
      clear hK
      have hB := O.below; have hz := O.size; have S0 : Cel v (w.heap.size) 0 (.int .i64 a) := O.cels.1; have S1 : Cel v (w.heap.size) 1 (.int .i64 l) := O.cels.2.1; have S2 : Cel v (w.heap.size) 2 (.int .i64 u) := O.cels.2.2.1; have S3 : Cel v (w.heap.size) 3 (.int .i64 d) := O.cels.2.2.2.1; have S4 : Cel v (w.heap.size + 1) 0 (.int .i64 0) := O.cels.2.2.2.2.1; have S5 : Cel v (w.heap.size + 1) 1 (.int .i64 0) := O.cels.2.2.2.2.2.1; have S6 : Cel v (w1.heap.size) 0 (.int .i64 a) := O.cels.2.2.2.2.2.2.1; have S7 : Cel v (w1.heap.size) 1 (.int .i64 l) := O.cels.2.2.2.2.2.2.2.1; have S8 : Cel v (w1.heap.size) 2 (.int .i64 u) := O.cels.2.2.2.2.2.2.2.2.1; have S9 : Cel v (w1.heap.size) 3 (.int .i64 d) := O.cels.2.2.2.2.2.2.2.2.2.1
      simp [Region.binds] at hd
      simp only [pcs, List.foldl_cons, List.foldl_nil, Act.put]
      go_simp
      refine (firstH a l u d t _ h1 ⟨by omega, by omega⟩).mono ?_
      rintro e v' ⟨rfl, hb⟩
      go_simp
      exact HK.out _ _ ⟨nb, by simp [pcs, Act.put, upd, gomax, gomin, *] <;> omega, O.keep hb, fun hx => ⟨(hn13 (by simpa [upd] using hx)).1, (hn13 (by simpa [upd] using hx)).2.keep hb⟩⟩
    · rintro L a' v ⟨nb, rfl, O, hn13⟩ hL hd hcl K hK
      have HK := Lib.hid hK
      clear hK
      have hB := O.below; have hz := O.size; have S0 : Cel v (w.heap.size) 0 (.int .i64 a) := O.cels.1; have S1 : Cel v (w.heap.size) 1 (.int .i64 l) := O.cels.2.1; have S2 : Cel v (w.heap.size) 2 (.int .i64 u) := O.cels.2.2.1; have S3 : Cel v (w.heap.size) 3 (.int .i64 d) := O.cels.2.2.2.1; have S4 : Cel v (w.heap.size + 1) 0 (.int .i64 0) := O.cels.2.2.2.2.1; have S5 : Cel v (w.heap.size + 1) 1 (.int .i64 0) := O.cels.2.2.2.2.2.1; have S6 : Cel v (w1.heap.size) 0 (.int .i64 a) := O.cels.2.2.2.2.2.2.1; have S7 : Cel v (w1.heap.size) 1 (.int .i64 l) := O.cels.2.2.2.2.2.2.2.1; have S8 : Cel v (w1.heap.size) 2 (.int .i64 u) := O.cels.2.2.2.2.2.2.2.2.1; have S9 : Cel v (w1.heap.size) 3 (.int .i64 d) := O.cels.2.2.2.2.2.2.2.2.2.1
      simp [Region.binds] at hd
      simp only [pcs, List.foldl_cons, List.foldl_nil, Act.put]
      go_simp
      exact HK.out _ _ ⟨nb, by simp [pcs, Act.put, upd, gomax, gomin, *] <;> omega, O, by simpa [upd] using hn13⟩
    · rintro L a' v ⟨nb, rfl, O, hn13⟩ hL hd hcl K hK
      have HK := Lib.hid hK
      clear hK
      have hB := O.below; have hz := O.size; have S0 : Cel v (w.heap.size) 0 (.int .i64 a) := O.cels.1; have S1 : Cel v (w.heap.size) 1 (.int .i64 l) := O.cels.2.1; have S2 : Cel v (w.heap.size) 2 (.int .i64 u) := O.cels.2.2.1; have S3 : Cel v (w.heap.size) 3 (.int .i64 d) := O.cels.2.2.2.1; have S4 : Cel v (w.heap.size + 1) 0 (.int .i64 0) := O.cels.2.2.2.2.1; have S5 : Cel v (w.heap.size + 1) 1 (.int .i64 0) := O.cels.2.2.2.2.2.1; have S6 : Cel v (w1.heap.size) 0 (.int .i64 a) := O.cels.2.2.2.2.2.2.1; have S7 : Cel v (w1.heap.size) 1 (.int .i64 l) := O.cels.2.2.2.2.2.2.2.1; have S8 : Cel v (w1.heap.size) 2 (.int .i64 u) := O.cels.2.2.2.2.2.2.2.2.1; have S9 : Cel v (w1.heap.size) 3 (.int .i64 d) := O.cels.2.2.2.2.2.2.2.2.2.1
      simp [Region.binds] at hd
      simp only [pcs, List.foldl_cons, List.foldl_nil, Act.put]
      go_simp
      exact HK.out _ _ ⟨nb, by simp [pcs, Act.put, upd, gomax, gomin, *] <;> omega, O, by simpa [upd] using hn13⟩
    · rintro L a' v ⟨nb, rfl, O, hn13⟩ hL hd hcl K hK
      have HK := Lib.hid hK
      clear hK
      have hB := O.below; have hz := O.size; have S0 : Cel v (w.heap.size) 0 (.int .i64 a) := O.cels.1; have S1 : Cel v (w.heap.size) 1 (.int .i64 l) := O.cels.2.1; have S2 : Cel v (w.heap.size) 2 (.int .i64 u) := O.cels.2.2.1; have S3 : Cel v (w.heap.size) 3 (.int .i64 d) := O.cels.2.2.2.1; have S4 : Cel v (w.heap.size + 1) 0 (.int .i64 0) := O.cels.2.2.2.2.1; have S5 : Cel v (w.heap.size + 1) 1 (.int .i64 0) := O.cels.2.2.2.2.2.1; have S6 : Cel v (w1.heap.size) 0 (.int .i64 a) := O.cels.2.2.2.2.2.2.1; have S7 : Cel v (w1.heap.size) 1 (.int .i64 l) := O.cels.2.2.2.2.2.2.2.1; have S8 : Cel v (w1.heap.size) 2 (.int .i64 u) := O.cels.2.2.2.2.2.2.2.2.1; have S9 : Cel v (w1.heap.size) 3 (.int .i64 d) := O.cels.2.2.2.2.2.2.2.2.2.1
      simp [Region.binds] at hd
      simp only [pcs, List.foldl_cons, List.foldl_nil, Act.put]
      go_simp
      exact HK.out _ _ ⟨nb, by simp [pcs, Act.put, upd, gomax, gomin, *] <;> omega, O, by simpa [upd] using hn13⟩
    · rintro L a' v ⟨nb, rfl, O, hn13⟩ hL hd hcl K hK
      have HK := Lib.hid hK
      clear hK
      have hB := O.below; have hz := O.size; have S0 : Cel v (w.heap.size) 0 (.int .i64 a) := O.cels.1; have S1 : Cel v (w.heap.size) 1 (.int .i64 l) := O.cels.2.1; have S2 : Cel v (w.heap.size) 2 (.int .i64 u) := O.cels.2.2.1; have S3 : Cel v (w.heap.size) 3 (.int .i64 d) := O.cels.2.2.2.1; have S4 : Cel v (w.heap.size + 1) 0 (.int .i64 0) := O.cels.2.2.2.2.1; have S5 : Cel v (w.heap.size + 1) 1 (.int .i64 0) := O.cels.2.2.2.2.2.1; have S6 : Cel v (w1.heap.size) 0 (.int .i64 a) := O.cels.2.2.2.2.2.2.1; have S7 : Cel v (w1.heap.size) 1 (.int .i64 l) := O.cels.2.2.2.2.2.2.2.1; have S8 : Cel v (w1.heap.size) 2 (.int .i64 u) := O.cels.2.2.2.2.2.2.2.2.1; have S9 : Cel v (w1.heap.size) 3 (.int .i64 d) := O.cels.2.2.2.2.2.2.2.2.2.1
      simp [Region.binds] at hd
      simp only [pcs, List.foldl_cons, List.foldl_nil, Act.put]
      go_simp
      exact HK.out _ _ ⟨nb, by simp [pcs, Act.put, upd, gomax, gomin, *] <;> omega, O, by simpa [upd] using hn13⟩
    · rintro L a' v ⟨nb, rfl, O, hn13⟩ hL hd hcl K hK
      have HK := Lib.hid hK
      clear hK
      have hB := O.below; have hz := O.size; have S0 : Cel v (w.heap.size) 0 (.int .i64 a) := O.cels.1; have S1 : Cel v (w.heap.size) 1 (.int .i64 l) := O.cels.2.1; have S2 : Cel v (w.heap.size) 2 (.int .i64 u) := O.cels.2.2.1; have S3 : Cel v (w.heap.size) 3 (.int .i64 d) := O.cels.2.2.2.1; have S4 : Cel v (w.heap.size + 1) 0 (.int .i64 0) := O.cels.2.2.2.2.1; have S5 : Cel v (w.heap.size + 1) 1 (.int .i64 0) := O.cels.2.2.2.2.2.1; have S6 : Cel v (w1.heap.size) 0 (.int .i64 a) := O.cels.2.2.2.2.2.2.1; have S7 : Cel v (w1.heap.size) 1 (.int .i64 l) := O.cels.2.2.2.2.2.2.2.1; have S8 : Cel v (w1.heap.size) 2 (.int .i64 u) := O.cels.2.2.2.2.2.2.2.2.1; have S9 : Cel v (w1.heap.size) 3 (.int .i64 d) := O.cels.2.2.2.2.2.2.2.2.2.1
      simp [Region.binds] at hd
      simp only [pcs, List.foldl_cons, List.foldl_nil, Act.put]
      go_simp
      exact HK.out _ _ ⟨nb, by simp [pcs, Act.put, upd, gomax, gomin, *] <;> omega, O, by simpa [upd] using hn13⟩
    · rintro L a' v ⟨nb, rfl, O, hn13⟩ hL hd hcl K hK
      have HK := Lib.hid hK
      clear hK
      have hB := O.below; have hz := O.size; have S0 : Cel v (w.heap.size) 0 (.int .i64 a) := O.cels.1; have S1 : Cel v (w.heap.size) 1 (.int .i64 l) := O.cels.2.1; have S2 : Cel v (w.heap.size) 2 (.int .i64 u) := O.cels.2.2.1; have S3 : Cel v (w.heap.size) 3 (.int .i64 d) := O.cels.2.2.2.1; have S4 : Cel v (w.heap.size + 1) 0 (.int .i64 0) := O.cels.2.2.2.2.1; have S5 : Cel v (w.heap.size + 1) 1 (.int .i64 0) := O.cels.2.2.2.2.2.1; have S6 : Cel v (w1.heap.size) 0 (.int .i64 a) := O.cels.2.2.2.2.2.2.1; have S7 : Cel v (w1.heap.size) 1 (.int .i64 l) := O.cels.2.2.2.2.2.2.2.1; have S8 : Cel v (w1.heap.size) 2 (.int .i64 u) := O.cels.2.2.2.2.2.2.2.2.1; have S9 : Cel v (w1.heap.size) 3 (.int .i64 d) := O.cels.2.2.2.2.2.2.2.2.2.1
      simp [Region.binds] at hd
      simp only [pcs, List.foldl_cons, List.foldl_nil, Act.put]
      go_simp
      refine (firstL a l u d (t + 1) _ h1 ⟨by omega, by omega⟩).mono ?_
      rintro e v' ⟨rfl, hb⟩
      go_simp
      exact HK.out _ _ ⟨nb, by simp [pcs, Act.put, upd, gomax, gomin, *] <;> omega, O.keep hb, fun hx => ⟨(hn13 (by simpa [upd] using hx)).1, (hn13 (by simpa [upd] using hx)).2.keep hb⟩⟩
    · rintro L a' v ⟨nb, rfl, O, hn13⟩ hL hd hcl K hK
      have HK := Lib.hid hK
      clear hK
      have hB := O.below; have hz := O.size; have S0 : Cel v (w.heap.size) 0 (.int .i64 a) := O.cels.1; have S1 : Cel v (w.heap.size) 1 (.int .i64 l) := O.cels.2.1; have S2 : Cel v (w.heap.size) 2 (.int .i64 u) := O.cels.2.2.1; have S3 : Cel v (w.heap.size) 3 (.int .i64 d) := O.cels.2.2.2.1; have S4 : Cel v (w.heap.size + 1) 0 (.int .i64 0) := O.cels.2.2.2.2.1; have S5 : Cel v (w.heap.size + 1) 1 (.int .i64 0) := O.cels.2.2.2.2.2.1; have S6 : Cel v (w1.heap.size) 0 (.int .i64 a) := O.cels.2.2.2.2.2.2.1; have S7 : Cel v (w1.heap.size) 1 (.int .i64 l) := O.cels.2.2.2.2.2.2.2.1; have S8 : Cel v (w1.heap.size) 2 (.int .i64 u) := O.cels.2.2.2.2.2.2.2.2.1; have S9 : Cel v (w1.heap.size) 3 (.int .i64 d) := O.cels.2.2.2.2.2.2.2.2.2.1
      simp [Region.binds] at hd
      simp only [pcs, List.foldl_cons, List.foldl_nil, Act.put]
      go_simp
      exact HK.out _ _ ⟨nb, by simp [pcs, Act.put, upd, gomax, gomin, *] <;> omega, O, by simpa [upd] using hn13⟩
    · rintro L a' v ⟨nb, rfl, O, hn13⟩ hL hd hcl K hK
      have HK := Lib.hid hK
      clear hK
      have hB := O.below; have hz := O.size; have S0 : Cel v (w.heap.size) 0 (.int .i64 a) := O.cels.1; have S1 : Cel v (w.heap.size) 1 (.int .i64 l) := O.cels.2.1; have S2 : Cel v (w.heap.size) 2 (.int .i64 u) := O.cels.2.2.1; have S3 : Cel v (w.heap.size) 3 (.int .i64 d) := O.cels.2.2.2.1; have S4 : Cel v (w.heap.size + 1) 0 (.int .i64 0) := O.cels.2.2.2.2.1; have S5 : Cel v (w.heap.size + 1) 1 (.int .i64 0) := O.cels.2.2.2.2.2.1; have S6 : Cel v (w1.heap.size) 0 (.int .i64 a) := O.cels.2.2.2.2.2.2.1; have S7 : Cel v (w1.heap.size) 1 (.int .i64 l) := O.cels.2.2.2.2.2.2.2.1; have S8 : Cel v (w1.heap.size) 2 (.int .i64 u) := O.cels.2.2.2.2.2.2.2.2.1; have S9 : Cel v (w1.heap.size) 3 (.int .i64 d) := O.cels.2.2.2.2.2.2.2.2.2.1
      simp [Region.binds] at hd
      simp only [pcs, List.foldl_cons, List.foldl_nil, Act.put]
      go_simp
      exact HK.out _ _ ⟨nb, by simp [pcs, Act.put, upd, gomax, gomin, *] <;> omega, O, by simpa [upd] using hn13⟩
    · rintro L a' v ⟨nb, rfl, O, hn13⟩ hL hd hcl K hK
      have HK := Lib.hid hK
      clear hK
      have hB := O.below; have hz := O.size; have S0 : Cel v (w.heap.size) 0 (.int .i64 a) := O.cels.1; have S1 : Cel v (w.heap.size) 1 (.int .i64 l) := O.cels.2.1; have S2 : Cel v (w.heap.size) 2 (.int .i64 u) := O.cels.2.2.1; have S3 : Cel v (w.heap.size) 3 (.int .i64 d) := O.cels.2.2.2.1; have S4 : Cel v (w.heap.size + 1) 0 (.int .i64 0) := O.cels.2.2.2.2.1; have S5 : Cel v (w.heap.size + 1) 1 (.int .i64 0) := O.cels.2.2.2.2.2.1; have S6 : Cel v (w1.heap.size) 0 (.int .i64 a) := O.cels.2.2.2.2.2.2.1; have S7 : Cel v (w1.heap.size) 1 (.int .i64 l) := O.cels.2.2.2.2.2.2.2.1; have S8 : Cel v (w1.heap.size) 2 (.int .i64 u) := O.cels.2.2.2.2.2.2.2.2.1; have S9 : Cel v (w1.heap.size) 3 (.int .i64 d) := O.cels.2.2.2.2.2.2.2.2.2.1
      simp [Region.binds] at hd
      have N14 : L 14 = false := (by cases hq : L 14 with | false => rfl | true => (have hc := hcl 14 _ rfl hq; simp [Region.binds, hL] at hc))
      simp only [pcs, List.foldl_cons, List.foldl_nil, Act.put]
      go_simp
      exact HK.out _ _ ⟨v.heap.size, by simp [pcs, Act.put, upd, gomax, gomin, *] <;> omega, O.alloc _, fun _ => ⟨O.size, by (simp only [upd]; simp only [N14, cond_false, Nat.reduceEqDiff, if_false, if_true, reduceIte]; (repeat' (first | (with_reducible assumption) | (with_reducible exact Below.refl _ _) | (with_reducible exact Cels.nil _) | (with_reducible refine Cels.cons ?_ ?_) | (with_reducible refine Own.mk ?_ ?_ ?_ ?_) | ((with_reducible refine Cel.new ?_ rfl); first | (with_reducible rfl) | omega | (simp; done) | (simp; omega)) | (with_reducible refine Cel.alloc ?_ _) | (with_reducible refine Cel.drew ?_) | (with_reducible refine Cel.setS ?_ _) | (with_reducible refine Has.set ?_ _ _) | (with_reducible exact Has.of (by assumption)) | (with_reducible refine Cel.setO ?_ ?_ _) | (with_reducible refine Cel.keep (by assumption) ?_) | (with_reducible refine Below.alloc ?_ ?_ _) | (with_reducible refine Below.drew ?_) | (with_reducible refine Below.setCell ?_ ?_ _) | (with_reducible refine below_keep ?_ ?_ (by assumption)) | omega | (simp; done) | (simp; omega))))⟩⟩
    · rintro L a' v ⟨nb, rfl, O, hn13⟩ hL hd hcl K hK
      have HK := Lib.hid hK
      clear hK
      have hB := O.below; have hz := O.size; have S0 : Cel v (w.heap.size) 0 (.int .i64 a) := O.cels.1; have S1 : Cel v (w.heap.size) 1 (.int .i64 l) := O.cels.2.1; have S2 : Cel v (w.heap.size) 2 (.int .i64 u) := O.cels.2.2.1; have S3 : Cel v (w.heap.size) 3 (.int .i64 d) := O.cels.2.2.2.1; have S4 : Cel v (w.heap.size + 1) 0 (.int .i64 0) := O.cels.2.2.2.2.1; have S5 : Cel v (w.heap.size + 1) 1 (.int .i64 0) := O.cels.2.2.2.2.2.1; have S6 : Cel v (w1.heap.size) 0 (.int .i64 a) := O.cels.2.2.2.2.2.2.1; have S7 : Cel v (w1.heap.size) 1 (.int .i64 l) := O.cels.2.2.2.2.2.2.2.1; have S8 : Cel v (w1.heap.size) 2 (.int .i64 u) := O.cels.2.2.2.2.2.2.2.2.1; have S9 : Cel v (w1.heap.size) 3 (.int .i64 d) := O.cels.2.2.2.2.2.2.2.2.2.1
      simp [Region.binds] at hd
      have yy := hn13 (by simp [*])
      have yn := yy.1; have y0 : Cel v (nb) 0 (.int .i64 (bif L 14 then (fstH a u d t) else 0)) := yy.2.1; have y1 : Cel v (nb) 1 (.int .i64 (bif L 14 then (fstL a l d (t + 1)) - 1 else 0)) := yy.2.2.1
      simp only [pcs, List.foldl_cons, List.foldl_nil, Act.put]
      go_simp
      exact HK.out _ _ ⟨nb, by simp [pcs, Act.put, upd, gomax, gomin, *] <;> omega, ((O.setO _ yn (by simp <;> omega)).setO _ yn (by simp <;> omega)), fun _ => ⟨yn, by (simp only [upd]; simp only [cond_true, if_true, reduceIte]; (repeat' (first | (with_reducible assumption) | (with_reducible exact Below.refl _ _) | (with_reducible exact Cels.nil _) | (with_reducible refine Cels.cons ?_ ?_) | (with_reducible refine Own.mk ?_ ?_ ?_ ?_) | ((with_reducible refine Cel.new ?_ rfl); first | (with_reducible rfl) | omega | (simp; done) | (simp; omega)) | (with_reducible refine Cel.alloc ?_ _) | (with_reducible refine Cel.drew ?_) | (with_reducible refine Cel.setS ?_ _) | (with_reducible refine Has.set ?_ _ _) | (with_reducible exact Has.of (by assumption)) | (with_reducible refine Cel.setO ?_ ?_ _) | (with_reducible refine Cel.keep (by assumption) ?_) | (with_reducible refine Below.alloc ?_ ?_ _) | (with_reducible refine Below.drew ?_) | (with_reducible refine Below.setCell ?_ ?_ _) | (with_reducible refine below_keep ?_ ?_ (by assumption)) | omega | (simp; done) | (simp; omega))))⟩⟩
  · rintro L a' w' hL ⟨nb, ea, O, hn13⟩
    have hB := O.below; have hz := O.size; have S0 : Cel w' (w.heap.size) 0 (.int .i64 a) := O.cels.1; have S1 : Cel w' (w.heap.size) 1 (.int .i64 l) := O.cels.2.1; have S2 : Cel w' (w.heap.size) 2 (.int .i64 u) := O.cels.2.2.1; have S3 : Cel w' (w.heap.size) 3 (.int .i64 d) := O.cels.2.2.2.1; have S4 : Cel w' (w.heap.size + 1) 0 (.int .i64 0) := O.cels.2.2.2.2.1; have S5 : Cel w' (w.heap.size + 1) 1 (.int .i64 0) := O.cels.2.2.2.2.2.1; have S6 : Cel w' (w1.heap.size) 0 (.int .i64 a) := O.cels.2.2.2.2.2.2.1; have S7 : Cel w' (w1.heap.size) 1 (.int .i64 l) := O.cels.2.2.2.2.2.2.2.1; have S8 : Cel w' (w1.heap.size) 2 (.int .i64 u) := O.cels.2.2.2.2.2.2.2.2.1; have S9 : Cel w' (w1.heap.size) 3 (.int .i64 d) := O.cels.2.2.2.2.2.2.2.2.2.1
    have L0 := hL 0 (by decide); have L1 := hL 1 (by decide); have L2 := hL 2 (by decide); have L3 := hL 3 (by decide); have L4 := hL 4 (by decide); have L5 := hL 5 (by decide); have L6 := hL 6 (by decide); have L7 := hL 7 (by decide); have L8 := hL 8 (by decide); have L9 := hL 9 (by decide); have L10 := hL 10 (by decide); have L11 := hL 11 (by decide); have L12 := hL 12 (by decide); have L13 := hL 13 (by decide); have L14 := hL 14 (by decide)
    have yy13 := hn13 L13
    have yn13 := yy13.1; have y13_0 : Cel w' (nb) 0 (.int .i64 (bif L 14 then (fstH a u d t) else 0)) := yy13.2.1; have y13_1 : Cel w' (nb) 1 (.int .i64 (bif L 14 then (fstL a l d (t + 1)) - 1 else 0)) := yy13.2.2.1
    clear yy13
    simp only [L0, L1, L2, L3, L4, L5, L6, L7, L8, L9, L10, L11, L12, L13, L14, cond_true] at y13_0 y13_1
    simp [pcs, Act.put, L0, L1, L2, L3, L4, L5, L6, L7, L8, L9, L10, L11, L12, L13, L14] at ea
    subst ea
    clear hL L0 L1 L2 L3 L4 L5 L6 L7 L8 L9 L10 L11 L12 L13 L14 hn13
    go_wp2
    refine bodyPost_ret (v := .tuple #[sp 0 0, .int .i64 4]) (by simp [results, Try.results16, go_sem, *] <;> omega) rfl ⟨rfl, ?_⟩
    (repeat' (first | (with_reducible assumption) | (with_reducible exact Below.refl _ _) | (with_reducible exact Cels.nil _) | (with_reducible refine Cels.cons ?_ ?_) | (with_reducible refine Own.mk ?_ ?_ ?_ ?_) | ((with_reducible refine Cel.new ?_ rfl); first | (with_reducible rfl) | omega | (simp; done) | (simp; omega)) | (with_reducible refine Cel.alloc ?_ _) | (with_reducible refine Cel.drew ?_) | (with_reducible refine Cel.setS ?_ _) | (with_reducible refine Has.set ?_ _ _) | (with_reducible exact Has.of (by assumption)) | (with_reducible refine Cel.setO ?_ ?_ _) | (with_reducible refine Cel.keep (by assumption) ?_) | (with_reducible refine Below.alloc ?_ ?_ _) | (with_reducible refine Below.drew ?_) | (with_reducible refine Below.setCell ?_ ?_ _) | (with_reducible refine below_keep ?_ ?_ (by assumption)) | omega | (simp; done) | (simp; omega)))

set_option maxHeartbeats 3200000 in
theorem shows_ok (a l u d t : Int) (w : World) (h1 : vld a l u d = true) (h2 : tm t = true) (h3 : (fstH a u d t) ≤ (fstL a l d (t + 1)) - 1) :
    Calls Try.prog 16 #[ck a l u d, .int .i64 t] w fun e w' => e = .returned (.tuple #[sp (fstH a u d t) ((fstL a l d (t + 1)) - 1), .int .i64 0]) ∧ Below w.heap.size w w' := by
  obtain ⟨b1, b2⟩ := tm_bd h2
  obtain ⟨a0, a1, d0, d1, l0, l1, l2, u0, u1⟩ := vld_bd h1
  obtain ⟨g1, g2⟩ := fstH_bd a u d t a1
  obtain ⟨g3, g4⟩ := fstL_bd a l d (t + 1) a1
  have hw1 : IntKind.i64.wrap (t + 1) = t + 1 := IntWalk.i64_in _ (by omega)
  have hw2 : IntKind.i64.wrap (fstL a l d (t + 1) - 1) = fstL a l d (t + 1) - 1 := IntWalk.i64_in _ (by omega)
  go_enter Try.func16, Try.ntmps16
  go_wp2_with (first | (go_at_call 12; refine (valid_any _ _ _ _ _).mono ?_; rintro e w1 ⟨rfl, hb⟩; have hs := hb.size; (try simp at hs); have O : Own w (w.heap.size + 2) w1 [(w.heap.size, 0, .int .i64 a), (w.heap.size, 1, .int .i64 l), (w.heap.size, 2, .int .i64 u), (w.heap.size, 3, .int .i64 d), (w.heap.size + 1, 0, .int .i64 0), (w.heap.size + 1, 1, .int .i64 0)] := (by first | exact Own.keep (by assumption) hb | (repeat' (first | (with_reducible assumption) | (with_reducible exact Below.refl _ _) | (with_reducible exact Cels.nil _) | (with_reducible refine Cels.cons ?_ ?_) | (with_reducible refine Own.mk ?_ ?_ ?_ ?_) | ((with_reducible refine Cel.new ?_ rfl); first | (with_reducible rfl) | omega | (simp; done) | (simp; omega)) | (with_reducible refine Cel.alloc ?_ _) | (with_reducible refine Cel.drew ?_) | (with_reducible refine Cel.setS ?_ _) | (with_reducible refine Has.set ?_ _ _) | (with_reducible exact Has.of (by assumption)) | (with_reducible refine Cel.setO ?_ ?_ _) | (with_reducible refine Cel.keep (by assumption) ?_) | (with_reducible refine Below.alloc ?_ ?_ _) | (with_reducible refine Below.drew ?_) | (with_reducible refine Below.setCell ?_ ?_ _) | (with_reducible refine below_keep ?_ ?_ (by assumption)) | omega | (simp; done) | (simp; omega)))); have hB := O.below; have hz := O.size; have S0 : Cel w1 (w.heap.size) 0 (.int .i64 a) := O.cels.1; have S1 : Cel w1 (w.heap.size) 1 (.int .i64 l) := O.cels.2.1; have S2 : Cel w1 (w.heap.size) 2 (.int .i64 u) := O.cels.2.2.1; have S3 : Cel w1 (w.heap.size) 3 (.int .i64 d) := O.cels.2.2.2.1; have S4 : Cel w1 (w.heap.size + 1) 0 (.int .i64 0) := O.cels.2.2.2.2.1; have S5 : Cel w1 (w.heap.size + 1) 1 (.int .i64 0) := O.cels.2.2.2.2.2.1) | (go_at_call 29; refine (moment_any _ _).mono ?_; rintro e w' ⟨rfl, rfl⟩))
  refine wp_region_by (fun a0 L a' w' => ∃ nb : Nat, a' = pcs a0 [(18, L 0, ck a l u d), (19, L 1, ck a l u d), (20, L 2, .func (.func 34) #[ck a l u d] #[]), (21, L 3, .int .i64 t), (22, L 4, .int .i64 ((fstH a u d t))), (23, L 5, ck a l u d), (24, L 6, ck a l u d), (25, L 7, .func (.func 33) #[ck a l u d] #[]), (26, L 8, .int .i64 t), (27, L 9, .int .i64 ((t + 1))), (28, L 10, .int .i64 ((fstL a l d (t + 1)))), (29, L 11, .int .i64 (((fstL a l d (t + 1)) - 1))), (30, L 12, sp (fstH a u d t) ((fstL a l d (t + 1)) - 1)), (7, L 13, .pointer (some ⟨nb, 0, none⟩))] ∧ Own w (w1.heap.size + 1) w' [(w.heap.size, 0, .int .i64 a), (w.heap.size, 1, .int .i64 l), (w.heap.size, 2, .int .i64 u), (w.heap.size, 3, .int .i64 d), (w.heap.size + 1, 0, .int .i64 0), (w.heap.size + 1, 1, .int .i64 0), (w1.heap.size, 0, .int .i64 a), (w1.heap.size, 1, .int .i64 l), (w1.heap.size, 2, .int .i64 u), (w1.heap.size, 3, .int .i64 d)] ∧ (L 13 = true → (w1.heap.size + 1) ≤ nb ∧ Cels w' [(nb, 0, .int .i64 (bif L 14 then (fstH a u d t) else 0)), (nb, 1, .int .i64 (bif L 14 then (fstL a l d (t + 1)) - 1 else 0))])) (by kernel_rfl) (by kernel_rfl) ?_ ?_ ?_
  · exact ⟨0, (pcs_start _ _ (by simp)).symm, by (repeat' (first | (with_reducible assumption) | (with_reducible exact Below.refl _ _) | (with_reducible exact Cels.nil _) | (with_reducible refine Cels.cons ?_ ?_) | (with_reducible refine Own.mk ?_ ?_ ?_ ?_) | ((with_reducible refine Cel.new ?_ rfl); first | (with_reducible rfl) | omega | (simp; done) | (simp; omega)) | (with_reducible refine Cel.alloc ?_ _) | (with_reducible refine Cel.drew ?_) | (with_reducible refine Cel.setS ?_ _) | (with_reducible refine Has.set ?_ _ _) | (with_reducible exact Has.of (by assumption)) | (with_reducible refine Cel.setO ?_ ?_ _) | (with_reducible refine Cel.keep (by assumption) ?_) | (with_reducible refine Below.alloc ?_ ?_ _) | (with_reducible refine Below.drew ?_) | (with_reducible refine Below.setCell ?_ ?_ _) | (with_reducible refine below_keep ?_ ?_ (by assumption)) | omega | (simp; done) | (simp; omega))), fun hff => (by cases hff)⟩
  · refine ⟨?_, ?_, ?_, ?_, ?_, ?_, ?_, ?_, ?_, ?_, ?_, ?_, ?_, ?_, ?_, trivial⟩
    · rintro L a' v ⟨nb, rfl, O, hn13⟩ hL hd hcl K hK
      have HK := Lib.hid hK
      clear hK
      have hB := O.below; have hz := O.size; have S0 : Cel v (w.heap.size) 0 (.int .i64 a) := O.cels.1; have S1 : Cel v (w.heap.size) 1 (.int .i64 l) := O.cels.2.1; have S2 : Cel v (w.heap.size) 2 (.int .i64 u) := O.cels.2.2.1; have S3 : Cel v (w.heap.size) 3 (.int .i64 d) := O.cels.2.2.2.1; have S4 : Cel v (w.heap.size + 1) 0 (.int .i64 0) := O.cels.2.2.2.2.1; have S5 : Cel v (w.heap.size + 1) 1 (.int .i64 0) := O.cels.2.2.2.2.2.1; have S6 : Cel v (w1.heap.size) 0 (.int .i64 a) := O.cels.2.2.2.2.2.2.1; have S7 : Cel v (w1.heap.size) 1 (.int .i64 l) := O.cels.2.2.2.2.2.2.2.1; have S8 : Cel v (w1.heap.size) 2 (.int .i64 u) := O.cels.2.2.2.2.2.2.2.2.1; have S9 : Cel v (w1.heap.size) 3 (.int .i64 d) := O.cels.2.2.2.2.2.2.2.2.2.1
      simp [Region.binds] at hd
      simp only [pcs, List.foldl_cons, List.foldl_nil, Act.put]
      go_simp
      exact HK.out _ _ ⟨nb, by simp [pcs, Act.put, upd, gomax, gomin, *] <;> omega, O, by simpa [upd] using hn13⟩
    · rintro L a' v ⟨nb, rfl, O, hn13⟩ hL hd hcl K hK
      have HK := Lib.hid hK
      clear hK
      have hB := O.below; have hz := O.size; have S0 : Cel v (w.heap.size) 0 (.int .i64 a) := O.cels.1; have S1 : Cel v (w.heap.size) 1 (.int .i64 l) := O.cels.2.1; have S2 : Cel v (w.heap.size) 2 (.int .i64 u) := O.cels.2.2.1; have S3 : Cel v (w.heap.size) 3 (.int .i64 d) := O.cels.2.2.2.1; have S4 : Cel v (w.heap.size + 1) 0 (.int .i64 0) := O.cels.2.2.2.2.1; have S5 : Cel v (w.heap.size + 1) 1 (.int .i64 0) := O.cels.2.2.2.2.2.1; have S6 : Cel v (w1.heap.size) 0 (.int .i64 a) := O.cels.2.2.2.2.2.2.1; have S7 : Cel v (w1.heap.size) 1 (.int .i64 l) := O.cels.2.2.2.2.2.2.2.1; have S8 : Cel v (w1.heap.size) 2 (.int .i64 u) := O.cels.2.2.2.2.2.2.2.2.1; have S9 : Cel v (w1.heap.size) 3 (.int .i64 d) := O.cels.2.2.2.2.2.2.2.2.2.1
      simp [Region.binds] at hd
      simp only [pcs, List.foldl_cons, List.foldl_nil, Act.put]
      go_simp
      exact HK.out _ _ ⟨nb, by simp [pcs, Act.put, upd, gomax, gomin, *] <;> omega, O, by simpa [upd] using hn13⟩
    · rintro L a' v ⟨nb, rfl, O, hn13⟩ hL hd hcl K hK
      have HK := Lib.hid hK
      clear hK
      have hB := O.below; have hz := O.size; have S0 : Cel v (w.heap.size) 0 (.int .i64 a) := O.cels.1; have S1 : Cel v (w.heap.size) 1 (.int .i64 l) := O.cels.2.1; have S2 : Cel v (w.heap.size) 2 (.int .i64 u) := O.cels.2.2.1; have S3 : Cel v (w.heap.size) 3 (.int .i64 d) := O.cels.2.2.2.1; have S4 : Cel v (w.heap.size + 1) 0 (.int .i64 0) := O.cels.2.2.2.2.1; have S5 : Cel v (w.heap.size + 1) 1 (.int .i64 0) := O.cels.2.2.2.2.2.1; have S6 : Cel v (w1.heap.size) 0 (.int .i64 a) := O.cels.2.2.2.2.2.2.1; have S7 : Cel v (w1.heap.size) 1 (.int .i64 l) := O.cels.2.2.2.2.2.2.2.1; have S8 : Cel v (w1.heap.size) 2 (.int .i64 u) := O.cels.2.2.2.2.2.2.2.2.1; have S9 : Cel v (w1.heap.size) 3 (.int .i64 d) := O.cels.2.2.2.2.2.2.2.2.2.1
      simp [Region.binds] at hd
      simp only [pcs, List.foldl_cons, List.foldl_nil, Act.put]
      go_simp
      exact HK.out _ _ ⟨nb, by simp [pcs, Act.put, upd, gomax, gomin, *] <;> omega, O, by simpa [upd] using hn13⟩
    · rintro L a' v ⟨nb, rfl, O, hn13⟩ hL hd hcl K hK
      have HK := Lib.hid hK
      clear hK
      have hB := O.below; have hz := O.size; have S0 : Cel v (w.heap.size) 0 (.int .i64 a) := O.cels.1; have S1 : Cel v (w.heap.size) 1 (.int .i64 l) := O.cels.2.1; have S2 : Cel v (w.heap.size) 2 (.int .i64 u) := O.cels.2.2.1; have S3 : Cel v (w.heap.size) 3 (.int .i64 d) := O.cels.2.2.2.1; have S4 : Cel v (w.heap.size + 1) 0 (.int .i64 0) := O.cels.2.2.2.2.1; have S5 : Cel v (w.heap.size + 1) 1 (.int .i64 0) := O.cels.2.2.2.2.2.1; have S6 : Cel v (w1.heap.size) 0 (.int .i64 a) := O.cels.2.2.2.2.2.2.1; have S7 : Cel v (w1.heap.size) 1 (.int .i64 l) := O.cels.2.2.2.2.2.2.2.1; have S8 : Cel v (w1.heap.size) 2 (.int .i64 u) := O.cels.2.2.2.2.2.2.2.2.1; have S9 : Cel v (w1.heap.size) 3 (.int .i64 d) := O.cels.2.2.2.2.2.2.2.2.2.1
      simp [Region.binds] at hd
      simp only [pcs, List.foldl_cons, List.foldl_nil, Act.put]
      go_simp
      exact HK.out _ _ ⟨nb, by simp [pcs, Act.put, upd, gomax, gomin, *] <;> omega, O, by simpa [upd] using hn13⟩
    · rintro L a' v ⟨nb, rfl, O, hn13⟩ hL hd hcl K hK
      have HK := Lib.hid hK
      clear hK
      have hB := O.below; have hz := O.size; have S0 : Cel v (w.heap.size) 0 (.int .i64 a) := O.cels.1; have S1 : Cel v (w.heap.size) 1 (.int .i64 l) := O.cels.2.1; have S2 : Cel v (w.heap.size) 2 (.int .i64 u) := O.cels.2.2.1; have S3 : Cel v (w.heap.size) 3 (.int .i64 d) := O.cels.2.2.2.1; have S4 : Cel v (w.heap.size + 1) 0 (.int .i64 0) := O.cels.2.2.2.2.1; have S5 : Cel v (w.heap.size + 1) 1 (.int .i64 0) := O.cels.2.2.2.2.2.1; have S6 : Cel v (w1.heap.size) 0 (.int .i64 a) := O.cels.2.2.2.2.2.2.1; have S7 : Cel v (w1.heap.size) 1 (.int .i64 l) := O.cels.2.2.2.2.2.2.2.1; have S8 : Cel v (w1.heap.size) 2 (.int .i64 u) := O.cels.2.2.2.2.2.2.2.2.1; have S9 : Cel v (w1.heap.size) 3 (.int .i64 d) := O.cels.2.2.2.2.2.2.2.2.2.1
      simp [Region.binds] at hd
      simp only [pcs, List.foldl_cons, List.foldl_nil, Act.put]
      go_simp
      refine (firstH a l u d t _ h1 ⟨by omega, by omega⟩).mono ?_
      rintro e v' ⟨rfl, hb⟩
      go_simp
      exact HK.out _ _ ⟨nb, by simp [pcs, Act.put, upd, gomax, gomin, *] <;> omega, O.keep hb, fun hx => ⟨(hn13 (by simpa [upd] using hx)).1, (hn13 (by simpa [upd] using hx)).2.keep hb⟩⟩
    · rintro L a' v ⟨nb, rfl, O, hn13⟩ hL hd hcl K hK
      have HK := Lib.hid hK
      clear hK
      have hB := O.below; have hz := O.size; have S0 : Cel v (w.heap.size) 0 (.int .i64 a) := O.cels.1; have S1 : Cel v (w.heap.size) 1 (.int .i64 l) := O.cels.2.1; have S2 : Cel v (w.heap.size) 2 (.int .i64 u) := O.cels.2.2.1; have S3 : Cel v (w.heap.size) 3 (.int .i64 d) := O.cels.2.2.2.1; have S4 : Cel v (w.heap.size + 1) 0 (.int .i64 0) := O.cels.2.2.2.2.1; have S5 : Cel v (w.heap.size + 1) 1 (.int .i64 0) := O.cels.2.2.2.2.2.1; have S6 : Cel v (w1.heap.size) 0 (.int .i64 a) := O.cels.2.2.2.2.2.2.1; have S7 : Cel v (w1.heap.size) 1 (.int .i64 l) := O.cels.2.2.2.2.2.2.2.1; have S8 : Cel v (w1.heap.size) 2 (.int .i64 u) := O.cels.2.2.2.2.2.2.2.2.1; have S9 : Cel v (w1.heap.size) 3 (.int .i64 d) := O.cels.2.2.2.2.2.2.2.2.2.1
      simp [Region.binds] at hd
      simp only [pcs, List.foldl_cons, List.foldl_nil, Act.put]
      go_simp
      exact HK.out _ _ ⟨nb, by simp [pcs, Act.put, upd, gomax, gomin, *] <;> omega, O, by simpa [upd] using hn13⟩
    · rintro L a' v ⟨nb, rfl, O, hn13⟩ hL hd hcl K hK
      have HK := Lib.hid hK
      clear hK
      have hB := O.below; have hz := O.size; have S0 : Cel v (w.heap.size) 0 (.int .i64 a) := O.cels.1; have S1 : Cel v (w.heap.size) 1 (.int .i64 l) := O.cels.2.1; have S2 : Cel v (w.heap.size) 2 (.int .i64 u) := O.cels.2.2.1; have S3 : Cel v (w.heap.size) 3 (.int .i64 d) := O.cels.2.2.2.1; have S4 : Cel v (w.heap.size + 1) 0 (.int .i64 0) := O.cels.2.2.2.2.1; have S5 : Cel v (w.heap.size + 1) 1 (.int .i64 0) := O.cels.2.2.2.2.2.1; have S6 : Cel v (w1.heap.size) 0 (.int .i64 a) := O.cels.2.2.2.2.2.2.1; have S7 : Cel v (w1.heap.size) 1 (.int .i64 l) := O.cels.2.2.2.2.2.2.2.1; have S8 : Cel v (w1.heap.size) 2 (.int .i64 u) := O.cels.2.2.2.2.2.2.2.2.1; have S9 : Cel v (w1.heap.size) 3 (.int .i64 d) := O.cels.2.2.2.2.2.2.2.2.2.1
      simp [Region.binds] at hd
      simp only [pcs, List.foldl_cons, List.foldl_nil, Act.put]
      go_simp
      exact HK.out _ _ ⟨nb, by simp [pcs, Act.put, upd, gomax, gomin, *] <;> omega, O, by simpa [upd] using hn13⟩
    · rintro L a' v ⟨nb, rfl, O, hn13⟩ hL hd hcl K hK
      have HK := Lib.hid hK
      clear hK
      have hB := O.below; have hz := O.size; have S0 : Cel v (w.heap.size) 0 (.int .i64 a) := O.cels.1; have S1 : Cel v (w.heap.size) 1 (.int .i64 l) := O.cels.2.1; have S2 : Cel v (w.heap.size) 2 (.int .i64 u) := O.cels.2.2.1; have S3 : Cel v (w.heap.size) 3 (.int .i64 d) := O.cels.2.2.2.1; have S4 : Cel v (w.heap.size + 1) 0 (.int .i64 0) := O.cels.2.2.2.2.1; have S5 : Cel v (w.heap.size + 1) 1 (.int .i64 0) := O.cels.2.2.2.2.2.1; have S6 : Cel v (w1.heap.size) 0 (.int .i64 a) := O.cels.2.2.2.2.2.2.1; have S7 : Cel v (w1.heap.size) 1 (.int .i64 l) := O.cels.2.2.2.2.2.2.2.1; have S8 : Cel v (w1.heap.size) 2 (.int .i64 u) := O.cels.2.2.2.2.2.2.2.2.1; have S9 : Cel v (w1.heap.size) 3 (.int .i64 d) := O.cels.2.2.2.2.2.2.2.2.2.1
      simp [Region.binds] at hd
      simp only [pcs, List.foldl_cons, List.foldl_nil, Act.put]
      go_simp
      exact HK.out _ _ ⟨nb, by simp [pcs, Act.put, upd, gomax, gomin, *] <;> omega, O, by simpa [upd] using hn13⟩
    · rintro L a' v ⟨nb, rfl, O, hn13⟩ hL hd hcl K hK
      have HK := Lib.hid hK
      clear hK
      have hB := O.below; have hz := O.size; have S0 : Cel v (w.heap.size) 0 (.int .i64 a) := O.cels.1; have S1 : Cel v (w.heap.size) 1 (.int .i64 l) := O.cels.2.1; have S2 : Cel v (w.heap.size) 2 (.int .i64 u) := O.cels.2.2.1; have S3 : Cel v (w.heap.size) 3 (.int .i64 d) := O.cels.2.2.2.1; have S4 : Cel v (w.heap.size + 1) 0 (.int .i64 0) := O.cels.2.2.2.2.1; have S5 : Cel v (w.heap.size + 1) 1 (.int .i64 0) := O.cels.2.2.2.2.2.1; have S6 : Cel v (w1.heap.size) 0 (.int .i64 a) := O.cels.2.2.2.2.2.2.1; have S7 : Cel v (w1.heap.size) 1 (.int .i64 l) := O.cels.2.2.2.2.2.2.2.1; have S8 : Cel v (w1.heap.size) 2 (.int .i64 u) := O.cels.2.2.2.2.2.2.2.2.1; have S9 : Cel v (w1.heap.size) 3 (.int .i64 d) := O.cels.2.2.2.2.2.2.2.2.2.1
      simp [Region.binds] at hd
      simp only [pcs, List.foldl_cons, List.foldl_nil, Act.put]
      go_simp
      exact HK.out _ _ ⟨nb, by simp [pcs, Act.put, upd, gomax, gomin, *] <;> omega, O, by simpa [upd] using hn13⟩
    · rintro L a' v ⟨nb, rfl, O, hn13⟩ hL hd hcl K hK
      have HK := Lib.hid hK
      clear hK
      have hB := O.below; have hz := O.size; have S0 : Cel v (w.heap.size) 0 (.int .i64 a) := O.cels.1; have S1 : Cel v (w.heap.size) 1 (.int .i64 l) := O.cels.2.1; have S2 : Cel v (w.heap.size) 2 (.int .i64 u) := O.cels.2.2.1; have S3 : Cel v (w.heap.size) 3 (.int .i64 d) := O.cels.2.2.2.1; have S4 : Cel v (w.heap.size + 1) 0 (.int .i64 0) := O.cels.2.2.2.2.1; have S5 : Cel v (w.heap.size + 1) 1 (.int .i64 0) := O.cels.2.2.2.2.2.1; have S6 : Cel v (w1.heap.size) 0 (.int .i64 a) := O.cels.2.2.2.2.2.2.1; have S7 : Cel v (w1.heap.size) 1 (.int .i64 l) := O.cels.2.2.2.2.2.2.2.1; have S8 : Cel v (w1.heap.size) 2 (.int .i64 u) := O.cels.2.2.2.2.2.2.2.2.1; have S9 : Cel v (w1.heap.size) 3 (.int .i64 d) := O.cels.2.2.2.2.2.2.2.2.2.1
      simp [Region.binds] at hd
      simp only [pcs, List.foldl_cons, List.foldl_nil, Act.put]
      go_simp
      exact HK.out _ _ ⟨nb, by simp [pcs, Act.put, upd, gomax, gomin, *] <;> omega, O, by simpa [upd] using hn13⟩
    · rintro L a' v ⟨nb, rfl, O, hn13⟩ hL hd hcl K hK
      have HK := Lib.hid hK
      clear hK
      have hB := O.below; have hz := O.size; have S0 : Cel v (w.heap.size) 0 (.int .i64 a) := O.cels.1; have S1 : Cel v (w.heap.size) 1 (.int .i64 l) := O.cels.2.1; have S2 : Cel v (w.heap.size) 2 (.int .i64 u) := O.cels.2.2.1; have S3 : Cel v (w.heap.size) 3 (.int .i64 d) := O.cels.2.2.2.1; have S4 : Cel v (w.heap.size + 1) 0 (.int .i64 0) := O.cels.2.2.2.2.1; have S5 : Cel v (w.heap.size + 1) 1 (.int .i64 0) := O.cels.2.2.2.2.2.1; have S6 : Cel v (w1.heap.size) 0 (.int .i64 a) := O.cels.2.2.2.2.2.2.1; have S7 : Cel v (w1.heap.size) 1 (.int .i64 l) := O.cels.2.2.2.2.2.2.2.1; have S8 : Cel v (w1.heap.size) 2 (.int .i64 u) := O.cels.2.2.2.2.2.2.2.2.1; have S9 : Cel v (w1.heap.size) 3 (.int .i64 d) := O.cels.2.2.2.2.2.2.2.2.2.1
      simp [Region.binds] at hd
      simp only [pcs, List.foldl_cons, List.foldl_nil, Act.put]
      go_simp
      refine (firstL a l u d (t + 1) _ h1 ⟨by omega, by omega⟩).mono ?_
      rintro e v' ⟨rfl, hb⟩
      go_simp
      exact HK.out _ _ ⟨nb, by simp [pcs, Act.put, upd, gomax, gomin, *] <;> omega, O.keep hb, fun hx => ⟨(hn13 (by simpa [upd] using hx)).1, (hn13 (by simpa [upd] using hx)).2.keep hb⟩⟩
    · rintro L a' v ⟨nb, rfl, O, hn13⟩ hL hd hcl K hK
      have HK := Lib.hid hK
      clear hK
      have hB := O.below; have hz := O.size; have S0 : Cel v (w.heap.size) 0 (.int .i64 a) := O.cels.1; have S1 : Cel v (w.heap.size) 1 (.int .i64 l) := O.cels.2.1; have S2 : Cel v (w.heap.size) 2 (.int .i64 u) := O.cels.2.2.1; have S3 : Cel v (w.heap.size) 3 (.int .i64 d) := O.cels.2.2.2.1; have S4 : Cel v (w.heap.size + 1) 0 (.int .i64 0) := O.cels.2.2.2.2.1; have S5 : Cel v (w.heap.size + 1) 1 (.int .i64 0) := O.cels.2.2.2.2.2.1; have S6 : Cel v (w1.heap.size) 0 (.int .i64 a) := O.cels.2.2.2.2.2.2.1; have S7 : Cel v (w1.heap.size) 1 (.int .i64 l) := O.cels.2.2.2.2.2.2.2.1; have S8 : Cel v (w1.heap.size) 2 (.int .i64 u) := O.cels.2.2.2.2.2.2.2.2.1; have S9 : Cel v (w1.heap.size) 3 (.int .i64 d) := O.cels.2.2.2.2.2.2.2.2.2.1
      simp [Region.binds] at hd
      simp only [pcs, List.foldl_cons, List.foldl_nil, Act.put]
      go_simp
      exact HK.out _ _ ⟨nb, by simp [pcs, Act.put, upd, gomax, gomin, *] <;> omega, O, by simpa [upd] using hn13⟩
    · rintro L a' v ⟨nb, rfl, O, hn13⟩ hL hd hcl K hK
      have HK := Lib.hid hK
      clear hK
      have hB := O.below; have hz := O.size; have S0 : Cel v (w.heap.size) 0 (.int .i64 a) := O.cels.1; have S1 : Cel v (w.heap.size) 1 (.int .i64 l) := O.cels.2.1; have S2 : Cel v (w.heap.size) 2 (.int .i64 u) := O.cels.2.2.1; have S3 : Cel v (w.heap.size) 3 (.int .i64 d) := O.cels.2.2.2.1; have S4 : Cel v (w.heap.size + 1) 0 (.int .i64 0) := O.cels.2.2.2.2.1; have S5 : Cel v (w.heap.size + 1) 1 (.int .i64 0) := O.cels.2.2.2.2.2.1; have S6 : Cel v (w1.heap.size) 0 (.int .i64 a) := O.cels.2.2.2.2.2.2.1; have S7 : Cel v (w1.heap.size) 1 (.int .i64 l) := O.cels.2.2.2.2.2.2.2.1; have S8 : Cel v (w1.heap.size) 2 (.int .i64 u) := O.cels.2.2.2.2.2.2.2.2.1; have S9 : Cel v (w1.heap.size) 3 (.int .i64 d) := O.cels.2.2.2.2.2.2.2.2.2.1
      simp [Region.binds] at hd
      simp only [pcs, List.foldl_cons, List.foldl_nil, Act.put]
      go_simp
      exact HK.out _ _ ⟨nb, by simp [pcs, Act.put, upd, gomax, gomin, *] <;> omega, O, by simpa [upd] using hn13⟩
    · rintro L a' v ⟨nb, rfl, O, hn13⟩ hL hd hcl K hK
      have HK := Lib.hid hK
      clear hK
      have hB := O.below; have hz := O.size; have S0 : Cel v (w.heap.size) 0 (.int .i64 a) := O.cels.1; have S1 : Cel v (w.heap.size) 1 (.int .i64 l) := O.cels.2.1; have S2 : Cel v (w.heap.size) 2 (.int .i64 u) := O.cels.2.2.1; have S3 : Cel v (w.heap.size) 3 (.int .i64 d) := O.cels.2.2.2.1; have S4 : Cel v (w.heap.size + 1) 0 (.int .i64 0) := O.cels.2.2.2.2.1; have S5 : Cel v (w.heap.size + 1) 1 (.int .i64 0) := O.cels.2.2.2.2.2.1; have S6 : Cel v (w1.heap.size) 0 (.int .i64 a) := O.cels.2.2.2.2.2.2.1; have S7 : Cel v (w1.heap.size) 1 (.int .i64 l) := O.cels.2.2.2.2.2.2.2.1; have S8 : Cel v (w1.heap.size) 2 (.int .i64 u) := O.cels.2.2.2.2.2.2.2.2.1; have S9 : Cel v (w1.heap.size) 3 (.int .i64 d) := O.cels.2.2.2.2.2.2.2.2.2.1
      simp [Region.binds] at hd
      have N14 : L 14 = false := (by cases hq : L 14 with | false => rfl | true => (have hc := hcl 14 _ rfl hq; simp [Region.binds, hL] at hc))
      simp only [pcs, List.foldl_cons, List.foldl_nil, Act.put]
      go_simp
      exact HK.out _ _ ⟨v.heap.size, by simp [pcs, Act.put, upd, gomax, gomin, *] <;> omega, O.alloc _, fun _ => ⟨O.size, by (simp only [upd]; simp only [N14, cond_false, Nat.reduceEqDiff, if_false, if_true, reduceIte]; (repeat' (first | (with_reducible assumption) | (with_reducible exact Below.refl _ _) | (with_reducible exact Cels.nil _) | (with_reducible refine Cels.cons ?_ ?_) | (with_reducible refine Own.mk ?_ ?_ ?_ ?_) | ((with_reducible refine Cel.new ?_ rfl); first | (with_reducible rfl) | omega | (simp; done) | (simp; omega)) | (with_reducible refine Cel.alloc ?_ _) | (with_reducible refine Cel.drew ?_) | (with_reducible refine Cel.setS ?_ _) | (with_reducible refine Has.set ?_ _ _) | (with_reducible exact Has.of (by assumption)) | (with_reducible refine Cel.setO ?_ ?_ _) | (with_reducible refine Cel.keep (by assumption) ?_) | (with_reducible refine Below.alloc ?_ ?_ _) | (with_reducible refine Below.drew ?_) | (with_reducible refine Below.setCell ?_ ?_ _) | (with_reducible refine below_keep ?_ ?_ (by assumption)) | omega | (simp; done) | (simp; omega))))⟩⟩
    · rintro L a' v ⟨nb, rfl, O, hn13⟩ hL hd hcl K hK
      have HK := Lib.hid hK
      clear hK
      have hB := O.below; have hz := O.size; have S0 : Cel v (w.heap.size) 0 (.int .i64 a) := O.cels.1; have S1 : Cel v (w.heap.size) 1 (.int .i64 l) := O.cels.2.1; have S2 : Cel v (w.heap.size) 2 (.int .i64 u) := O.cels.2.2.1; have S3 : Cel v (w.heap.size) 3 (.int .i64 d) := O.cels.2.2.2.1; have S4 : Cel v (w.heap.size + 1) 0 (.int .i64 0) := O.cels.2.2.2.2.1; have S5 : Cel v (w.heap.size + 1) 1 (.int .i64 0) := O.cels.2.2.2.2.2.1; have S6 : Cel v (w1.heap.size) 0 (.int .i64 a) := O.cels.2.2.2.2.2.2.1; have S7 : Cel v (w1.heap.size) 1 (.int .i64 l) := O.cels.2.2.2.2.2.2.2.1; have S8 : Cel v (w1.heap.size) 2 (.int .i64 u) := O.cels.2.2.2.2.2.2.2.2.1; have S9 : Cel v (w1.heap.size) 3 (.int .i64 d) := O.cels.2.2.2.2.2.2.2.2.2.1
      simp [Region.binds] at hd
      have yy := hn13 (by simp [*])
      have yn := yy.1; have y0 : Cel v (nb) 0 (.int .i64 (bif L 14 then (fstH a u d t) else 0)) := yy.2.1; have y1 : Cel v (nb) 1 (.int .i64 (bif L 14 then (fstL a l d (t + 1)) - 1 else 0)) := yy.2.2.1
      simp only [pcs, List.foldl_cons, List.foldl_nil, Act.put]
      go_simp
      exact HK.out _ _ ⟨nb, by simp [pcs, Act.put, upd, gomax, gomin, *] <;> omega, ((O.setO _ yn (by simp <;> omega)).setO _ yn (by simp <;> omega)), fun _ => ⟨yn, by (simp only [upd]; simp only [cond_true, if_true, reduceIte]; (repeat' (first | (with_reducible assumption) | (with_reducible exact Below.refl _ _) | (with_reducible exact Cels.nil _) | (with_reducible refine Cels.cons ?_ ?_) | (with_reducible refine Own.mk ?_ ?_ ?_ ?_) | ((with_reducible refine Cel.new ?_ rfl); first | (with_reducible rfl) | omega | (simp; done) | (simp; omega)) | (with_reducible refine Cel.alloc ?_ _) | (with_reducible refine Cel.drew ?_) | (with_reducible refine Cel.setS ?_ _) | (with_reducible refine Has.set ?_ _ _) | (with_reducible exact Has.of (by assumption)) | (with_reducible refine Cel.setO ?_ ?_ _) | (with_reducible refine Cel.keep (by assumption) ?_) | (with_reducible refine Below.alloc ?_ ?_ _) | (with_reducible refine Below.drew ?_) | (with_reducible refine Below.setCell ?_ ?_ _) | (with_reducible refine below_keep ?_ ?_ (by assumption)) | omega | (simp; done) | (simp; omega))))⟩⟩
  · rintro L a' w' hL ⟨nb, ea, O, hn13⟩
    have hB := O.below; have hz := O.size; have S0 : Cel w' (w.heap.size) 0 (.int .i64 a) := O.cels.1; have S1 : Cel w' (w.heap.size) 1 (.int .i64 l) := O.cels.2.1; have S2 : Cel w' (w.heap.size) 2 (.int .i64 u) := O.cels.2.2.1; have S3 : Cel w' (w.heap.size) 3 (.int .i64 d) := O.cels.2.2.2.1; have S4 : Cel w' (w.heap.size + 1) 0 (.int .i64 0) := O.cels.2.2.2.2.1; have S5 : Cel w' (w.heap.size + 1) 1 (.int .i64 0) := O.cels.2.2.2.2.2.1; have S6 : Cel w' (w1.heap.size) 0 (.int .i64 a) := O.cels.2.2.2.2.2.2.1; have S7 : Cel w' (w1.heap.size) 1 (.int .i64 l) := O.cels.2.2.2.2.2.2.2.1; have S8 : Cel w' (w1.heap.size) 2 (.int .i64 u) := O.cels.2.2.2.2.2.2.2.2.1; have S9 : Cel w' (w1.heap.size) 3 (.int .i64 d) := O.cels.2.2.2.2.2.2.2.2.2.1
    have L0 := hL 0 (by decide); have L1 := hL 1 (by decide); have L2 := hL 2 (by decide); have L3 := hL 3 (by decide); have L4 := hL 4 (by decide); have L5 := hL 5 (by decide); have L6 := hL 6 (by decide); have L7 := hL 7 (by decide); have L8 := hL 8 (by decide); have L9 := hL 9 (by decide); have L10 := hL 10 (by decide); have L11 := hL 11 (by decide); have L12 := hL 12 (by decide); have L13 := hL 13 (by decide); have L14 := hL 14 (by decide)
    have yy13 := hn13 L13
    have yn13 := yy13.1; have y13_0 : Cel w' (nb) 0 (.int .i64 (bif L 14 then (fstH a u d t) else 0)) := yy13.2.1; have y13_1 : Cel w' (nb) 1 (.int .i64 (bif L 14 then (fstL a l d (t + 1)) - 1 else 0)) := yy13.2.2.1
    clear yy13
    simp only [L0, L1, L2, L3, L4, L5, L6, L7, L8, L9, L10, L11, L12, L13, L14, cond_true] at y13_0 y13_1
    simp [pcs, Act.put, L0, L1, L2, L3, L4, L5, L6, L7, L8, L9, L10, L11, L12, L13, L14] at ea
    subst ea
    clear hL L0 L1 L2 L3 L4 L5 L6 L7 L8 L9 L10 L11 L12 L13 L14 hn13
    go_wp2
    refine bodyPost_ret (v := .tuple #[sp (fstH a u d t) ((fstL a l d (t + 1)) - 1), .int .i64 0]) (by simp [results, Try.results16, go_sem, *] <;> omega) rfl ⟨rfl, ?_⟩
    (repeat' (first | (with_reducible assumption) | (with_reducible exact Below.refl _ _) | (with_reducible exact Cels.nil _) | (with_reducible refine Cels.cons ?_ ?_) | (with_reducible refine Own.mk ?_ ?_ ?_ ?_) | ((with_reducible refine Cel.new ?_ rfl); first | (with_reducible rfl) | omega | (simp; done) | (simp; omega)) | (with_reducible refine Cel.alloc ?_ _) | (with_reducible refine Cel.drew ?_) | (with_reducible refine Cel.setS ?_ _) | (with_reducible refine Has.set ?_ _ _) | (with_reducible exact Has.of (by assumption)) | (with_reducible refine Cel.setO ?_ ?_ _) | (with_reducible refine Cel.keep (by assumption) ?_) | (with_reducible refine Below.alloc ?_ ?_ _) | (with_reducible refine Below.drew ?_) | (with_reducible refine Below.setCell ?_ ?_ _) | (with_reducible refine below_keep ?_ ?_ (by assumption)) | omega | (simp; done) | (simp; omega)))

theorem shows_any (a l u d t : Int) (w : World) :
    Calls Try.prog 16 #[ck a l u d, .int .i64 t] w fun e w' => e = .returned (.tuple #[sp (hLo a l u d t) (hHi a l u d t), .int .i64 (hE a l u d t)]) ∧ Below w.heap.size w w' := by
  by_cases h : vld a l u d = true ∧ tm t = true
  · obtain ⟨h1, h2⟩ := h
    by_cases h3 : (fstL a l d (t + 1)) - 1 < (fstH a u d t)
    · have hE : hE a l u d t = 4 := by rw [Ytphmfkellojecaa.hE, if_pos ⟨h1, h2⟩, if_pos h3]
      rw [hLo, hHi, hE]; exact shows_none a l u d t w h1 h2 h3
    · have hE : hE a l u d t = 0 := by rw [Ytphmfkellojecaa.hE, if_pos ⟨h1, h2⟩, if_neg h3]
      rw [hLo, hHi, hE]; exact shows_ok a l u d t w h1 h2 (by omega)
  · have hE : hE a l u d t = 1 := if_neg h
    rw [hLo, hHi, hE]
    by_cases h1 : vld a l u d = true
    · exact shows_bad2 a l u d t w h1 (by simpa [h1] using h)
    · exact shows_bad1 a l u d t w (by simpa using h1)

end Go.Proofs.Ytphmfkellojecaa
