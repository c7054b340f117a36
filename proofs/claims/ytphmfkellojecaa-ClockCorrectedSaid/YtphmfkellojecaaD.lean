/- Walks: True, at every input. -/
import Derived.Test.YtphmfkellojecaaC
set_option linter.unusedVariables false
set_option linter.unusedSimpArgs false
namespace Go.Proofs.Ytphmfkellojecaa
open Go.RowKit
attribute [local go_sem] World.cell?_alloc_some frozen_alloc_some

set_option maxHeartbeats 1600000 in
theorem true_none (a l u d r : Int) (w : World) (h1 : vld a l u d = true) (h2 : a ≤ r) (h3 : r ≤ 10000000) (h4 : min 10000000 (r + u + slip a d r) < max 0 (r + l - slip a d r)) :
    Calls Try.prog 14 #[ck a l u d, .int .i64 r] w fun e w' => e = .returned (.tuple #[sp (0) (0), .int .i64 4]) ∧ Below w.heap.size w w' := by
  obtain ⟨a0, a1, d0, d1, l0, l1, l2, u0, u1⟩ := vld_bd h1
  obtain ⟨p0, p1⟩ := slip_bd a d r d0 d1 h2 (by omega)
  have hs : sv (r + l - slip a d r) (r + u + slip a d r) = true := decide_eq_true (by omega)
  go_enter Try.func14, Try.ntmps14
  go_wp2_with (go_at_call 12; refine (valid_any _ _ _ _ _).mono ?_; rintro e w1 ⟨rfl, hb⟩; have hz := hb.size; (try simp at hz); have c0 : w1.cell? ⟨w.heap.size, 0, none⟩ = some (.int .i64 a) := keepC hb (by simp [go_sem, *]); have f0 : w1.frozen? ⟨w.heap.size, 0, none⟩ = false := keepF hb (v := .int .i64 a) (by simp [go_sem, *]) (by simp [go_sem, *]); have c1 : w1.cell? ⟨w.heap.size, 1, none⟩ = some (.int .i64 l) := keepC hb (by simp [go_sem, *]); have f1 : w1.frozen? ⟨w.heap.size, 1, none⟩ = false := keepF hb (v := .int .i64 l) (by simp [go_sem, *]) (by simp [go_sem, *]); have c2 : w1.cell? ⟨w.heap.size, 2, none⟩ = some (.int .i64 u) := keepC hb (by simp [go_sem, *]); have f2 : w1.frozen? ⟨w.heap.size, 2, none⟩ = false := keepF hb (v := .int .i64 u) (by simp [go_sem, *]) (by simp [go_sem, *]); have c3 : w1.cell? ⟨w.heap.size, 3, none⟩ = some (.int .i64 d) := keepC hb (by simp [go_sem, *]); have f3 : w1.frozen? ⟨w.heap.size, 3, none⟩ = false := keepF hb (v := .int .i64 d) (by simp [go_sem, *]) (by simp [go_sem, *]); have c4 : w1.cell? ⟨w.heap.size + 1, 0, none⟩ = some (.int .i64 0) := keepC hb (by simp [go_sem, *]); have f4 : w1.frozen? ⟨w.heap.size + 1, 0, none⟩ = false := keepF hb (v := .int .i64 0) (by simp [go_sem, *]) (by simp [go_sem, *]); have c5 : w1.cell? ⟨w.heap.size + 1, 1, none⟩ = some (.int .i64 0) := keepC hb (by simp [go_sem, *]); have f5 : w1.frozen? ⟨w.heap.size + 1, 1, none⟩ = false := keepF hb (v := .int .i64 0) (by simp [go_sem, *]) (by simp [go_sem, *]))
  go_region_held3 (fun w' => Below w.heap.size w w' ∧ w.heap.size ≤ w'.heap.size ∧ w'.cell? ⟨w1.heap.size, 0, none⟩ = some (.int .i64 a) ∧ w'.cell? ⟨w1.heap.size, 1, none⟩ = some (.int .i64 l) ∧ w'.cell? ⟨w1.heap.size, 2, none⟩ = some (.int .i64 u) ∧ w'.cell? ⟨w1.heap.size, 3, none⟩ = some (.int .i64 d) ∧ w'.cell? ⟨w.heap.size + 1, 0, none⟩ = some (cv w' (w.heap.size + 1) 0) ∧ w'.frozen? ⟨w.heap.size + 1, 0, none⟩ = false ∧ w'.cell? ⟨w.heap.size + 1, 1, none⟩ = some (cv w' (w.heap.size + 1) 1) ∧ w'.frozen? ⟨w.heap.size + 1, 1, none⟩ = false)
    (first | (go_split_ands; exact ⟨keepB (by assumption) (by assumption) hb, Nat.le_trans (by assumption) hb.size, keepC hb (by assumption), keepC hb (by assumption), keepC hb (by assumption), keepC hb (by assumption), cv_some (keepS hb (by simp only [*]; rfl)), keepSF hb (by simp only [*]; rfl) (by assumption), cv_some (keepS hb (by simp only [*]; rfl)), keepSF hb (by simp only [*]; rfl) (by assumption)⟩) | (go_split_ands; exact ⟨by (repeat' (first | (with_reducible exact Below.refl _ _) | (with_reducible assumption) | (with_reducible refine Below.alloc ?_ ?_ _) | (with_reducible refine Below.drew ?_) | (with_reducible refine Below.setCell ?_ ?_ _) | (with_reducible refine keepB ?_ ?_ (by assumption)) | omega | (simp; done) | (simp; omega))), by simp <;> omega, by simp [go_sem, *], by simp [go_sem, *], by simp [go_sem, *], by simp [go_sem, *], cv_some (by simp [go_sem, *]), by simp [go_sem, *], cv_some (by simp [go_sem, *]), by simp [go_sem, *]⟩) | (exact ⟨by (repeat' (first | (with_reducible exact Below.refl _ _) | (with_reducible assumption) | (with_reducible refine Below.alloc ?_ ?_ _) | (with_reducible refine Below.drew ?_) | (with_reducible refine Below.setCell ?_ ?_ _) | (with_reducible refine keepB ?_ ?_ (by assumption)) | omega | (simp; done) | (simp; omega))), by simp <;> omega, by simp [go_sem, *], by simp [go_sem, *], by simp [go_sem, *], by simp [go_sem, *], cv_some (by simp [go_sem, *]), by simp [go_sem, *], cv_some (by simp [go_sem, *]), by simp [go_sem, *]⟩))
    (first | (go_at_call 32; refine (times_any _).mono ?_; rintro e w' ⟨rfl, hb⟩) | (go_at_call 33; refine (low_any a l u d r _ h1 h2 (by omega)).mono ?_; rintro e w' ⟨rfl, hb⟩) | (go_at_call 34; refine (high_any a l u d r _ h1 h2 (by omega)).mono ?_; rintro e w' ⟨rfl, hb⟩) | (go_at_call 31; refine (meet_none _ _ _ _ _ (by decide) hs h4).mono ?_; rintro e w' ⟨rfl, hb⟩))
  rename_i hH
  obtain ⟨hB, hz1, _, _, _, _, g0, g1, g2, g3⟩ := hH
  have k0 := set_get2 (Or.inr (by decide)) g0
  have k1 := set_get g2
  clear g0 g1 g2 g3 hb
  go_wp2
  refine bodyPost_ret (v := .tuple #[sp (0) (0), .int .i64 4]) (by simp [results, Try.results14, go_sem, k0, k1]) rfl ⟨rfl, hB⟩


def tOk (a l u d r : Int) : Bool := vld a l u d && decide (a ≤ r ∧ r ≤ 10000000)
def tE (a l u d r : Int) : Int := if tOk a l u d r = true then (if min 10000000 (r + u + slip a d r) < max 0 (r + l - slip a d r) then 4 else 0) else 1
def tLo (a l u d r : Int) : Int := if tE a l u d r = 0 then max 0 (r + l - slip a d r) else 0
def tHi (a l u d r : Int) : Int := if tE a l u d r = 0 then min 10000000 (r + u + slip a d r) else 0
theorem tuple2 {a b c a' b' c' : Int} (h1 : a = a') (h2 : b = b') (h3 : c = c') : Ending.returned (.tuple #[sp a b, .int .i64 c]) = .returned (.tuple #[sp a' b', .int .i64 c']) := by rw [h1, h2, h3]
theorem t_bad {a l u d r : Int} (h : tOk a l u d r = false) : tE a l u d r = 1 ∧ tLo a l u d r = 0 ∧ tHi a l u d r = 0 := by simp [tE, tLo, tHi, h]
theorem t_none {a l u d r : Int} (h : tOk a l u d r = true) (h2 : min 10000000 (r + u + slip a d r) < max 0 (r + l - slip a d r)) : tE a l u d r = 4 ∧ tLo a l u d r = 0 ∧ tHi a l u d r = 0 := by
  have hE : tE a l u d r = 4 := by rw [tE, if_pos h, if_pos h2]
  simp [tLo, tHi, hE]
theorem t_ok {a l u d r : Int} (h : tOk a l u d r = true) (h2 : max 0 (r + l - slip a d r) ≤ min 10000000 (r + u + slip a d r)) : tE a l u d r = 0 ∧ tLo a l u d r = max 0 (r + l - slip a d r) ∧ tHi a l u d r = min 10000000 (r + u + slip a d r) := by
  have hE : tE a l u d r = 0 := by rw [tE, if_pos h, if_neg (by omega)]
  rw [tLo, tHi, if_pos hE, if_pos hE]; exact ⟨hE, rfl, rfl⟩
theorem true_any (a l u d r : Int) (w : World) :
    Calls Try.prog 14 #[ck a l u d, .int .i64 r] w fun e w' => e = .returned (.tuple #[sp (tLo a l u d r) (tHi a l u d r), .int .i64 (tE a l u d r)]) ∧ Below w.heap.size w w' := by
  cases h : tOk a l u d r with
  | false =>
    obtain ⟨e1, e2, e3⟩ := t_bad h
    rw [e1, e2, e3]
    simp only [tOk, Bool.and_eq_false_iff] at h
    by_cases h1 : vld a l u d = true
    · by_cases h2 : a ≤ r
      · exact true_bad3 a l u d r w h1 h2 (by simp [h1] at h; omega)
      · exact true_bad2 a l u d r w h1 (by omega)
    · exact true_bad1 a l u d r w (by simpa using h1)
  | true =>
    have h0 := h
    simp only [tOk, Bool.and_eq_true, decide_eq_true_eq] at h0
    obtain ⟨h1, h2, h3⟩ := h0
    by_cases h4 : max 0 (r + l - slip a d r) ≤ min 10000000 (r + u + slip a d r)
    · obtain ⟨e1, e2, e3⟩ := t_ok h h4
      rw [e1, e2, e3]; exact true_ok a l u d r w h1 h2 h3 h4
    · obtain ⟨e1, e2, e3⟩ := t_none h (by omega)
      rw [e1, e2, e3]; exact true_none a l u d r w h1 h2 h3 (by omega)

end Go.Proofs.Ytphmfkellojecaa
