/- Walks: True, sort.Search and first. -/
import Derived.Test.YtphmfkellojecaaA
set_option linter.unusedVariables false
set_option linter.unusedSimpArgs false
namespace Go.Proofs.Ytphmfkellojecaa
open Go.RowKit
attribute [local go_sem] World.cell?_alloc_some frozen_alloc_some

set_option maxHeartbeats 400000 in
theorem times_any (w : World) : Calls Try.prog 32 #[] w fun e w' => e = .returned (sp 0 10000000) ∧ Below w.heap.size w w' := by
  go_enter Try.func32, Try.ntmps32
  go_wp2
  exact bodyPost_ret (v := sp 0 10000000) (by simp [results, Try.results32, go_sem]) rfl ⟨rfl, ((Below.refl _ _).alloc (Nat.le_refl _) _)⟩

set_option maxHeartbeats 400000 in
theorem meet_bad1 (l u m n : Int) (w : World) (h1 : sv l u = false) :
    Calls Try.prog 31 #[sp l u, sp m n] w fun e w' => e = .returned (.tuple #[sp (0) (0), .int .i64 1]) ∧ Below w.heap.size w w' := by
  go_enter Try.func31, Try.ntmps31
  go_wp2_with (go_at_call 42; refine (spanValid_any _ _ _).mono ?_; rintro e w' ⟨rfl, hb⟩; have hz := hb.size; (try simp at hz); have c0 : w'.cell? ⟨w.heap.size, 0, none⟩ = some (.int .i64 l) := keepC hb (by simp [go_sem, *]); have f0 : w'.frozen? ⟨w.heap.size, 0, none⟩ = false := keepF hb (v := .int .i64 l) (by simp [go_sem, *]) (by simp [go_sem, *]); have c1 : w'.cell? ⟨w.heap.size, 1, none⟩ = some (.int .i64 u) := keepC hb (by simp [go_sem, *]); have f1 : w'.frozen? ⟨w.heap.size, 1, none⟩ = false := keepF hb (v := .int .i64 u) (by simp [go_sem, *]) (by simp [go_sem, *]); have c2 : w'.cell? ⟨w.heap.size + 1, 0, none⟩ = some (.int .i64 m) := keepC hb (by simp [go_sem, *]); have f2 : w'.frozen? ⟨w.heap.size + 1, 0, none⟩ = false := keepF hb (v := .int .i64 m) (by simp [go_sem, *]) (by simp [go_sem, *]); have c3 : w'.cell? ⟨w.heap.size + 1, 1, none⟩ = some (.int .i64 n) := keepC hb (by simp [go_sem, *]); have f3 : w'.frozen? ⟨w.heap.size + 1, 1, none⟩ = false := keepF hb (v := .int .i64 n) (by simp [go_sem, *]) (by simp [go_sem, *]); have c4 : w'.cell? ⟨w.heap.size + 1 + 1, 0, none⟩ = some (.int .i64 0) := keepC hb (by simp [go_sem, *]); have f4 : w'.frozen? ⟨w.heap.size + 1 + 1, 0, none⟩ = false := keepF hb (v := .int .i64 0) (by simp [go_sem, *]) (by simp [go_sem, *]); have c5 : w'.cell? ⟨w.heap.size + 1 + 1, 1, none⟩ = some (.int .i64 0) := keepC hb (by simp [go_sem, *]); have f5 : w'.frozen? ⟨w.heap.size + 1 + 1, 1, none⟩ = false := keepF hb (v := .int .i64 0) (by simp [go_sem, *]) (by simp [go_sem, *]))
  all_goals
    refine bodyPost_ret (v := .tuple #[sp (0) (0), .int .i64 1]) (by simp [results, Try.results31, go_sem, *] <;> omega) rfl ⟨rfl, ?_⟩
    (repeat' (first | (with_reducible exact Below.refl _ _) | (with_reducible assumption) | (with_reducible refine Below.alloc ?_ ?_ _) | (with_reducible refine Below.drew ?_) | (with_reducible refine Below.setCell ?_ ?_ _) | (with_reducible refine keepB ?_ ?_ (by assumption)) | omega | (simp; done) | (simp; omega)))

set_option maxHeartbeats 400000 in
theorem meet_bad2 (l u m n : Int) (w : World) (h1 : sv l u = true) (h2 : sv m n = false) :
    Calls Try.prog 31 #[sp l u, sp m n] w fun e w' => e = .returned (.tuple #[sp (0) (0), .int .i64 1]) ∧ Below w.heap.size w w' := by
  go_enter Try.func31, Try.ntmps31
  go_wp2_with (go_at_call 42; refine (spanValid_any _ _ _).mono ?_; rintro e w' ⟨rfl, hb⟩; have hz := hb.size; (try simp at hz); have c0 : w'.cell? ⟨w.heap.size, 0, none⟩ = some (.int .i64 l) := keepC hb (by simp [go_sem, *]); have f0 : w'.frozen? ⟨w.heap.size, 0, none⟩ = false := keepF hb (v := .int .i64 l) (by simp [go_sem, *]) (by simp [go_sem, *]); have c1 : w'.cell? ⟨w.heap.size, 1, none⟩ = some (.int .i64 u) := keepC hb (by simp [go_sem, *]); have f1 : w'.frozen? ⟨w.heap.size, 1, none⟩ = false := keepF hb (v := .int .i64 u) (by simp [go_sem, *]) (by simp [go_sem, *]); have c2 : w'.cell? ⟨w.heap.size + 1, 0, none⟩ = some (.int .i64 m) := keepC hb (by simp [go_sem, *]); have f2 : w'.frozen? ⟨w.heap.size + 1, 0, none⟩ = false := keepF hb (v := .int .i64 m) (by simp [go_sem, *]) (by simp [go_sem, *]); have c3 : w'.cell? ⟨w.heap.size + 1, 1, none⟩ = some (.int .i64 n) := keepC hb (by simp [go_sem, *]); have f3 : w'.frozen? ⟨w.heap.size + 1, 1, none⟩ = false := keepF hb (v := .int .i64 n) (by simp [go_sem, *]) (by simp [go_sem, *]); have c4 : w'.cell? ⟨w.heap.size + 1 + 1, 0, none⟩ = some (.int .i64 0) := keepC hb (by simp [go_sem, *]); have f4 : w'.frozen? ⟨w.heap.size + 1 + 1, 0, none⟩ = false := keepF hb (v := .int .i64 0) (by simp [go_sem, *]) (by simp [go_sem, *]); have c5 : w'.cell? ⟨w.heap.size + 1 + 1, 1, none⟩ = some (.int .i64 0) := keepC hb (by simp [go_sem, *]); have f5 : w'.frozen? ⟨w.heap.size + 1 + 1, 1, none⟩ = false := keepF hb (v := .int .i64 0) (by simp [go_sem, *]) (by simp [go_sem, *]))
  all_goals
    refine bodyPost_ret (v := .tuple #[sp (0) (0), .int .i64 1]) (by simp [results, Try.results31, go_sem, *] <;> omega) rfl ⟨rfl, ?_⟩
    (repeat' (first | (with_reducible exact Below.refl _ _) | (with_reducible assumption) | (with_reducible refine Below.alloc ?_ ?_ _) | (with_reducible refine Below.drew ?_) | (with_reducible refine Below.setCell ?_ ?_ _) | (with_reducible refine keepB ?_ ?_ (by assumption)) | omega | (simp; done) | (simp; omega)))

set_option maxHeartbeats 400000 in
theorem meet_none (l u m n : Int) (w : World) (h1 : sv l u = true) (h2 : sv m n = true) (h3 : min u n < max l m) :
    Calls Try.prog 31 #[sp l u, sp m n] w fun e w' => e = .returned (.tuple #[sp (0) (0), .int .i64 4]) ∧ Below w.heap.size w w' := by
  go_enter Try.func31, Try.ntmps31
  go_wp2_with (go_at_call 42; refine (spanValid_any _ _ _).mono ?_; rintro e w' ⟨rfl, hb⟩; have hz := hb.size; (try simp at hz); have c0 : w'.cell? ⟨w.heap.size, 0, none⟩ = some (.int .i64 l) := keepC hb (by simp [go_sem, *]); have f0 : w'.frozen? ⟨w.heap.size, 0, none⟩ = false := keepF hb (v := .int .i64 l) (by simp [go_sem, *]) (by simp [go_sem, *]); have c1 : w'.cell? ⟨w.heap.size, 1, none⟩ = some (.int .i64 u) := keepC hb (by simp [go_sem, *]); have f1 : w'.frozen? ⟨w.heap.size, 1, none⟩ = false := keepF hb (v := .int .i64 u) (by simp [go_sem, *]) (by simp [go_sem, *]); have c2 : w'.cell? ⟨w.heap.size + 1, 0, none⟩ = some (.int .i64 m) := keepC hb (by simp [go_sem, *]); have f2 : w'.frozen? ⟨w.heap.size + 1, 0, none⟩ = false := keepF hb (v := .int .i64 m) (by simp [go_sem, *]) (by simp [go_sem, *]); have c3 : w'.cell? ⟨w.heap.size + 1, 1, none⟩ = some (.int .i64 n) := keepC hb (by simp [go_sem, *]); have f3 : w'.frozen? ⟨w.heap.size + 1, 1, none⟩ = false := keepF hb (v := .int .i64 n) (by simp [go_sem, *]) (by simp [go_sem, *]); have c4 : w'.cell? ⟨w.heap.size + 1 + 1, 0, none⟩ = some (.int .i64 0) := keepC hb (by simp [go_sem, *]); have f4 : w'.frozen? ⟨w.heap.size + 1 + 1, 0, none⟩ = false := keepF hb (v := .int .i64 0) (by simp [go_sem, *]) (by simp [go_sem, *]); have c5 : w'.cell? ⟨w.heap.size + 1 + 1, 1, none⟩ = some (.int .i64 0) := keepC hb (by simp [go_sem, *]); have f5 : w'.frozen? ⟨w.heap.size + 1 + 1, 1, none⟩ = false := keepF hb (v := .int .i64 0) (by simp [go_sem, *]) (by simp [go_sem, *]))
  all_goals
    refine bodyPost_ret (v := .tuple #[sp (0) (0), .int .i64 4]) (by simp [results, Try.results31, go_sem, *] <;> omega) rfl ⟨rfl, ?_⟩
    (repeat' (first | (with_reducible exact Below.refl _ _) | (with_reducible assumption) | (with_reducible refine Below.alloc ?_ ?_ _) | (with_reducible refine Below.drew ?_) | (with_reducible refine Below.setCell ?_ ?_ _) | (with_reducible refine keepB ?_ ?_ (by assumption)) | omega | (simp; done) | (simp; omega)))

set_option maxHeartbeats 400000 in
theorem meet_ok (l u m n : Int) (w : World) (h1 : sv l u = true) (h2 : sv m n = true) (h3 : max l m ≤ min u n) :
    Calls Try.prog 31 #[sp l u, sp m n] w fun e w' => e = .returned (.tuple #[sp (max l m) (min u n), .int .i64 0]) ∧ Below w.heap.size w w' := by
  go_enter Try.func31, Try.ntmps31
  go_wp2_with (go_at_call 42; refine (spanValid_any _ _ _).mono ?_; rintro e w' ⟨rfl, hb⟩; have hz := hb.size; (try simp at hz); have c0 : w'.cell? ⟨w.heap.size, 0, none⟩ = some (.int .i64 l) := keepC hb (by simp [go_sem, *]); have f0 : w'.frozen? ⟨w.heap.size, 0, none⟩ = false := keepF hb (v := .int .i64 l) (by simp [go_sem, *]) (by simp [go_sem, *]); have c1 : w'.cell? ⟨w.heap.size, 1, none⟩ = some (.int .i64 u) := keepC hb (by simp [go_sem, *]); have f1 : w'.frozen? ⟨w.heap.size, 1, none⟩ = false := keepF hb (v := .int .i64 u) (by simp [go_sem, *]) (by simp [go_sem, *]); have c2 : w'.cell? ⟨w.heap.size + 1, 0, none⟩ = some (.int .i64 m) := keepC hb (by simp [go_sem, *]); have f2 : w'.frozen? ⟨w.heap.size + 1, 0, none⟩ = false := keepF hb (v := .int .i64 m) (by simp [go_sem, *]) (by simp [go_sem, *]); have c3 : w'.cell? ⟨w.heap.size + 1, 1, none⟩ = some (.int .i64 n) := keepC hb (by simp [go_sem, *]); have f3 : w'.frozen? ⟨w.heap.size + 1, 1, none⟩ = false := keepF hb (v := .int .i64 n) (by simp [go_sem, *]) (by simp [go_sem, *]); have c4 : w'.cell? ⟨w.heap.size + 1 + 1, 0, none⟩ = some (.int .i64 0) := keepC hb (by simp [go_sem, *]); have f4 : w'.frozen? ⟨w.heap.size + 1 + 1, 0, none⟩ = false := keepF hb (v := .int .i64 0) (by simp [go_sem, *]) (by simp [go_sem, *]); have c5 : w'.cell? ⟨w.heap.size + 1 + 1, 1, none⟩ = some (.int .i64 0) := keepC hb (by simp [go_sem, *]); have f5 : w'.frozen? ⟨w.heap.size + 1 + 1, 1, none⟩ = false := keepF hb (v := .int .i64 0) (by simp [go_sem, *]) (by simp [go_sem, *]))
  all_goals
    refine bodyPost_ret (v := .tuple #[sp (max l m) (min u n), .int .i64 0]) (by simp [results, Try.results31, go_sem, *] <;> omega) rfl ⟨rfl, ?_⟩
    (repeat' (first | (with_reducible exact Below.refl _ _) | (with_reducible assumption) | (with_reducible refine Below.alloc ?_ ?_ _) | (with_reducible refine Below.drew ?_) | (with_reducible refine Below.setCell ?_ ?_ _) | (with_reducible refine keepB ?_ ?_ (by assumption)) | omega | (simp; done) | (simp; omega)))
end Go.Proofs.Ytphmfkellojecaa
