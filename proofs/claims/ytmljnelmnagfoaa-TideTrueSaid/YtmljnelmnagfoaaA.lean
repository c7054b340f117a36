/- Tide: values, what lies in memory, walks over the functions on spans. -/
import Derived.Test.YtmljnelmnagfoaaProg
import Derived.Test.YtmljnelmnagfoaaL
import Derived.WalkLawsBesides
import Derived.Deep.QuietTactic
import Derived.BigQuiet
set_option linter.unusedVariables false
set_option linter.unusedSimpArgs false
namespace Go.Proofs.Ytmljnelmnagfoaa
open Go.RowKit

theorem frozen_alloc_some (w : World) (a : Addr) (o : Obj) (h : (w.cell? a).isSome = true) : (w.alloc o).frozen? a = w.frozen? a :=
  (Option.isSome_iff_exists.1 h).elim fun _ hv => World.frozen?_alloc_old _ _ _ (Nat.ne_of_lt (World.block_lt_of_cell? w a hv))
abbrev sp (l u : Int) : Value := .agg #[.int .i64 l, .int .i64 u]
abbrev tv (s st : Int) (p : Option Addr) (n c : Nat) : Value := .agg #[.int .i64 s, .int .i64 st, .slice p n c]
def tm (t : Int) : Bool := decide (0 ≤ t ∧ t ≤ 10000000)
def sv (l u : Int) : Bool := decide (-1000000000000 ≤ l ∧ l ≤ u ∧ u ≤ 1000000000000)
def hv (l u : Int) : Bool := decide (-100000 ≤ l ∧ l ≤ u ∧ u ≤ 100000)
theorem rb {a b : Bool} (u : a = b) : Ending.returned (.bool a) = .returned (.bool b) := by rw [u]
theorem ri {k : IntKind} {a b : Int} (u : a = b) : Ending.returned (.int k a) = .returned (.int k b) := by rw [u]
theorem be {p : Prop} [Decidable p] {b : Bool} (u : p ↔ b = true) : b = decide p := by cases b <;> simp_all
theorem below_new (w : World) (o : Obj) : Below w.heap.size w (w.alloc o) := (Below.refl _ _).alloc (Nat.le_refl _) o
/-- The cells of a list of spans. -/
def Lie (w : World) (p : Option Addr) (n : Nat) (lo hi : Nat → Int) : Prop :=
  n = 0 ∨ ∃ b off, p = some ⟨b, off, none⟩ ∧ ∀ i, i < n → w.cell? ⟨b, off + i * 2, none⟩ = some (.int .i64 (lo i)) ∧ w.cell? ⟨b, off + i * 2 + 1, none⟩ = some (.int .i64 (hi i))
theorem Lie.keep {W w1 : World} {p : Option Addr} {n : Nat} {lo hi : Nat → Int} (hb : Below W.heap.size W w1) (h : Lie W p n lo hi) : Lie w1 p n lo hi := by
  rcases h with h | ⟨b, off, hp, hc⟩
  · exact Or.inl h
  · refine Or.inr ⟨b, off, hp, fun i hi' => ?_⟩
    have h1 := (hc i hi').1; have h2 := (hc i hi').2
    exact ⟨(hb.cell (World.block_lt_of_cell? W _ h1)).trans h1, (hb.cell (World.block_lt_of_cell? W _ h2)).trans h2⟩
def allH (n : Nat) (lo hi : Nat → Int) : Bool := decide (∀ i, i < n → hv (lo i) (hi i) = true)
def tval (s st : Int) (n : Nat) (lo hi : Nat → Int) : Bool := decide (0 ≤ s ∧ s ≤ 10000000 ∧ 1 ≤ st ∧ st ≤ 1000 ∧ 1 ≤ n ∧ n ≤ 200 ∧ s + ((n : Int) - 1) * st ≤ 10000000) && allH n lo hi

set_option maxHeartbeats 400000 in
theorem isTime_any (t : Int) (w : World) : Calls Try.prog 38 #[.int .i64 t] w fun e w' => e = .returned (.bool (tm t)) ∧ w = w' := by
  go_enter Try.func38, Try.ntmps38
  go_wp2
  all_goals (go_ret; exact ⟨rb (be (by simp; omega)), rfl⟩)
set_option maxHeartbeats 400000 in
theorem rTime_any (t : Int) (w : World) : Calls Try.prog 19 #[.int .i64 t] w fun e w' => e = .returned (.bool (tm t)) ∧ w = w' := by
  go_enter Try.func19, Try.ntmps19
  go_wp2
  all_goals (go_ret; exact ⟨rb (be (by simp; omega)), rfl⟩)
set_option maxHeartbeats 400000 in
theorem spanValid_any (l u : Int) (w : World) : Calls Try.prog 41 #[sp l u] w fun e w' => e = .returned (.bool (sv l u)) ∧ Below w.heap.size w w' := by
  go_enter Try.func41, Try.ntmps41
  go_wp2
  all_goals (go_ret; exact ⟨rb (be (by simp; omega)), below_new _ _⟩)
set_option maxHeartbeats 400000 in
theorem rspanValid_any (l u : Int) (w : World) : Calls Try.prog 51 #[sp l u] w fun e w' => e = .returned (.bool (sv l u)) ∧ Below w.heap.size w w' := by
  go_enter Try.func51, Try.ntmps51
  go_wp2
  all_goals (go_ret; exact ⟨rb (be (by simp; omega)), below_new _ _⟩)
set_option maxHeartbeats 400000 in
theorem need_any (t : Int) (w : World) : Calls Try.prog 18 #[.int .i64 t] w fun e w' => e = .returned (.bool (decide (-1000000000000 ≤ t ∧ t ≤ 1000000000000))) ∧ w = w' := by
  go_enter Try.func18, Try.ntmps18
  go_wp2
  all_goals (go_ret; refine ⟨rb ?_, rfl⟩; rw [Bool.eq_iff_iff]; simp; omega)
theorem sv_dec {l u : Int} {b : Bool} (hs : sv l u = b) : (b = true → -1000000000000 ≤ l ∧ l ≤ u ∧ u ≤ 1000000000000) ∧ (b = false → ¬ (-1000000000000 ≤ l ∧ l ≤ u ∧ u ≤ 1000000000000)) := by
  subst hs; simp only [sv, decide_eq_true_eq, decide_eq_false_iff_not]; exact ⟨id, id⟩
set_option maxHeartbeats 800000 in
theorem isHeight_any (l u : Int) (w : World) : Calls Try.prog 42 #[sp l u] w fun e w' => e = .returned (.bool (hv l u)) ∧ Below w.heap.size w w' := by
  have s0 : Cel (w.alloc (.cells #[.int .i64 l, .int .i64 u] 30)) w.heap.size 0 (.int .i64 l) := Cel.new rfl rfl
  have s1 : Cel (w.alloc (.cells #[.int .i64 l, .int .i64 u] 30)) w.heap.size 1 (.int .i64 u) := Cel.new rfl rfl
  go_enter Try.func42, Try.ntmps42
  cases hs : sv l u with
  | false =>
    have q := (sv_dec hs).2 rfl
    go_wp2_with (go_at_call 41; refine (spanValid_any l u _).mono ?_; rintro e w' ⟨rfl, hb⟩; rw [hs]; have S0 := s0.keep hb; have S1 := s1.keep hb; have B := below_keep (below_new w (.cells #[.int .i64 l, .int .i64 u] 30)) (by simp) hb; clear s0 s1 hb)
    go_ret; exact ⟨rb (by unfold hv; symm; rw [decide_eq_false_iff_not]; omega), B⟩
  | true =>
    have q := (sv_dec hs).1 rfl
    go_wp2_with (go_at_call 41; refine (spanValid_any l u _).mono ?_; rintro e w' ⟨rfl, hb⟩; rw [hs]; have S0 := s0.keep hb; have S1 := s1.keep hb; have B := below_keep (below_new w (.cells #[.int .i64 l, .int .i64 u] 30)) (by simp) hb; clear s0 s1 hb)
    all_goals (go_ret; exact ⟨rb (by unfold hv; rw [Bool.eq_iff_iff]; simp; omega), B⟩)
end Go.Proofs.Ytmljnelmnagfoaa
