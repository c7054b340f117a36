/- Gr: slices.Grow of nil at []byte: a new own row of length 0. -/
import Derived.Test.YtifoncmlelinjaaA
import Derived.WalkKit
import Derived.Lib.Walk
import Derived.Lib.SliceRun
import Derived.Lib.AppendZerosOnto
set_option linter.unusedVariables false
set_option linter.unusedSimpArgs false
namespace Go.Proofs.Ytifoncmlelinjaa
open Go.RowKit Go.Sea Go.Lib
theorem slq25 : Try.prog.underlying 25 = some (.slice 5) := by kernel_rfl
theorem byq5 : (Try.prog.info? 5).map (fun i => (i.size, i.bytes, i.zero.map (·.cells.size))) = some (1, 1, some 1) := by kernel_rfl
set_option maxHeartbeats 4000000 in
set_option maxRecDepth 100000 in
theorem grow_w (n : Nat) (w : World) (h0 : 0 < n) (hn : n ≤ 100000) : Calls Try.prog 61 #[.slice none 0 0, .int .i64 n] w fun e w' => ∃ cells cap, e = .returned (.slice (some ⟨w.heap.size, 0, none⟩) 0 cap) ∧ w' = w.drew.alloc (.cells cells 5) ∧ cap ≤ cells.size ∧ cap ≤ maxLen := by
  obtain ⟨i0, hi0⟩ : ∃ i, Try.prog.info? 5 = some i := by
    have := byq5
    cases h : Try.prog.info? 5 with
    | none => rw [h] at this; cases this
    | some i => exact ⟨i, rfl⟩
  have hb := byq5
  rw [hi0] at hb
  simp only [Option.map_some, Option.some.injEq, Prod.mk.injEq] at hb
  obtain ⟨hs, hby, hzz⟩ := hb
  obtain ⟨z, hz, hzs⟩ : ∃ z, i0.zero = some z ∧ z.cells.size = 1 := by
    cases h : i0.zero with
    | none => rw [h] at hzz; cases hzz
    | some z => rw [h] at hzz; simp at hzz; exact ⟨z, rfl, hzz⟩
  have h1 : ¬ ((n : Int) < 0) := by omega
  have h3 : wrap64 ((n : Int) - 0) = (n : Int) := by unfold wrap64; omega
  have h4 : (n : Int) > 0 := by omega
  have hold : (Builtin.firstCells i0.size 0 (.slice none 0 0)).run Try.prog w.drew = .ok (([] : List Value).toArray) w.drew := run_firstCells_none w.drew i0.size 0 0 0
  have hrz : ∀ ty, (Builtin.append_ #[25, 3] ty #[.slice none 0 0, .int .i64 (n : Int)]).run Try.prog w = .ok (.slice (some ⟨w.heap.size, 0, none⟩) n (grownCap w n 0 5)) (w.drew.alloc (.cells (([] : List Value).toArray ++ Builtin.zeroCells z.cells n ++ Builtin.zeroCells z.cells (grownCap w n 0 5 - n)) 5)) := fun ty => by
    have h := Lib.run_append_grow_zeros w 25 3 ty 5 i0 z .i64 .i64 slq25 Try.underlying3 hi0 hz none 0 0 [] hold n h0 (by omega) (by omega) (by omega) (by rw [hby]; omega) (by rw [hby]; exact growslice_fits (by omega) (by omega))
    simpa only [Nat.zero_add] using h
  have hGn : n ≤ grownCap w n 0 5 := grownCap_ge w _ _ _
  have hGm : grownCap w n 0 5 ≤ maxLen := grownCap_le_maxLen w n 0 5 (by unfold maxLen; omega)
  obtain ⟨G, hG⟩ : ∃ G, G = grownCap w n 0 5 := ⟨_, rfl⟩
  rw [← hG] at hrz hGn hGm
  have hG63 : G ≤ 9223372036854775807 := by unfold maxLen at hGm; omega
  have hsz : G ≤ (([] : List Value).toArray ++ Builtin.zeroCells z.cells n ++ Builtin.zeroCells z.cells (G - n)).size := by
    simp [Builtin.zeroCells, hzs]; omega
  generalize ([] : List Value).toArray ++ Builtin.zeroCells z.cells n ++ Builtin.zeroCells z.cells (G - n) = C at hrz hsz
  clear hold hG
  go_enter Try.func61, Try.ntmps61
  go_wp2_with (at_builtin; refine Lib.wpList_append_run _ rfl _ _ _ _ rfl _ _ rfl rfl _ _ (hrz _) ?_)
  all_goals (go_ret; exact ⟨C, G, rfl, rfl, hsz, hGm⟩)
set_option maxHeartbeats 4000000 in
set_option maxRecDepth 100000 in
theorem grow_0 (w : World) : Calls Try.prog 61 #[.slice none 0 0, .int .i64 0] w fun e w' => e = .returned (.slice none 0 0) ∧ w' = w := by
  have h1 : ¬ ((0 : Int) < 0) := by omega
  have h2 : wrap64 ((0 : Int) - (0 : Int)) = 0 := by unfold wrap64; omega
  have h4 : ¬ ((0 : Int) > 0) := by omega
  go_enter Try.func61, Try.ntmps61
  go_wp2
  go_ret
  exact ⟨rfl, rfl⟩
theorem grow_n (n : Nat) (hn : n ≤ 100000) : CallsN Try.prog 61 [.one (.iv (.g (.slice none 0 0))), .one (.iv (.g (.int .i64 (n : Int))))] [] (fun i => .t (.one (.slc i 0 0 1))) := by
  intro H i hH w0 Z0 J Z s a w vs R hs hv
  subst hs
  obtain ⟨vs⟩ := vs
  match vs, hv with
  | [v1, v2], ⟨e1, e2, _⟩ =>
    have e1 : v1 = .slice none 0 0 := by cases e1; rfl
    have e2 : v2 = .int .i64 n := by cases e2; rfl
    subst e1; subst e2
    by_cases h0 : n = 0
    · subst h0
      refine (grow_0 w).mono fun e w' ⟨he, hw⟩ => ?_
      subst hw
      exact ⟨_, J, Z, he, R.newEmpty (nid := i) hH (hget_hset_same _ _ _) (fun q hq => hget_hset_ne _ _ _ _ hq), Or.inl ⟨rfl, rfl⟩⟩
    · refine (grow_w n w (by omega) hn).mono fun e w' ⟨C, cap, he, hw, h1, h2⟩ => ?_
      subst hw
      have R1 := (R.drew).new (nid := i) (cs := []) (c := C) (e := 5) (H := hset s.heap i []) hH (hget_hset_same _ _ _) (fun q hq => hget_hset_ne _ _ _ _ hq) (by simp [All2])
      refine ⟨_, _, _, he, R1, Or.inr ⟨w.heap.size, cap, C, 5, rfl, by simp [jset], Nat.zero_le _, h2, heap_alloc_new w.drew _, by omega⟩⟩
end Go.Proofs.Ytifoncmlelinjaa
