/- Gr: slices.Grow of nil at []Share: a new own row of length 0. -/
import Derived.Test.YtbckibbgajfihaaGreatSo
import Derived.WalkKit
import Derived.Lib.Walk
import Derived.Lib.SliceRun
import Derived.Lib.AppendZerosOnto
set_option linter.unusedVariables false
set_option linter.unusedSimpArgs false
namespace Go.Proofs.YtbckibbgajfihaaGreat
open Go.RowKit Go.Sea Go.Lib
theorem sl30 : Tryz.prog.underlying 23 = some (.slice 67) := by kernel_rfl
theorem by42 : (Tryz.prog.info? 67).map (fun i => (i.size, i.bytes, i.zero.map (·.cells.size))) = some (5, 40, some 5) := by kernel_rfl
set_option maxHeartbeats 4000000 in
set_option maxRecDepth 100000 in
theorem grow_w (n : Nat) (w : World) (h0 : 0 < n) (hn : n ≤ 1000) : Calls Tryz.prog 98 #[.slice none 0 0, .int .i64 n] w fun e w' => ∃ cells cap, e = .returned (.slice (some ⟨w.heap.size, 0, none⟩) 0 cap) ∧ w' = w.drew.alloc (.cells cells 67) ∧ cap * 5 ≤ cells.size ∧ cap ≤ maxLen := by
  obtain ⟨i0, hi0⟩ : ∃ i, Tryz.prog.info? 67 = some i := by
    have := by42
    cases h : Tryz.prog.info? 67 with
    | none => rw [h] at this; cases this
    | some i => exact ⟨i, rfl⟩
  have hb := by42
  rw [hi0] at hb
  simp only [Option.map_some, Option.some.injEq, Prod.mk.injEq] at hb
  obtain ⟨hs, hby, hzz⟩ := hb
  obtain ⟨z, hz, hzs⟩ : ∃ z, i0.zero = some z ∧ z.cells.size = 5 := by
    cases h : i0.zero with
    | none => rw [h] at hzz; cases hzz
    | some z => rw [h] at hzz; simp at hzz; exact ⟨z, rfl, hzz⟩
  have h1 : ¬ ((n : Int) < 0) := by omega
  have h3 : wrap64 ((n : Int) - 0) = (n : Int) := by unfold wrap64; omega
  have h4 : (n : Int) > 0 := by omega
  have hold : (Builtin.firstCells i0.size 0 (.slice none 0 0)).run Tryz.prog w.drew = .ok (([] : List Value).toArray) w.drew := run_firstCells_none w.drew i0.size 0 0 0
  have hrz : ∀ ty, (Builtin.append_ #[23, 3] ty #[.slice none 0 0, .int .i64 (n : Int)]).run Tryz.prog w = .ok (.slice (some ⟨w.heap.size, 0, none⟩) n (grownCap w n 0 67)) (w.drew.alloc (.cells (([] : List Value).toArray ++ Builtin.zeroCells z.cells n ++ Builtin.zeroCells z.cells (grownCap w n 0 67 - n)) 67)) := fun ty => by
    have h := Lib.run_append_grow_zeros w 23 3 ty 67 i0 z .i64 .i64 sl30 Tryz.underlying3 hi0 hz none 0 0 [] hold n h0 (by omega) (by omega) (by omega) (by rw [hby]; omega) (by rw [hby]; exact growslice_fits (by omega) (by omega))
    simpa only [Nat.zero_add] using h
  have hGn : n ≤ grownCap w n 0 67 := grownCap_ge w _ _ _
  have hGm : grownCap w n 0 67 ≤ maxLen := grownCap_le_maxLen w n 0 67 (by unfold maxLen; omega)
  obtain ⟨G, hG⟩ : ∃ G, G = grownCap w n 0 67 := ⟨_, rfl⟩
  rw [← hG] at hrz hGn hGm
  have hG63 : G ≤ 9223372036854775807 := by unfold maxLen at hGm; omega
  have hsz : G * 5 ≤ (([] : List Value).toArray ++ Builtin.zeroCells z.cells n ++ Builtin.zeroCells z.cells (G - n)).size := by
    simp [Builtin.zeroCells, hzs]; omega
  generalize ([] : List Value).toArray ++ Builtin.zeroCells z.cells n ++ Builtin.zeroCells z.cells (G - n) = C at hrz hsz
  clear hold hG
  go_enter Tryz.func98, Tryz.ntmps98
  go_wp2_with (at_builtin; refine Lib.wpList_append_run _ rfl _ _ _ _ rfl _ _ rfl rfl _ _ (hrz _) ?_)
  all_goals (go_ret; exact ⟨C, G, rfl, rfl, hsz, hGm⟩)
set_option maxHeartbeats 4000000 in
set_option maxRecDepth 100000 in
theorem grow_0 (w : World) : Calls Tryz.prog 98 #[.slice none 0 0, .int .i64 0] w fun e w' => e = .returned (.slice none 0 0) ∧ w' = w := by
  have h1 : ¬ ((0 : Int) < 0) := by omega
  have h2 : wrap64 ((0 : Int) - (0 : Int)) = 0 := by unfold wrap64; omega
  have h4 : ¬ ((0 : Int) > 0) := by omega
  go_enter Tryz.func98, Tryz.ntmps98
  go_wp2
  go_ret
  exact ⟨rfl, rfl⟩
theorem hget_end : ∀ (H : List (Option (List CV))) (x : Option (List CV)), hget (H ++ [x]) H.length = x := fun H x => by simp [hget]
theorem hget_out : ∀ (H : List (Option (List CV))), hget H H.length = none := fun H => by simp [hget]
theorem hget_pre : ∀ (H : List (Option (List CV))) (x : Option (List CV)) (i : Nat), i ≠ H.length → hget (H ++ [x]) i = hget H i := fun H x i h => by
  simp only [hget]
  by_cases k : i < H.length
  · rw [List.getElem?_append_left k]
  · rw [List.getElem?_eq_none (by simp; omega), List.getElem?_eq_none (by omega)]
theorem grow_h (n : Nat) (hn : n ≤ 1000) (H : List (Option (List CV))) : CallsH Tryz.prog 98 [.one (.iv (.g (.slice none 0 0))), .one (.iv (.g (.int .i64 (n : Int))))] H (.t (.one (.slc H.length 0 0 5))) (H ++ [some []]) := by
  intro w0 Z0 J Z s a w vs R hs hv
  subst hs
  obtain ⟨vs⟩ := vs
  match vs, hv with
  | [v1, v2], ⟨e1, e2, _⟩ =>
    have e1 : v1 = .slice none 0 0 := by cases e1; rfl
    have e2 : v2 = .int .i64 n := by cases e2; rfl
    subst e1; subst e2
    by_cases h0 : n = 0
    · subst h0
      refine (grow_0 w).mono fun e w' ⟨he, hw⟩ => ?_
      subst hw
      exact ⟨_, J, Z, he, R.newEmpty (nid := s.heap.length) (hget_out _) (hget_end _ _) (fun i hi => hget_pre _ _ _ hi), Or.inl ⟨rfl, rfl⟩⟩
    · refine (grow_w n w (by omega) hn).mono fun e w' ⟨C, cap, he, hw, h1, h2⟩ => ?_
      subst hw
      have R1 := (R.drew).new (nid := s.heap.length) (cs := []) (c := C) (e := 67) (H := s.heap ++ [some []]) (hget_out _) (hget_end _ _) (fun i hi => hget_pre _ _ _ hi) (by simp [All2])
      refine ⟨_, _, _, he, R1, Or.inr ⟨w.heap.size, cap, C, 67, rfl, by simp [jset], Nat.zero_le _, h2, heap_alloc_new w.drew _, by omega⟩⟩
end Go.Proofs.YtbckibbgajfihaaGreat
