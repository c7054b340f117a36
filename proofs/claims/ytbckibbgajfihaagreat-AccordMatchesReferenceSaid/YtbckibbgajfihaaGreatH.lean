/- H: slices.Clone of a list of agreements: a new own row. -/
import Derived.Test.YtbckibbgajfihaaGreatG
set_option linter.unusedVariables false
set_option linter.unusedSimpArgs false
namespace Go.Proofs.YtbckibbgajfihaaGreat
open Go.RowKit Go.Sea Go.Lib
theorem sl22 : Tryz.prog.underlying 22 = some (.slice 26) := by kernel_rfl
theorem by33 : (Tryz.prog.info? 26).map (fun i => (i.size, i.bytes, i.zero.map (·.cells.size))) = some (4, 64, some 4) := by kernel_rfl
set_option maxHeartbeats 4000000 in
set_option maxRecDepth 100000 in
set_option maxHeartbeats 2000000 in
theorem clone_nil (cap : Nat) (w : World) : Calls Tryz.prog 48 #[.slice none 0 cap] w fun e w' => e = .returned (.slice none 0 0) ∧ w' = w := by
  have q : (binOp .eql 22 (.slice none 0 cap) (.slice none 0 0)).run Tryz.prog w = .ok (.bool true) w := run_eql_slice_nil w 22 26 none 0 cap 0 0 sl22
  go_enter Tryz.func48, Tryz.ntmps48
  go_wp2
  go_ret
  exact ⟨rfl, rfl⟩
set_option maxHeartbeats 4000000 in
set_option maxRecDepth 100000 in
theorem clone_some (p : Addr) (n cap : Nat) (w w' : World) (u : Value) (h : ∀ ty, (Builtin.append_ #[22, 22] ty #[.slice (some ⟨w.heap.size, 0, none⟩) 0 0, .slice (some p) n cap]).run Tryz.prog (w.alloc (.cells #[] 26)) = .ok u w') : Calls Tryz.prog 48 #[.slice (some p) n cap] w fun e w'' => e = .returned u ∧ w'' = w' := by
  have q : (binOp .eql 22 (.slice (some p) n cap) (.slice none 0 0)).run Tryz.prog w = .ok (.bool false) w := run_eql_slice_nil w 22 26 (some p) n cap 0 0 sl22
  go_enter Tryz.func48, Tryz.ntmps48
  go_wp2_with (at_builtin; refine Lib.wpList_append_run _ rfl _ _ _ _ rfl _ _ rfl rfl _ _ (h _) ?_)
  all_goals (go_ret; exact ⟨rfl, rfl⟩)
theorem below_alloc (w : World) (o : Obj) : Below w.heap.size w (w.alloc o) := by
  refine ⟨rfl, rfl, rfl, by simp, fun k hk => ?_⟩
  exact Below.heap_alloc _ _ _ hk
set_option maxHeartbeats 2000000 in
theorem clone_n (n : Nat) (f : Nat → Nat → IV) (hn : n ≤ 1000) : CallsN Tryz.prog 48 [.one (.iv (.lst 4 n f))] (lstC f 4 n 0) (fun i => .t (.one (.slc i 0 n 4))) := by
  intro H i hH w0 Z0 J Z s a w vs R hs hv
  subst hs
  obtain ⟨vs⟩ := vs
  match vs, hv with
  | [v], ⟨hv, _⟩ =>
    have hv : Rd w Z v (.lst 4 n f) := hv
    have hlen : (lstC f 4 n 0).length = n * 4 := lstC_len f 4 n 0
    have empty : ∀ (p : Addr) (cap : Nat), n = 0 → v = .slice (some p) 0 cap → Calls Tryz.prog 48 #[v] w fun e w' => ∃ v J' Z', e = .returned v ∧ Rel w0 Z0 J' Z' { s with heap := hset s.heap i (lstC f 4 n 0) } a w' ∧ ARel w' J' Z' v (.t (.one (.slc i 0 n 4))) := fun p cap h0 ev => by
      subst h0; subst ev
      obtain ⟨ii, h33⟩ : ∃ ii, Tryz.prog.info? 26 = some ii := by
        have := by33
        cases h : Tryz.prog.info? 26 with
        | none => rw [h] at this; cases this
        | some i => exact ⟨i, rfl⟩
      refine (clone_some p 0 cap w _ _ fun ty => run_append_none sl22 h33 _ _ 0 0 cap (Nat.le_refl _)).mono fun e w' ⟨he, hw⟩ => ?_
      subst hw
      have R1 := R.new (nid := i) (cs := []) (c := #[]) (e := 26) (H := hset s.heap i []) hH (hget_hset_same _ _ _) (fun q hq => hget_hset_ne _ _ _ _ hq) (by simp [All2])
      exact ⟨_, _, _, he, R1, Or.inr ⟨w.heap.size, 0, #[], 26, rfl, by simp [jset], Nat.zero_le _, Nat.zero_le _, heap_alloc_new w _, by simp⟩⟩
    have hv0 := hv
    cases hv with
    | nil p cap =>
      cases p with
      | none =>
        refine (clone_nil cap w).mono fun e w' ⟨he, hw⟩ => ?_
        subst hw
        exact ⟨_, J, Z, he, R.newEmpty (nid := i) hH (by rw [hget_hset_same]; rfl) (fun q hq => hget_hset_ne _ _ _ _ hq), Or.inl ⟨rfl, rfl⟩⟩
      | some p => exact empty p cap rfl rfl
    | lst b off _ cap _ _ X hz hc hm h1 h2 =>
      by_cases h0 : n = 0
      · exact empty ⟨b, off, none⟩ cap h0 (by rw [h0])
      · obtain ⟨hR1, G⟩ := R.call (below_alloc w (.cells #[] 26))
        have hv1 : TRel (w.alloc (.cells #[] 26)) J (fun b => Z b ∨ (w.heap.size ≤ b ∧ b < (w.alloc (.cells #[] 26)).heap.size)) (.slice (some ⟨b, off, none⟩) n cap) (.one (.iv (.lst 4 n f))) := CRel.grow G (CV.ok_all (.iv (.lst 4 n f))) hv0
        obtain ⟨ii, z, t1, t2, t3, t4, t5, t6, t7⟩ := slD_spec (P := Tryz.prog) (t := 22) (e := 26) (n := 4) (b := 64) (by kernel_rfl)
        rcases src_cells hR1 (size := 4) (m := n) (nd := True) (x := .one (.iv (.lst 4 n f))) (ns := lstC f 4 n 0) (by simp [srcF]) trivial hv1 with ⟨h, _⟩ | ⟨hpos, b2, off2, cap2, news, e2, n1, n2, n3, n4⟩
        · exact absurd h h0
        · cases e2
          have hrun := fun ty => run_append_grow (P := Tryz.prog) (w.alloc (.cells #[] 26)) 22 ty 26 ii z t1 t2 t3 ⟨w.heap.size, 0, none⟩ 0 0 [] (by simp) (fun j v h => by simp at h) ⟨b, off, none⟩ n cap news (by rw [n1, t5]) n2 (by omega) (by omega) (by
            rw [t6]; exact growslice_fits (by omega) (by omega))
          simp only [Nat.zero_add] at hrun
          have hsz := grownCap_ge (w.alloc (.cells #[] 26)) n 0 26
          have hmx := grownCap_le_maxLen (w.alloc (.cells #[] 26)) n 0 26 (by unfold maxLen; omega)
          generalize grownCap (w.alloc (.cells #[] 26)) n 0 26 = G at hrun hsz hmx
          have hC : G * 4 ≤ (([] : List Value).toArray ++ news.toArray ++ Builtin.zeroCells z.cells (G - n)).size := by
            simp only [Array.size_append, size_zeroCells, t4, List.size_toArray, n1, List.length_nil]
            omega
          have hD : All2 (CRel (w.alloc (.cells #[] 26)) J (fun b => Z b ∨ (w.heap.size ≤ b ∧ b < (w.alloc (.cells #[] 26)).heap.size))) ((([] : List Value).toArray ++ news.toArray ++ Builtin.zeroCells z.cells (G - n)).toList.take (lstC f 4 n 0).length) (lstC f 4 n 0) := by
            rw [Array.toList_append, Array.toList_append, List.nil_append, List.take_append_of_le_length (by simp; omega), List.take_of_length_le (by simp; omega)]
            exact n4
          generalize ([] : List Value).toArray ++ news.toArray ++ Builtin.zeroCells z.cells (G - n) = C at hrun hC hD
          have cl := clone_some ⟨b, off, none⟩ n cap w _ _ hrun
          have R2 := (hR1.drew).new (nid := i) (cs := lstC f 4 n 0) (c := C) (e := 26) (H := hset s.heap i (lstC f 4 n 0)) hH (hget_hset_same _ _ _) (fun q hq => hget_hset_ne _ _ _ _ hq) (all2_drew hD)
          have hA := heap_alloc_new (w.alloc (.cells #[] 26)).drew (.cells C 26)
          generalize hw1 : w.alloc (.cells #[] 26) = w1 at cl R2 hA
          refine cl.mono fun e w' ⟨he, hw⟩ => ?_
          subst hw
          exact ⟨_, _, _, he, R2, Or.inr ⟨_, _, _, 26, rfl, by simp [jset], hsz, hmx, hA, by rw [Nat.zero_add]; exact hC⟩⟩
end Go.Proofs.YtbckibbgajfihaaGreat
