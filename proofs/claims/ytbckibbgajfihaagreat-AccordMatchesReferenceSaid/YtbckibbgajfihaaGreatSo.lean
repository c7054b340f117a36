/- So: slices.Sort and slices.Compact at []int on abstract states: an own row is turned. -/
import Derived.Test.YtbckibbgajfihaaGreatShelf
import Derived.Test.YtbckibbgajfihaaGreatSea7
import Derived.Lib.RowBridge
set_option linter.unusedVariables false
set_option linter.unusedSimpArgs false
namespace Go.Proofs.YtbckibbgajfihaaGreat
open Go.RowKit Go.Sea Go.Sort
def rowI (zs : List Int) : List CV := zs.map fun z => .iv (.g (.int .i64 z))
theorem rowI_len (zs : List Int) : (rowI zs).length = zs.length := by simp [rowI]
theorem rowI_iv (zs : List Int) : ∀ c, c ∈ rowI zs → isIv c := by
  intro c hc
  simp only [rowI, List.mem_map] at hc
  obtain ⟨z, _, rfl⟩ := hc
  trivial
theorem rowI_app (a b : List Int) : rowI (a ++ b) = rowI a ++ rowI b := by simp [rowI]
theorem rowI_get (zs : List Int) (k : Nat) (h : k < zs.length) : (rowI zs).getD k .any = .iv (.g (.int .i64 (zs.getD k 0))) := by
  simp [rowI, List.getD, h]
section
variable {w0 : World} {Z0 : Fr} {J : Nat → Option Nat} {Z : Nat → Prop} {s : AS} {a : Act} {w : World}
theorem rel_ahead (R : Rel w0 Z0 J Z s a w) : ∀ n, Rel w0 Z0 J Z s a (Go.Sort.ahead w n)
  | 0 => R
  | n + 1 => by
    have := (rel_ahead R n).drew
    exact this
theorem below_grow (w : World) (os : Array Obj) : Below w.heap.size w (grow w os) := by
  refine ⟨rfl, rfl, rfl, by simp [grow], fun k hk => ?_⟩
  simp only [grow]
  rw [Array.getElem?_append_left hk]
theorem row_read (R : Rel w0 Z0 J Z s a w) {i b : Nat} {zs : List Int} {c : Array Value} {e : TypeId} (hj : J i = some b) (hb : w.heap[b]? = some (.cells c e (0, 0))) (hz : zs ≠ []) (h : hget s.heap i = some (rowI zs)) :
    zs.length ≤ c.size ∧ ∀ j, j < zs.length → c[j]? = some (.int .i64 (zs.getD j 0)) := by
  obtain ⟨c1, e1, g2, g3⟩ := R.cells h (by cases zs <;> simp_all [rowI]) hj ⟨_, _, hb⟩
  rw [hb] at g2; cases g2
  have hl := g3.length
  have hl' : zs.length ≤ c.size := by
    simp only [List.length_take, rowI_len, Array.length_toList] at hl
    omega
  refine ⟨hl', fun j hjz => ?_⟩
  obtain ⟨u, hu, hr⟩ := g3.get (k := j) (y := .iv (.g (.int .i64 (zs.getD j 0)))) (by simp [rowI, List.getD, hjz])
  rw [List.getElem?_take, if_pos (by rw [rowI_len]; exact hjz), Array.getElem?_toList] at hu
  rw [hu]; cases hr; rfl
theorem row_holds {b : Nat} {zs : List Int} {c : Array Value} {e : TypeId} (hb : w.heap[b]? = some (.cells c e (0, 0))) (h : ∀ j, j < zs.length → c[j]? = some (.int .i64 (zs.getD j 0))) : Holds (Value.int .i64) w b 0 zs.toArray := by
  intro j hj
  have hj' : j < zs.length := by simpa using hj
  refine ⟨?_, ?_⟩
  · rw [cell_of_row w b _ c e _ hb, Nat.zero_add, h j hj']
    simp [List.getD, hj']
  · simp [World.frozen?, hb]
/-- An own row that is laid anew. -/
theorem row_put (R : Rel w0 Z0 J Z s a w) {i b : Nat} {zs ys : List Int} {c : Array Value} {e : TypeId} (hj : J i = some b) (hb : w.heap[b]? = some (.cells c e (0, 0))) (h : hget s.heap i = some (rowI zs)) (hl : ys.length = zs.length) (hc : zs.length ≤ c.size) :
    Rel w0 Z0 J Z { s with heap := hset s.heap i (rowI ys) } a (putRow (Value.int .i64) w b 0 ys.toArray) := by
  have hrow := setRow_heap w b c (putCells (Value.int .i64) 0 ys.toArray c) e (0, 0) hb
  have ew : putRow (Value.int .i64) w b 0 ys.toArray = w.setRow b (putCells (Value.int .i64) 0 ys.toArray c) := by
    unfold putRow mapBlock World.setRow
    congr 1
    apply Array.ext_getElem?
    intro k
    simp only [Array.getElem?_modify]
    by_cases hk : b = k
    · subst hk
      simp only [if_true]
      rw [hb]; rfl
    · simp [hk]
  rw [ew]
  refine R.set h hj hb (by simp [putCells]) (hget_hset_same _ _ _) (fun k hk => hget_hset_ne _ _ _ _ hk) ?_
  refine All2.of (by simp [putCells, rowI_len]; omega) fun k u y hu hy => ?_
  have hk : k < ys.length := by
    rw [List.getElem?_take] at hu
    split at hu
    · rename_i h; rwa [rowI_len] at h
    · cases hu
  rw [List.getElem?_take, if_pos (by rw [rowI_len]; exact hk), Array.getElem?_toList] at hu
  simp only [putCells, Array.getElem?_mapIdx] at hu
  rw [Array.getElem?_eq_getElem (by omega)] at hu
  simp [hk] at hu
  simp [rowI, hk] at hy
  subst hu; subst hy
  exact Rd.g _ rfl
end
theorem sort_len (zs : List Int) : (zs.mergeSort fun x y => decide (x ≤ y)).length = zs.length := by simp
theorem sort_t (zs : List Int) (hz : zs.length < 4611686018427387904) (i : Nat) : CallsT Tryz.prog 86 [.one (.slc i 0 zs.length 1)] i (rowI zs) (.tup []) (rowI (zs.mergeSort fun x y => decide (x ≤ y))) := by
  intro H hH w0 Z0 J Z s a w vs R hs hv
  subst hs
  obtain ⟨vs⟩ := vs
  match vs, hv with
  | [v], ⟨hv, _⟩ =>
    by_cases h0 : zs = []
    · subst h0
      have ev : ∃ p cap, v = .slice p 0 cap := by
        rcases hv with ⟨_, rfl⟩ | ⟨b, cap, c, e, rfl, _⟩ <;> exact ⟨_, _, rfl⟩
      obtain ⟨p, cap, rfl⟩ := ev
      refine (Tryz.slices_Sort_int_none p cap w).mono fun e w' ⟨he, hw⟩ => ?_
      subst hw
      refine ⟨_, J, Z, he, ?_, #[], rfl, trivial⟩
      have e1 : rowI (([] : List Int).mergeSort fun x y => decide (x ≤ y)) = rowI [] := by simp [rowI]
      rw [e1]
      exact R.same fun k => by
        by_cases hk : k = i
        · subst hk; rw [hget_hset_same]; exact hH.symm
        · exact hget_hset_ne _ _ _ _ hk
    · rcases hv with ⟨h, _⟩ | ⟨b, cap, c, e, rfl, hj, hc1, hc2, hb, hsz⟩
      · exact absurd (List.eq_nil_of_length_eq_zero h) h0
      · obtain ⟨k1, k2⟩ := row_read R hj hb h0 hH
        refine (Tryz.slices_Sort_int b 0 cap zs w (row_holds hb k2) (R.jlt i b hj).2.1 hz).mono fun e' w' ⟨he, n, os, hw⟩ => ?_
        subst hw
        have R1 := row_put (rel_ahead R n) (ys := zs.mergeSort fun x y => decide (x ≤ y)) hj hb hH (sort_len zs) k1
        exact ⟨_, J, _, he, (R1.call (below_grow _ os)).1, #[], rfl, trivial⟩
theorem compact_le : ∀ zs : List Int, (Lib.compact zs).length ≤ zs.length := fun zs => by
  have := Lib.compact_length_le zs
  exact this
theorem compact_t (zs : List Int) (hz : zs.length < 4611686018427387904) (i : Nat) : CallsT Tryz.prog 87 [.one (.slc i 0 zs.length 1)] i (rowI zs) (.t (.one (.slc i 0 (Lib.compact zs).length 1))) (rowI (Lib.compact zs ++ List.replicate (zs.length - (Lib.compact zs).length) 0)) := by
  intro H hH w0 Z0 J Z s a w vs R hs hv
  subst hs
  obtain ⟨vs⟩ := vs
  match vs, hv with
  | [v], ⟨hv, _⟩ =>
    by_cases h0 : zs = []
    · subst h0
      have ev : ∃ p cap, v = .slice p 0 cap := by
        rcases hv with ⟨_, rfl⟩ | ⟨b, cap, c, e, rfl, _⟩ <;> exact ⟨_, _, rfl⟩
      obtain ⟨p, cap, rfl⟩ := ev
      refine (Tryz.slices_Compact_int_empty p cap w).mono fun e w' ⟨he, hw⟩ => ?_
      subst hw
      have e0 : Lib.compact ([] : List Int) = [] := by have := compact_le []; exact List.eq_nil_of_length_eq_zero (by simpa using this)
      refine ⟨_, J, Z, he, ?_, ?_⟩
      · rw [e0]
        exact R.same fun k => by
          by_cases hk : k = i
          · subst hk; rw [hget_hset_same]; exact hH.symm
          · exact hget_hset_ne _ _ _ _ hk
      · rw [e0]; exact hv
    · rcases hv with ⟨h, _⟩ | ⟨b, cap, c, e, rfl, hj, hc1, hc2, hb, hsz⟩
      · exact absurd (List.eq_nil_of_length_eq_zero h) h0
      · obtain ⟨k1, k2⟩ := row_read R hj hb h0 hH
        refine (Tryz.slices_Compact_int b 0 cap zs w (row_holds hb k2) (by omega) hc1).mono fun e' w' ⟨he, q, hw⟩ => ?_
        subst hw
        have hle := compact_le zs
        have R1 := row_put (rel_ahead R q) (ys := Lib.compact zs ++ List.replicate (zs.length - (Lib.compact zs).length) 0) hj hb hH (by simp; omega) k1
        have hrow := setRow_heap (Go.Sort.ahead w q) b c (putCells (Value.int .i64) 0 (Lib.compact zs ++ List.replicate (zs.length - (Lib.compact zs).length) 0).toArray c) e (0, 0) hb
        refine ⟨_, J, Z, he, R1, Or.inr ⟨b, cap, putCells (Value.int .i64) 0 (Lib.compact zs ++ List.replicate (zs.length - (Lib.compact zs).length) 0).toArray c, e, rfl, hj, by omega, hc2, ?_, ?_⟩⟩
        · have : (putRow (Value.int .i64) (Go.Sort.ahead w q) b 0 (Lib.compact zs ++ List.replicate (zs.length - (Lib.compact zs).length) 0).toArray).heap[b]? = some (onCells (putCells (Value.int .i64) 0 (Lib.compact zs ++ List.replicate (zs.length - (Lib.compact zs).length) 0).toArray) (.cells c e (0, 0))) := by
            unfold putRow mapBlock
            simp only [Array.getElem?_modify, if_true]
            show Option.map _ (w.heap[b]?) = _
            rw [hb]; rfl
          exact this
        · simp [putCells]; omega
end Go.Proofs.YtbckibbgajfihaaGreat
