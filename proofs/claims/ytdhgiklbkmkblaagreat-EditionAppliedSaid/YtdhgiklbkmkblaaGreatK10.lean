/- Part 10 of 16: contracts of functions and plain laws for the root text. No condition. -/
import Derived.Test.YtdhgiklbkmkblaaGreatK01
import Derived.Test.YtdhgiklbkmkblaaGreatK02
import Derived.Test.YtdhgiklbkmkblaaGreatK03
import Derived.Test.YtdhgiklbkmkblaaGreatK04
import Derived.Test.YtdhgiklbkmkblaaGreatK05
import Derived.Test.YtdhgiklbkmkblaaGreatK06
import Derived.Test.YtdhgiklbkmkblaaGreatK07
import Derived.Test.YtdhgiklbkmkblaaGreatK08
import Derived.Test.YtdhgiklbkmkblaaGreatK09
import Derived.Lib.RowBridge
set_option linter.unusedVariables false
set_option linter.unusedSimpArgs false
namespace Go.Proofs.YtdhgiklbkmkblaaGreat
open Go.RowKit Go.Sea Go.Sort
def rowI (zs : List Int) : List CV := zs.map fun z => .iv (.g (.int .i64 z))
theorem rowI_len (zs : List Int) : (rowI zs).length = zs.length := by simp [rowI]
theorem rowI_iv (zs : List Int) : ∀ c, c ∈ rowI zs → isIv c := by
  intro c hc
  simp only [rowI, List.mem_map] at hc
  obtain ⟨z, _, rfl⟩ := hc
  trivial
theorem rowI_get (zs : List Int) (k : Nat) (h : k < zs.length) : (rowI zs).getD k .any = .iv (.g (.int .i64 (zs.getD k 0))) := by
  simp [rowI, List.getD, h]
section
variable {w0 : World} {Z0 : Fr} {J : Nat → Option Nat} {Z : Nat → Prop} {s : AS} {a : Act} {w : World}
theorem rel_ahead (R : Rel w0 Z0 J Z s a w) : ∀ n, Rel w0 Z0 J Z s a (Go.Sort.ahead w n)
  | 0 => R
  | n + 1 => by
    have := (rel_ahead R n).drew
    exact this
theorem below_grow (w : World) (os : Array Obj) : Below w.heap.size w (grow w os) := by
  refine ⟨rfl, rfl, rfl, by simp [grow], fun k hk => ?_⟩
  simp only [grow]
  rw [Array.getElem?_append_left hk]
theorem row_read (R : Rel w0 Z0 J Z s a w) {i b : Nat} {zs : List Int} {c : Array Value} {e : TypeId} (hj : J i = some b) (hb : w.heap[b]? = some (.cells c e (0, 0))) (hz : zs ≠ []) (h : hget s.heap i = some (rowI zs)) :
    zs.length ≤ c.size ∧ ∀ j, j < zs.length → c[j]? = some (.int .i64 (zs.getD j 0)) := by
  obtain ⟨c1, e1, g2, g3⟩ := R.cells h (by cases zs <;> simp_all [rowI]) hj ⟨_, _, hb⟩
  rw [hb] at g2; cases g2
  have hl := g3.length
  have hl' : zs.length ≤ c.size := by
    simp only [List.length_take, rowI_len, Array.length_toList] at hl
    omega
  refine ⟨hl', fun j hjz => ?_⟩
  obtain ⟨u, hu, hr⟩ := g3.get (k := j) (y := .iv (.g (.int .i64 (zs.getD j 0)))) (by simp [rowI, List.getD, hjz])
  rw [List.getElem?_take, if_pos (by rw [rowI_len]; exact hjz), Array.getElem?_toList] at hu
  rw [hu]; cases hr; rfl
theorem row_holds {b : Nat} {zs : List Int} {c : Array Value} {e : TypeId} (hb : w.heap[b]? = some (.cells c e (0, 0))) (h : ∀ j, j < zs.length → c[j]? = some (.int .i64 (zs.getD j 0))) : Holds (Value.int .i64) w b 0 zs.toArray := by
  intro j hj
  have hj' : j < zs.length := by simpa using hj
  refine ⟨?_, ?_⟩
  · rw [cell_of_row w b _ c e _ hb, Nat.zero_add, h j hj']
    simp [List.getD, hj']
  · simp [World.frozen?, hb]
theorem row_put (R : Rel w0 Z0 J Z s a w) {i b : Nat} {zs ys : List Int} {c : Array Value} {e : TypeId} (hj : J i = some b) (hb : w.heap[b]? = some (.cells c e (0, 0))) (h : hget s.heap i = some (rowI zs)) (hl : ys.length = zs.length) (hc : zs.length ≤ c.size) :
    Rel w0 Z0 J Z { s with heap := hset s.heap i (rowI ys) } a (putRow (Value.int .i64) w b 0 ys.toArray) := by
  have hrow := setRow_heap w b c (putCells (Value.int .i64) 0 ys.toArray c) e (0, 0) hb
  have ew : putRow (Value.int .i64) w b 0 ys.toArray = w.setRow b (putCells (Value.int .i64) 0 ys.toArray c) := by
    unfold putRow mapBlock World.setRow
    congr 1
    apply Array.ext_getElem?
    intro k
    simp only [Array.getElem?_modify]
    by_cases hk : b = k
    · subst hk
      simp only [if_true]
      rw [hb]; rfl
    · simp [hk]
  rw [ew]
  refine R.set h hj hb (by simp [putCells]) (hget_hset_same _ _ _) (fun k hk => hget_hset_ne _ _ _ _ hk) ?_
  refine All2.of (by simp [putCells, rowI_len]; omega) fun k u y hu hy => ?_
  have hk : k < ys.length := by
    rw [List.getElem?_take] at hu
    split at hu
    · rename_i h; rwa [rowI_len] at h
    · cases hu
  rw [List.getElem?_take, if_pos (by rw [rowI_len]; exact hk), Array.getElem?_toList] at hu
  simp only [putCells, Array.getElem?_mapIdx] at hu
  rw [Array.getElem?_eq_getElem (by omega)] at hu
  simp [hk] at hu
  simp [rowI, hk] at hy
  subst hu; subst hy
  exact Rd.g _ rfl
end
theorem sort_len (zs : List Int) : (zs.mergeSort fun x y => decide (x ≤ y)).length = zs.length := by simp
theorem sort_t (zs : List Int) (hz : zs.length < 4611686018427387904) (i : Nat) : CallsT Tryz.prog 143 [.one (.slc i 0 zs.length 1)] i (rowI zs) (.tup []) (rowI (zs.mergeSort fun x y => decide (x ≤ y))) := by
  intro H hH w0 Z0 J Z s a w vs R hs hv
  subst hs
  obtain ⟨vs⟩ := vs
  match vs, hv with
  | [v], ⟨hv, _⟩ =>
    by_cases h0 : zs = []
    · subst h0
      have ev : ∃ p cap, v = .slice p 0 cap := by
        rcases hv with ⟨_, rfl⟩ | ⟨b, cap, c, e, rfl, _⟩ <;> exact ⟨_, _, rfl⟩
      obtain ⟨p, cap, rfl⟩ := ev
      refine (Tryz.slices_Sort_int_none p cap w).mono fun e w' ⟨he, hw⟩ => ?_
      subst hw
      refine ⟨_, J, Z, he, ?_, #[], rfl, trivial⟩
      have e1 : rowI (([] : List Int).mergeSort fun x y => decide (x ≤ y)) = rowI [] := by simp [rowI]
      rw [e1]
      exact R.same fun k => by
        by_cases hk : k = i
        · subst hk; rw [hget_hset_same]; exact hH.symm
        · exact hget_hset_ne _ _ _ _ hk
    · rcases hv with ⟨h, _⟩ | ⟨b, cap, c, e, rfl, hj, hc1, hc2, hb, hsz⟩
      · exact absurd (List.eq_nil_of_length_eq_zero h) h0
      · obtain ⟨k1, k2⟩ := row_read R hj hb h0 hH
        refine (Tryz.slices_Sort_int b 0 cap zs w (row_holds hb k2) (R.jlt i b hj).2.1 hz).mono fun e' w' ⟨he, n, os, hw⟩ => ?_
        subst hw
        have R1 := row_put (rel_ahead R n) (ys := zs.mergeSort fun x y => decide (x ≤ y)) hj hb hH (sort_len zs) k1
        exact ⟨_, J, _, he, (R1.call (below_grow _ os)).1, #[], rfl, trivial⟩
end Go.Proofs.YtdhgiklbkmkblaaGreat
namespace Go.Proofs.YtdhgiklbkmkblaaGreat
open Go.RowKit Go.Sea
def fstB (b : Nat → Bool) : Nat → Nat
  | 0 => 0
  | k + 1 => if fstB b k < k then fstB b k else if b k = true then k else k + 1
theorem fstB_le (b : Nat → Bool) : ∀ k, fstB b k ≤ k
  | 0 => Nat.le_refl _
  | k + 1 => by
    have := fstB_le b k
    simp only [fstB]; repeat' split
    all_goals omega
theorem fstB_t {b : Nat → Bool} : ∀ k, (∀ j, j < k → b j = false) → fstB b k = k
  | 0, _ => rfl
  | k + 1, h => by
    have h1 := fstB_t k fun j hj => h j (by omega)
    have h2 := h k (by omega)
    simp only [fstB]
    rw [if_neg (by omega), if_neg (by rw [h2]; simp)]
theorem fstB_h {b : Nat → Bool} {i : Nat} (h : b i = true) (g : ∀ j, j < i → b j = false) : ∀ k, i < k → fstB b k = i
  | 0, hk => by omega
  | k + 1, hk => by
    simp only [fstB]
    by_cases hi : i < k
    · have h1 := fstB_h h g k hi
      rw [h1, if_pos hi]
    · have e : i = k := by omega
      subst e
      rw [fstB_t i g, if_neg (by omega), if_pos h]
def featPT (f : Feat) : PT := .agg [.g (.int .i64 f.id), .g (.int .i64 f.kd), .g (.int .i64 f.x), .g (.int .i64 f.y), .g (.int .i64 f.r), .lst 2 f.n (ptI f.P), .g (.int .i64 f.d), .g (.int .i64 f.s), .lst 6 f.m (ptI f.S)]
def mapO (L : List Feat) (k : Int) : Option PT := (idx L k).map featPT
theorem mapO_nil : mapO [] = fun _ => none := rfl
theorem map_put {L : List Feat} (h : asc L) (f : Feat) : mputF (mapO L) f.id (featPT f) = mapO (putL L f) := by
  funext k
  unfold mputF mapO
  rw [idx_put h]
  by_cases hk : k = f.id
  · rw [if_pos hk, if_pos hk]; rfl
  · rw [if_neg hk, if_neg hk]
theorem map_cut {L : List Feat} (h : asc L) (c : Int) : mdelF (mapO L) c = mapO (cutL L c) := by
  funext k
  unfold mdelF mapO
  rw [idx_cut h]
  by_cases hk : k = c
  · rw [if_pos hk, if_pos hk]; rfl
  · rw [if_neg hk, if_neg hk]
theorem map_chg {L : List Feat} (h : asc L) {f : Feat} {k : Int} (hk : f.id = k) : mputF (mapO L) k (featPT f) = mapO (putL (cutL L k) f) := by
  subst hk
  funext j
  unfold mputF mapO
  rw [idx_put (asc_cut h _), idx_cut h]
  by_cases hj : j = f.id
  · rw [if_pos hj, if_pos hj]; rfl
  · rw [if_neg hj, if_neg hj, if_neg hj]
theorem n_put {L : List Feat} {f : Feat} (hf : idx L f.id = none) : mputN L.length (mapO L) f.id = (putL L f).length := by
  unfold mputN mapO
  rw [hf, len_put hf]; rfl
theorem n_cut {L : List Feat} (h : asc L) {k : Int} {f : Feat} (hf : idx L k = some f) : mdelN L.length (mapO L) k = (cutL L k).length := by
  have := len_cut h hf
  unfold mdelN mapO
  rw [hf]
  show L.length - 1 = _
  omega
theorem n_chg {L : List Feat} (h : asc L) {k : Int} {f g : Feat} (hf : idx L k = some f) (hk : g.id = k) : mputN L.length (mapO L) k = (putL (cutL L k) g).length := by
  have h1 := len_cut h hf
  have h2 : idx (cutL L k) g.id = none := by rw [idx_cut h, if_pos hk]
  rw [len_put h2]
  unfold mputN mapO
  rw [hf]
  show L.length = _
  omega
theorem put_snoc {L : List Feat} {f : Feat} (h : ∀ g, g ∈ L → g.id < f.id) : putL L f = L ++ [f] := by
  unfold putL
  rw [List.filter_eq_self.2 fun g hg => by simpa using h g hg, List.filter_eq_nil_iff.2 fun g hg => by have := h g hg; simp; omega]
def LF (f : Nat → Feat) (k : Nat) : List Feat := (List.range k).map f
theorem LF_0 (f : Nat → Feat) : LF f 0 = [] := rfl
theorem LF_s (f : Nat → Feat) (k : Nat) : LF f (k + 1) = LF f k ++ [f k] := by unfold LF; rw [List.range_succ, List.map_append]; rfl
theorem LF_len (f : Nat → Feat) (k : Nat) : (LF f k).length = k := by simp [LF]
theorem LF_mem {f : Nat → Feat} {k : Nat} {g : Feat} : g ∈ LF f k ↔ ∃ i, i < k ∧ f i = g := by simp [LF]
def rises (f : Nat → Feat) (n : Nat) : Prop := ∀ i, 0 < i → i < n → (f (i - 1)).id < (f i).id
theorem rises_lt {f : Nat → Feat} {n : Nat} (h : rises f n) {i : Nat} : ∀ j, i < j → j < n → (f i).id < (f j).id
  | 0, hij, _ => absurd hij (Nat.not_lt_zero _)
  | j + 1, hij, hj => by
    have h1 := h (j + 1) (by omega) hj
    rw [Nat.add_sub_cancel] at h1
    by_cases e : i = j
    · subst e; exact h1
    · have h2 : (f i).id < (f j).id := rises_lt h j (by omega) (by omega)
      omega
theorem LF_asc {f : Nat → Feat} {n : Nat} (h : rises f n) : ∀ k, k ≤ n → asc (LF f k)
  | 0, _ => List.Pairwise.nil
  | k + 1, hk => by
    unfold asc
    rw [LF_s, List.pairwise_append]
    refine ⟨LF_asc h k (by omega), List.pairwise_singleton _ _, fun a ha b hb => ?_⟩
    obtain ⟨i, hi, rfl⟩ := LF_mem.1 ha
    obtain rfl := List.mem_singleton.1 hb
    exact rises_lt h k hi (by omega)
theorem LF_put {f : Nat → Feat} {n k : Nat} (h : rises f n) (hk : k < n) : putL (LF f k) (f k) = LF f (k + 1) := by
  rw [LF_s]
  refine put_snoc fun g hg => ?_
  obtain ⟨i, hi, rfl⟩ := LF_mem.1 hg
  exact rises_lt h k hi hk
theorem LF_new {f : Nat → Feat} {n k : Nat} (h : rises f n) (hk : k < n) : idx (LF f k) (f k).id = none := by
  rw [idx_none]
  intro g hg
  obtain ⟨i, hi, rfl⟩ := LF_mem.1 hg
  have := rises_lt h k hi hk
  omega
theorem fea_rises {n : Nat} {f : Nat → Feat} (h : feaB n f = true) : rises f n := fun i h0 hi => ((of_decide_eq_true h).2 i hi).2 h0
theorem chg_ok {f : Feat} {o : OpS} (hf : featB f = true) (ho : opB o = true) (h1 : o.kd ≠ 1) (h2 : o.kd ≠ 2) (he : chgE f o = 0) : featB (chgF f o) = true := by
  have g := (feat_iff f).1 hf
  have p := (op_iff o).1 ho
  unfold chgE at he
  have hn : ¬ ((o.kd = 3 ∧ ((f.kd = 3 ∨ f.kd = 6) ∨ f.kd = 4 ∧ o.r ≠ 0)) ∨ (o.kd = 4 ∧ (f.kd = 4 ∨ f.kd = 6))) := fun h => by rw [if_pos h] at he; omega
  obtain ⟨g1, g2, g3, g4, g5⟩ := g
  obtain ⟨p1, p2⟩ := p
  have p3 := p2.resolve_left (fun h => h1 h.1)
  rcases p3.2 with q | q | q | q
  · omega
  · have e : chgF f o = { f with x := o.x, y := o.y, r := o.r } := by unfold chgF; rw [if_pos q.1]
    rw [e, feat_iff]
    refine ⟨g1, g2, g3, q.2.1, ?_⟩
    rcases g5 with k | k | k
    · exact Or.inl ⟨k.1, q.2.2.1, q.2.2.2.1, k.2.2.2.1, k.2.2.2.2⟩
    · exact absurd (Or.inl ⟨q.1, Or.inl k.1⟩) hn
    · refine Or.inr (Or.inr ⟨k.1, q.2.2.1, k.2.2.1, ?_, k.2.2.2.2.1, k.2.2.2.2.2⟩)
      exact Classical.byContradiction fun hr => hn (Or.inl ⟨q.1, Or.inr ⟨k.1, hr⟩⟩)
  · have e : chgF f o = { f with d := o.d } := by unfold chgF; rw [if_neg (by omega), if_pos q.1]
    rw [e, feat_iff]
    refine ⟨g1, g2, q.2.1, g4, ?_⟩
    rcases g5 with k | k | k
    · exact Or.inl k
    · refine Or.inr (Or.inl ⟨k.1, fun h6 => absurd (Or.inr ⟨q.1, Or.inr h6⟩) hn, k.2.2⟩)
    · exact absurd (Or.inr ⟨q.1, Or.inl k.1⟩) hn
  · have e : chgF f o = { f with s := o.s } := by unfold chgF; rw [if_neg (by omega), if_neg (by omega), if_pos q.1]
    rw [e, feat_iff]
    exact ⟨g1, q.2.1, g3, g4, g5⟩
def allF (L : List Feat) : Prop := ∀ f, f ∈ L → featB f = true
theorem allF_cut {L : List Feat} (h : allF L) (k : Int) : allF (cutL L k) := fun f hf => h f (mem_cut.1 hf).1
theorem allF_put {L : List Feat} (h : allF L) {f : Feat} (hf : featB f = true) : allF (putL L f) := fun g hg => by
  rcases mem_put.1 hg with e | e
  · rw [e]; exact hf
  · exact h g e.1
theorem doL_ok {L : List Feat} (h : allF L) {o : OpS} (ho : opB o = true) : allF (doL L o).2 := by
  unfold doL
  by_cases h1 : o.kd = 1
  · rw [if_pos h1]
    have hf : featB o.f = true := by
      have p := ((op_iff o).1 ho).2
      rcases p with p | p
      · exact p.2.2.1
      · omega
    cases hi : idx L o.id with
    | some f => exact h
    | none =>
      simp only
      split
      · exact h
      · exact allF_put h hf
  · rw [if_neg h1]
    cases hi : idx L o.id with
    | none => exact h
    | some f =>
      simp only
      by_cases h2 : o.kd = 2
      · rw [if_pos h2]; exact allF_cut h _
      · rw [if_neg h2]
        by_cases he : chgE f o = 0
        · rw [if_pos he]; exact allF_put (allF_cut h _) (chg_ok (h f (idx_some hi).1) ho h1 h2 he)
        · rw [if_neg he]; exact h
theorem doL_len {L : List Feat} (hs : asc L) (h : L.length ≤ 300) {o : OpS} (ho : opB o = true) : (doL L o).2.length ≤ 300 := by
  unfold doL
  by_cases h1 : o.kd = 1
  · rw [if_pos h1]
    have hid : o.f.id = o.id := by
      have p := ((op_iff o).1 ho).2
      rcases p with p | p
      · exact p.2.1
      · omega
    cases hi : idx L o.id with
    | some f => exact h
    | none =>
      simp only
      by_cases h3 : 300 ≤ L.length
      · rw [if_pos h3]; exact h
      · rw [if_neg h3]
        show (putL L o.f).length ≤ 300
        rw [len_put (by rw [hid]; exact hi)]; omega
  · rw [if_neg h1]
    cases hi : idx L o.id with
    | none => exact h
    | some f =>
      have hc := len_cut hs hi
      simp only
      by_cases h2 : o.kd = 2
      · rw [if_pos h2]; show (cutL L o.id).length ≤ 300; omega
      · rw [if_neg h2]
        by_cases he : chgE f o = 0
        · rw [if_pos he]
          show (putL (cutL L o.id) (chgF f o)).length ≤ 300
          rw [len_put (by rw [idx_cut hs, chgF_id, (idx_some hi).2, if_pos rfl])]; omega
        · rw [if_neg he]; exact h
structure Good (L : List Feat) : Prop where
  a : asc L
  f : allF L
  n : L.length ≤ 300
theorem good_do {L : List Feat} (h : Good L) {o : OpS} (ho : opB o = true) : Good (doL L o).2 := ⟨doL_asc h.a o, doL_ok h.f ho, doL_len h.a h.n ho⟩
theorem mapO_s {L : List Feat} {k : Int} {f : Feat} (h : idx L k = some f) : mapO L k = some (.agg [.g (.int .i64 (f.id)), .g (.int .i64 (f.kd)), .g (.int .i64 (f.x)), .g (.int .i64 (f.y)), .g (.int .i64 (f.r)), .lst 2 f.n (ptI f.P), .g (.int .i64 (f.d)), .g (.int .i64 (f.s)), .lst 6 f.m (ptI f.S)]) := by unfold mapO; rw [h]; rfl
theorem mapO_n {L : List Feat} {k : Int} (h : idx L k = none) : mapO L k = none := by unfold mapO; rw [h]; rfl
theorem LF_mput {f : Nat → Feat} {n k : Nat} (h : rises f n) (hk : k < n) : mputF (mapO (LF f k)) (f k).id (.agg [.g (.int .i64 ((f k).id)), .g (.int .i64 ((f k).kd)), .g (.int .i64 ((f k).x)), .g (.int .i64 ((f k).y)), .g (.int .i64 ((f k).r)), .lst 2 (f k).n (ptI (f k).P), .g (.int .i64 ((f k).d)), .g (.int .i64 ((f k).s)), .lst 6 (f k).m (ptI (f k).S)]) = mapO (LF f (k + 1)) ∧ mputN k (mapO (LF f k)) (f k).id = k + 1 := by
  have h1 := map_put (LF_asc h k (by omega)) (f k)
  rw [LF_put h hk] at h1
  have h2 := n_put (LF_new h hk)
  rw [LF_put h hk, LF_len, LF_len] at h2
  exact ⟨h1, h2⟩
def runL (L : List Feat) (o : Nat → OpS) : Nat → List Feat
  | 0 => L
  | i + 1 => (doL (runL L o i) (o i)).2
theorem runL_0 (L : List Feat) (o : Nat → OpS) : runL L o 0 = L := rfl
theorem oeqv_rf (o : Option PT) : oeqv o o := by cases o <;> first | trivial | exact PT.eqv_refl _
theorem op_kd {o : OpS} (h : opB o = true) : o.kd = 1 ∨ o.kd = 2 ∨ o.kd = 3 ∨ o.kd = 4 ∨ o.kd = 5 := by
  rcases ((op_iff o).1 h).2 with p | ⟨_, p | p | p | p⟩ <;> omega
theorem op_fid {o : OpS} (h : opB o = true) (hk : o.kd = 1) : o.f.id = o.id := by
  rcases ((op_iff o).1 h).2 with p | ⟨_, p | p | p | p⟩
  · exact p.2.1
  all_goals omega
theorem ins_mi {L : List Feat} (h : Good L) {o : OpS} (ho : opB o = true) (hk : o.kd = 1) (hq : idx L o.id = none) (hn : (L.length : Int) < 300) : (doL L o).1 = 0 ∧ mputN L.length (mapO L) o.id = (doL L o).2.length ∧ mputF (mapO L) o.id (.agg [.g (.int .i64 (o.f.id)), .g (.int .i64 (o.f.kd)), .g (.int .i64 (o.f.x)), .g (.int .i64 (o.f.y)), .g (.int .i64 (o.f.r)), .lst 2 o.f.n (ptI o.f.P), .g (.int .i64 (o.f.d)), .g (.int .i64 (o.f.s)), .lst 6 o.f.m (ptI o.f.S)]) = mapO (doL L o).2 := by
  have hi := op_fid ho hk
  have e : doL L o = (0, putL L o.f) := by unfold doL; rw [if_pos hk, hq]; simp only; rw [if_neg (by omega)]
  rw [e]
  have h1 := n_put (L := L) (f := o.f) (by rw [hi]; exact hq)
  have h2 := map_put h.a o.f
  rw [hi] at h1 h2
  exact ⟨rfl, h1, h2⟩
theorem rem_mi {L : List Feat} (h : Good L) {o : OpS} (hk : o.kd = 2) {g : Feat} (hq : idx L o.id = some g) : (doL L o).1 = 0 ∧ mdelN L.length (mapO L) o.id = (doL L o).2.length ∧ mdelF (mapO L) o.id = mapO (doL L o).2 := by
  have e : doL L o = (0, cutL L o.id) := by unfold doL; rw [if_neg (by omega), hq]; simp only; rw [if_pos hk]
  rw [e]; exact ⟨rfl, n_cut h.a hq, map_cut h.a _⟩
theorem chg_mi {L : List Feat} (h : Good L) {o : OpS} (hk : o.kd ≠ 1 ∧ o.kd ≠ 2) {g : Feat} (hq : idx L o.id = some g) (he : chgE g o = 0) : (doL L o).1 = 0 ∧ mputN L.length (mapO L) o.id = (doL L o).2.length ∧ mputF (mapO L) o.id (.agg [.g (.int .i64 ((chgX g o).id)), .g (.int .i64 ((chgX g o).kd)), .g (.int .i64 ((chgX g o).x)), .g (.int .i64 ((chgX g o).y)), .g (.int .i64 ((chgX g o).r)), .lst 2 (chgX g o).n (ptI (chgX g o).P), .g (.int .i64 ((chgX g o).d)), .g (.int .i64 ((chgX g o).s)), .lst 6 (chgX g o).m (ptI (chgX g o).S)]) = mapO (doL L o).2 := by
  have ex : chgX g o = chgF g o := by unfold chgX; rw [if_neg (by omega)]
  have hi : (chgF g o).id = o.id := by rw [chgF_id]; exact (idx_some hq).2
  have e : doL L o = (0, putL (cutL L o.id) (chgF g o)) := by unfold doL; rw [if_neg hk.1, hq]; simp only; rw [if_neg hk.2, if_pos he]
  rw [e, ex]
  exact ⟨rfl, n_chg h.a hq hi, map_chg h.a hi⟩
theorem do_e1 {L : List Feat} {o : OpS} (hk : o.kd = 1) {g : Feat} (hq : idx L o.id = some g) : (doL L o).1 = 5 := by unfold doL; rw [if_pos hk, hq]
theorem do_e2 {L : List Feat} {o : OpS} (hk : o.kd = 1) (hq : idx L o.id = none) (hn : (L.length : Int) ≥ 300) : (doL L o).1 = 2 := by unfold doL; rw [if_pos hk, hq]; simp only; rw [if_pos (by omega)]
theorem do_e3 {L : List Feat} {o : OpS} (hk : o.kd ≠ 1) (hq : idx L o.id = none) : (doL L o).1 = 4 := by unfold doL; rw [if_neg hk, hq]
theorem do_e4 {L : List Feat} {o : OpS} (hk : o.kd ≠ 1 ∧ o.kd ≠ 2) {g : Feat} (hq : idx L o.id = some g) (he : chgE g o ≠ 0) : (doL L o).1 = chgE g o := by unfold doL; rw [if_neg hk.1, hq]; simp only; rw [if_neg hk.2, if_neg he]
theorem good_LF {n : Nat} {f : Nat → Feat} (h : feaB n f = true) : Good (LF f n) := by
  have h1 := of_decide_eq_true h
  refine ⟨LF_asc (fea_rises h) n (Nat.le_refl _), fun g hg => ?_, by rw [LF_len]; exact h1.1⟩
  obtain ⟨i, hi, rfl⟩ := LF_mem.1 hg
  exact (h1.2 i hi).1
theorem good_run {L : List Feat} (h : Good L) {o : Nat → OpS} {k : Nat} (ho : ∀ i, i < k → opB (o i) = true) : ∀ i, i ≤ k → Good (runL L o i)
  | 0, _ => h
  | i + 1, hi => good_do (good_run h ho i (by omega)) (ho i (by omega))
theorem feat_ok {f : Feat} (h : featB f = true) : f.Ok := by
  have g := ((feat_iff f).1 h).2.2.2.2
  rcases g with k | k | k
  · exact ⟨by omega, by omega⟩
  · have := (of_decide_eq_true k.2.2.1).1
    exact ⟨by omega, by omega⟩
  · have := (of_decide_eq_true k.2.2.1).1
    exact ⟨by omega, by omega⟩
theorem kd_1 {k : Int} (h : k = 1) : (((1 : Int) = k) = True) ∧ True := ⟨by simp [h], trivial⟩
theorem kd_2 {k : Int} (h : k = 2) : (((1 : Int) = k) = False) ∧ (((2 : Int) = k) = True) := ⟨by simp [h], by simp [h]⟩
theorem kd_3 {k : Int} (h : k = 3) : (((1 : Int) = k) = False) ∧ (((2 : Int) = k) = False) ∧ (((3 : Int) = k) = True) := ⟨by simp [h], by simp [h], by simp [h]⟩
theorem kd_4 {k : Int} (h : k = 4) : (((1 : Int) = k) = False) ∧ (((2 : Int) = k) = False) ∧ (((3 : Int) = k) = False) ∧ (((4 : Int) = k) = True) := ⟨by simp [h], by simp [h], by simp [h], by simp [h]⟩
theorem kd_5 {k : Int} (h : k = 5) : (((1 : Int) = k) = False) ∧ (((2 : Int) = k) = False) ∧ (((3 : Int) = k) = False) ∧ (((4 : Int) = k) = False) ∧ (((5 : Int) = k) = True) := ⟨by simp [h], by simp [h], by simp [h], by simp [h], by simp [h]⟩
theorem wkC_any {ok : Nat → Prop} : ∀ (m : Nat) (l : List CV), m ≤ l.length → wkC ok l (List.replicate m .any)
  | 0, _, _ => by simp [wkC]
  | m + 1, [], h => by simp at h
  | m + 1, c :: l, h => ⟨Or.inl rfl, wkC_any m l (by simpa using h)⟩
def badI (L : List Feat) (o : Nat → OpS) (k : Nat) : Nat := fstB (fun j => decide ((doL (runL L o j) (o j)).1 ≠ 0)) k
def apV (n : Nat) (f : Nat → Feat) (k : Nat) (o : Nat → OpS) : Bool := feaB n f && opsB k o
def apJ (n : Nat) (f : Nat → Feat) (k : Nat) (o : Nat → OpS) : Nat := badI (LF f n) o k
def apE (n : Nat) (f : Nat → Feat) (k : Nat) (o : Nat → OpS) : Int := if apV n f k o = true then (if apJ n f k o < k then (doL (runL (LF f n) o (apJ n f k o)) (o (apJ n f k o))).1 else 0) else 1
def apI (n : Nat) (f : Nat → Feat) (k : Nat) (o : Nat → OpS) : Int := if apV n f k o = true then (if apJ n f k o < k then (apJ n f k o : Int) else -1) else -1
def apN (n : Nat) (f : Nat → Feat) (k : Nat) (o : Nat → OpS) : Nat := if apV n f k o = true then (if apJ n f k o < k then 0 else (runL (LF f n) o k).length) else 0
def apF (n : Nat) (f : Nat → Feat) (k : Nat) (o : Nat → OpS) (i : Nat) : Feat := (runL (LF f n) o k).getD i feat0
theorem ap_err {n : Nat} {f : Nat → Feat} {k : Nat} {o : Nat → OpS} (hv : feaB n f = true) (hw : opsB k o = true) {i : Nat} (hi : (i : Int) < k) (hai : ∀ j, j < i → (doL (runL (LF f n) o j) (o j)).1 = 0) {e : Int} (he : (doL (runL (LF f n) o i) (o i)).1 = e) (h0 : e ≠ 0) : apN n f k o = 0 ∧ (i : Int) = apI n f k o ∧ e = apE n f k o := by
  have hj : apJ n f k o = i := fstB_h (b := fun j => decide ((doL (runL (LF f n) o j) (o j)).1 ≠ 0)) (decide_eq_true (by rw [he]; exact h0)) (fun j hj => decide_eq_false (by rw [hai j hj]; simp)) k (by omega)
  have hV : apV n f k o = true := by unfold apV; rw [hv, hw]; rfl
  have hlt : i < k := by omega
  unfold apN apI apE
  rw [if_pos hV, if_pos hV, if_pos hV, hj, if_pos hlt, if_pos hlt, if_pos hlt, he]
  exact ⟨rfl, rfl, rfl⟩
theorem ap_ok {n : Nat} {f : Nat → Feat} {k : Nat} {o : Nat → OpS} (hv : feaB n f = true) (hw : opsB k o = true) {i : Nat} (hi : (k : Int) ≤ i) (hai : ∀ j, j < i → (doL (runL (LF f n) o j) (o j)).1 = 0) : (runL (LF f n) o k).length = apN n f k o ∧ (-1) = apI n f k o ∧ 0 = apE n f k o := by
  have hj : apJ n f k o = k := fstB_t k fun j hj => decide_eq_false (by rw [hai j (by omega)]; simp)
  have hV : apV n f k o = true := by unfold apV; rw [hv, hw]; rfl
  unfold apN apI apE
  rw [if_pos hV, if_pos hV, if_pos hV, hj, if_neg (Nat.lt_irrefl k), if_neg (Nat.lt_irrefl k), if_neg (Nat.lt_irrefl k)]
  exact ⟨rfl, rfl, rfl⟩
theorem ap_bad {n : Nat} {f : Nat → Feat} {k : Nat} {o : Nat → OpS} (h : apV n f k o = false) : apN n f k o = 0 ∧ -1 = apI n f k o ∧ 1 = apE n f k o := by
  unfold apN apI apE
  rw [if_neg (by simp [h]), if_neg (by simp [h]), if_neg (by simp [h])]
  exact ⟨rfl, rfl, rfl⟩
def ddE : List Nat → List (Nat × AV) → List (Nat × AV)
  | _, [] => []
  | s, (k, v) :: r => if s.contains k = true then ddE s r else (k, v) :: ddE (k :: s) r
theorem ddE_lk : ∀ (e : List (Nat × AV)) (s : List Nat) (t : Nat), s.contains t = false → lk (ddE s e) t = lk e t
  | [], _, _, _ => rfl
  | (k, v) :: r, s, t, h => by
    unfold ddE
    by_cases h1 : s.contains k = true
    · rw [if_pos h1, ddE_lk r s t h]
      have : t ≠ k := fun e => by rw [e, h1] at h; cases h
      simp only [lk]; rw [if_neg this]
    · rw [if_neg h1]
      simp only [lk]
      by_cases h2 : t = k
      · rw [if_pos h2, if_pos h2]
      · rw [if_neg h2, if_neg h2]
        refine ddE_lk r (k :: s) t ?_
        rw [List.contains_cons, h]
        simp [h2]
def ddG : List (Nat × List (Nat × AV)) → List (Nat × List (Nat × AV))
  | [] => []
  | (f, e) :: r => (f, ddE [] e) :: ddG r
theorem ddG_gk : ∀ (g : List (Nat × List (Nat × AV))) (f t : Nat), gk (ddG g) f t = gk g f t
  | [], _, _ => rfl
  | (k, e) :: r, f, t => by
    show lk (if f = k then ddE [] e else gf (ddG r) f) t = lk (if f = k then e else gf r f) t
    by_cases h : f = k
    · rw [if_pos h, if_pos h]; exact ddE_lk e [] t rfl
    · rw [if_neg h, if_neg h]; exact ddG_gk r f t
theorem AW_dd {P : Program} {E : List (Nat × AV)} {H : List (Option (List CV))} {N : Nat} {g : List (Nat × List (Nat × AV))} {l : LP} {Q : Exit → AS → Prop} {c : Code} (h : AW P c ⟨E, H, N, ddG g, l⟩ Q) : AW P c ⟨E, H, N, g, l⟩ Q := fun w0 Z0 a w n ⟨J, Z, R⟩ =>
  h w0 Z0 a w n ⟨J, Z, R.nodef, R.size, R.below, R.zfrom, R.zlt, R.jlt, R.inj, R.hole, R.blk, R.slots, fun f t => by
    show ARel _ _ _ _ (gk (ddG g) f t); rw [ddG_gk]; exact R.ghost f t, R.loops, R.lnd, R.ro⟩
theorem nodup_le : ∀ {m ks : List Int}, ks.Nodup → (∀ x, x ∈ ks → x ∈ m) → ks.length ≤ m.length
  | [], ks, _, h => by
    cases ks with
    | nil => simp
    | cons a l => exact absurd (h a (List.mem_cons_self ..)) List.not_mem_nil
  | a :: m, ks, hn, h => by
    have h1 : (ks.erase a).length ≤ m.length := nodup_le (hn.erase a) fun x hx => by
      rcases List.mem_cons.1 (h x (List.mem_of_mem_erase hx)) with e | e
      · exact absurd e ((List.Nodup.mem_erase_iff hn).1 hx).1
      · exact e
    rw [List.length_erase] at h1
    split at h1 <;> simp only [List.length_cons] <;> omega
theorem mapO_ne {L : List Feat} {x : Int} (h : mapO L x ≠ none) : x ∈ L.map (·.id) := by
  unfold mapO at h
  cases hi : idx L x with
  | none => rw [hi] at h; exact absurd rfl h
  | some g => exact List.mem_map.2 ⟨g, idx_some hi⟩
theorem mapO_in {L : List Feat} (h : asc L) {x : Int} (hx : x ∈ L.map (·.id)) : (mapO L x).isSome = true := by
  obtain ⟨g, h1, h2⟩ := List.mem_map.1 hx
  unfold mapO; rw [← h2, idx_mem h h1]; rfl
theorem keys_le {L : List Feat} {ks : List Int} (hn : ks.Nodup) (hk : ∀ x, x ∈ ks → mapO L x ≠ none) : ks.length ≤ L.length := by
  have := nodup_le (m := L.map (·.id)) hn fun x hx => mapO_ne (hk x hx)
  simpa using this
theorem keys_eq {L : List Feat} (h : asc L) {ks : List Int} (hn : ks.Nodup) (hk : ∀ x, x ∈ ks → mapO L x ≠ none) (ha : ∀ x, (mapO L x).isSome = true → x ∈ ks) : ks.length = L.length := by
  have h1 := keys_le hn hk
  have h2 : (L.map (·.id)).length ≤ ks.length := nodup_le ((asc_ids h).imp fun h => by omega) fun x hx => ha x (mapO_in h hx)
  rw [List.length_map] at h2
  omega
theorem keys_more {L : List Feat} {ks : List Int} (hn : ks.Nodup) (hk : ∀ x, x ∈ ks → mapO L x ≠ none) {kk : Int} {yy : PT} (hy : mapO L kk = some yy) (hnn : ¬ kk ∈ ks) : (kk :: ks).Nodup ∧ (∀ x, x ∈ kk :: ks → mapO L x ≠ none) ∧ ks.length + 1 ≤ L.length := by
  have h1 : (kk :: ks).Nodup := List.nodup_cons.2 ⟨hnn, hn⟩
  have h2 : ∀ x, x ∈ kk :: ks → mapO L x ≠ none := fun x hx => by
    rcases List.mem_cons.1 hx with e | e
    · rw [e, hy]; simp
    · exact hk x e
  exact ⟨h1, h2, keys_le h1 h2⟩
theorem sort_keys {L : List Feat} (h : asc L) {ks : List Int} (hn : ks.Nodup) (hk : ∀ x, x ∈ ks → mapO L x ≠ none) (ha : ∀ x, (mapO L x).isSome = true → x ∈ ks) : ks.reverse.mergeSort (fun x y => decide (x ≤ y)) = L.map (·.id) := by
  have hp := List.mergeSort_perm ks.reverse (fun x y => decide (x ≤ y))
  have h1 : (ks.reverse.mergeSort (fun x y => decide (x ≤ y))).Nodup := hp.symm.nodup ((List.reverse_perm ks).symm.nodup hn)
  have h2 : (ks.reverse.mergeSort (fun x y => decide (x ≤ y))).Pairwise (fun a b => decide (a ≤ b) = true) := List.pairwise_mergeSort (by intro a b c; simp only [decide_eq_true_eq]; omega) (by intro a b; simp only [Bool.or_eq_true, decide_eq_true_eq]; omega) _
  have hm : ∀ x, x ∈ ks.reverse.mergeSort (fun x y => decide (x ≤ y)) ↔ x ∈ ks := fun x => by rw [hp.mem_iff, List.mem_reverse]
  refine keys_list h ?_ fun x => ?_
  · refine (h2.and h1).imp fun {a b} p => ?_
    have h3 := of_decide_eq_true p.1
    have h4 : a ≠ b := p.2
    omega
  · rw [hm]
    constructor
    · intro hx e
      exact hk x hx (by unfold mapO; rw [e]; rfl)
    · intro hx
      cases hi : idx L x with
      | none => exact absurd hi hx
      | some g => exact ha x (by unfold mapO; rw [hi]; rfl)
theorem sort_k {L : List Feat} (h : asc L) (hl : L.length ≤ 300) {ks : List Int} (hn : ks.Nodup) (hk : ∀ x, x ∈ ks → mapO L x ≠ none) (ha : ∀ x, (mapO L x).isSome = true → x ∈ ks) (i : Nat) {H : List (Option (List CV))} (hH : hget H i = some (rowI ks.reverse)) : CallsH Tryz.prog 143 [.one (.slc i 0 ks.length 1)] H (.tup []) (hset H i (rowI (L.map (·.id)))) := by
  have h0 := keys_le hn hk
  have h1 := sort_t ks.reverse (by rw [List.length_reverse]; omega) i H hH
  rw [List.length_reverse, sort_keys h hn hk ha] at h1
  exact h1
theorem rowI_pur (zs : List Int) (i : Nat) : List.map (CV.purge i) (rowI zs) = rowI zs := purge_iv i (rowI_iv zs)
theorem rowI_one (zs : List Int) (x : Int) (i : Nat) : List.map (CV.purge i) (rowI zs.reverse ++ [.iv (.g (.int .i64 x))]) = rowI (x :: zs).reverse := by
  rw [show rowI zs.reverse ++ [.iv (.g (.int .i64 x))] = rowI (x :: zs).reverse by simp [rowI]]
  exact rowI_pur _ _
theorem rowI_ids {L : List Feat} {v : Nat} (hv : v < L.length) : (rowI (L.map (·.id))).getD v .any = .iv (.g (.int .i64 (L.getD v feat0).id)) := by
  rw [rowI_get _ _ (by simpa using hv)]
  simp [List.getD, hv]
def c9 (f : Feat) : List CV := [.iv (.g (.int .i64 (f.id))), .iv (.g (.int .i64 (f.kd))), .iv (.g (.int .i64 (f.x))), .iv (.g (.int .i64 (f.y))), .iv (.g (.int .i64 (f.r))), .iv (.lst 2 f.n (ptI f.P)), .iv (.g (.int .i64 (f.d))), .iv (.g (.int .i64 (f.s))), .iv (.lst 6 f.m (ptI f.S))]
def rowC (l : List Feat) : List CV := l.flatMap c9
theorem rowC_len (l : List Feat) : (rowC l).length = l.length * 9 := by
  induction l with
  | nil => rfl
  | cons s l ih => simp only [rowC, List.flatMap_cons, List.length_append] at ih ⊢; rw [ih]; simp [c9]; omega
theorem rowC_iv (l : List Feat) : ∀ c, c ∈ rowC l → isIv c := by
  intro c hc
  simp only [rowC, List.mem_flatMap, c9] at hc
  obtain ⟨s, _, h⟩ := hc
  simp only [List.mem_cons, List.not_mem_nil, or_false] at h
  rcases h with rfl | rfl | rfl | rfl | rfl | rfl | rfl | rfl | rfl <;> trivial
theorem getD_mem {L : List Feat} {v : Nat} (hv : v < L.length) : L.getD v feat0 ∈ L := by
  rw [List.getD, List.getElem?_eq_getElem hv]; exact List.getElem_mem hv
theorem take_one {L : List Feat} {v : Nat} (hv : v < L.length) : L.take v ++ [L.getD v feat0] = L.take (v + 1) := by
  rw [List.take_add_one, List.getD]
  simp [hv]
theorem rowC_one {L : List Feat} {v : Nat} (hv : v < L.length) (i : Nat) : List.map (CV.purge i) (rowC (L.take v) ++ [.iv (.g (.int .i64 ((L.getD v feat0).id))), .iv (.g (.int .i64 ((L.getD v feat0).kd))), .iv (.g (.int .i64 ((L.getD v feat0).x))), .iv (.g (.int .i64 ((L.getD v feat0).y))), .iv (.g (.int .i64 ((L.getD v feat0).r))), .iv (.lst 2 (L.getD v feat0).n (ptI (L.getD v feat0).P)), .iv (.g (.int .i64 ((L.getD v feat0).d))), .iv (.g (.int .i64 ((L.getD v feat0).s))), .iv (.lst 6 (L.getD v feat0).m (ptI (L.getD v feat0).S))]) = rowC (L.take (v + 1)) := by
  have e : rowC (L.take v) ++ c9 (L.getD v feat0) = rowC (L.take (v + 1)) := by rw [← take_one hv]; simp [rowC]
  exact (congrArg (List.map (CV.purge i)) e).trans (purge_iv i (rowC_iv _))
theorem rowC_get : ∀ (l : List Feat) (i o : Nat), i < l.length → o < 9 → (rowC l).getD (i * 9 + o) .any = (c9 (l.getD i feat0)).getD o .any
  | [], i, _, h, _ => by simp at h
  | f :: l, 0, o, _, ho => by
    show (c9 f ++ rowC l).getD (0 * 9 + o) .any = (c9 f).getD o .any
    rw [Nat.zero_mul, Nat.zero_add, List.getD, List.getD, List.getElem?_append_left (by show o < 9; exact ho)]
  | f :: l, i + 1, o, h, ho => by
    show (c9 f ++ rowC l).getD ((i + 1) * 9 + o) .any = (c9 (l.getD i feat0)).getD o .any
    rw [← rowC_get l i o (by simpa using h) ho, List.getD, List.getD, List.getElem?_append_right (by show 9 ≤ _; omega)]
    congr 2
    show (i + 1) * 9 + o - 9 = i * 9 + o
    omega
theorem rowC_eqv (l : List Feat) : ∀ i o, i < l.length → o < 9 → (civ ((rowC l).getD (i * 9 + o) .any)).eqv (featF (fun i => l.getD i feat0) i o) := by
  intro i o hi ho
  rw [rowC_get l i o hi ho]
  match o, ho with
  | 0, _ | 1, _ | 2, _ | 3, _ | 4, _ | 5, _ | 6, _ | 7, _ | 8, _ => exact IV.eqv_refl _
end Go.Proofs.YtdhgiklbkmkblaaGreat
set_option maxRecDepth 100000
set_option maxHeartbeats 4000000
namespace Go.Proofs.YtdhgiklbkmkblaaGreat
open Go.RowKit Go.Sea
open Nat renaming reduceAdd → xA, reduceLT → xL, reduceLeDiff → xD, reduceEqDiff → xE, reduceMul → xM, reduceSub → xS, reduceBEq → xB
theorem fnok_107 : fnOk Tryz.prog 107 = true := by kernel_rfl
theorem fnok_108 : fnOk Tryz.prog 108 = true := by kernel_rfl
theorem fnok_109 : fnOk Tryz.prog 109 = true := by kernel_rfl
theorem fnok_110 : fnOk Tryz.prog 110 = true := by kernel_rfl
theorem fnok_111 : fnOk Tryz.prog 111 = true := by kernel_rfl
theorem fnok_139 : fnOk Tryz.prog 139 = true := by kernel_rfl
theorem fnok_140 : fnOk Tryz.prog 140 = true := by kernel_rfl
theorem fnok_141 : fnOk Tryz.prog 141 = true := by kernel_rfl
theorem fnok_142 : fnOk Tryz.prog 142 = true := by kernel_rfl
theorem fnok_143 : fnOk Tryz.prog 143 = true := by kernel_rfl
theorem fnok_144 : fnOk Tryz.prog 144 = true := by kernel_rfl
theorem fnok_160 : fnOk Tryz.prog 160 = true := by kernel_rfl
theorem fnok_161 : fnOk Tryz.prog 161 = true := by kernel_rfl
theorem fnok_67 : fnOk Tryz.prog 67 = true := by kernel_rfl
theorem fnok_68 : fnOk Tryz.prog 68 = true := by kernel_rfl
theorem fnok_71 : fnOk Tryz.prog 71 = true := by kernel_rfl
theorem le_106 : lenD Tryz.prog 106 = none := by kernel_rfl
theorem mp_106 : mpD Tryz.prog 106 = some 75 := by kernel_rfl
theorem mp_137 : mpD Tryz.prog 137 = some 141 := by kernel_rfl
theorem pl_91_2 : placeF Tryz.prog 91 2 = some (2, 9) := by kernel_rfl
theorem ty_106 : tyD Tryz.prog 106 = some (false, 1) := by kernel_rfl
theorem zp_141 : zPT Tryz.prog 141 = some (.one (.g (.nilFunc))) := by kernel_rfl
theorem zp_75 : zPT Tryz.prog 75 = some (.agg [.g (.int .i64 0), .g (.int .i64 0), .g (.int .i64 0), .g (.int .i64 0), .g (.int .i64 0), .g (.slice none 0 0), .g (.int .i64 0), .g (.int .i64 0), .g (.slice none 0 0)]) := by kernel_rfl
attribute [go_sem] fnok_107 fnok_108 fnok_109 fnok_110 fnok_111 fnok_142 fnok_143 fnok_160 fnok_161 fnok_67 fnok_68 fnok_71 le_106 mp_106 mp_137 pl_91_2 ty_106 zp_141 zp_75
theorem Apply_t (n : Nat) (f : Nat → Feat) (k : Nat) (o : Nat → OpS) (hn : n ≤ 9223372036854775807) (hf : ∀ i, i < n → (f i).Ok) (hk : k ≤ 9223372036854775807) (ho : ∀ i, i < k → (o i).f.Ok) (hv : feaB n f = true) (hw : opsB k o = true) : CallsP Tryz.prog 32 [.one (.lst 9 n (featF f)), .one (.lst 16 k (oprF o))] (.tup [.one (.lst 9 (apN n f k o) (featF (apF n f k o))), .one (.g (.int .i64 (apI n f k o))), .one (.g (.int .i64 (apE n f k o)))]) := by
  have mk0 : True := trivial
  have mk2 : True := trivial
  have mk3 : True := trivial
  have hrk : True := trivial
  have hkd : True := trivial
  have hfk : True := trivial
  have hrs := fea_rises hv
  have hG := good_LF hv
  have hops := (of_decide_eq_true hw).2
  have hk100 := (of_decide_eq_true hw).1
  refine CallsP_of Tryz.func32 rfl (by rw [Tryz.ntmps32]; simp) ?_
  simp only [Tryz.ntmps32, zM, PT.tv, argEnv, Nat.zero_add, Nat.reduceAdd]
  repeat' (first
 | (exact ap_err hv hw (by assumption) hai (do_e1 e5 hq) (by omega))
 | (exact ap_err hv hw (by assumption) hai (do_e2 e5 hq (by assumption)) (by omega))
 | (exact ap_err hv hw (by assumption) hai (do_e3 (by omega) hq) (by omega))
 | (exact ap_err hv hw (by assumption) hai (do_e4 (by omega) hq (by assumption)) (by omega))
 | (clear mk2; have hkm := keys_more hnd hks hyy hnn)
 | ((with_reducible show AW _ _ _ _); first
 | (with_reducible first | refine aS (fun K hK => ?_) | refine aI ?_ | refine aX ?_ | refine aT ?_ | refine aC ?_ | refine aB ?_)
 | ((refine AW_rangeFuncH (k := 144) rfl Tryz.func144 rfl fnok_144 (by rw [Tryz.ntmps144]; simp) ?_ ?_ (fun l hlne A B hA hB => ?_)); (focus (simp (maxSteps := 2000000) only [go_sem, reduceIte, reduceCtorEq, xA, xL, xD, xE, xM, xS, xB, Tryz.f32, Tryz.f144, Tryz.f67, Tryz.f108, Tryz.f109, Tryz.f68, Tryz.f111, Tryz.f110, Tryz.f142, Tryz.f161, Tryz.f139, Tryz.f140, Tryz.f141, hv, hw, hkd, hfk, hrk, rowI_len, rowC_len, List.length_reverse, List.length_map, List.take_zero, List.length_take, rowI_pur, rowI_one, mapO_nil, LF_0, runL_0, List.length_replicate, LF_len, Int.reduceEq, maxLen]; try exact True.intro)); (focus (simp (maxSteps := 2000000) only [go_sem, reduceIte, reduceCtorEq, xA, xL, xD, xE, xM, xS, xB, Tryz.f32, Tryz.f144, Tryz.f67, Tryz.f108, Tryz.f109, Tryz.f68, Tryz.f111, Tryz.f110, Tryz.f142, Tryz.f161, Tryz.f139, Tryz.f140, Tryz.f141, hv, hw, hkd, hfk, hrk, rowI_len, rowC_len, List.length_reverse, List.length_map, List.take_zero, List.length_take, rowI_pur, rowI_one, mapO_nil, LF_0, runL_0, List.length_replicate, LF_len, Int.reduceEq, maxLen]; try exact True.intro)); simp only [Tryz.ntmps144, List.map_cons, List.map_nil, LV.tv, argEnv, yV, Nat.zero_add, Nat.reduceAdd]; clear hlne)
 | (with_reducible refine AW_eq (by assumption) ?_)
 | (first
 | (with_reducible first | refine aP 0 [0,1,7] ?_ | refine aP 1 [0,1,2,3,4,5,7] ?_ | refine aP (ops := #[⟨some 19, _, _, _, _, _⟩, _]) 2 [7,9,10] ?_ | refine aP (ops := #[⟨some 8, _, _, _, _, _⟩, _, _]) 2 [0,5] ?_ | refine aP (ops := #[⟨some 7, _, _, _, _, _⟩, _, _]) 2 [0,3] ?_ | refine aP (ops := #[⟨some 6, _, _, _, _, _⟩, _, _, _, _]) 2 [0,3] ?_ | refine aP (ops := #[⟨some 6, _, _, _, _, _⟩, _]) 2 [3] ?_ | refine aP (ops := #[⟨some 5, _, _, _, _, _⟩]) 2 [2,7] ?_ | refine aP (ops := #[⟨some 15, _, _, _, _, _⟩]) 2 [0,3,4,7] ?_ | refine aP (ops := #[⟨some 15, _, _, _, _, _⟩, _]) 2 [0,3,4,6,7] ?_ | refine aP (ops := #[⟨some 18, _, _, _, _, _⟩, _]) 2 [0,3,4,6,7] ?_ | refine aP (ops := #[⟨some 21, _, _, _, _, _⟩, _, _, _, _]) 3 [9,10] ?_ | refine aP (ops := #[⟨some 10, _, _, _, _, _⟩, _, _, _]) 3 [0,3,5] ?_ | refine aP (ops := #[⟨some 23, _, _, _, _, _⟩, _, _]) 3 [0,1] ?_ | refine aP (ops := #[⟨some 10, _, _, _, _, _⟩]) 3 [3,7,8,9] ?_ | refine aP (ops := #[⟨some 11, _, _, _, _, _⟩]) 3 [0,3,8,9,10] ?_ | refine aP (ops := #[⟨some 8, _, _, _, _, _⟩, _]) 3 [3] ?_ | refine aP (ops := #[⟨some 8, _, _, _, _, _⟩, _, _, _, _]) 3 [2,5,7] ?_ | refine aP (ops := #[⟨some 16, _, _, _, _, _⟩, _, _]) 3 [4] ?_ | refine aP (ops := #[⟨some 17, _, _, _, _, _⟩, _, _]) 3 [4] ?_ | refine aP (ops := #[⟨some 20, _, _, _, _, _⟩, _, _]) 3 [4] ?_ | refine aP (ops := #[⟨some 23, _, _, _, _, _⟩, _, _, _, _, _, _]) 4 [7,9,10] ?_ | refine aP (ops := #[⟨some 25, _, _, _, _, _⟩, _, _]) 4 [1,8] ?_ | refine aP (ops := #[⟨some 11, _, _, _, _, _⟩, _, _, _]) 4 [3,7,8,9] ?_ | refine aP (ops := #[⟨some 12, _, _, _, _, _⟩, _, _]) 4 [0,3,8,9,10] ?_ | refine aP (ops := #[⟨some 12, _, _, _, _, _⟩, _]) 4 [2] ?_ | refine aP (ops := #[⟨some 17, _, _, _, _, _⟩, _, _]) 4 [0,3,4] ?_ | refine aP (ops := #[⟨some 18, _, _, _, _, _⟩, _, _, _]) 4 [0,3,4,6] ?_ | refine aP (ops := #[⟨some 22, _, _, _, _, _⟩, _, _, _, _, _, _, _, _, _, _, _]) 4 [0,3,4,6] ?_ | refine aP (ops := #[⟨some 10, _, _, _, _, _⟩]) 5 [1,8,9] ?_ | refine aP (ops := #[⟨some 13, _, _, _, _, _⟩, _, _, _, _]) 5 [3,5,7,8,9] ?_ | refine aP (ops := #[⟨some 14, _, _, _, _, _⟩, _, _, _, _, _, _]) 5 [0,3,5,8,9,10] ?_ | refine aP (ops := #[⟨some 20, _, _, _, _, _⟩, _, _]) 5 [4] ?_ | refine aP (ops := #[⟨some 21, _, _, _, _, _⟩, _, _, _, _, _]) 5 [3,4,6] ?_ | refine aP (ops := #[⟨some 28, _, _, _, _, _⟩, _]) 5 [0,3,4,8,9,10] ?_ | refine aP (ops := #[⟨some 27, _, _, _, _, _⟩, _, _]) 6 [1,8,9,10] ?_ | refine aP (ops := #[⟨some 17, _, _, _, _, _⟩, _]) 6 [3,7,8,9] ?_ | refine aP (ops := #[⟨some 20, _, _, _, _, _⟩, _]) 6 [0,3,8,9,10] ?_ | refine aP (ops := #[⟨some 21, _, _, _, _, _⟩, _, _, _, _, _]) 6 [0,3,4] ?_ | refine aP (ops := #[⟨some 30, _, _, _, _, _⟩, _, _, _]) 6 [4,10] ?_ | refine aP (ops := #[⟨some 30, _, _, _, _, _⟩]) 7 [8,9,10,27,28,29] ?_ | refine aP (ops := #[⟨some 18, _, _, _, _, _⟩, _]) 7 [3] ?_ | refine aP (ops := #[⟨some 21, _, _, _, _, _⟩, _]) 7 [3] ?_ | refine aP (ops := #[⟨some 26, _, _, _, _, _⟩, _, _, _, _]) 7 [3,4] ?_ | refine aP (ops := #[⟨some 32, _, _, _, _, _⟩, _, _, _, _]) 7 [0,3,4,8,9] ?_ | refine aP (ops := #[⟨some 31, _, _, _, _, _⟩, _, _, _, _, _]) 8 [8,9,10,27,28,29] ?_ | refine aP (ops := #[⟨some 36, _, _, _, _, _⟩, _, _]) 8 [4,9] ?_ | refine aP 9 [8,9,10,11,12,27,28,29] ?_ | refine aP 10 [8,9,10,11,13,14,27,28,29] ?_ | refine aP 11 [11,14] ?_ | refine aP 12 [8,9,10,13,27,28,29] ?_ | refine aP 13 [8,9,10,27,28,29] ?_ | refine aP 14 [8,10] ?_))
 | ((with_reducible show AW _ (Code.loop _) _ _); first
 | ((with_reducible refine aL (c := (Code.seq (Code.region 7 _ _) _)) (ι := Nat) [8,9,27,28] (fun i => [(10, .t (.one (.slc 2 0 i 16))), (29, iA .i64 (i : Int))]) (fun i => [(0, [.mi none (runL (LF f n) o i).length (mapO (runL (LF f n) o i))]), (2, List.replicate (i * 16) .any)]) (fun i => i ≤ k ∧ (∀ j, j < i → (doL (runL (LF f n) o j) (o j)).1 = 0)) (fun i => k - i) 0 ?lg7 ?l17 ?l27 ?li7 ?lr7); (case' lg7 => rintro i _); (case' li7 => try (exact ⟨Nat.zero_le _, fun i hi => absurd hi (Nat.not_lt_zero _)⟩)); (case' lr7 => rintro i ⟨hi, hai⟩ KR hR7; simp only [keepE, hupd, hset, lk, if_true, if_false, xE, reduceIte, zN, hv, hw, hkd, hfk, hrk, rowI_len, rowC_len, List.length_reverse, List.length_map, List.take_zero, List.length_take, rowI_pur, rowI_one, mapO_nil, LF_0, runL_0, List.length_replicate, LF_len, Int.reduceEq, maxLen]))
 | (((with_reducible refine AW_dd ?_); simp only [ddG, ddE, List.contains_cons, List.contains_nil, Nat.reduceBEq, Bool.or_false, Bool.false_or, Bool.or_true, Bool.true_or, if_true, if_false, Bool.false_eq_true, reduceIte]; with_reducible refine aL (c := (Code.seq (Code.region 1 _ _) _)) (ι := List Int) [0,5] (fun ks => []) (fun ks => [(1, []), (2, []), (4, [.slc 6 0 ks.length 1]), (6, rowI ks.reverse), (5, [.mt 0 cc (fun q => q ∈ ks) ks.head?])]) (fun ks => ks.Nodup ∧ ∀ x, x ∈ ks → mapO (runL (LF f n) o k) x ≠ none) (fun ks => (runL (LF f n) o k).length - ks.length) [] ?lg1 ?l11 ?l21 ?li1 ?lr1); (case' lg1 => rintro ks _); (case' li1 => try (exact ⟨List.nodup_nil, fun x h => absurd h (List.not_mem_nil)⟩)); (case' lr1 => rintro ks ⟨hnd, hks⟩ KR hR1; simp only [keepE, hupd, hset, lk, if_true, if_false, xE, reduceIte, zN, hv, hw, hkd, hfk, hrk, rowI_len, rowC_len, List.length_reverse, List.length_map, List.take_zero, List.length_take, rowI_pur, rowI_one, mapO_nil, LF_0, runL_0, List.length_replicate, LF_len, Int.reduceEq, maxLen]))))
 | ((first | (with_reducible refine And.intro ?_ ?_) | (with_reducible refine Need.mk ?_)); focus (first | exact True.intro | omega | (intro _; exact True.intro)))
 | (with_reducible refine retK_n ?_)
 | ((with_reducible show condN _ _ _ _ _ _); first
 | ((with_reducible refine condN_t ?_ ?_) <;> (intro hc; (try simp only [zB, zC, reduceCtorEq] at hc); ((try (clear mk0; have e9 : k = i := (by omega); subst e9; have hgk := good_run hG hops k (Nat.le_refl k); have hgn := hgk.n)); (try (clear mk3; have hv8 := keys_eq hgk.a hnd hks hall; have hrk := rowI_ids (L := (runL (LF f n) o k)) (v := v) (by omega); have hfk := mapO_s (idx_mem hgk.a (getD_mem (L := (runL (LF f n) o k)) (v := v) (by omega))))); (try (have e0 : n = u := (by omega); subst e0)); (try (clear mk0; have hO := hops i (by omega); have hg := good_run hG hops i (by omega); clear hkd hfk; rcases op_kd hO with e5 | e5 | e5 | e5 | e5 <;> rcases hq : idx (runL (LF f n) o i) (o i).id with _ | g; all_goals (first | (have hkd := kd_1 e5) | (have hkd := kd_2 e5) | (have hkd := kd_3 e5) | (have hkd := kd_4 e5) | (have hkd := kd_5 e5)); all_goals (first | (have hfk := mapO_n hq) | (have hfk := mapO_s hq; have hgk := feat_ok (hg.f _ (idx_some hq).1)))))); (try (exfalso; contradiction)))))
 | ((with_reducible show callN _ _ _ _ _ _ _ _ _ _); first
 | (refine callN_q (k := 71) fnok_71 (flist_p n f hn hf) ?_ ?_)
 | (refine callN_q (k := 160) fnok_160 (changed_3 g (o i) hgk (ho i (by omega)) e5) ?_ ?_)
 | (refine callN_q (k := 160) fnok_160 (changed_4 g (o i) hgk (ho i (by omega)) e5) ?_ ?_)
 | (refine callN_q (k := 160) fnok_160 (changed_5 g (o i) hgk (ho i (by omega)) e5) ?_ ?_)
 | (refine callN_hpq (k := 143) fnok_143 (sort_k (good_run hG hops k (Nat.le_refl k)).a (good_run hG hops k (Nat.le_refl k)).n hnd hks hall 6 rfl) ?_ ?_)
 | ((refine callN_i (k := 67) Tryz.func67 rfl fnok_67 (by rw [Tryz.ntmps67]; simp) ?_ ?_ (fun K hK => ?_)); (focus (exact True.intro)); (focus ((simp [lsF]; done))); simp only [Tryz.ntmps67, List.map_cons, List.map_nil, List.nil_append, List.cons_append, List.append_nil, LV.tv, argEnv, Nat.zero_add, Nat.reduceAdd])
 | ((refine callN_i (k := 108) Tryz.func108 rfl fnok_108 (by rw [Tryz.ntmps108]; simp) ?_ ?_ (fun K hK => ?_)); (focus (exact True.intro)); (focus ((simp [lsF]; done))); simp only [Tryz.ntmps108, List.map_cons, List.map_nil, List.nil_append, List.cons_append, List.append_nil, LV.tv, argEnv, Nat.zero_add, Nat.reduceAdd])
 | ((refine callN_i (k := 109) Tryz.func109 rfl fnok_109 (by rw [Tryz.ntmps109]; simp) ?_ ?_ (fun K hK => ?_)); (focus (exact True.intro)); (focus ((simp [lsF]; done))); simp only [Tryz.ntmps109, List.map_cons, List.map_nil, List.nil_append, List.cons_append, List.append_nil, LV.tv, argEnv, Nat.zero_add, Nat.reduceAdd])
 | ((refine callN_i (k := 68) Tryz.func68 rfl fnok_68 (by rw [Tryz.ntmps68]; simp) ?_ ?_ (fun K hK => ?_)); (focus (exact True.intro)); (focus ((simp [lsF]; done))); simp only [Tryz.ntmps68, List.map_cons, List.map_nil, List.nil_append, List.cons_append, List.append_nil, LV.tv, argEnv, Nat.zero_add, Nat.reduceAdd])
 | ((refine callN_i (k := 111) Tryz.func111 rfl fnok_111 (by rw [Tryz.ntmps111]; simp) ?_ ?_ (fun K hK => ?_)); (focus (exact True.intro)); (focus ((simp [lsF]; done))); simp only [Tryz.ntmps111, List.map_cons, List.map_nil, List.nil_append, List.cons_append, List.append_nil, LV.tv, argEnv, Nat.zero_add, Nat.reduceAdd])
 | ((refine callN_i (k := 110) Tryz.func110 rfl fnok_110 (by rw [Tryz.ntmps110]; simp) ?_ ?_ (fun K hK => ?_)); (focus (exact True.intro)); (focus ((simp [lsF]; done))); simp only [Tryz.ntmps110, List.map_cons, List.map_nil, List.nil_append, List.cons_append, List.append_nil, LV.tv, argEnv, Nat.zero_add, Nat.reduceAdd])
 | ((refine callN_i (k := 142) Tryz.func142 rfl fnok_142 (by rw [Tryz.ntmps142]; simp) ?_ ?_ (fun K hK => ?_)); (focus (exact True.intro)); (focus ((simp [lsF]; done))); simp only [Tryz.ntmps142, List.map_cons, List.map_nil, List.nil_append, List.cons_append, List.append_nil, LV.tv, argEnv, Nat.zero_add, Nat.reduceAdd])
 | ((refine callN_i (k := 161) Tryz.func161 rfl fnok_161 (by rw [Tryz.ntmps161]; simp) ?_ ?_ (fun K hK => ?_)); (focus (exact True.intro)); (focus ((simp [lsF]; done))); simp only [Tryz.ntmps161, List.map_cons, List.map_nil, List.nil_append, List.cons_append, List.append_nil, LV.tv, argEnv, Nat.zero_add, Nat.reduceAdd])
 | ((refine callN_ic (k := 139) Tryz.func139 rfl fnok_139 (by rw [Tryz.ntmps139]; simp) ?_ ?_ (fun K hK => ?_)); (focus (exact True.intro)); (focus ((simp [lsF]; done))); simp only [Tryz.ntmps139, List.map_cons, List.map_nil, List.nil_append, List.cons_append, List.append_nil, LV.tv, argEnv, Nat.zero_add, Nat.reduceAdd])
 | ((refine callN_ic (k := 140) Tryz.func140 rfl fnok_140 (by rw [Tryz.ntmps140]; simp) ?_ ?_ (fun K hK => ?_)); (focus (exact True.intro)); (focus ((simp [lsF]; done))); simp only [Tryz.ntmps140, List.map_cons, List.map_nil, List.nil_append, List.cons_append, List.append_nil, LV.tv, argEnv, Nat.zero_add, Nat.reduceAdd])
 | ((refine callN_ic (k := 141) Tryz.func141 rfl fnok_141 (by rw [Tryz.ntmps141]; simp) ?_ ?_ (fun K hK => ?_)); (focus (exact True.intro)); (focus ((simp [lsF]; done))); simp only [Tryz.ntmps141, List.map_cons, List.map_nil, List.nil_append, List.cons_append, List.append_nil, LV.tv, argEnv, Nat.zero_add, Nat.reduceAdd]))
 | ((with_reducible show callGN _ _ _ _ _ _ _ _ _ _); first
 | (refine callGN_q (k := 107) fnok_107 (fun hg => pvalid_p k o hk ho) ?_ ?_))
 | (((with_reducible show AW _ (Code.loop (Code.seq (Code.region 3 #[⟨some 10, _, _, _, _, _⟩] _) _)) _ _); with_reducible refine aL (c := (Code.seq (Code.region 3 _ _) _)) (ι := Nat) [3,7,8] (fun u => [(9, iA .i64 (u : Int))]) (fun u => [(0, [.mi none u (mapO (LF f u))])]) (fun u => u ≤ n) (fun u => n - u) 0 ?lg3 ?l13 ?l23 ?li3 ?lr3); (case' lg3 => rintro u _); (case' li3 => try (omega)); (case' lr3 => rintro u hu KR hR3; simp only [keepE, hupd, hset, lk, if_true, if_false, xE, reduceIte, zN, hv, hw, hkd, hfk, hrk, rowI_len, rowC_len, List.length_reverse, List.length_map, List.take_zero, List.length_take, rowI_pur, rowI_one, mapO_nil, LF_0, runL_0, List.length_replicate, LF_len, Int.reduceEq, maxLen]))
 | ((with_reducible refine hR3 _ (u + 1) ?_); (try clear hR3 KR))
 | ((with_reducible refine hR7 _ (i + 1) ?_); (try clear hR7 KR))
 | ((with_reducible refine hR1 _ (kk :: ks) ?_); (try clear hR1 KR))
 | (((with_reducible show AW _ (Code.loop (Code.seq (Code.region 3 #[⟨some 11, _, _, _, _, _⟩] _) _)) _ _); with_reducible refine aL (c := (Code.seq (Code.region 3 _ _) _)) (ι := Nat) [0,8,9] (fun v => [(3, .t (.one (.slc 7 0 v 9))), (10, iA .i64 (v : Int))]) (fun v => [(7, rowC ((runL (LF f n) o k).take v))]) (fun v => v ≤ (runL (LF f n) o k).length) (fun v => (runL (LF f n) o k).length - v) 0 ?lg3b ?l13b ?l23b ?li3b ?lr3b); (case' lg3b => rintro v _); (case' li3b => try (omega)); (case' lr3b => rintro v hv9 KR hR3b; simp only [keepE, hupd, hset, lk, if_true, if_false, xE, reduceIte, zN, hv, hw, hkd, hfk, hrk, rowI_len, rowC_len, List.length_reverse, List.length_map, List.take_zero, List.length_take, rowI_pur, rowI_one, mapO_nil, LF_0, runL_0, List.length_replicate, LF_len, Int.reduceEq, maxLen]))
 | ((with_reducible refine hR3b _ (v + 1) ?_); (try clear hR3b KR))
 | ((with_reducible refine Told.mk ?_); simp only [go_sem, reduceIte, reduceCtorEq, xA, xL, xD, xE, xM, xS, xB, hv, hw, hkd, hfk, hrk, rowI_len, rowC_len, List.length_reverse, List.length_map, List.take_zero, List.length_take, rowI_pur, rowI_one, mapO_nil, LF_0, runL_0, List.length_replicate, LF_len, Int.reduceEq, maxLen] <;> (first | (((try simp (disch := omega) only [seaWrap, Int.natCast_add, Int.cast_ofNat_Int, and_true, true_and, and_self]); (repeat' (first | omega | rfl | (with_reducible refine And.intro ?_ ?_) | ((exact Or.inr ⟨(LF_mput hrs (by omega)).2, fun k => by rw [(LF_mput hrs (by omega)).1]; exact oeqv_rf _⟩)))); done)) | (((try simp (disch := omega) only [seaWrap, Int.natCast_add, Int.cast_ofNat_Int, and_true, true_and, and_self]); (repeat' (first | omega | rfl | (with_reducible refine And.intro ?_ ?_) | ((exact wkC_any _ _ (by simp; omega))) | ((exact Or.inr ⟨(ins_mi hg hO e5 hq (by omega)).2.1, fun k => by rw [(ins_mi hg hO e5 hq (by omega)).2.2]; exact oeqv_rf _⟩)) | ((exact all_succ (by assumption) (ins_mi hg hO e5 hq (by omega)).1)) | ((exact Or.inr ⟨(rem_mi hg e5 hq).2.1, fun k => by rw [(rem_mi hg e5 hq).2.2]; exact oeqv_rf _⟩)) | ((exact all_succ (by assumption) (rem_mi hg e5 hq).1)) | ((exact Or.inr ⟨(chg_mi hg (by omega) hq (by assumption)).2.1, fun k => by rw [(chg_mi hg (by omega) hq (by assumption)).2.2]; exact oeqv_rf _⟩)) | ((exact all_succ (by assumption) (chg_mi hg (by omega) hq (by assumption)).1)))); done)) | (((try simp (disch := omega) only [seaWrap, Int.natCast_add, Int.cast_ofNat_Int, and_true, true_and, and_self]); (repeat' (first | omega | rfl | (with_reducible refine And.intro ?_ ?_) | ((exact hkm.1)) | ((exact fun e => by rw [hyy] at e; cases e)) | ((exact wkC_eq rfl (rowI_iv _))))); done)) | (((try simp (disch := omega) only [seaWrap, Int.natCast_add, Int.cast_ofNat_Int, and_true, true_and, and_self]); (repeat' (first | omega | (with_reducible refine And.intro ?_ ?_) | ((exact wkC_eq rfl (rowI_iv _))) | ((rw [rowC_one (by omega)]; exact wkC_eq rfl (rowC_iv _))))); done))))
 | ((with_reducible show callK _ _ (Oper.mk _ (Op.range _ _) _ _ _ _) _ _ _); refine callK_range (by exact mp_106) (by simp (maxSteps := 2000000) only [go_sem, reduceIte, reduceCtorEq, xA, xL, xD, xE, xM, xS, xB, Tryz.f32, Tryz.f144, Tryz.f67, Tryz.f108, Tryz.f109, Tryz.f68, Tryz.f111, Tryz.f110, Tryz.f142, Tryz.f161, Tryz.f139, Tryz.f140, Tryz.f141, hv, hw, hkd, hfk, hrk, rowI_len, rowC_len, List.length_reverse, List.length_map, List.take_zero, List.length_take, rowI_pur, rowI_one, mapO_nil, LF_0, runL_0, List.length_replicate, LF_len, Int.reduceEq, maxLen]; rfl) (by simp (maxSteps := 2000000) only [go_sem, reduceIte, reduceCtorEq, xA, xL, xD, xE, xM, xS, xB, Tryz.f32, Tryz.f144, Tryz.f67, Tryz.f108, Tryz.f109, Tryz.f68, Tryz.f111, Tryz.f110, Tryz.f142, Tryz.f161, Tryz.f139, Tryz.f140, Tryz.f141, hv, hw, hkd, hfk, hrk, rowI_len, rowC_len, List.length_reverse, List.length_map, List.take_zero, List.length_take, rowI_pur, rowI_one, mapO_nil, LF_0, runL_0, List.length_replicate, LF_len, Int.reduceEq, maxLen]; rfl) (fun cc => ?_))
 | ((with_reducible show callK _ _ (Oper.mk _ (Op.next _ _) _ _ _ _) _ _ _); refine callK_next (by simp (maxSteps := 2000000) only [go_sem, reduceIte, reduceCtorEq, xA, xL, xD, xE, xM, xS, xB, Tryz.f32, Tryz.f144, Tryz.f67, Tryz.f108, Tryz.f109, Tryz.f68, Tryz.f111, Tryz.f110, Tryz.f142, Tryz.f161, Tryz.f139, Tryz.f140, Tryz.f141, hv, hw, hkd, hfk, hrk, rowI_len, rowC_len, List.length_reverse, List.length_map, List.take_zero, List.length_take, rowI_pur, rowI_one, mapO_nil, LF_0, runL_0, List.length_replicate, LF_len, Int.reduceEq, maxLen]; rfl) (by simp (maxSteps := 2000000) only [go_sem, reduceIte, reduceCtorEq, xA, xL, xD, xE, xM, xS, xB, Tryz.f32, Tryz.f144, Tryz.f67, Tryz.f108, Tryz.f109, Tryz.f68, Tryz.f111, Tryz.f110, Tryz.f142, Tryz.f161, Tryz.f139, Tryz.f140, Tryz.f141, hv, hw, hkd, hfk, hrk, rowI_len, rowC_len, List.length_reverse, List.length_map, List.take_zero, List.length_take, rowI_pur, rowI_one, mapO_nil, LF_0, runL_0, List.length_replicate, LF_len, Int.reduceEq, maxLen]; rfl) (by simp (maxSteps := 2000000) only [go_sem, reduceIte, reduceCtorEq, xA, xL, xD, xE, xM, xS, xB, Tryz.f32, Tryz.f144, Tryz.f67, Tryz.f108, Tryz.f109, Tryz.f68, Tryz.f111, Tryz.f110, Tryz.f142, Tryz.f161, Tryz.f139, Tryz.f140, Tryz.f141, hv, hw, hkd, hfk, hrk, rowI_len, rowC_len, List.length_reverse, List.length_map, List.take_zero, List.length_take, rowI_pur, rowI_one, mapO_nil, LF_0, runL_0, List.length_replicate, LF_len, Int.reduceEq, maxLen]; rfl) (fun hall => ?_) (fun kk yy hyy hnn => ?_))
 | ((with_reducible show callK _ _ (Oper.mk _ (Op.entry _) _ _ _ _) _ _ _); refine callK_entry (by simp (maxSteps := 2000000) only [go_sem, reduceIte, reduceCtorEq, xA, xL, xD, xE, xM, xS, xB, Tryz.f32, Tryz.f144, Tryz.f67, Tryz.f108, Tryz.f109, Tryz.f68, Tryz.f111, Tryz.f110, Tryz.f142, Tryz.f161, Tryz.f139, Tryz.f140, Tryz.f141, hv, hw, hkd, hfk, hrk, rowI_len, rowC_len, List.length_reverse, List.length_map, List.take_zero, List.length_take, rowI_pur, rowI_one, mapO_nil, LF_0, runL_0, List.length_replicate, LF_len, Int.reduceEq, maxLen]; rfl) (by simp (maxSteps := 2000000) only [go_sem, reduceIte, reduceCtorEq, xA, xL, xD, xE, xM, xS, xB, Tryz.f32, Tryz.f144, Tryz.f67, Tryz.f108, Tryz.f109, Tryz.f68, Tryz.f111, Tryz.f110, Tryz.f142, Tryz.f161, Tryz.f139, Tryz.f140, Tryz.f141, hv, hw, hkd, hfk, hrk, rowI_len, rowC_len, List.length_reverse, List.length_map, List.take_zero, List.length_take, rowI_pur, rowI_one, mapO_nil, LF_0, runL_0, List.length_replicate, LF_len, Int.reduceEq, maxLen]; rfl) (by simp (maxSteps := 2000000) only [go_sem, reduceIte, reduceCtorEq, xA, xL, xD, xE, xM, xS, xB, Tryz.f32, Tryz.f144, Tryz.f67, Tryz.f108, Tryz.f109, Tryz.f68, Tryz.f111, Tryz.f110, Tryz.f142, Tryz.f161, Tryz.f139, Tryz.f140, Tryz.f141, hv, hw, hkd, hfk, hrk, rowI_len, rowC_len, List.length_reverse, List.length_map, List.take_zero, List.length_take, rowI_pur, rowI_one, mapO_nil, LF_0, runL_0, List.length_replicate, LF_len, Int.reduceEq, maxLen]; rfl) (by ((intros; simp_all; done))) (fun yy hyy => ?_))
 | ((fail_if_success (with_reducible show AW _ _ _ _)); simp (maxSteps := 2000000) only [go_sem, reduceIte, reduceCtorEq, xA, xL, xD, xE, xM, xS, xB, Tryz.f32, Tryz.f144, Tryz.f67, Tryz.f108, Tryz.f109, Tryz.f68, Tryz.f111, Tryz.f110, Tryz.f142, Tryz.f161, Tryz.f139, Tryz.f140, Tryz.f141, hv, hw, hkd, hfk, hrk, rowI_len, rowC_len, List.length_reverse, List.length_map, List.take_zero, List.length_take, rowI_pur, rowI_one, mapO_nil, LF_0, runL_0, List.length_replicate, LF_len, Int.reduceEq, maxLen])
 | ((with_reducible show callN _ _ _ _ _ _ (.yld _) _ _ _); (refine callN_y (by simp only [lkL, if_true]; exact rfl) ?_ (by simp) ?_ ?_ (fun K hK => ?_)); (focus (exact True.intro)); (focus (simp [ltAll])); (focus ((simp [lsF]; done))); simp only [zipPut, gf, if_true, Nat.reduceAdd])
 | ((with_reducible refine hK _ ?_); clear hK K)
 | (with_reducible apply_assumption -exfalso only [*]))
  all_goals ((have h8 := keys_eq (good_run hG hops k (Nat.le_refl k)).a hnd hks hall; have e7 : v = (runL (LF f n) o k).length := (by omega); subst e7; rw [List.take_length]; have h7 := ap_ok hv hw (Int.le_refl _) hai; refine ⟨⟨by omega, fun c hc9 => (by have := rowC_iv _ c hc9; cases c <;> trivial)⟩, ⟨h7.1, fun i q hi hq => rowC_eqv (runL (LF f n) o k) i q hi hq⟩, h7.2⟩))
theorem Apply_f (n : Nat) (f : Nat → Feat) (k : Nat) (o : Nat → OpS) (hn : n ≤ 9223372036854775807) (hf : ∀ i, i < n → (f i).Ok) (hk : k ≤ 9223372036854775807) (ho : ∀ i, i < k → (o i).f.Ok) (hv : feaB n f = false) : CallsP Tryz.prog 32 [.one (.lst 9 n (featF f)), .one (.lst 16 k (oprF o))] (.tup [.one (.lst 9 (apN n f k o) (featF (apF n f k o))), .one (.g (.int .i64 (apI n f k o))), .one (.g (.int .i64 (apE n f k o)))]) := by
  refine CallsP_of Tryz.func32 rfl (by rw [Tryz.ntmps32]; simp) ?_
  simp only [Tryz.ntmps32, zM, PT.tv, argEnv, Nat.zero_add, Nat.reduceAdd]
  repeat' (first
 | ((with_reducible show AW _ _ _ _); first
 | (with_reducible first | refine aS (fun K hK => ?_) | refine aT ?_ | refine aC ?_)
 | (first
 | (with_reducible first | refine aP (ops := #[⟨some 4, _, _, _, _, _⟩, _, _]) 0 [0,1] ?_ | refine aP (ops := #[⟨some 4, _, _, _, _, _⟩, _, _, _]) 0 [0,1] ?_ | refine aP (ops := #[⟨some 12, _, _, _, _, _⟩, _, _, _, _, _, _, _, _, _, _, _]) 1 [0,1] ?_ | refine aP (ops := #[⟨some 15, _, _, _, _, _⟩, _, _, _, _, _, _, _]) 1 [0,1] ?_ | refine aP (ops := #[⟨some 19, _, _, _, _, _⟩, _]) 2 [7,9,10] ?_ | refine aP (ops := #[⟨some 4, _, _, _, _, _⟩, _, _, _]) 2 [] ?_ | refine aP (ops := #[⟨some 21, _, _, _, _, _⟩, _, _, _, _]) 3 [9,10] ?_)))
 | ((first | (with_reducible refine And.intro ?_ ?_) | (with_reducible refine Need.mk ?_)); focus (first | exact True.intro | (simp; done)))
 | (with_reducible refine retK_n ?_)
 | ((with_reducible show condN _ _ _ _ _ _); first
 | ((with_reducible refine condN_t ?_ ?_) <;> (intro hc; (try simp only [zB, zC, reduceCtorEq] at hc); (try (exfalso; contradiction)))))
 | ((with_reducible show callN _ _ _ _ _ _ _ _ _ _); first
 | (refine callN_q (k := 71) fnok_71 (flist_p n f hn hf) ?_ ?_)
 | ((refine callN_i (k := 67) Tryz.func67 rfl fnok_67 (by rw [Tryz.ntmps67]; simp) ?_ ?_ (fun K hK => ?_)); (focus (exact True.intro)); (focus ((simp [lsF]; done))); simp only [Tryz.ntmps67, List.map_cons, List.map_nil, List.nil_append, List.cons_append, List.append_nil, LV.tv, argEnv, Nat.zero_add, Nat.reduceAdd]))
 | ((with_reducible show callGN _ _ _ _ _ _ _ _ _ _); first
 | (refine callGN_q (k := 107) fnok_107 (fun hg => pvalid_p k o hk ho) ?_ ?_))
 | ((fail_if_success (with_reducible show AW _ _ _ _)); simp (maxSteps := 2000000) only [go_sem, reduceIte, reduceCtorEq, xA, xL, xD, xE, xM, xS, xB, Tryz.f32, Tryz.f67, hv])
 | ((with_reducible refine hK _ ?_); clear hK K)
 | (with_reducible apply_assumption -exfalso only [*]))
  all_goals (exact ap_bad (by unfold apV; rw [hv]; rfl))
theorem Apply_g (n : Nat) (f : Nat → Feat) (k : Nat) (o : Nat → OpS) (hn : n ≤ 9223372036854775807) (hf : ∀ i, i < n → (f i).Ok) (hk : k ≤ 9223372036854775807) (ho : ∀ i, i < k → (o i).f.Ok) (hv : feaB n f = true) (hw : opsB k o = false) : CallsP Tryz.prog 32 [.one (.lst 9 n (featF f)), .one (.lst 16 k (oprF o))] (.tup [.one (.lst 9 (apN n f k o) (featF (apF n f k o))), .one (.g (.int .i64 (apI n f k o))), .one (.g (.int .i64 (apE n f k o)))]) := by
  refine CallsP_of Tryz.func32 rfl (by rw [Tryz.ntmps32]; simp) ?_
  simp only [Tryz.ntmps32, zM, PT.tv, argEnv, Nat.zero_add, Nat.reduceAdd]
  repeat' (first
 | ((with_reducible show AW _ _ _ _); first
 | (with_reducible first | refine aS (fun K hK => ?_) | refine aT ?_ | refine aC ?_)
 | (first
 | (with_reducible first | refine aP (ops := #[⟨some 4, _, _, _, _, _⟩, _, _]) 0 [0,1] ?_ | refine aP (ops := #[⟨some 4, _, _, _, _, _⟩, _, _, _]) 0 [0,1] ?_ | refine aP (ops := #[⟨some 12, _, _, _, _, _⟩, _, _, _, _, _, _, _, _, _, _, _]) 1 [0,1] ?_ | refine aP (ops := #[⟨some 15, _, _, _, _, _⟩, _, _, _, _, _, _, _]) 1 [0,1] ?_ | refine aP (ops := #[⟨some 19, _, _, _, _, _⟩, _]) 2 [7,9,10] ?_ | refine aP (ops := #[⟨some 4, _, _, _, _, _⟩, _, _, _]) 2 [] ?_ | refine aP (ops := #[⟨some 21, _, _, _, _, _⟩, _, _, _, _]) 3 [9,10] ?_)))
 | ((first | (with_reducible refine And.intro ?_ ?_) | (with_reducible refine Need.mk ?_)); focus (first | exact True.intro | (intro _; exact True.intro)))
 | (with_reducible refine retK_n ?_)
 | ((with_reducible show condN _ _ _ _ _ _); first
 | ((with_reducible refine condN_t ?_ ?_) <;> (intro hc; (try simp only [zB, zC, reduceCtorEq] at hc); (try (exfalso; contradiction)))))
 | ((with_reducible show callN _ _ _ _ _ _ _ _ _ _); first
 | (refine callN_q (k := 71) fnok_71 (flist_p n f hn hf) ?_ ?_)
 | ((refine callN_i (k := 67) Tryz.func67 rfl fnok_67 (by rw [Tryz.ntmps67]; simp) ?_ ?_ (fun K hK => ?_)); (focus (exact True.intro)); (focus ((simp [lsF]; done))); simp only [Tryz.ntmps67, List.map_cons, List.map_nil, List.nil_append, List.cons_append, List.append_nil, LV.tv, argEnv, Nat.zero_add, Nat.reduceAdd]))
 | ((with_reducible show callGN _ _ _ _ _ _ _ _ _ _); first
 | (refine callGN_q (k := 107) fnok_107 (fun hg => pvalid_p k o hk ho) ?_ ?_))
 | ((fail_if_success (with_reducible show AW _ _ _ _)); simp (maxSteps := 2000000) only [go_sem, reduceIte, reduceCtorEq, xA, xL, xD, xE, xM, xS, xB, Tryz.f32, Tryz.f67, hv, hw])
 | ((with_reducible refine hK _ ?_); clear hK K)
 | (with_reducible apply_assumption -exfalso only [*]))
  all_goals (exact ap_bad (by unfold apV; rw [hv]; rw [hw]; rfl))
theorem Apply_p (n : Nat) (f : Nat → Feat) (k : Nat) (o : Nat → OpS) (hn : n ≤ 9223372036854775807) (hf : ∀ i, i < n → (f i).Ok) (hk : k ≤ 9223372036854775807) (ho : ∀ i, i < k → (o i).f.Ok) : CallsP Tryz.prog 32 [.one (.lst 9 n (featF f)), .one (.lst 16 k (oprF o))] (.tup [.one (.lst 9 (apN n f k o) (featF (apF n f k o))), .one (.g (.int .i64 (apI n f k o))), .one (.g (.int .i64 (apE n f k o)))]) := by
  cases hv : feaB n f with
  | false => exact Apply_f n f k o hn hf hk ho hv
  | true => cases hw : opsB k o with
    | false => exact Apply_g n f k o hn hf hk ho hv hw
    | true => exact Apply_t n f k o hn hf hk ho hv hw
end Go.Proofs.YtdhgiklbkmkblaaGreat
set_option maxRecDepth 100000
set_option maxHeartbeats 4000000
namespace Go.Proofs.YtdhgiklbkmkblaaGreat
open Go.RowKit Go.Sea
open Nat renaming reduceAdd → xA, reduceLT → xL, reduceLeDiff → xD, reduceEqDiff → xE, reduceMul → xM, reduceSub → xS, reduceBEq → xB
theorem fnok_129 : fnOk Tryz.prog 129 = true := by kernel_rfl
attribute [go_sem] fnok_129
theorem fstB_lt {b : Nat → Bool} : ∀ k, fstB b k < k → b (fstB b k) = true ∧ ∀ j, j < fstB b k → b j = false
  | 0, h => absurd h (Nat.not_lt_zero _)
  | k + 1, h => by
    by_cases h1 : fstB b k < k
    · have := fstB_lt k h1
      have e : fstB b (k + 1) = fstB b k := fstB_h this.1 this.2 (k + 1) (by omega)
      rw [e]; exact this
    · have e0 : fstB b k = k := by have := fstB_le b k; omega
      have hA : ∀ j, j < k → b j = false := fun j hj => by
        cases hb : b j with
        | false => rfl
        | true =>
          exfalso
          obtain ⟨m, hm, hm1, hm2⟩ : ∃ m, m ≤ j ∧ b m = true ∧ ∀ q, q < m → b q = false := by
            clear h h1 e0
            induction j using Nat.strongRecOn with
            | _ j ih =>
              by_cases hx : ∃ q, q < j ∧ b q = true
              · obtain ⟨q, hq, hq2⟩ := hx
                obtain ⟨m, h1, h2⟩ := ih q hq (by omega) hq2
                exact ⟨m, by omega, h2⟩
              · exact ⟨j, Nat.le_refl _, hb, fun q hq => by
                  cases hbq : b q with
                  | false => rfl
                  | true => exact absurd ⟨q, hq, hbq⟩ hx⟩
          have := fstB_h hm1 hm2 k (by omega)
          omega
      cases hb : b k with
      | true => rw [fstB_h hb hA (k + 1) (by omega)]; exact ⟨hb, hA⟩
      | false =>
        have : fstB b (k + 1) = k + 1 := fstB_t (k + 1) fun j hj => by
          by_cases e : j = k
          · subst e; exact hb
          · exact hA j (by omega)
        omega
end Go.Proofs.YtdhgiklbkmkblaaGreat
set_option maxRecDepth 100000
set_option maxHeartbeats 4000000
namespace Go.Proofs.YtdhgiklbkmkblaaGreat
open Go.RowKit Go.Sea
open Nat renaming reduceAdd → xA, reduceLT → xL, reduceLeDiff → xD, reduceEqDiff → xE, reduceMul → xM, reduceSub → xS, reduceBEq → xB
theorem of_23_0 : offOf Tryz.prog 23 0 = some 0 := by kernel_rfl
theorem of_23_1 : offOf Tryz.prog 23 1 = some 1 := by kernel_rfl
theorem of_23_3 : offOf Tryz.prog 23 3 = some 3 := by kernel_rfl
theorem of_23_4 : offOf Tryz.prog 23 4 = some 4 := by kernel_rfl
attribute [go_sem] of_23_0 of_23_1 of_23_3 of_23_4
theorem mul_sq {x y : Int} (hx : -2000000 ≤ x ∧ x ≤ 2000000) (hy : -2000000 ≤ y ∧ y ≤ 2000000) : -4000000000000 ≤ x * y ∧ x * y ≤ 4000000000000 := by
  have h1 : 0 ≤ (2000000 - x) * (2000000 + y) := Int.mul_nonneg (by omega) (by omega)
  have h2 : 0 ≤ (2000000 + x) * (2000000 - y) := Int.mul_nonneg (by omega) (by omega)
  have h3 : 0 ≤ (2000000 - x) * (2000000 - y) := Int.mul_nonneg (by omega) (by omega)
  have h4 : 0 ≤ (2000000 + x) * (2000000 + y) := Int.mul_nonneg (by omega) (by omega)
  simp only [Int.sub_mul, Int.mul_sub, Int.add_mul, Int.mul_add] at h1 h2 h3 h4
  generalize x * y = z at *
  omega
def eqLI (n m : Nat) (s t : Nat → Int) : Bool := decide (n = m ∧ ∀ i, i < n → s i = t i)
def eqFI (n m : Nat) (f g : Nat → Feat) : Bool := decide (n = m ∧ ∀ i, i < n → feqB (f i) (g i) = true)
theorem done_t {q : Nat} {a : Nat → Int} {i : Nat} (hi : (q : Int) ≤ i) (g : ∀ i', i' < i → aftO a 10001 i') : decide ((q : Int) ≤ 200) = doneB q a := by
  unfold doneB; exact decide_eq_decide.2 ⟨fun h => ⟨by omega, fun k hk => g k (by omega)⟩, fun h => by omega⟩
theorem done_f {q : Nat} {a : Nat → Int} {i : Nat} (hi : (i : Int) < q) (h : ¬ aftO a 10001 i) : doneB q a = false := decide_eq_false fun g => h (g.2 i (by omega))
theorem dat_m {m : DatS} (h : (-2000000 ≤ m.A ∧ m.A ≤ 2000000) ∧ (-2000000 ≤ m.B ∧ m.B ≤ 2000000) ∧ (-2000000 ≤ m.D ∧ m.D ≤ 2000000) ∧ (-2000000 ≤ m.E ∧ m.E ≤ 2000000)) : (-4000000000000 ≤ m.A * m.E ∧ m.A * m.E ≤ 4000000000000) ∧ (-4000000000000 ≤ m.B * m.D ∧ m.B * m.D ≤ 4000000000000) := ⟨mul_sq h.1 h.2.2.2, mul_sq h.2.1 h.2.2.1⟩
def seqB (a b : ShtS) : Bool := decide (a.ch = b.ch ∧ a.sc = b.sc ∧ a.ed = b.ed ∧ (a.m.A = b.m.A ∧ a.m.B = b.m.B ∧ a.m.C = b.m.C ∧ a.m.D = b.m.D ∧ a.m.E = b.m.E ∧ a.m.F = b.m.F ∧ a.m.R = b.m.R) ∧ a.cap = b.cap) && (eqLI a.q b.q a.dn b.dn && eqFI a.n b.n a.f b.f)
theorem within_p (x y : Int) : CallsP Tryz.prog 69 [.one (.g (.int .i64 x)), .one (.g (.int .i64 y))] (.t (.one (.g (.bool (decide (1 ≤ x ∧ x ≤ y)))))) := by
  refine CallsP_of Tryz.func69 rfl (by rw [Tryz.ntmps69]; simp) ?_
  simp only [Tryz.ntmps69, zM, PT.tv, argEnv, Nat.zero_add, Nat.reduceAdd]
  repeat' (first
 | ((with_reducible show AW _ _ _ _); first
 | (with_reducible first | refine aS (fun K hK => ?_) | refine aT ?_)
 | (first
 | (with_reducible first | refine aP 0 [0,1] ?_ | refine aP 1 [0,1] ?_)))
 | (with_reducible refine retK_n ?_)
 | ((fail_if_success (with_reducible show AW _ _ _ _)); simp (maxSteps := 2000000) only [go_sem, reduceIte, reduceCtorEq, xA, xL, xD, xE, xM, xS, xB, Tryz.f69])
 | ((with_reducible refine hK _ ?_); clear hK K))
  all_goals ((try refine Bool.eq_iff_iff.2 ?_); (simp only [Bool.and_eq_true, Bool.or_eq_true, Bool.not_eq_true', decide_eq_true_eq, decide_eq_false_iff_not, bne_iff_ne, beq_iff_eq, ne_eq, ge_iff_le, gt_iff_lt, cond_eq_ite, iff_self, eq_self]; done))
theorem det_p (m : DatS) (hm : (-2000000 ≤ m.A ∧ m.A ≤ 2000000) ∧ (-2000000 ≤ m.B ∧ m.B ≤ 2000000) ∧ (-2000000 ≤ m.D ∧ m.D ≤ 2000000) ∧ (-2000000 ≤ m.E ∧ m.E ≤ 2000000)) : CallsP Tryz.prog 112 [.agg [.g (.int .i64 m.A), .g (.int .i64 m.B), .g (.int .i64 m.C), .g (.int .i64 m.D), .g (.int .i64 m.E), .g (.int .i64 m.F), .g (.int .i64 m.R)]] (.t (.one (.g (.int .i64 (m.A * m.E - m.B * m.D))))) := by
  have hX := dat_m hm
  refine CallsP_of Tryz.func112 rfl (by rw [Tryz.ntmps112]; simp) ?_
  simp only [Tryz.ntmps112, zM, PT.tv, argEnv, Nat.zero_add, Nat.reduceAdd]
  repeat' (first
 | ((with_reducible show AW _ _ _ _); first
 | (with_reducible first | refine aS (fun K hK => ?_) | refine aT ?_)
 | (first
 | (with_reducible first | refine aP 0 [0] ?_ | refine aP 1 [1] ?_)))
 | (with_reducible refine retK_n ?_)
 | ((fail_if_success (with_reducible show AW _ _ _ _)); simp (maxSteps := 2000000) only [go_sem, reduceIte, reduceCtorEq, xA, xL, xD, xE, xM, xS, xB, Tryz.f112])
 | ((fail_if_success (with_reducible show AW _ _ _ _)); simp (disch := omega) only [seaWrap, seaDiv, seaMod])
 | ((with_reducible refine hK _ ?_); clear hK K))
end Go.Proofs.YtdhgiklbkmkblaaGreat
set_option maxRecDepth 100000
set_option maxHeartbeats 4000000
namespace Go.Proofs.YtdhgiklbkmkblaaGreat
open Go.RowKit Go.Sea
open Nat renaming reduceAdd → xA, reduceLT → xL, reduceLeDiff → xD, reduceEqDiff → xE, reduceMul → xM, reduceSub → xS, reduceBEq → xB
theorem fnok_112 : fnOk Tryz.prog 112 = true := by kernel_rfl
theorem fnok_126 : fnOk Tryz.prog 126 = true := by kernel_rfl
theorem fnok_127 : fnOk Tryz.prog 127 = true := by kernel_rfl
theorem fo_146 : fieldsOk Tryz.prog 146 = true := by kernel_rfl
theorem ix_146 : ixD Tryz.prog 146 = some (4, false, 1) := by kernel_rfl
theorem of_23_2 : offOf Tryz.prog 23 2 = some 2 := by kernel_rfl
theorem of_23_5 : offOf Tryz.prog 23 5 = some 5 := by kernel_rfl
theorem of_23_6 : offOf Tryz.prog 23 6 = some 6 := by kernel_rfl
theorem pl_146_0 : placeF Tryz.prog 146 0 = some (0, 1) := by kernel_rfl
theorem pl_146_1 : placeF Tryz.prog 146 1 = some (1, 1) := by kernel_rfl
theorem pl_146_2 : placeF Tryz.prog 146 2 = some (2, 1) := by kernel_rfl
theorem pl_146_3 : placeF Tryz.prog 146 3 = some (3, 1) := by kernel_rfl
theorem ty_23 : tyD Tryz.prog 23 = some (true, 7) := by kernel_rfl
theorem zc_146 : zeroC Tryz.prog 146 = some [.iv (.g (.int .i64 0)), .iv (.g (.int .i64 0)), .iv (.g (.int .i64 0)), .iv (.g (.int .i64 0))] := by kernel_rfl
attribute [go_sem] fnok_112 fnok_126 fnok_127 fo_146 ix_146 of_23_2 of_23_5 of_23_6 pl_146_0 pl_146_1 pl_146_2 pl_146_3 ty_23 zc_146
theorem eqLI_n {n m : Nat} {s t : Nat → Int} (h : (n : Int) ≠ m) : false = eqLI n m s t := (decide_eq_false fun g => by omega).symm
theorem eqLI_f {n m : Nat} {s t : Nat → Int} {i : Nat} (hi : (i : Int) < n) (h : s i ≠ t i) : false = eqLI n m s t := (decide_eq_false fun g => h (g.2 i (by omega))).symm
theorem eqLI_t {n m : Nat} {s t : Nat → Int} {i : Nat} (h : (n : Int) = m) (hi : (n : Int) ≤ i) (g : ∀ j, j < i → s j = t j) : true = eqLI n m s t := (decide_eq_true ⟨by omega, fun k hk => g k (by omega)⟩).symm
theorem eqFI_n {n m : Nat} {f g : Nat → Feat} (h : (n : Int) ≠ m) : false = eqFI n m f g := (decide_eq_false fun e => by omega).symm
theorem eqFI_f {n m : Nat} {f g : Nat → Feat} {i : Nat} (hi : (i : Int) < n) (h : feqB (f i) (g i) = false) : false = eqFI n m f g := (decide_eq_false fun e => by rw [e.2 i (by omega)] at h; cases h).symm
theorem eqFI_t {n m : Nat} {f g : Nat → Feat} {i : Nat} (h : (n : Int) = m) (hi : (n : Int) ≤ i) (ha : ∀ j, j < i → feqB (f j) (g j) = true) : true = eqFI n m f g := (decide_eq_true ⟨by omega, fun k hk => ha k (by omega)⟩).symm
def hasL (q : Nat) (a : Nat → Int) (x : Int) : Bool := decide (∃ i, i < q ∧ a i = x)
theorem hasL_f {q : Nat} {a : Nat → Int} {x : Int} {i : Nat} (hi : (q : Int) ≤ i) (g : ∀ j, j < i → a j ≠ x) : false = hasL q a x := (decide_eq_false fun ⟨j, h1, h2⟩ => g j (by omega) h2).symm
theorem hasL_t {q : Nat} {a : Nat → Int} {x : Int} {i : Nat} (hi : (i : Int) < q) (h : a i = x) : true = hasL q a x := (decide_eq_true ⟨i, by omega, h⟩).symm
theorem datB_f {m : DatS} (h : ¬ datO m) : false = datB m := (decide_eq_false h).symm
theorem dat_b {m : DatS} {b : Bool} (h : b = true ↔ datO m) : b = datB m := Bool.eq_iff_iff.2 (h.trans (decide_eq_true_iff (p := datO m)).symm)
def datV (m : DatS) (j : Nat) : Int := if j = 0 then m.A else if j = 1 then m.B else if j = 2 then m.D else m.E
def dat4 (m : DatS) (j : Nat) : Prop := -2000000 ≤ datV m j ∧ datV m j ≤ 2000000
theorem dat_all {m : DatS} {j : Nat} (h : ∀ j', j' < j → dat4 m j') (hj : 4 ≤ j) : (-2000000 ≤ m.A ∧ m.A ≤ 2000000) ∧ (-2000000 ≤ m.B ∧ m.B ≤ 2000000) ∧ (-2000000 ≤ m.D ∧ m.D ≤ 2000000) ∧ (-2000000 ≤ m.E ∧ m.E ≤ 2000000) := by
  have h0 := h 0 (by omega); have h1 := h 1 (by omega); have h2 := h 2 (by omega); have h3 := h 3 (by omega)
  simp only [dat4, datV, if_true, Nat.reduceEqDiff, if_false] at h0 h1 h2 h3
  exact ⟨by simpa using h0, by simpa using h1, by simpa using h2, by simpa using h3⟩
theorem dat_get {m : DatS} {j : Nat} (h : j < 4) : ([.iv (.g (.int .i64 m.A)), .iv (.g (.int .i64 m.B)), .iv (.g (.int .i64 m.D)), .iv (.g (.int .i64 m.E))] : List CV).getD j .any = .iv (.g (.int .i64 (datV m j))) := by
  rcases (by omega : j = 0 ∨ j = 1 ∨ j = 2 ∨ j = 3) with rfl | rfl | rfl | rfl <;> rfl
theorem dat4_n {m : DatS} {j : Nat} (h : j < 4) (hc : datV m j < -2000000 ∨ datV m j > 2000000) (g : (-2000000 ≤ m.A ∧ m.A ≤ 2000000) ∧ (-2000000 ≤ m.B ∧ m.B ≤ 2000000) ∧ (-2000000 ≤ m.D ∧ m.D ≤ 2000000) ∧ (-2000000 ≤ m.E ∧ m.E ≤ 2000000)) : False := by
  rcases (by omega : j = 0 ∨ j = 1 ∨ j = 2 ∨ j = 3) with rfl | rfl | rfl | rfl <;> simp [datV] at hc <;> omega
theorem dat_n {m : DatS} (h : ¬ ((-2000000 ≤ m.A ∧ m.A ≤ 2000000) ∧ (-2000000 ≤ m.B ∧ m.B ≤ 2000000) ∧ (-2000000 ≤ m.D ∧ m.D ≤ 2000000) ∧ (-2000000 ≤ m.E ∧ m.E ≤ 2000000))) : false = datB m := datB_f fun g => h g.1
theorem eqI_p (n m : Nat) (s t : Nat → Int) (hn : n ≤ 9223372036854775807) (hm : m ≤ 9223372036854775807) : CallsP Tryz.prog 72 [.one (.lst 1 n (intI s)), .one (.lst 1 m (intI t))] (.t (.one (.g (.bool (eqLI n m s t))))) := by
  refine CallsP_of Tryz.func72 rfl (by rw [Tryz.ntmps72]; simp) ?_
  simp only [Tryz.ntmps72, zM, PT.tv, argEnv, Nat.zero_add, Nat.reduceAdd]
  repeat' (first
 | ((with_reducible show AW _ _ _ _); first
 | (with_reducible first | refine aS (fun K hK => ?_) | refine aI ?_ | refine aX ?_ | refine aT ?_ | refine aC ?_ | refine aB ?_)
 | (first
 | (with_reducible first | refine aP 0 [0,1] ?_ | refine aP 1 [0,1] ?_ | refine aP 2 [] ?_ | refine aP 3 [0,1] ?_ | refine aP 4 [0,1,12,13] ?_ | refine aP 5 [0,1,12,13] ?_)
 | ((with_reducible refine aR (c := Code.region 6 _ true) [0,1,5,12,13] ?_); (with_reducible refine aD ?_ ?_ ?_ ?_); (focus kernel_rfl); (focus kernel_rfl); (focus kernel_rfl))
 | (with_reducible first | refine aP 7 [] ?_ | refine aP 8 [0,1,12,13] ?_ | refine aP 9 [] ?_))
 | ((with_reducible show AW _ (Code.loop _) _ _); first
 | ((with_reducible refine aL (c := (Code.seq (Code.region 4 _ _) _)) (ι := Nat) [0,1,12] (fun i => [(13, iA .i64 (i : Int))]) (fun i => []) (fun i => i ≤ n ∧ (∀ i', i' < i → s i' = t i')) (fun i => n - i) 0 ?lg4 ?l14 ?l24 ?li4 ?lr4); (case' lg4 => rintro i _); (case' li4 => try (exact ⟨Nat.zero_le _, fun i hi => absurd hi (Nat.not_lt_zero _)⟩)); (case' lr4 => rintro i ⟨hi, hai⟩ KR hR4; simp only [keepE, hupd, hset, lk, if_true, if_false, xE, reduceIte, zN]))))
 | (((with_reducible refine And.intro ?_ ?_)); focus (omega))
 | (with_reducible refine retK_n ?_)
 | ((with_reducible show condN _ _ _ _ _ _); first
 | ((with_reducible refine condN_t ?_ ?_) <;> (intro hc; (try simp only [zB, zC, reduceCtorEq] at hc); (try (exfalso; contradiction)))))
 | ((with_reducible refine And.intro ?_ ?_); focus ((with_reducible show chkR _ _ _ = true); kernel_rfl))
 | ((with_reducible refine hR4 _ (i + 1) ?_); (try clear hR4 KR))
 | ((with_reducible refine Told.mk ?_); simp only [go_sem, reduceIte, reduceCtorEq, xA, xL, xD, xE, xM, xS, xB, intI] <;> ((((try simp (disch := omega) only [seaWrap, Int.natCast_add, Int.cast_ofNat_Int, and_true, true_and, and_self]); (repeat' (first | omega | (with_reducible refine And.intro ?_ ?_) | (exact all_succ (by assumption) (by assumption)) )); done))))
 | ((fail_if_success (with_reducible show AW _ _ _ _)); simp (maxSteps := 2000000) only [go_sem, reduceIte, reduceCtorEq, xA, xL, xD, xE, xM, xS, xB, Tryz.f72, intI])
 | ((with_reducible refine hK _ ?_); clear hK K)
 | (with_reducible apply_assumption -exfalso only [*]))
  all_goals first | exact eqLI_n (by assumption) | exact eqLI_f (by assumption) hc | exact eqLI_t (by omega) (by assumption) hai | skip
theorem ints8_p (n m : Nat) (s t : Nat → Int) (hn : n ≤ 9223372036854775807) (hm : m ≤ 9223372036854775807) : CallsP Tryz.prog 48 [.one (.lst 1 n (intI s)), .one (.lst 1 m (intI t))] (.t (.one (.g (.bool (eqLI n m s t))))) := by
  refine CallsP_of Tryz.func48 rfl (by rw [Tryz.ntmps48]; simp) ?_
  simp only [Tryz.ntmps48, zM, PT.tv, argEnv, Nat.zero_add, Nat.reduceAdd]
  repeat' (first
 | ((with_reducible show AW _ _ _ _); first
 | (with_reducible first | refine aS (fun K hK => ?_) | refine aI ?_ | refine aX ?_ | refine aT ?_ | refine aC ?_ | refine aB ?_)
 | (first
 | (with_reducible first | refine aP 0 [0,1] ?_ | refine aP 1 [0,1] ?_ | refine aP 2 [] ?_ | refine aP 3 [0,1] ?_ | refine aP 4 [0,1,5] ?_ | refine aP 5 [0,1,5] ?_)
 | ((with_reducible refine aR (c := Code.region 6 _ true) [0,1,5] ?_); (with_reducible refine aD ?_ ?_ ?_ ?_); (focus kernel_rfl); (focus kernel_rfl); (focus kernel_rfl))
 | (with_reducible first | refine aP 7 [] ?_ | refine aP 8 [] ?_))
 | ((with_reducible show AW _ (Code.loop _) _ _); first
 | ((with_reducible refine aL (c := (Code.seq (Code.seq (Code.region 4 _ _) _) _)) (ι := Nat) [0,1] (fun i => [(5, iA .i64 (i : Int))]) (fun i => []) (fun i => i ≤ n ∧ (∀ i', i' < i → s i' = t i')) (fun i => n - i) 0 ?lg4 ?l14 ?l24 ?li4 ?lr4); (case' lg4 => rintro i _); (case' li4 => try (exact ⟨Nat.zero_le _, fun i hi => absurd hi (Nat.not_lt_zero _)⟩)); (case' lr4 => rintro i ⟨hi, hai⟩ KR hR4; simp only [keepE, hupd, hset, lk, if_true, if_false, xE, reduceIte, zN]))))
 | (((with_reducible refine And.intro ?_ ?_)); focus (omega))
 | (with_reducible refine retK_n ?_)
 | ((with_reducible show condN _ _ _ _ _ _); first
 | ((with_reducible refine condN_t ?_ ?_) <;> (intro hc; (try simp only [zB, zC, reduceCtorEq] at hc); (try (exfalso; contradiction)))))
 | ((with_reducible refine And.intro ?_ ?_); focus ((with_reducible show chkR _ _ _ = true); kernel_rfl))
 | ((with_reducible refine hR4 _ (i + 1) ?_); (try clear hR4 KR))
 | ((with_reducible refine Told.mk ?_); simp only [go_sem, reduceIte, reduceCtorEq, xA, xL, xD, xE, xM, xS, xB, intI] <;> ((((try simp (disch := omega) only [seaWrap, Int.natCast_add, Int.cast_ofNat_Int, and_true, true_and, and_self]); (repeat' (first | omega | (with_reducible refine And.intro ?_ ?_) | (exact all_succ (by assumption) (by assumption)) )); done))))
 | ((fail_if_success (with_reducible show AW _ _ _ _)); simp (maxSteps := 2000000) only [go_sem, reduceIte, reduceCtorEq, xA, xL, xD, xE, xM, xS, xB, Tryz.f48, intI])
 | ((with_reducible refine hK _ ?_); clear hK K)
 | (with_reducible apply_assumption -exfalso only [*]))
  all_goals first | exact eqLI_n (by assumption) | exact eqLI_f (by assumption) hc | exact eqLI_t (by omega) (by assumption) hai | skip
theorem ints18_p (n m : Nat) (s t : Nat → Int) (hn : n ≤ 9223372036854775807) (hm : m ≤ 9223372036854775807) : CallsP Tryz.prog 17 [.one (.lst 1 n (intI s)), .one (.lst 1 m (intI t))] (.t (.one (.g (.bool (eqLI n m s t))))) := by
  refine CallsP_of Tryz.func17 rfl (by rw [Tryz.ntmps17]; simp) ?_
  simp only [Tryz.ntmps17, zM, PT.tv, argEnv, Nat.zero_add, Nat.reduceAdd]
  repeat' (first
 | ((with_reducible show AW _ _ _ _); first
 | (with_reducible first | refine aS (fun K hK => ?_) | refine aI ?_ | refine aX ?_ | refine aT ?_ | refine aC ?_ | refine aB ?_)
 | (first
 | (with_reducible first | refine aP 0 [0,1] ?_ | refine aP 1 [0,1] ?_ | refine aP 2 [] ?_ | refine aP 3 [0,1] ?_ | refine aP 4 [0,1,5] ?_ | refine aP 5 [0,1,5] ?_)
 | ((with_reducible refine aR (c := Code.region 6 _ true) [0,1,5] ?_); (with_reducible refine aD ?_ ?_ ?_ ?_); (focus kernel_rfl); (focus kernel_rfl); (focus kernel_rfl))
 | (with_reducible first | refine aP 7 [] ?_ | refine aP 8 [] ?_))
 | ((with_reducible show AW _ (Code.loop _) _ _); first
 | ((with_reducible refine aL (c := (Code.seq (Code.seq (Code.region 4 _ _) _) _)) (ι := Nat) [0,1] (fun i => [(5, iA .i64 (i : Int))]) (fun i => []) (fun i => i ≤ n ∧ (∀ i', i' < i → s i' = t i')) (fun i => n - i) 0 ?lg4 ?l14 ?l24 ?li4 ?lr4); (case' lg4 => rintro i _); (case' li4 => try (exact ⟨Nat.zero_le _, fun i hi => absurd hi (Nat.not_lt_zero _)⟩)); (case' lr4 => rintro i ⟨hi, hai⟩ KR hR4; simp only [keepE, hupd, hset, lk, if_true, if_false, xE, reduceIte, zN]))))
 | (((with_reducible refine And.intro ?_ ?_)); focus (omega))
 | (with_reducible refine retK_n ?_)
 | ((with_reducible show condN _ _ _ _ _ _); first
 | ((with_reducible refine condN_t ?_ ?_) <;> (intro hc; (try simp only [zB, zC, reduceCtorEq] at hc); (try (exfalso; contradiction)))))
 | ((with_reducible refine And.intro ?_ ?_); focus ((with_reducible show chkR _ _ _ = true); kernel_rfl))
 | ((with_reducible refine hR4 _ (i + 1) ?_); (try clear hR4 KR))
 | ((with_reducible refine Told.mk ?_); simp only [go_sem, reduceIte, reduceCtorEq, xA, xL, xD, xE, xM, xS, xB, intI] <;> ((((try simp (disch := omega) only [seaWrap, Int.natCast_add, Int.cast_ofNat_Int, and_true, true_and, and_self]); (repeat' (first | omega | (with_reducible refine And.intro ?_ ?_) | (exact all_succ (by assumption) (by assumption)) )); done))))
 | ((fail_if_success (with_reducible show AW _ _ _ _)); simp (maxSteps := 2000000) only [go_sem, reduceIte, reduceCtorEq, xA, xL, xD, xE, xM, xS, xB, Tryz.f17, intI])
 | ((with_reducible refine hK _ ?_); clear hK K)
 | (with_reducible apply_assumption -exfalso only [*]))
  all_goals first | exact eqLI_n (by assumption) | exact eqLI_f (by assumption) hc | exact eqLI_t (by omega) (by assumption) hai | skip
theorem rhas_p (q : Nat) (a : Nat → Int) (x : Int) (hq : q ≤ 9223372036854775807) : CallsP Tryz.prog 33 [.one (.lst 1 q (intI a)), .one (.g (.int .i64 x))] (.t (.one (.g (.bool (hasL q a x))))) := by
  refine CallsP_of Tryz.func33 rfl (by rw [Tryz.ntmps33]; simp) ?_
  simp only [Tryz.ntmps33, zM, PT.tv, argEnv, Nat.zero_add, Nat.reduceAdd]
  repeat' (first
 | ((with_reducible show AW _ _ _ _); first
 | (with_reducible first | refine aS (fun K hK => ?_) | refine aI ?_ | refine aX ?_ | refine aT ?_ | refine aC ?_ | refine aB ?_)
 | (first
 | (with_reducible first | refine aP 0 [0,1] ?_ | refine aP 1 [0,1] ?_ | refine aP 2 [0,1,5] ?_ | refine aP 3 [0,1,5] ?_ | refine aP 4 [0,1,5] ?_ | refine aP 5 [] ?_ | refine aP 6 [] ?_))
 | ((with_reducible show AW _ (Code.loop _) _ _); first
 | ((with_reducible refine aL (c := (Code.seq (Code.seq (Code.region 2 _ _) _) _)) (ι := Nat) [0,1] (fun i => [(5, iA .i64 (i : Int))]) (fun i => []) (fun i => i ≤ q ∧ (∀ i', i' < i → a i' ≠ x)) (fun i => q - i) 0 ?lg2 ?l12 ?l22 ?li2 ?lr2); (case' lg2 => rintro i _); (case' li2 => try (exact ⟨Nat.zero_le _, fun i hi => absurd hi (Nat.not_lt_zero _)⟩)); (case' lr2 => rintro i ⟨hi, hai⟩ KR hR2; simp only [keepE, hupd, hset, lk, if_true, if_false, xE, reduceIte, zN]))))
 | (((with_reducible refine And.intro ?_ ?_)); focus (omega))
 | (with_reducible refine retK_n ?_)
 | ((with_reducible show condN _ _ _ _ _ _); first
 | ((with_reducible refine condN_t ?_ ?_) <;> (intro hc; (try simp only [zB, zC, reduceCtorEq] at hc); (try (exfalso; contradiction)))))
 | ((with_reducible refine hR2 _ (i + 1) ?_); (try clear hR2 KR))
 | ((with_reducible refine Told.mk ?_); simp only [go_sem, reduceIte, reduceCtorEq, xA, xL, xD, xE, xM, xS, xB, intI] <;> ((((try simp (disch := omega) only [seaWrap, Int.natCast_add, Int.cast_ofNat_Int, and_true, true_and, and_self]); (repeat' (first | omega | (with_reducible refine And.intro ?_ ?_) | (exact all_succ (by assumption) (by assumption)) )); done))))
 | ((fail_if_success (with_reducible show AW _ _ _ _)); simp (maxSteps := 2000000) only [go_sem, reduceIte, reduceCtorEq, xA, xL, xD, xE, xM, xS, xB, Tryz.f33, intI])
 | ((with_reducible refine hK _ ?_); clear hK K)
 | (with_reducible apply_assumption -exfalso only [*]))
  all_goals first | exact hasL_t (by assumption) hc | exact hasL_f (by assumption) hai | skip
theorem samel_p (n m : Nat) (f g : Nat → Feat) (hn : n ≤ 9223372036854775807) (hm : m ≤ 9223372036854775807) (hf : ∀ i, i < n → (f i).Ok) (hg : ∀ i, i < m → (g i).Ok) : CallsP Tryz.prog 49 [.one (.lst 9 n (featF f)), .one (.lst 9 m (featF g))] (.t (.one (.g (.bool (eqFI n m f g))))) := by
  refine CallsP_of Tryz.func49 rfl (by rw [Tryz.ntmps49]; simp) ?_
  simp only [Tryz.ntmps49, zM, PT.tv, argEnv, Nat.zero_add, Nat.reduceAdd]
  repeat' (first
 | ((with_reducible show AW _ _ _ _); first
 | (with_reducible first | refine aS (fun K hK => ?_) | refine aI ?_ | refine aX ?_ | refine aT ?_ | refine aC ?_ | refine aB ?_)
 | (first
 | (with_reducible first | refine aP 0 [0,1] ?_ | refine aP 1 [0,1] ?_ | refine aP 2 [] ?_ | refine aP 3 [0,1] ?_ | refine aP 4 [0,1,5] ?_ | refine aP 5 [0,1,5] ?_)
 | ((with_reducible refine aR (c := Code.region 6 _ true) [0,1,5] ?_); (with_reducible refine aD ?_ ?_ ?_ ?_); (focus kernel_rfl); (focus kernel_rfl); (focus kernel_rfl))
 | (with_reducible first | refine aP 7 [] ?_ | refine aP 8 [] ?_))
 | ((with_reducible show AW _ (Code.loop _) _ _); first
 | ((with_reducible refine aL (c := (Code.seq (Code.seq (Code.region 4 _ _) _) _)) (ι := Nat) [0,1] (fun i => [(5, iA .i64 (i : Int))]) (fun i => []) (fun i => i ≤ n ∧ (∀ i', i' < i → feqB (f i') (g i') = true)) (fun i => n - i) 0 ?lg4 ?l14 ?l24 ?li4 ?lr4); (case' lg4 => rintro i _); (case' li4 => try (exact ⟨Nat.zero_le _, fun i hi => absurd hi (Nat.not_lt_zero _)⟩)); (case' lr4 => rintro i ⟨hi, hai⟩ KR hR4; simp only [keepE, hupd, hset, lk, if_true, if_false, xE, reduceIte, zN]))))
 | ((first | (with_reducible refine And.intro ?_ ?_) | (with_reducible refine Need.mk ?_)); focus (first | exact True.intro | omega))
 | (with_reducible refine retK_n ?_)
 | ((with_reducible show condN _ _ _ _ _ _); first
 | ((with_reducible refine condN_t ?_ ?_) <;> (intro hc; (try simp only [zB, zC, reduceCtorEq] at hc); (try (exfalso; contradiction)))))
 | ((with_reducible refine And.intro ?_ ?_); focus ((with_reducible show chkR _ _ _ = true); kernel_rfl))
 | ((with_reducible show callDN _ _ _ _ _ _ _ _ _ _ _ _ _); first
 | (refine callDN_q (k := 92) fnok_92 (rfsame_p (f i) (g i) (hf i (by omega)) (hg i (by omega))) ?_ ?_))
 | ((with_reducible refine hR4 _ (i + 1) ?_); (try clear hR4 KR))
 | ((with_reducible refine Told.mk ?_); simp only [go_sem, reduceIte, reduceCtorEq, xA, xL, xD, xE, xM, xS, xB] <;> ((((try simp (disch := omega) only [seaWrap, Int.natCast_add, Int.cast_ofNat_Int, and_true, true_and, and_self]); (repeat' (first | omega | (with_reducible refine And.intro ?_ ?_) | (exact all_succ (by assumption) (by assumption)) )); done))))
 | ((fail_if_success (with_reducible show AW _ _ _ _)); simp (maxSteps := 2000000) only [go_sem, reduceIte, reduceCtorEq, xA, xL, xD, xE, xM, xS, xB, Tryz.f49])
 | ((with_reducible refine hK _ ?_); clear hK K)
 | (with_reducible apply_assumption -exfalso only [*]))
  all_goals first | exact eqFI_n (by assumption) | exact eqFI_f (by assumption) hc | exact eqFI_t (by omega) (by assumption) hai | skip
theorem eqf_p (n m : Nat) (f g : Nat → Feat) (hn : n ≤ 9223372036854775807) (hm : m ≤ 9223372036854775807) (hf : ∀ i, i < n → (f i).Ok) (hg : ∀ i, i < m → (g i).Ok) : CallsP Tryz.prog 73 [.one (.lst 9 n (featF f)), .one (.lst 9 m (featF g)), .one (.g (.func (.func 74) #[] #[]))] (.t (.one (.g (.bool (eqFI n m f g))))) := by
  refine CallsP_of Tryz.func73 rfl (by rw [Tryz.ntmps73]; simp) ?_
  simp only [Tryz.ntmps73, zM, PT.tv, argEnv, Nat.zero_add, Nat.reduceAdd]
  repeat' (first
 | ((with_reducible show AW _ _ _ _); first
 | (with_reducible first | refine aS (fun K hK => ?_) | refine aI ?_ | refine aX ?_ | refine aT ?_ | refine aC ?_ | refine aB ?_)
 | (first
 | (with_reducible first | refine aP 0 [0,1,2] ?_ | refine aP 1 [0,1,2] ?_ | refine aP 2 [] ?_ | refine aP 3 [0,1,2] ?_ | refine aP 4 [1,2,15,16,17] ?_ | refine aP 5 [1,2,15,16,17] ?_ | refine aP 6 [1,2,7,8,15,16,17] ?_ | refine aP 7 [1,2,8,9,15,16,17] ?_ | refine aP 8 [] ?_ | refine aP 9 [1,2,15,16,17] ?_ | refine aP 10 [] ?_))
 | ((with_reducible show AW _ (Code.loop _) _ _); first
 | ((with_reducible refine aL (c := (Code.seq (Code.region 4 _ _) _)) (ι := Nat) [1,2,15,16] (fun i => [(17, iA .i64 (i : Int))]) (fun i => []) (fun i => i ≤ n ∧ (∀ i', i' < i → feqB (f i') (g i') = true)) (fun i => n - i) 0 ?lg4 ?l14 ?l24 ?li4 ?lr4); (case' lg4 => rintro i _); (case' li4 => try (exact ⟨Nat.zero_le _, fun i hi => absurd hi (Nat.not_lt_zero _)⟩)); (case' lr4 => rintro i ⟨hi, hai⟩ KR hR4; simp only [keepE, hupd, hset, lk, if_true, if_false, xE, reduceIte, zN]))))
 | ((first | (with_reducible refine And.intro ?_ ?_) | (with_reducible refine Need.mk ?_)); focus (first | exact True.intro | omega))
 | (with_reducible refine retK_n ?_)
 | ((with_reducible show condN _ _ _ _ _ _); first
 | ((with_reducible refine condN_t ?_ ?_) <;> (intro hc; (try simp only [zB, zC, reduceCtorEq] at hc); (try (exfalso; contradiction)))))
 | ((with_reducible show callN _ _ _ _ _ _ _ _ _ _); first
 | (refine callN_q (k := 74) fnok_74 (fsame_p (f i) (g i) (hf i (by omega)) (hg i (by omega))) ?_ ?_))
 | ((with_reducible refine hR4 _ (i + 1) ?_); (try clear hR4 KR))
 | ((with_reducible refine Told.mk ?_); simp only [go_sem, reduceIte, reduceCtorEq, xA, xL, xD, xE, xM, xS, xB] <;> ((((try simp (disch := omega) only [seaWrap, Int.natCast_add, Int.cast_ofNat_Int, and_true, true_and, and_self]); (repeat' (first | omega | (with_reducible refine And.intro ?_ ?_) | (exact all_succ (by assumption) (by assumption)) )); done))))
 | ((fail_if_success (with_reducible show AW _ _ _ _)); simp (maxSteps := 2000000) only [go_sem, reduceIte, reduceCtorEq, xA, xL, xD, xE, xM, xS, xB, Tryz.f73])
 | ((with_reducible refine hK _ ?_); clear hK K)
 | (with_reducible apply_assumption -exfalso only [*]))
  all_goals first | exact eqFI_n (by assumption) | exact eqFI_f (by assumption) hc | exact eqFI_t (by omega) (by assumption) hai | skip
theorem dat_p (m : DatS) : CallsP Tryz.prog 70 [.agg [.g (.int .i64 m.A), .g (.int .i64 m.B), .g (.int .i64 m.C), .g (.int .i64 m.D), .g (.int .i64 m.E), .g (.int .i64 m.F), .g (.int .i64 m.R)]] (.t (.one (.g (.bool (datB m))))) := by
  have hdg : True := trivial
  refine CallsP_of Tryz.func70 rfl (by rw [Tryz.ntmps70]; simp) ?_
  simp only [Tryz.ntmps70, zM, PT.tv, argEnv, Nat.zero_add, Nat.reduceAdd]
  repeat' (first
 | ((with_reducible show AW _ _ _ _); first
 | (with_reducible first | refine aS (fun K hK => ?_) | refine aI ?_ | refine aX ?_ | refine aT ?_ | refine aC ?_ | refine aB ?_)
 | (first
 | (with_reducible first | refine aP 0 [0] ?_ | refine aP 1 [1] ?_ | refine aP 2 [1,13,14] ?_ | refine aP 3 [1,13,14] ?_ | refine aP 4 [1,4,13,14] ?_ | refine aP 5 [] ?_ | refine aP 6 [1,13,14] ?_ | refine aP 7 [1] ?_))
 | ((with_reducible show AW _ (Code.loop _) _ _); first
 | ((with_reducible refine aL (c := (Code.seq (Code.region 2 _ _) _)) (ι := Nat) [1,13] (fun j => [(14, iA .i64 (j : Int))]) (fun j => []) (fun j => j ≤ 4 ∧ (∀ j', j' < j → dat4 m j')) (fun j => 4 - j) 0 ?lg2 ?l12 ?l22 ?li2 ?lr2); (case' lg2 => rintro j _); (case' li2 => try (exact ⟨Nat.zero_le _, fun i hi => absurd hi (Nat.not_lt_zero _)⟩)); (case' lr2 => rintro j ⟨hj, haj⟩ KR hR2; simp only [keepE, hupd, hset, lk, if_true, if_false, xE, reduceIte, zN, hdg]))))
 | ((first | (with_reducible refine And.intro ?_ ?_) | (with_reducible refine Need.mk ?_)); focus (first | exact True.intro | omega | (simp; done)))
 | (with_reducible refine retK_n ?_)
 | ((with_reducible show condN _ _ _ _ _ _); first
 | ((with_reducible refine condN_t ?_ ?_) <;> (intro hc; (try simp only [zB, zC, reduceCtorEq] at hc); ((try (clear hdg; have hdg := dat_get (m := m) (j := j) (by omega)))); (try (exfalso; contradiction)))))
 | ((with_reducible show callN _ _ _ _ _ _ _ _ _ _); first
 | (refine callN_q (k := 112) fnok_112 (det_p m (dat_all haj (by omega))) ?_ ?_))
 | ((with_reducible refine hR2 _ (j + 1) ?_); (try clear hR2 KR))
 | ((with_reducible refine Told.mk ?_); simp only [go_sem, reduceIte, reduceCtorEq, xA, xL, xD, xE, xM, xS, xB, hdg] <;> ((((try simp (disch := omega) only [seaWrap, Int.natCast_add, Int.cast_ofNat_Int, and_true, true_and, and_self]); (repeat' (first | omega | (with_reducible refine And.intro ?_ ?_) | (exact all_succ (by assumption) (by assumption)) )); done))))
 | ((fail_if_success (with_reducible show AW _ _ _ _)); simp (maxSteps := 2000000) only [go_sem, reduceIte, reduceCtorEq, xA, xL, xD, xE, xM, xS, xB, Tryz.f70, hdg])
 | ((with_reducible refine hK _ ?_); clear hK K)
 | (with_reducible apply_assumption -exfalso only [*]))
  all_goals (first | (exact dat_n fun g => by have := g; exact dat4_n (by omega) hc g) | (have h4 := dat_all haj (by omega); refine dat_b ?_; simp only [Bool.and_eq_true, decide_eq_true_eq]; unfold datO; exact ⟨fun h => by omega, fun h => by omega⟩))
end Go.Proofs.YtdhgiklbkmkblaaGreat
