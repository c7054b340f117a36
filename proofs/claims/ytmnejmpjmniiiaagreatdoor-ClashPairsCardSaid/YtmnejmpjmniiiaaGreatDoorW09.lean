/- Part 9 of 16: contracts of functions and plain laws for the root text. No condition. -/
import Derived.Test.YtmnejmpjmniiiaaGreatDoorW01
import Derived.Test.YtmnejmpjmniiiaaGreatDoorW02
import Derived.Test.YtmnejmpjmniiiaaGreatDoorW03
import Derived.Test.YtmnejmpjmniiiaaGreatDoorW04
import Derived.Test.YtmnejmpjmniiiaaGreatDoorW05
import Derived.Test.YtmnejmpjmniiiaaGreatDoorW06
import Derived.Test.YtmnejmpjmniiiaaGreatDoorW07
import Derived.Test.YtmnejmpjmniiiaaGreatDoorW08
set_option linter.unusedVariables false
set_option linter.unusedSimpArgs false
namespace Go.Proofs.YtmnejmpjmniiiaaGreatDoor
open Go.RowKit Go.Sea
def fstB (b : Nat → Bool) : Nat → Nat
  | 0 => 0
  | k + 1 => if fstB b k < k then fstB b k else if b k = true then k else k + 1
theorem fstB_le (b : Nat → Bool) : ∀ k, fstB b k ≤ k
  | 0 => Nat.le_refl _
  | k + 1 => by
    have := fstB_le b k
    simp only [fstB]; repeat' split
    all_goals omega
theorem fstB_t {b : Nat → Bool} : ∀ k, (∀ j, j < k → b j = false) → fstB b k = k
  | 0, _ => rfl
  | k + 1, h => by
    have h1 := fstB_t k fun j hj => h j (by omega)
    have h2 := h k (by omega)
    simp only [fstB]
    rw [if_neg (by omega), if_neg (by rw [h2]; simp)]
theorem fstB_h {b : Nat → Bool} {i : Nat} (h : b i = true) (g : ∀ j, j < i → b j = false) : ∀ k, i < k → fstB b k = i
  | 0, hk => by omega
  | k + 1, hk => by
    simp only [fstB]
    by_cases hi : i < k
    · have h1 := fstB_h h g k hi
      rw [h1, if_pos hi]
    · have e : i = k := by omega
      subst e
      rw [fstB_t i g, if_neg (by omega), if_pos h]
def featPT (f : Feat) : PT := .agg [.g (.int .i64 f.id), .g (.int .i64 f.kd), .g (.int .i64 f.x), .g (.int .i64 f.y), .g (.int .i64 f.r), .lst 2 f.n (ptI f.P), .g (.int .i64 f.d), .g (.int .i64 f.s), .lst 6 f.m (ptI f.S)]
def mapO (L : List Feat) (k : Int) : Option PT := (idx L k).map featPT
theorem mapO_nil : mapO [] = fun _ => none := rfl
theorem map_put {L : List Feat} (h : asc L) (f : Feat) : mputF (mapO L) f.id (featPT f) = mapO (putL L f) := by
  funext k
  unfold mputF mapO
  rw [idx_put h]
  by_cases hk : k = f.id
  · rw [if_pos hk, if_pos hk]; rfl
  · rw [if_neg hk, if_neg hk]
theorem map_cut {L : List Feat} (h : asc L) (c : Int) : mdelF (mapO L) c = mapO (cutL L c) := by
  funext k
  unfold mdelF mapO
  rw [idx_cut h]
  by_cases hk : k = c
  · rw [if_pos hk, if_pos hk]; rfl
  · rw [if_neg hk, if_neg hk]
theorem map_chg {L : List Feat} (h : asc L) {f : Feat} {k : Int} (hk : f.id = k) : mputF (mapO L) k (featPT f) = mapO (putL (cutL L k) f) := by
  subst hk
  funext j
  unfold mputF mapO
  rw [idx_put (asc_cut h _), idx_cut h]
  by_cases hj : j = f.id
  · rw [if_pos hj, if_pos hj]; rfl
  · rw [if_neg hj, if_neg hj, if_neg hj]
theorem n_put {L : List Feat} {f : Feat} (hf : idx L f.id = none) : mputN L.length (mapO L) f.id = (putL L f).length := by
  unfold mputN mapO
  rw [hf, len_put hf]; rfl
theorem n_cut {L : List Feat} (h : asc L) {k : Int} {f : Feat} (hf : idx L k = some f) : mdelN L.length (mapO L) k = (cutL L k).length := by
  have := len_cut h hf
  unfold mdelN mapO
  rw [hf]
  show L.length - 1 = _
  omega
theorem n_chg {L : List Feat} (h : asc L) {k : Int} {f g : Feat} (hf : idx L k = some f) (hk : g.id = k) : mputN L.length (mapO L) k = (putL (cutL L k) g).length := by
  have h1 := len_cut h hf
  have h2 : idx (cutL L k) g.id = none := by rw [idx_cut h, if_pos hk]
  rw [len_put h2]
  unfold mputN mapO
  rw [hf]
  show L.length = _
  omega
theorem put_snoc {L : List Feat} {f : Feat} (h : ∀ g, g ∈ L → g.id < f.id) : putL L f = L ++ [f] := by
  unfold putL
  rw [List.filter_eq_self.2 fun g hg => by simpa using h g hg, List.filter_eq_nil_iff.2 fun g hg => by have := h g hg; simp; omega]
def LF (f : Nat → Feat) (k : Nat) : List Feat := (List.range k).map f
theorem LF_0 (f : Nat → Feat) : LF f 0 = [] := rfl
theorem LF_s (f : Nat → Feat) (k : Nat) : LF f (k + 1) = LF f k ++ [f k] := by unfold LF; rw [List.range_succ, List.map_append]; rfl
theorem LF_len (f : Nat → Feat) (k : Nat) : (LF f k).length = k := by simp [LF]
theorem LF_mem {f : Nat → Feat} {k : Nat} {g : Feat} : g ∈ LF f k ↔ ∃ i, i < k ∧ f i = g := by simp [LF]
def rises (f : Nat → Feat) (n : Nat) : Prop := ∀ i, 0 < i → i < n → (f (i - 1)).id < (f i).id
theorem rises_lt {f : Nat → Feat} {n : Nat} (h : rises f n) {i : Nat} : ∀ j, i < j → j < n → (f i).id < (f j).id
  | 0, hij, _ => absurd hij (Nat.not_lt_zero _)
  | j + 1, hij, hj => by
    have h1 := h (j + 1) (by omega) hj
    rw [Nat.add_sub_cancel] at h1
    by_cases e : i = j
    · subst e; exact h1
    · have h2 : (f i).id < (f j).id := rises_lt h j (by omega) (by omega)
      omega
theorem LF_asc {f : Nat → Feat} {n : Nat} (h : rises f n) : ∀ k, k ≤ n → asc (LF f k)
  | 0, _ => List.Pairwise.nil
  | k + 1, hk => by
    unfold asc
    rw [LF_s, List.pairwise_append]
    refine ⟨LF_asc h k (by omega), List.pairwise_singleton _ _, fun a ha b hb => ?_⟩
    obtain ⟨i, hi, rfl⟩ := LF_mem.1 ha
    obtain rfl := List.mem_singleton.1 hb
    exact rises_lt h k hi (by omega)
theorem LF_put {f : Nat → Feat} {n k : Nat} (h : rises f n) (hk : k < n) : putL (LF f k) (f k) = LF f (k + 1) := by
  rw [LF_s]
  refine put_snoc fun g hg => ?_
  obtain ⟨i, hi, rfl⟩ := LF_mem.1 hg
  exact rises_lt h k hi hk
theorem LF_new {f : Nat → Feat} {n k : Nat} (h : rises f n) (hk : k < n) : idx (LF f k) (f k).id = none := by
  rw [idx_none]
  intro g hg
  obtain ⟨i, hi, rfl⟩ := LF_mem.1 hg
  have := rises_lt h k hi hk
  omega
theorem fea_rises {n : Nat} {f : Nat → Feat} (h : feaB n f = true) : rises f n := fun i h0 hi => ((of_decide_eq_true h).2 i hi).2 h0
theorem chg_ok {f : Feat} {o : OpS} (hf : featB f = true) (ho : opB o = true) (h1 : o.kd ≠ 1) (h2 : o.kd ≠ 2) (he : chgE f o = 0) : featB (chgF f o) = true := by
  have g := (feat_iff f).1 hf
  have p := (op_iff o).1 ho
  unfold chgE at he
  have hn : ¬ ((o.kd = 3 ∧ ((f.kd = 3 ∨ f.kd = 6) ∨ f.kd = 4 ∧ o.r ≠ 0)) ∨ (o.kd = 4 ∧ (f.kd = 4 ∨ f.kd = 6))) := fun h => by rw [if_pos h] at he; omega
  obtain ⟨g1, g2, g3, g4, g5⟩ := g
  obtain ⟨p1, p2⟩ := p
  have p3 := p2.resolve_left (fun h => h1 h.1)
  rcases p3.2 with q | q | q | q
  · omega
  · have e : chgF f o = { f with x := o.x, y := o.y, r := o.r } := by unfold chgF; rw [if_pos q.1]
    rw [e, feat_iff]
    refine ⟨g1, g2, g3, q.2.1, ?_⟩
    rcases g5 with k | k | k
    · exact Or.inl ⟨k.1, q.2.2.1, q.2.2.2.1, k.2.2.2.1, k.2.2.2.2⟩
    · exact absurd (Or.inl ⟨q.1, Or.inl k.1⟩) hn
    · refine Or.inr (Or.inr ⟨k.1, q.2.2.1, k.2.2.1, ?_, k.2.2.2.2.1, k.2.2.2.2.2⟩)
      exact Classical.byContradiction fun hr => hn (Or.inl ⟨q.1, Or.inr ⟨k.1, hr⟩⟩)
  · have e : chgF f o = { f with d := o.d } := by unfold chgF; rw [if_neg (by omega), if_pos q.1]
    rw [e, feat_iff]
    refine ⟨g1, g2, q.2.1, g4, ?_⟩
    rcases g5 with k | k | k
    · exact Or.inl k
    · refine Or.inr (Or.inl ⟨k.1, fun h6 => absurd (Or.inr ⟨q.1, Or.inr h6⟩) hn, k.2.2⟩)
    · exact absurd (Or.inr ⟨q.1, Or.inl k.1⟩) hn
  · have e : chgF f o = { f with s := o.s } := by unfold chgF; rw [if_neg (by omega), if_neg (by omega), if_pos q.1]
    rw [e, feat_iff]
    exact ⟨g1, q.2.1, g3, g4, g5⟩
def allF (L : List Feat) : Prop := ∀ f, f ∈ L → featB f = true
theorem allF_cut {L : List Feat} (h : allF L) (k : Int) : allF (cutL L k) := fun f hf => h f (mem_cut.1 hf).1
theorem allF_put {L : List Feat} (h : allF L) {f : Feat} (hf : featB f = true) : allF (putL L f) := fun g hg => by
  rcases mem_put.1 hg with e | e
  · rw [e]; exact hf
  · exact h g e.1
theorem doL_ok {L : List Feat} (h : allF L) {o : OpS} (ho : opB o = true) : allF (doL L o).2 := by
  unfold doL
  by_cases h1 : o.kd = 1
  · rw [if_pos h1]
    have hf : featB o.f = true := by
      have p := ((op_iff o).1 ho).2
      rcases p with p | p
      · exact p.2.2.1
      · omega
    cases hi : idx L o.id with
    | some f => exact h
    | none =>
      simp only
      split
      · exact h
      · exact allF_put h hf
  · rw [if_neg h1]
    cases hi : idx L o.id with
    | none => exact h
    | some f =>
      simp only
      by_cases h2 : o.kd = 2
      · rw [if_pos h2]; exact allF_cut h _
      · rw [if_neg h2]
        by_cases he : chgE f o = 0
        · rw [if_pos he]; exact allF_put (allF_cut h _) (chg_ok (h f (idx_some hi).1) ho h1 h2 he)
        · rw [if_neg he]; exact h
theorem doL_len {L : List Feat} (hs : asc L) (h : L.length ≤ 300) {o : OpS} (ho : opB o = true) : (doL L o).2.length ≤ 300 := by
  unfold doL
  by_cases h1 : o.kd = 1
  · rw [if_pos h1]
    have hid : o.f.id = o.id := by
      have p := ((op_iff o).1 ho).2
      rcases p with p | p
      · exact p.2.1
      · omega
    cases hi : idx L o.id with
    | some f => exact h
    | none =>
      simp only
      by_cases h3 : 300 ≤ L.length
      · rw [if_pos h3]; exact h
      · rw [if_neg h3]
        show (putL L o.f).length ≤ 300
        rw [len_put (by rw [hid]; exact hi)]; omega
  · rw [if_neg h1]
    cases hi : idx L o.id with
    | none => exact h
    | some f =>
      have hc := len_cut hs hi
      simp only
      by_cases h2 : o.kd = 2
      · rw [if_pos h2]; show (cutL L o.id).length ≤ 300; omega
      · rw [if_neg h2]
        by_cases he : chgE f o = 0
        · rw [if_pos he]
          show (putL (cutL L o.id) (chgF f o)).length ≤ 300
          rw [len_put (by rw [idx_cut hs, chgF_id, (idx_some hi).2, if_pos rfl])]; omega
        · rw [if_neg he]; exact h
structure Good (L : List Feat) : Prop where
  a : asc L
  f : allF L
  n : L.length ≤ 300
theorem good_do {L : List Feat} (h : Good L) {o : OpS} (ho : opB o = true) : Good (doL L o).2 := ⟨doL_asc h.a o, doL_ok h.f ho, doL_len h.a h.n ho⟩
theorem mapO_s {L : List Feat} {k : Int} {f : Feat} (h : idx L k = some f) : mapO L k = some (.agg [.g (.int .i64 (f.id)), .g (.int .i64 (f.kd)), .g (.int .i64 (f.x)), .g (.int .i64 (f.y)), .g (.int .i64 (f.r)), .lst 2 f.n (ptI f.P), .g (.int .i64 (f.d)), .g (.int .i64 (f.s)), .lst 6 f.m (ptI f.S)]) := by unfold mapO; rw [h]; rfl
theorem mapO_n {L : List Feat} {k : Int} (h : idx L k = none) : mapO L k = none := by unfold mapO; rw [h]; rfl
theorem LF_mput {f : Nat → Feat} {n k : Nat} (h : rises f n) (hk : k < n) : mputF (mapO (LF f k)) (f k).id (.agg [.g (.int .i64 ((f k).id)), .g (.int .i64 ((f k).kd)), .g (.int .i64 ((f k).x)), .g (.int .i64 ((f k).y)), .g (.int .i64 ((f k).r)), .lst 2 (f k).n (ptI (f k).P), .g (.int .i64 ((f k).d)), .g (.int .i64 ((f k).s)), .lst 6 (f k).m (ptI (f k).S)]) = mapO (LF f (k + 1)) ∧ mputN k (mapO (LF f k)) (f k).id = k + 1 := by
  have h1 := map_put (LF_asc h k (by omega)) (f k)
  rw [LF_put h hk] at h1
  have h2 := n_put (LF_new h hk)
  rw [LF_put h hk, LF_len, LF_len] at h2
  exact ⟨h1, h2⟩
def runL (L : List Feat) (o : Nat → OpS) : Nat → List Feat
  | 0 => L
  | i + 1 => (doL (runL L o i) (o i)).2
theorem runL_0 (L : List Feat) (o : Nat → OpS) : runL L o 0 = L := rfl
theorem oeqv_rf (o : Option PT) : oeqv o o := by cases o <;> first | trivial | exact PT.eqv_refl _
theorem op_kd {o : OpS} (h : opB o = true) : o.kd = 1 ∨ o.kd = 2 ∨ o.kd = 3 ∨ o.kd = 4 ∨ o.kd = 5 := by
  rcases ((op_iff o).1 h).2 with p | ⟨_, p | p | p | p⟩ <;> omega
theorem op_fid {o : OpS} (h : opB o = true) (hk : o.kd = 1) : o.f.id = o.id := by
  rcases ((op_iff o).1 h).2 with p | ⟨_, p | p | p | p⟩
  · exact p.2.1
  all_goals omega
theorem ins_mi {L : List Feat} (h : Good L) {o : OpS} (ho : opB o = true) (hk : o.kd = 1) (hq : idx L o.id = none) (hn : (L.length : Int) < 300) : (doL L o).1 = 0 ∧ mputN L.length (mapO L) o.id = (doL L o).2.length ∧ mputF (mapO L) o.id (.agg [.g (.int .i64 (o.f.id)), .g (.int .i64 (o.f.kd)), .g (.int .i64 (o.f.x)), .g (.int .i64 (o.f.y)), .g (.int .i64 (o.f.r)), .lst 2 o.f.n (ptI o.f.P), .g (.int .i64 (o.f.d)), .g (.int .i64 (o.f.s)), .lst 6 o.f.m (ptI o.f.S)]) = mapO (doL L o).2 := by
  have hi := op_fid ho hk
  have e : doL L o = (0, putL L o.f) := by unfold doL; rw [if_pos hk, hq]; simp only; rw [if_neg (by omega)]
  rw [e]
  have h1 := n_put (L := L) (f := o.f) (by rw [hi]; exact hq)
  have h2 := map_put h.a o.f
  rw [hi] at h1 h2
  exact ⟨rfl, h1, h2⟩
theorem rem_mi {L : List Feat} (h : Good L) {o : OpS} (hk : o.kd = 2) {g : Feat} (hq : idx L o.id = some g) : (doL L o).1 = 0 ∧ mdelN L.length (mapO L) o.id = (doL L o).2.length ∧ mdelF (mapO L) o.id = mapO (doL L o).2 := by
  have e : doL L o = (0, cutL L o.id) := by unfold doL; rw [if_neg (by omega), hq]; simp only; rw [if_pos hk]
  rw [e]; exact ⟨rfl, n_cut h.a hq, map_cut h.a _⟩
theorem chg_mi {L : List Feat} (h : Good L) {o : OpS} (hk : o.kd ≠ 1 ∧ o.kd ≠ 2) {g : Feat} (hq : idx L o.id = some g) (he : chgE g o = 0) : (doL L o).1 = 0 ∧ mputN L.length (mapO L) o.id = (doL L o).2.length ∧ mputF (mapO L) o.id (.agg [.g (.int .i64 ((chgX g o).id)), .g (.int .i64 ((chgX g o).kd)), .g (.int .i64 ((chgX g o).x)), .g (.int .i64 ((chgX g o).y)), .g (.int .i64 ((chgX g o).r)), .lst 2 (chgX g o).n (ptI (chgX g o).P), .g (.int .i64 ((chgX g o).d)), .g (.int .i64 ((chgX g o).s)), .lst 6 (chgX g o).m (ptI (chgX g o).S)]) = mapO (doL L o).2 := by
  have ex : chgX g o = chgF g o := by unfold chgX; rw [if_neg (by omega)]
  have hi : (chgF g o).id = o.id := by rw [chgF_id]; exact (idx_some hq).2
  have e : doL L o = (0, putL (cutL L o.id) (chgF g o)) := by unfold doL; rw [if_neg hk.1, hq]; simp only; rw [if_neg hk.2, if_pos he]
  rw [e, ex]
  exact ⟨rfl, n_chg h.a hq hi, map_chg h.a hi⟩
theorem do_e1 {L : List Feat} {o : OpS} (hk : o.kd = 1) {g : Feat} (hq : idx L o.id = some g) : (doL L o).1 = 5 := by unfold doL; rw [if_pos hk, hq]
theorem do_e2 {L : List Feat} {o : OpS} (hk : o.kd = 1) (hq : idx L o.id = none) (hn : (L.length : Int) ≥ 300) : (doL L o).1 = 2 := by unfold doL; rw [if_pos hk, hq]; simp only; rw [if_pos (by omega)]
theorem do_e3 {L : List Feat} {o : OpS} (hk : o.kd ≠ 1) (hq : idx L o.id = none) : (doL L o).1 = 4 := by unfold doL; rw [if_neg hk, hq]
theorem do_e4 {L : List Feat} {o : OpS} (hk : o.kd ≠ 1 ∧ o.kd ≠ 2) {g : Feat} (hq : idx L o.id = some g) (he : chgE g o ≠ 0) : (doL L o).1 = chgE g o := by unfold doL; rw [if_neg hk.1, hq]; simp only; rw [if_neg hk.2, if_neg he]
theorem good_LF {n : Nat} {f : Nat → Feat} (h : feaB n f = true) : Good (LF f n) := by
  have h1 := of_decide_eq_true h
  refine ⟨LF_asc (fea_rises h) n (Nat.le_refl _), fun g hg => ?_, by rw [LF_len]; exact h1.1⟩
  obtain ⟨i, hi, rfl⟩ := LF_mem.1 hg
  exact (h1.2 i hi).1
theorem good_run {L : List Feat} (h : Good L) {o : Nat → OpS} {k : Nat} (ho : ∀ i, i < k → opB (o i) = true) : ∀ i, i ≤ k → Good (runL L o i)
  | 0, _ => h
  | i + 1, hi => good_do (good_run h ho i (by omega)) (ho i (by omega))
theorem feat_ok {f : Feat} (h : featB f = true) : f.Ok := by
  have g := ((feat_iff f).1 h).2.2.2.2
  rcases g with k | k | k
  · exact ⟨by omega, by omega⟩
  · have := (of_decide_eq_true k.2.2.1).1
    exact ⟨by omega, by omega⟩
  · have := (of_decide_eq_true k.2.2.1).1
    exact ⟨by omega, by omega⟩
theorem kd_1 {k : Int} (h : k = 1) : (((1 : Int) = k) = True) ∧ True := ⟨by simp [h], trivial⟩
theorem kd_2 {k : Int} (h : k = 2) : (((1 : Int) = k) = False) ∧ (((2 : Int) = k) = True) := ⟨by simp [h], by simp [h]⟩
theorem kd_3 {k : Int} (h : k = 3) : (((1 : Int) = k) = False) ∧ (((2 : Int) = k) = False) ∧ (((3 : Int) = k) = True) := ⟨by simp [h], by simp [h], by simp [h]⟩
theorem kd_4 {k : Int} (h : k = 4) : (((1 : Int) = k) = False) ∧ (((2 : Int) = k) = False) ∧ (((3 : Int) = k) = False) ∧ (((4 : Int) = k) = True) := ⟨by simp [h], by simp [h], by simp [h], by simp [h]⟩
theorem kd_5 {k : Int} (h : k = 5) : (((1 : Int) = k) = False) ∧ (((2 : Int) = k) = False) ∧ (((3 : Int) = k) = False) ∧ (((4 : Int) = k) = False) ∧ (((5 : Int) = k) = True) := ⟨by simp [h], by simp [h], by simp [h], by simp [h], by simp [h]⟩
theorem wkC_any {ok : Nat → Prop} : ∀ (m : Nat) (l : List CV), m ≤ l.length → wkC ok l (List.replicate m .any)
  | 0, _, _ => by simp [wkC]
  | m + 1, [], h => by simp at h
  | m + 1, c :: l, h => ⟨Or.inl rfl, wkC_any m l (by simpa using h)⟩
def badI (L : List Feat) (o : Nat → OpS) (k : Nat) : Nat := fstB (fun j => decide ((doL (runL L o j) (o j)).1 ≠ 0)) k
def apV (n : Nat) (f : Nat → Feat) (k : Nat) (o : Nat → OpS) : Bool := feaB n f && opsB k o
def apJ (n : Nat) (f : Nat → Feat) (k : Nat) (o : Nat → OpS) : Nat := badI (LF f n) o k
def apE (n : Nat) (f : Nat → Feat) (k : Nat) (o : Nat → OpS) : Int := if apV n f k o = true then (if apJ n f k o < k then (doL (runL (LF f n) o (apJ n f k o)) (o (apJ n f k o))).1 else 0) else 1
def apI (n : Nat) (f : Nat → Feat) (k : Nat) (o : Nat → OpS) : Int := if apV n f k o = true then (if apJ n f k o < k then (apJ n f k o : Int) else -1) else -1
def apN (n : Nat) (f : Nat → Feat) (k : Nat) (o : Nat → OpS) : Nat := if apV n f k o = true then (if apJ n f k o < k then 0 else (runL (LF f n) o k).length) else 0
def apF (n : Nat) (f : Nat → Feat) (k : Nat) (o : Nat → OpS) (i : Nat) : Feat := (runL (LF f n) o k).getD i feat0
theorem ap_err {n : Nat} {f : Nat → Feat} {k : Nat} {o : Nat → OpS} (hv : feaB n f = true) (hw : opsB k o = true) {i : Nat} (hi : (i : Int) < k) (hai : ∀ j, j < i → (doL (runL (LF f n) o j) (o j)).1 = 0) {e : Int} (he : (doL (runL (LF f n) o i) (o i)).1 = e) (h0 : e ≠ 0) : apN n f k o = 0 ∧ (i : Int) = apI n f k o ∧ e = apE n f k o := by
  have hj : apJ n f k o = i := fstB_h (b := fun j => decide ((doL (runL (LF f n) o j) (o j)).1 ≠ 0)) (decide_eq_true (by rw [he]; exact h0)) (fun j hj => decide_eq_false (by rw [hai j hj]; simp)) k (by omega)
  have hV : apV n f k o = true := by unfold apV; rw [hv, hw]; rfl
  have hlt : i < k := by omega
  unfold apN apI apE
  rw [if_pos hV, if_pos hV, if_pos hV, hj, if_pos hlt, if_pos hlt, if_pos hlt, he]
  exact ⟨rfl, rfl, rfl⟩
theorem ap_ok {n : Nat} {f : Nat → Feat} {k : Nat} {o : Nat → OpS} (hv : feaB n f = true) (hw : opsB k o = true) {i : Nat} (hi : (k : Int) ≤ i) (hai : ∀ j, j < i → (doL (runL (LF f n) o j) (o j)).1 = 0) : (runL (LF f n) o k).length = apN n f k o ∧ (-1) = apI n f k o ∧ 0 = apE n f k o := by
  have hj : apJ n f k o = k := fstB_t k fun j hj => decide_eq_false (by rw [hai j (by omega)]; simp)
  have hV : apV n f k o = true := by unfold apV; rw [hv, hw]; rfl
  unfold apN apI apE
  rw [if_pos hV, if_pos hV, if_pos hV, hj, if_neg (Nat.lt_irrefl k), if_neg (Nat.lt_irrefl k), if_neg (Nat.lt_irrefl k)]
  exact ⟨rfl, rfl, rfl⟩
theorem ap_bad {n : Nat} {f : Nat → Feat} {k : Nat} {o : Nat → OpS} (h : apV n f k o = false) : apN n f k o = 0 ∧ -1 = apI n f k o ∧ 1 = apE n f k o := by
  unfold apN apI apE
  rw [if_neg (by simp [h]), if_neg (by simp [h]), if_neg (by simp [h])]
  exact ⟨rfl, rfl, rfl⟩
def ddE : List Nat → List (Nat × AV) → List (Nat × AV)
  | _, [] => []
  | s, (k, v) :: r => if s.contains k = true then ddE s r else (k, v) :: ddE (k :: s) r
theorem ddE_lk : ∀ (e : List (Nat × AV)) (s : List Nat) (t : Nat), s.contains t = false → lk (ddE s e) t = lk e t
  | [], _, _, _ => rfl
  | (k, v) :: r, s, t, h => by
    unfold ddE
    by_cases h1 : s.contains k = true
    · rw [if_pos h1, ddE_lk r s t h]
      have : t ≠ k := fun e => by rw [e, h1] at h; cases h
      simp only [lk]; rw [if_neg this]
    · rw [if_neg h1]
      simp only [lk]
      by_cases h2 : t = k
      · rw [if_pos h2, if_pos h2]
      · rw [if_neg h2, if_neg h2]
        refine ddE_lk r (k :: s) t ?_
        rw [List.contains_cons, h]
        simp [h2]
def ddG : List (Nat × List (Nat × AV)) → List (Nat × List (Nat × AV))
  | [] => []
  | (f, e) :: r => (f, ddE [] e) :: ddG r
theorem ddG_gk : ∀ (g : List (Nat × List (Nat × AV))) (f t : Nat), gk (ddG g) f t = gk g f t
  | [], _, _ => rfl
  | (k, e) :: r, f, t => by
    show lk (if f = k then ddE [] e else gf (ddG r) f) t = lk (if f = k then e else gf r f) t
    by_cases h : f = k
    · rw [if_pos h, if_pos h]; exact ddE_lk e [] t rfl
    · rw [if_neg h, if_neg h]; exact ddG_gk r f t
theorem AW_dd {P : Program} {E : List (Nat × AV)} {H : List (Option (List CV))} {N : Nat} {g : List (Nat × List (Nat × AV))} {l : LP} {Q : Exit → AS → Prop} {c : Code} (h : AW P c ⟨E, H, N, ddG g, l⟩ Q) : AW P c ⟨E, H, N, g, l⟩ Q := fun w0 Z0 a w n ⟨J, Z, R⟩ =>
  h w0 Z0 a w n ⟨J, Z, R.nodef, R.size, R.below, R.zfrom, R.zlt, R.jlt, R.inj, R.hole, R.blk, R.slots, fun f t => by
    show ARel _ _ _ _ (gk (ddG g) f t); rw [ddG_gk]; exact R.ghost f t, R.loops, R.lnd, R.ro, R.tab⟩
theorem nodup_le : ∀ {m ks : List Int}, ks.Nodup → (∀ x, x ∈ ks → x ∈ m) → ks.length ≤ m.length
  | [], ks, _, h => by
    cases ks with
    | nil => simp
    | cons a l => exact absurd (h a (List.mem_cons_self ..)) List.not_mem_nil
  | a :: m, ks, hn, h => by
    have h1 : (ks.erase a).length ≤ m.length := nodup_le (hn.erase a) fun x hx => by
      rcases List.mem_cons.1 (h x (List.mem_of_mem_erase hx)) with e | e
      · exact absurd e ((List.Nodup.mem_erase_iff hn).1 hx).1
      · exact e
    rw [List.length_erase] at h1
    split at h1 <;> simp only [List.length_cons] <;> omega
theorem mapO_ne {L : List Feat} {x : Int} (h : mapO L x ≠ none) : x ∈ L.map (·.id) := by
  unfold mapO at h
  cases hi : idx L x with
  | none => rw [hi] at h; exact absurd rfl h
  | some g => exact List.mem_map.2 ⟨g, idx_some hi⟩
theorem mapO_in {L : List Feat} (h : asc L) {x : Int} (hx : x ∈ L.map (·.id)) : (mapO L x).isSome = true := by
  obtain ⟨g, h1, h2⟩ := List.mem_map.1 hx
  unfold mapO; rw [← h2, idx_mem h h1]; rfl
theorem keys_le {L : List Feat} {ks : List Int} (hn : ks.Nodup) (hk : ∀ x, x ∈ ks → mapO L x ≠ none) : ks.length ≤ L.length := by
  have := nodup_le (m := L.map (·.id)) hn fun x hx => mapO_ne (hk x hx)
  simpa using this
theorem keys_eq {L : List Feat} (h : asc L) {ks : List Int} (hn : ks.Nodup) (hk : ∀ x, x ∈ ks → mapO L x ≠ none) (ha : ∀ x, (mapO L x).isSome = true → x ∈ ks) : ks.length = L.length := by
  have h1 := keys_le hn hk
  have h2 : (L.map (·.id)).length ≤ ks.length := nodup_le ((asc_ids h).imp fun h => by omega) fun x hx => ha x (mapO_in h hx)
  rw [List.length_map] at h2
  omega
theorem keys_more {L : List Feat} {ks : List Int} (hn : ks.Nodup) (hk : ∀ x, x ∈ ks → mapO L x ≠ none) {kk : Int} {yy : PT} (hy : mapO L kk = some yy) (hnn : ¬ kk ∈ ks) : (kk :: ks).Nodup ∧ (∀ x, x ∈ kk :: ks → mapO L x ≠ none) ∧ ks.length + 1 ≤ L.length := by
  have h1 : (kk :: ks).Nodup := List.nodup_cons.2 ⟨hnn, hn⟩
  have h2 : ∀ x, x ∈ kk :: ks → mapO L x ≠ none := fun x hx => by
    rcases List.mem_cons.1 hx with e | e
    · rw [e, hy]; simp
    · exact hk x e
  exact ⟨h1, h2, keys_le h1 h2⟩
theorem sort_keys {L : List Feat} (h : asc L) {ks : List Int} (hn : ks.Nodup) (hk : ∀ x, x ∈ ks → mapO L x ≠ none) (ha : ∀ x, (mapO L x).isSome = true → x ∈ ks) : ks.reverse.mergeSort (fun x y => decide (x ≤ y)) = L.map (·.id) := by
  have hp := List.mergeSort_perm ks.reverse (fun x y => decide (x ≤ y))
  have h1 : (ks.reverse.mergeSort (fun x y => decide (x ≤ y))).Nodup := hp.symm.nodup ((List.reverse_perm ks).symm.nodup hn)
  have h2 : (ks.reverse.mergeSort (fun x y => decide (x ≤ y))).Pairwise (fun a b => decide (a ≤ b) = true) := List.pairwise_mergeSort (by intro a b c; simp only [decide_eq_true_eq]; omega) (by intro a b; simp only [Bool.or_eq_true, decide_eq_true_eq]; omega) _
  have hm : ∀ x, x ∈ ks.reverse.mergeSort (fun x y => decide (x ≤ y)) ↔ x ∈ ks := fun x => by rw [hp.mem_iff, List.mem_reverse]
  refine keys_list h ?_ fun x => ?_
  · refine (h2.and h1).imp fun {a b} p => ?_
    have h3 := of_decide_eq_true p.1
    have h4 : a ≠ b := p.2
    omega
  · rw [hm]
    constructor
    · intro hx e
      exact hk x hx (by unfold mapO; rw [e]; rfl)
    · intro hx
      cases hi : idx L x with
      | none => exact absurd hi hx
      | some g => exact ha x (by unfold mapO; rw [hi]; rfl)
theorem sort_k {L : List Feat} (h : asc L) (hl : L.length ≤ 300) {ks : List Int} (hn : ks.Nodup) (hk : ∀ x, x ∈ ks → mapO L x ≠ none) (ha : ∀ x, (mapO L x).isSome = true → x ∈ ks) (i : Nat) {H : List (Option (List CV))} (hH : hget H i = some (rowI ks.reverse)) : CallsH Tryz.prog 121 [.one (.slc i 0 ks.length 1)] H (.tup []) (hset H i (rowI (L.map (·.id)))) := by
  have h0 := keys_le hn hk
  have h1 := sort_t ks.reverse (by rw [List.length_reverse]; omega) i H hH
  rw [List.length_reverse, sort_keys h hn hk ha] at h1
  exact h1
theorem rowI_pur (zs : List Int) (i : Nat) : List.map (CV.purge i) (rowI zs) = rowI zs := purge_iv i (rowI_iv zs)
theorem rowI_one (zs : List Int) (x : Int) (i : Nat) : List.map (CV.purge i) (rowI zs.reverse ++ [.iv (.g (.int .i64 x))]) = rowI (x :: zs).reverse := by
  rw [show rowI zs.reverse ++ [.iv (.g (.int .i64 x))] = rowI (x :: zs).reverse by simp [rowI]]
  exact rowI_pur _ _
theorem rowI_ids {L : List Feat} {v : Nat} (hv : v < L.length) : (rowI (L.map (·.id))).getD v .any = .iv (.g (.int .i64 (L.getD v feat0).id)) := by
  rw [rowI_get _ _ (by simpa using hv)]
  simp [List.getD, hv]
def c9 (f : Feat) : List CV := [.iv (.g (.int .i64 (f.id))), .iv (.g (.int .i64 (f.kd))), .iv (.g (.int .i64 (f.x))), .iv (.g (.int .i64 (f.y))), .iv (.g (.int .i64 (f.r))), .iv (.lst 2 f.n (ptI f.P)), .iv (.g (.int .i64 (f.d))), .iv (.g (.int .i64 (f.s))), .iv (.lst 6 f.m (ptI f.S))]
def rowC (l : List Feat) : List CV := l.flatMap c9
theorem rowC_len (l : List Feat) : (rowC l).length = l.length * 9 := by
  induction l with
  | nil => rfl
  | cons s l ih => simp only [rowC, List.flatMap_cons, List.length_append] at ih ⊢; rw [ih]; simp [c9]; omega
theorem rowC_iv (l : List Feat) : ∀ c, c ∈ rowC l → isIv c := by
  intro c hc
  simp only [rowC, List.mem_flatMap, c9] at hc
  obtain ⟨s, _, h⟩ := hc
  simp only [List.mem_cons, List.not_mem_nil, or_false] at h
  rcases h with rfl | rfl | rfl | rfl | rfl | rfl | rfl | rfl | rfl <;> trivial
theorem getD_mem {L : List Feat} {v : Nat} (hv : v < L.length) : L.getD v feat0 ∈ L := by
  rw [List.getD, List.getElem?_eq_getElem hv]; exact List.getElem_mem hv
theorem take_one {L : List Feat} {v : Nat} (hv : v < L.length) : L.take v ++ [L.getD v feat0] = L.take (v + 1) := by
  rw [List.take_add_one, List.getD]
  simp [hv]
theorem rowC_one {L : List Feat} {v : Nat} (hv : v < L.length) (i : Nat) : List.map (CV.purge i) (rowC (L.take v) ++ [.iv (.g (.int .i64 ((L.getD v feat0).id))), .iv (.g (.int .i64 ((L.getD v feat0).kd))), .iv (.g (.int .i64 ((L.getD v feat0).x))), .iv (.g (.int .i64 ((L.getD v feat0).y))), .iv (.g (.int .i64 ((L.getD v feat0).r))), .iv (.lst 2 (L.getD v feat0).n (ptI (L.getD v feat0).P)), .iv (.g (.int .i64 ((L.getD v feat0).d))), .iv (.g (.int .i64 ((L.getD v feat0).s))), .iv (.lst 6 (L.getD v feat0).m (ptI (L.getD v feat0).S))]) = rowC (L.take (v + 1)) := by
  have e : rowC (L.take v) ++ c9 (L.getD v feat0) = rowC (L.take (v + 1)) := by rw [← take_one hv]; simp [rowC]
  exact (congrArg (List.map (CV.purge i)) e).trans (purge_iv i (rowC_iv _))
theorem rowC_get : ∀ (l : List Feat) (i o : Nat), i < l.length → o < 9 → (rowC l).getD (i * 9 + o) .any = (c9 (l.getD i feat0)).getD o .any
  | [], i, _, h, _ => by simp at h
  | f :: l, 0, o, _, ho => by
    show (c9 f ++ rowC l).getD (0 * 9 + o) .any = (c9 f).getD o .any
    rw [Nat.zero_mul, Nat.zero_add, List.getD, List.getD, List.getElem?_append_left (by show o < 9; exact ho)]
  | f :: l, i + 1, o, h, ho => by
    show (c9 f ++ rowC l).getD ((i + 1) * 9 + o) .any = (c9 (l.getD i feat0)).getD o .any
    rw [← rowC_get l i o (by simpa using h) ho, List.getD, List.getD, List.getElem?_append_right (by show 9 ≤ _; omega)]
    congr 2
    show (i + 1) * 9 + o - 9 = i * 9 + o
    omega
theorem rowC_eqv (l : List Feat) : ∀ i o, i < l.length → o < 9 → (civ ((rowC l).getD (i * 9 + o) .any)).eqv (featF (fun i => l.getD i feat0) i o) := by
  intro i o hi ho
  rw [rowC_get l i o hi ho]
  match o, ho with
  | 0, _ | 1, _ | 2, _ | 3, _ | 4, _ | 5, _ | 6, _ | 7, _ | 8, _ => exact IV.eqv_refl _
end Go.Proofs.YtmnejmpjmniiiaaGreatDoor
set_option maxRecDepth 100000
set_option maxHeartbeats 4000000
namespace Go.Proofs.YtmnejmpjmniiiaaGreatDoor
open Go.RowKit Go.Sea
open Nat renaming reduceAdd → xA, reduceLT → xL, reduceLeDiff → xD, reduceEqDiff → xE, reduceMul → xM, reduceSub → xS, reduceBEq → xB
theorem fnok_90 : fnOk Tryz.prog 90 = true := by kernel_rfl
theorem fnok_91 : fnOk Tryz.prog 91 = true := by kernel_rfl
theorem fnok_92 : fnOk Tryz.prog 92 = true := by kernel_rfl
theorem fnok_93 : fnOk Tryz.prog 93 = true := by kernel_rfl
theorem fnok_94 : fnOk Tryz.prog 94 = true := by kernel_rfl
theorem fnok_117 : fnOk Tryz.prog 117 = true := by kernel_rfl
theorem fnok_118 : fnOk Tryz.prog 118 = true := by kernel_rfl
theorem fnok_119 : fnOk Tryz.prog 119 = true := by kernel_rfl
theorem fnok_120 : fnOk Tryz.prog 120 = true := by kernel_rfl
theorem fnok_121 : fnOk Tryz.prog 121 = true := by kernel_rfl
theorem fnok_122 : fnOk Tryz.prog 122 = true := by kernel_rfl
theorem fnok_144 : fnOk Tryz.prog 144 = true := by kernel_rfl
theorem fnok_145 : fnOk Tryz.prog 145 = true := by kernel_rfl
theorem fnok_63 : fnOk Tryz.prog 63 = true := by kernel_rfl
theorem fnok_64 : fnOk Tryz.prog 64 = true := by kernel_rfl
theorem fnok_89 : fnOk Tryz.prog 89 = true := by kernel_rfl
theorem le_107 : lenD Tryz.prog 107 = none := by kernel_rfl
theorem mp_107 : mpD Tryz.prog 107 = some 66 := by kernel_rfl
theorem mp_135 : mpD Tryz.prog 135 = some 139 := by kernel_rfl
theorem pl_112_2 : placeF Tryz.prog 112 2 = some (2, 9) := by kernel_rfl
theorem ty_107 : tyD Tryz.prog 107 = some (false, 1) := by kernel_rfl
theorem zp_139 : zPT Tryz.prog 139 = some (.one (.g (.nilFunc))) := by kernel_rfl
theorem zp_66 : zPT Tryz.prog 66 = some (.agg [.g (.int .i64 0), .g (.int .i64 0), .g (.int .i64 0), .g (.int .i64 0), .g (.int .i64 0), .g (.slice none 0 0), .g (.int .i64 0), .g (.int .i64 0), .g (.slice none 0 0)]) := by kernel_rfl
attribute [go_sem] fnok_90 fnok_91 fnok_92 fnok_93 fnok_94 fnok_120 fnok_121 fnok_144 fnok_145 fnok_63 fnok_64 fnok_89 le_107 mp_107 mp_135 pl_112_2 ty_107 zp_139 zp_66
theorem Apply_t (n : Nat) (f : Nat → Feat) (k : Nat) (o : Nat → OpS) (hn : n ≤ 9223372036854775807) (hf : ∀ i, i < n → (f i).Ok) (hk : k ≤ 9223372036854775807) (ho : ∀ i, i < k → (o i).f.Ok) (hv : feaB n f = true) (hw : opsB k o = true) : CallsP Tryz.prog 34 [.one (.lst 9 n (featF f)), .one (.lst 16 k (oprF o))] (.tup [.one (.lst 9 (apN n f k o) (featF (apF n f k o))), .one (.g (.int .i64 (apI n f k o))), .one (.g (.int .i64 (apE n f k o)))]) := by
  have mk0 : True := trivial
  have mk2 : True := trivial
  have mk3 : True := trivial
  have hrk : True := trivial
  have hkd : True := trivial
  have hfk : True := trivial
  have hrs := fea_rises hv
  have hG := good_LF hv
  have hops := (of_decide_eq_true hw).2
  have hk100 := (of_decide_eq_true hw).1
  refine CallsP_of Tryz.func34 rfl (by rw [Tryz.ntmps34]; simp) ?_
  simp only [Tryz.ntmps34, zM, PT.tv, argEnv, Nat.zero_add, Nat.reduceAdd]
  repeat' (first
 | (exact ap_err hv hw (by assumption) hai (do_e1 e5 hq) (by omega))
 | (exact ap_err hv hw (by assumption) hai (do_e2 e5 hq (by assumption)) (by omega))
 | (exact ap_err hv hw (by assumption) hai (do_e3 (by omega) hq) (by omega))
 | (exact ap_err hv hw (by assumption) hai (do_e4 (by omega) hq (by assumption)) (by omega))
 | (clear mk2; have hkm := keys_more hnd hks hyy hnn)
 | ((with_reducible show AW _ _ _ _); first
 | (with_reducible first | refine aS (fun K hK => ?_) | refine aI ?_ | refine aX ?_ | refine aT ?_ | refine aC ?_ | refine aB ?_)
 | ((refine AW_rangeFuncH (k := 122) rfl Tryz.func122 rfl fnok_122 (by rw [Tryz.ntmps122]; simp) ?_ ?_ (fun l hlne A B hA hB => ?_)); (focus (simp (maxSteps := 2000000) only [go_sem, reduceIte, reduceCtorEq, xA, xL, xD, xE, xM, xS, xB, Tryz.f34, Tryz.f122, Tryz.f63, Tryz.f91, Tryz.f92, Tryz.f64, Tryz.f94, Tryz.f93, Tryz.f120, Tryz.f145, Tryz.f117, Tryz.f118, Tryz.f119, hv, hw, hkd, hfk, hrk, rowI_len, rowC_len, List.length_reverse, List.length_map, List.take_zero, List.length_take, rowI_pur, rowI_one, mapO_nil, LF_0, runL_0, List.length_replicate, LF_len, Int.reduceEq, maxLen]; try exact True.intro)); (focus (simp (maxSteps := 2000000) only [go_sem, reduceIte, reduceCtorEq, xA, xL, xD, xE, xM, xS, xB, Tryz.f34, Tryz.f122, Tryz.f63, Tryz.f91, Tryz.f92, Tryz.f64, Tryz.f94, Tryz.f93, Tryz.f120, Tryz.f145, Tryz.f117, Tryz.f118, Tryz.f119, hv, hw, hkd, hfk, hrk, rowI_len, rowC_len, List.length_reverse, List.length_map, List.take_zero, List.length_take, rowI_pur, rowI_one, mapO_nil, LF_0, runL_0, List.length_replicate, LF_len, Int.reduceEq, maxLen]; try exact True.intro)); simp only [Tryz.ntmps122, List.map_cons, List.map_nil, LV.tv, argEnv, yV, Nat.zero_add, Nat.reduceAdd]; clear hlne)
 | (with_reducible refine AW_eq (by assumption) ?_)
 | (first
 | (with_reducible first | refine aP 0 [0,1,7] ?_ | refine aP 1 [0,1,2,3,4,5,7] ?_ | refine aP (ops := #[⟨some 19, _, _, _, _, _⟩, _]) 2 [7,9,10] ?_ | refine aP (ops := #[⟨some 8, _, _, _, _, _⟩, _, _]) 2 [0,5] ?_ | refine aP (ops := #[⟨some 7, _, _, _, _, _⟩, _, _]) 2 [0,3] ?_ | refine aP (ops := #[⟨some 6, _, _, _, _, _⟩, _, _, _, _]) 2 [0,3] ?_ | refine aP (ops := #[⟨some 6, _, _, _, _, _⟩, _]) 2 [3] ?_ | refine aP (ops := #[⟨some 5, _, _, _, _, _⟩]) 2 [2,7] ?_ | refine aP (ops := #[⟨some 15, _, _, _, _, _⟩]) 2 [0,3,4,7] ?_ | refine aP (ops := #[⟨some 15, _, _, _, _, _⟩, _]) 2 [0,3,4,6,7] ?_ | refine aP (ops := #[⟨some 18, _, _, _, _, _⟩, _]) 2 [0,3,4,6,7] ?_ | refine aP (ops := #[⟨some 21, _, _, _, _, _⟩, _, _, _, _]) 3 [9,10] ?_ | refine aP (ops := #[⟨some 10, _, _, _, _, _⟩, _, _, _]) 3 [0,3,5] ?_ | refine aP (ops := #[⟨some 23, _, _, _, _, _⟩, _, _]) 3 [0,1] ?_ | refine aP (ops := #[⟨some 10, _, _, _, _, _⟩]) 3 [3,7,8,9] ?_ | refine aP (ops := #[⟨some 11, _, _, _, _, _⟩]) 3 [0,3,8,9,10] ?_ | refine aP (ops := #[⟨some 8, _, _, _, _, _⟩, _]) 3 [3] ?_ | refine aP (ops := #[⟨some 8, _, _, _, _, _⟩, _, _, _, _]) 3 [2,5,7] ?_ | refine aP (ops := #[⟨some 16, _, _, _, _, _⟩, _, _]) 3 [4] ?_ | refine aP (ops := #[⟨some 17, _, _, _, _, _⟩, _, _]) 3 [4] ?_ | refine aP (ops := #[⟨some 20, _, _, _, _, _⟩, _, _]) 3 [4] ?_ | refine aP (ops := #[⟨some 23, _, _, _, _, _⟩, _, _, _, _, _, _]) 4 [7,9,10] ?_ | refine aP (ops := #[⟨some 25, _, _, _, _, _⟩, _, _]) 4 [1,8] ?_ | refine aP (ops := #[⟨some 11, _, _, _, _, _⟩, _, _, _]) 4 [3,7,8,9] ?_ | refine aP (ops := #[⟨some 12, _, _, _, _, _⟩, _, _]) 4 [0,3,8,9,10] ?_ | refine aP (ops := #[⟨some 12, _, _, _, _, _⟩, _]) 4 [2] ?_ | refine aP (ops := #[⟨some 17, _, _, _, _, _⟩, _, _]) 4 [0,3,4] ?_ | refine aP (ops := #[⟨some 18, _, _, _, _, _⟩, _, _, _]) 4 [0,3,4,6] ?_ | refine aP (ops := #[⟨some 22, _, _, _, _, _⟩, _, _, _, _, _, _, _, _, _, _, _]) 4 [0,3,4,6] ?_ | refine aP (ops := #[⟨some 10, _, _, _, _, _⟩]) 5 [1,8,9] ?_ | refine aP (ops := #[⟨some 13, _, _, _, _, _⟩, _, _, _, _]) 5 [3,5,7,8,9] ?_ | refine aP (ops := #[⟨some 14, _, _, _, _, _⟩, _, _, _, _, _, _]) 5 [0,3,5,8,9,10] ?_ | refine aP (ops := #[⟨some 20, _, _, _, _, _⟩, _, _]) 5 [4] ?_ | refine aP (ops := #[⟨some 21, _, _, _, _, _⟩, _, _, _, _, _]) 5 [3,4,6] ?_ | refine aP (ops := #[⟨some 28, _, _, _, _, _⟩, _]) 5 [0,3,4,8,9,10] ?_ | refine aP (ops := #[⟨some 27, _, _, _, _, _⟩, _, _]) 6 [1,8,9,10] ?_ | refine aP (ops := #[⟨some 17, _, _, _, _, _⟩, _]) 6 [3,7,8,9] ?_ | refine aP (ops := #[⟨some 20, _, _, _, _, _⟩, _]) 6 [0,3,8,9,10] ?_ | refine aP (ops := #[⟨some 21, _, _, _, _, _⟩, _, _, _, _, _]) 6 [0,3,4] ?_ | refine aP (ops := #[⟨some 30, _, _, _, _, _⟩, _, _, _]) 6 [4,10] ?_ | refine aP (ops := #[⟨some 30, _, _, _, _, _⟩]) 7 [8,9,10,27,28,29] ?_ | refine aP (ops := #[⟨some 18, _, _, _, _, _⟩, _]) 7 [3] ?_ | refine aP (ops := #[⟨some 21, _, _, _, _, _⟩, _]) 7 [3] ?_ | refine aP (ops := #[⟨some 26, _, _, _, _, _⟩, _, _, _, _]) 7 [3,4] ?_ | refine aP (ops := #[⟨some 32, _, _, _, _, _⟩, _, _, _, _]) 7 [0,3,4,8,9] ?_ | refine aP (ops := #[⟨some 31, _, _, _, _, _⟩, _, _, _, _, _]) 8 [8,9,10,27,28,29] ?_ | refine aP (ops := #[⟨some 36, _, _, _, _, _⟩, _, _]) 8 [4,9] ?_ | refine aP 9 [8,9,10,11,12,27,28,29] ?_ | refine aP 10 [8,9,10,11,13,14,27,28,29] ?_ | refine aP 11 [11,14] ?_ | refine aP 12 [8,9,10,13,27,28,29] ?_ | refine aP 13 [8,9,10,27,28,29] ?_ | refine aP 14 [8,10] ?_))
 | ((with_reducible show AW _ (Code.loop _) _ _); first
 | ((with_reducible refine aL (c := (Code.seq (Code.region 7 _ _) _)) (ι := Nat) [8,9,27,28] (fun i => [(10, .t (.one (.slc 2 0 i 16))), (29, iA .i64 (i : Int))]) (fun i => [(0, [.mi none (runL (LF f n) o i).length (mapO (runL (LF f n) o i))]), (2, List.replicate (i * 16) .any)]) (fun i => i ≤ k ∧ (∀ j, j < i → (doL (runL (LF f n) o j) (o j)).1 = 0)) (fun i => k - i) 0 ?lg7 ?l17 ?l27 ?li7 ?lr7); (case' lg7 => rintro i _); (case' li7 => try (exact ⟨Nat.zero_le _, fun i hi => absurd hi (Nat.not_lt_zero _)⟩)); (case' lr7 => rintro i ⟨hi, hai⟩ KR hR7; simp only [keepE, hupd, hset, lk, if_true, if_false, xE, reduceIte, zN, hv, hw, hkd, hfk, hrk, rowI_len, rowC_len, List.length_reverse, List.length_map, List.take_zero, List.length_take, rowI_pur, rowI_one, mapO_nil, LF_0, runL_0, List.length_replicate, LF_len, Int.reduceEq, maxLen]))
 | (((with_reducible refine AW_dd ?_); simp only [ddG, ddE, List.contains_cons, List.contains_nil, Nat.reduceBEq, Bool.or_false, Bool.false_or, Bool.or_true, Bool.true_or, if_true, if_false, Bool.false_eq_true, reduceIte]; with_reducible refine aL (c := (Code.seq (Code.region 1 _ _) _)) (ι := List Int) [0,5] (fun ks => []) (fun ks => [(1, []), (2, []), (4, [.slc 6 0 ks.length 1]), (6, rowI ks.reverse), (5, [.mt 0 cc (fun q => q ∈ ks) ks.head?])]) (fun ks => ks.Nodup ∧ ∀ x, x ∈ ks → mapO (runL (LF f n) o k) x ≠ none) (fun ks => (runL (LF f n) o k).length - ks.length) [] ?lg1 ?l11 ?l21 ?li1 ?lr1); (case' lg1 => rintro ks _); (case' li1 => try (exact ⟨List.nodup_nil, fun x h => absurd h (List.not_mem_nil)⟩)); (case' lr1 => rintro ks ⟨hnd, hks⟩ KR hR1; simp only [keepE, hupd, hset, lk, if_true, if_false, xE, reduceIte, zN, hv, hw, hkd, hfk, hrk, rowI_len, rowC_len, List.length_reverse, List.length_map, List.take_zero, List.length_take, rowI_pur, rowI_one, mapO_nil, LF_0, runL_0, List.length_replicate, LF_len, Int.reduceEq, maxLen]))))
 | ((first | (with_reducible refine And.intro ?_ ?_) | (with_reducible refine Need.mk ?_)); focus (first | exact True.intro | omega | (intro _; exact True.intro)))
 | (with_reducible refine retK_n ?_)
 | ((with_reducible show condN _ _ _ _ _ _); first
 | ((with_reducible refine condN_t ?_ ?_) <;> (intro hc; (try simp only [zB, zC, reduceCtorEq] at hc); ((try (clear mk0; have e9 : k = i := (by omega); subst e9; have hgk := good_run hG hops k (Nat.le_refl k); have hgn := hgk.n)); (try (clear mk3; have hv8 := keys_eq hgk.a hnd hks hall; have hrk := rowI_ids (L := (runL (LF f n) o k)) (v := v) (by omega); have hfk := mapO_s (idx_mem hgk.a (getD_mem (L := (runL (LF f n) o k)) (v := v) (by omega))))); (try (have e0 : n = u := (by omega); subst e0)); (try (clear mk0; have hO := hops i (by omega); have hg := good_run hG hops i (by omega); clear hkd hfk; rcases op_kd hO with e5 | e5 | e5 | e5 | e5 <;> rcases hq : idx (runL (LF f n) o i) (o i).id with _ | g; all_goals (first | (have hkd := kd_1 e5) | (have hkd := kd_2 e5) | (have hkd := kd_3 e5) | (have hkd := kd_4 e5) | (have hkd := kd_5 e5)); all_goals (first | (have hfk := mapO_n hq) | (have hfk := mapO_s hq; have hgk := feat_ok (hg.f _ (idx_some hq).1)))))); (try (exfalso; contradiction)))))
 | ((with_reducible show callN _ _ _ _ _ _ _ _ _ _); first
 | (refine callN_q (k := 89) fnok_89 (flist_p n f hn hf) ?_ ?_)
 | (refine callN_q (k := 144) fnok_144 (changed_3 g (o i) hgk (ho i (by omega)) e5) ?_ ?_)
 | (refine callN_q (k := 144) fnok_144 (changed_4 g (o i) hgk (ho i (by omega)) e5) ?_ ?_)
 | (refine callN_q (k := 144) fnok_144 (changed_5 g (o i) hgk (ho i (by omega)) e5) ?_ ?_)
 | (refine callN_hpq (k := 121) fnok_121 (sort_k (good_run hG hops k (Nat.le_refl k)).a (good_run hG hops k (Nat.le_refl k)).n hnd hks hall 6 rfl) ?_ ?_)
 | ((refine callN_i (k := 63) Tryz.func63 rfl fnok_63 (by rw [Tryz.ntmps63]; simp) ?_ ?_ (fun K hK => ?_)); (focus (exact True.intro)); (focus ((simp [lsF]; done))); simp only [Tryz.ntmps63, List.map_cons, List.map_nil, List.nil_append, List.cons_append, List.append_nil, LV.tv, argEnv, Nat.zero_add, Nat.reduceAdd])
 | ((refine callN_i (k := 91) Tryz.func91 rfl fnok_91 (by rw [Tryz.ntmps91]; simp) ?_ ?_ (fun K hK => ?_)); (focus (exact True.intro)); (focus ((simp [lsF]; done))); simp only [Tryz.ntmps91, List.map_cons, List.map_nil, List.nil_append, List.cons_append, List.append_nil, LV.tv, argEnv, Nat.zero_add, Nat.reduceAdd])
 | ((refine callN_i (k := 92) Tryz.func92 rfl fnok_92 (by rw [Tryz.ntmps92]; simp) ?_ ?_ (fun K hK => ?_)); (focus (exact True.intro)); (focus ((simp [lsF]; done))); simp only [Tryz.ntmps92, List.map_cons, List.map_nil, List.nil_append, List.cons_append, List.append_nil, LV.tv, argEnv, Nat.zero_add, Nat.reduceAdd])
 | ((refine callN_i (k := 64) Tryz.func64 rfl fnok_64 (by rw [Tryz.ntmps64]; simp) ?_ ?_ (fun K hK => ?_)); (focus (exact True.intro)); (focus ((simp [lsF]; done))); simp only [Tryz.ntmps64, List.map_cons, List.map_nil, List.nil_append, List.cons_append, List.append_nil, LV.tv, argEnv, Nat.zero_add, Nat.reduceAdd])
 | ((refine callN_i (k := 94) Tryz.func94 rfl fnok_94 (by rw [Tryz.ntmps94]; simp) ?_ ?_ (fun K hK => ?_)); (focus (exact True.intro)); (focus ((simp [lsF]; done))); simp only [Tryz.ntmps94, List.map_cons, List.map_nil, List.nil_append, List.cons_append, List.append_nil, LV.tv, argEnv, Nat.zero_add, Nat.reduceAdd])
 | ((refine callN_i (k := 93) Tryz.func93 rfl fnok_93 (by rw [Tryz.ntmps93]; simp) ?_ ?_ (fun K hK => ?_)); (focus (exact True.intro)); (focus ((simp [lsF]; done))); simp only [Tryz.ntmps93, List.map_cons, List.map_nil, List.nil_append, List.cons_append, List.append_nil, LV.tv, argEnv, Nat.zero_add, Nat.reduceAdd])
 | ((refine callN_i (k := 120) Tryz.func120 rfl fnok_120 (by rw [Tryz.ntmps120]; simp) ?_ ?_ (fun K hK => ?_)); (focus (exact True.intro)); (focus ((simp [lsF]; done))); simp only [Tryz.ntmps120, List.map_cons, List.map_nil, List.nil_append, List.cons_append, List.append_nil, LV.tv, argEnv, Nat.zero_add, Nat.reduceAdd])
 | ((refine callN_i (k := 145) Tryz.func145 rfl fnok_145 (by rw [Tryz.ntmps145]; simp) ?_ ?_ (fun K hK => ?_)); (focus (exact True.intro)); (focus ((simp [lsF]; done))); simp only [Tryz.ntmps145, List.map_cons, List.map_nil, List.nil_append, List.cons_append, List.append_nil, LV.tv, argEnv, Nat.zero_add, Nat.reduceAdd])
 | ((refine callN_ic (k := 117) Tryz.func117 rfl fnok_117 (by rw [Tryz.ntmps117]; simp) ?_ ?_ (fun K hK => ?_)); (focus (exact True.intro)); (focus ((simp [lsF]; done))); simp only [Tryz.ntmps117, List.map_cons, List.map_nil, List.nil_append, List.cons_append, List.append_nil, LV.tv, argEnv, Nat.zero_add, Nat.reduceAdd])
 | ((refine callN_ic (k := 118) Tryz.func118 rfl fnok_118 (by rw [Tryz.ntmps118]; simp) ?_ ?_ (fun K hK => ?_)); (focus (exact True.intro)); (focus ((simp [lsF]; done))); simp only [Tryz.ntmps118, List.map_cons, List.map_nil, List.nil_append, List.cons_append, List.append_nil, LV.tv, argEnv, Nat.zero_add, Nat.reduceAdd])
 | ((refine callN_ic (k := 119) Tryz.func119 rfl fnok_119 (by rw [Tryz.ntmps119]; simp) ?_ ?_ (fun K hK => ?_)); (focus (exact True.intro)); (focus ((simp [lsF]; done))); simp only [Tryz.ntmps119, List.map_cons, List.map_nil, List.nil_append, List.cons_append, List.append_nil, LV.tv, argEnv, Nat.zero_add, Nat.reduceAdd]))
 | ((with_reducible show callGN _ _ _ _ _ _ _ _ _ _); first
 | (refine callGN_q (k := 90) fnok_90 (fun hg => pvalid_p k o hk ho) ?_ ?_))
 | (((with_reducible show AW _ (Code.loop (Code.seq (Code.region 3 #[⟨some 10, _, _, _, _, _⟩] _) _)) _ _); with_reducible refine aL (c := (Code.seq (Code.region 3 _ _) _)) (ι := Nat) [3,7,8] (fun u => [(9, iA .i64 (u : Int))]) (fun u => [(0, [.mi none u (mapO (LF f u))])]) (fun u => u ≤ n) (fun u => n - u) 0 ?lg3 ?l13 ?l23 ?li3 ?lr3); (case' lg3 => rintro u _); (case' li3 => try (omega)); (case' lr3 => rintro u hu KR hR3; simp only [keepE, hupd, hset, lk, if_true, if_false, xE, reduceIte, zN, hv, hw, hkd, hfk, hrk, rowI_len, rowC_len, List.length_reverse, List.length_map, List.take_zero, List.length_take, rowI_pur, rowI_one, mapO_nil, LF_0, runL_0, List.length_replicate, LF_len, Int.reduceEq, maxLen]))
 | ((with_reducible refine hR3 _ (u + 1) ?_); (try clear hR3 KR))
 | ((with_reducible refine hR7 _ (i + 1) ?_); (try clear hR7 KR))
 | ((with_reducible refine hR1 _ (kk :: ks) ?_); (try clear hR1 KR))
 | (((with_reducible show AW _ (Code.loop (Code.seq (Code.region 3 #[⟨some 11, _, _, _, _, _⟩] _) _)) _ _); with_reducible refine aL (c := (Code.seq (Code.region 3 _ _) _)) (ι := Nat) [0,8,9] (fun v => [(3, .t (.one (.slc 7 0 v 9))), (10, iA .i64 (v : Int))]) (fun v => [(7, rowC ((runL (LF f n) o k).take v))]) (fun v => v ≤ (runL (LF f n) o k).length) (fun v => (runL (LF f n) o k).length - v) 0 ?lg3b ?l13b ?l23b ?li3b ?lr3b); (case' lg3b => rintro v _); (case' li3b => try (omega)); (case' lr3b => rintro v hv9 KR hR3b; simp only [keepE, hupd, hset, lk, if_true, if_false, xE, reduceIte, zN, hv, hw, hkd, hfk, hrk, rowI_len, rowC_len, List.length_reverse, List.length_map, List.take_zero, List.length_take, rowI_pur, rowI_one, mapO_nil, LF_0, runL_0, List.length_replicate, LF_len, Int.reduceEq, maxLen]))
 | ((with_reducible refine hR3b _ (v + 1) ?_); (try clear hR3b KR))
 | ((with_reducible refine Told.mk ?_); simp only [go_sem, reduceIte, reduceCtorEq, xA, xL, xD, xE, xM, xS, xB, hv, hw, hkd, hfk, hrk, rowI_len, rowC_len, List.length_reverse, List.length_map, List.take_zero, List.length_take, rowI_pur, rowI_one, mapO_nil, LF_0, runL_0, List.length_replicate, LF_len, Int.reduceEq, maxLen] <;> (first | (((try simp (disch := omega) only [seaWrap, Int.natCast_add, Int.cast_ofNat_Int, and_true, true_and, and_self]); (repeat' (first | omega | rfl | (with_reducible refine And.intro ?_ ?_) | ((exact Or.inr ⟨(LF_mput hrs (by omega)).2, fun k => by rw [(LF_mput hrs (by omega)).1]; exact oeqv_rf _⟩)))); done)) | (((try simp (disch := omega) only [seaWrap, Int.natCast_add, Int.cast_ofNat_Int, and_true, true_and, and_self]); (repeat' (first | omega | rfl | (with_reducible refine And.intro ?_ ?_) | ((exact wkC_any _ _ (by simp; omega))) | ((exact Or.inr ⟨(ins_mi hg hO e5 hq (by omega)).2.1, fun k => by rw [(ins_mi hg hO e5 hq (by omega)).2.2]; exact oeqv_rf _⟩)) | ((exact all_succ (by assumption) (ins_mi hg hO e5 hq (by omega)).1)) | ((exact Or.inr ⟨(rem_mi hg e5 hq).2.1, fun k => by rw [(rem_mi hg e5 hq).2.2]; exact oeqv_rf _⟩)) | ((exact all_succ (by assumption) (rem_mi hg e5 hq).1)) | ((exact Or.inr ⟨(chg_mi hg (by omega) hq (by assumption)).2.1, fun k => by rw [(chg_mi hg (by omega) hq (by assumption)).2.2]; exact oeqv_rf _⟩)) | ((exact all_succ (by assumption) (chg_mi hg (by omega) hq (by assumption)).1)))); done)) | (((try simp (disch := omega) only [seaWrap, Int.natCast_add, Int.cast_ofNat_Int, and_true, true_and, and_self]); (repeat' (first | omega | rfl | (with_reducible refine And.intro ?_ ?_) | ((exact hkm.1)) | ((exact fun e => by rw [hyy] at e; cases e)) | ((exact wkC_eq rfl (rowI_iv _))))); done)) | (((try simp (disch := omega) only [seaWrap, Int.natCast_add, Int.cast_ofNat_Int, and_true, true_and, and_self]); (repeat' (first | omega | (with_reducible refine And.intro ?_ ?_) | ((exact wkC_eq rfl (rowI_iv _))) | ((rw [rowC_one (by omega)]; exact wkC_eq rfl (rowC_iv _))))); done))))
 | ((with_reducible show callK _ _ (Oper.mk _ (Op.range _ _) _ _ _ _) _ _ _); refine callK_range (by exact mp_107) (by simp (maxSteps := 2000000) only [go_sem, reduceIte, reduceCtorEq, xA, xL, xD, xE, xM, xS, xB, Tryz.f34, Tryz.f122, Tryz.f63, Tryz.f91, Tryz.f92, Tryz.f64, Tryz.f94, Tryz.f93, Tryz.f120, Tryz.f145, Tryz.f117, Tryz.f118, Tryz.f119, hv, hw, hkd, hfk, hrk, rowI_len, rowC_len, List.length_reverse, List.length_map, List.take_zero, List.length_take, rowI_pur, rowI_one, mapO_nil, LF_0, runL_0, List.length_replicate, LF_len, Int.reduceEq, maxLen]; rfl) (by simp (maxSteps := 2000000) only [go_sem, reduceIte, reduceCtorEq, xA, xL, xD, xE, xM, xS, xB, Tryz.f34, Tryz.f122, Tryz.f63, Tryz.f91, Tryz.f92, Tryz.f64, Tryz.f94, Tryz.f93, Tryz.f120, Tryz.f145, Tryz.f117, Tryz.f118, Tryz.f119, hv, hw, hkd, hfk, hrk, rowI_len, rowC_len, List.length_reverse, List.length_map, List.take_zero, List.length_take, rowI_pur, rowI_one, mapO_nil, LF_0, runL_0, List.length_replicate, LF_len, Int.reduceEq, maxLen]; rfl) (fun cc => ?_))
 | ((with_reducible show callK _ _ (Oper.mk _ (Op.next _ _) _ _ _ _) _ _ _); refine callK_next (by simp (maxSteps := 2000000) only [go_sem, reduceIte, reduceCtorEq, xA, xL, xD, xE, xM, xS, xB, Tryz.f34, Tryz.f122, Tryz.f63, Tryz.f91, Tryz.f92, Tryz.f64, Tryz.f94, Tryz.f93, Tryz.f120, Tryz.f145, Tryz.f117, Tryz.f118, Tryz.f119, hv, hw, hkd, hfk, hrk, rowI_len, rowC_len, List.length_reverse, List.length_map, List.take_zero, List.length_take, rowI_pur, rowI_one, mapO_nil, LF_0, runL_0, List.length_replicate, LF_len, Int.reduceEq, maxLen]; rfl) (by simp (maxSteps := 2000000) only [go_sem, reduceIte, reduceCtorEq, xA, xL, xD, xE, xM, xS, xB, Tryz.f34, Tryz.f122, Tryz.f63, Tryz.f91, Tryz.f92, Tryz.f64, Tryz.f94, Tryz.f93, Tryz.f120, Tryz.f145, Tryz.f117, Tryz.f118, Tryz.f119, hv, hw, hkd, hfk, hrk, rowI_len, rowC_len, List.length_reverse, List.length_map, List.take_zero, List.length_take, rowI_pur, rowI_one, mapO_nil, LF_0, runL_0, List.length_replicate, LF_len, Int.reduceEq, maxLen]; rfl) (by simp (maxSteps := 2000000) only [go_sem, reduceIte, reduceCtorEq, xA, xL, xD, xE, xM, xS, xB, Tryz.f34, Tryz.f122, Tryz.f63, Tryz.f91, Tryz.f92, Tryz.f64, Tryz.f94, Tryz.f93, Tryz.f120, Tryz.f145, Tryz.f117, Tryz.f118, Tryz.f119, hv, hw, hkd, hfk, hrk, rowI_len, rowC_len, List.length_reverse, List.length_map, List.take_zero, List.length_take, rowI_pur, rowI_one, mapO_nil, LF_0, runL_0, List.length_replicate, LF_len, Int.reduceEq, maxLen]; rfl) (fun hall => ?_) (fun kk yy hyy hnn => ?_))
 | ((with_reducible show callK _ _ (Oper.mk _ (Op.entry _) _ _ _ _) _ _ _); refine callK_entry (by simp (maxSteps := 2000000) only [go_sem, reduceIte, reduceCtorEq, xA, xL, xD, xE, xM, xS, xB, Tryz.f34, Tryz.f122, Tryz.f63, Tryz.f91, Tryz.f92, Tryz.f64, Tryz.f94, Tryz.f93, Tryz.f120, Tryz.f145, Tryz.f117, Tryz.f118, Tryz.f119, hv, hw, hkd, hfk, hrk, rowI_len, rowC_len, List.length_reverse, List.length_map, List.take_zero, List.length_take, rowI_pur, rowI_one, mapO_nil, LF_0, runL_0, List.length_replicate, LF_len, Int.reduceEq, maxLen]; rfl) (by simp (maxSteps := 2000000) only [go_sem, reduceIte, reduceCtorEq, xA, xL, xD, xE, xM, xS, xB, Tryz.f34, Tryz.f122, Tryz.f63, Tryz.f91, Tryz.f92, Tryz.f64, Tryz.f94, Tryz.f93, Tryz.f120, Tryz.f145, Tryz.f117, Tryz.f118, Tryz.f119, hv, hw, hkd, hfk, hrk, rowI_len, rowC_len, List.length_reverse, List.length_map, List.take_zero, List.length_take, rowI_pur, rowI_one, mapO_nil, LF_0, runL_0, List.length_replicate, LF_len, Int.reduceEq, maxLen]; rfl) (by simp (maxSteps := 2000000) only [go_sem, reduceIte, reduceCtorEq, xA, xL, xD, xE, xM, xS, xB, Tryz.f34, Tryz.f122, Tryz.f63, Tryz.f91, Tryz.f92, Tryz.f64, Tryz.f94, Tryz.f93, Tryz.f120, Tryz.f145, Tryz.f117, Tryz.f118, Tryz.f119, hv, hw, hkd, hfk, hrk, rowI_len, rowC_len, List.length_reverse, List.length_map, List.take_zero, List.length_take, rowI_pur, rowI_one, mapO_nil, LF_0, runL_0, List.length_replicate, LF_len, Int.reduceEq, maxLen]; rfl) (by ((intros; simp_all; done))) (fun yy hyy => ?_))
 | ((fail_if_success (with_reducible show AW _ _ _ _)); simp (maxSteps := 2000000) only [go_sem, reduceIte, reduceCtorEq, xA, xL, xD, xE, xM, xS, xB, Tryz.f34, Tryz.f122, Tryz.f63, Tryz.f91, Tryz.f92, Tryz.f64, Tryz.f94, Tryz.f93, Tryz.f120, Tryz.f145, Tryz.f117, Tryz.f118, Tryz.f119, hv, hw, hkd, hfk, hrk, rowI_len, rowC_len, List.length_reverse, List.length_map, List.take_zero, List.length_take, rowI_pur, rowI_one, mapO_nil, LF_0, runL_0, List.length_replicate, LF_len, Int.reduceEq, maxLen])
 | ((with_reducible show callN _ _ _ _ _ _ (.yld _) _ _ _); (refine callN_y (by simp only [lkL, if_true]; exact rfl) ?_ (by simp) ?_ ?_ (fun K hK => ?_)); (focus (exact True.intro)); (focus (simp [ltAll])); (focus ((simp [lsF]; done))); simp only [zipPut, gf, if_true, Nat.reduceAdd])
 | ((with_reducible refine hK _ ?_); clear hK K)
 | (with_reducible apply_assumption -exfalso only [*]))
  all_goals ((have h8 := keys_eq (good_run hG hops k (Nat.le_refl k)).a hnd hks hall; have e7 : v = (runL (LF f n) o k).length := (by omega); subst e7; rw [List.take_length]; have h7 := ap_ok hv hw (Int.le_refl _) hai; refine ⟨⟨by omega, fun c hc9 => (by have := rowC_iv _ c hc9; cases c <;> trivial)⟩, ⟨h7.1, fun i q hi hq => rowC_eqv (runL (LF f n) o k) i q hi hq⟩, h7.2⟩))
theorem Apply_f (n : Nat) (f : Nat → Feat) (k : Nat) (o : Nat → OpS) (hn : n ≤ 9223372036854775807) (hf : ∀ i, i < n → (f i).Ok) (hk : k ≤ 9223372036854775807) (ho : ∀ i, i < k → (o i).f.Ok) (hv : feaB n f = false) : CallsP Tryz.prog 34 [.one (.lst 9 n (featF f)), .one (.lst 16 k (oprF o))] (.tup [.one (.lst 9 (apN n f k o) (featF (apF n f k o))), .one (.g (.int .i64 (apI n f k o))), .one (.g (.int .i64 (apE n f k o)))]) := by
  refine CallsP_of Tryz.func34 rfl (by rw [Tryz.ntmps34]; simp) ?_
  simp only [Tryz.ntmps34, zM, PT.tv, argEnv, Nat.zero_add, Nat.reduceAdd]
  repeat' (first
 | ((with_reducible show AW _ _ _ _); first
 | (with_reducible first | refine aS (fun K hK => ?_) | refine aT ?_ | refine aC ?_)
 | (first
 | (with_reducible first | refine aP (ops := #[⟨some 4, _, _, _, _, _⟩, _, _]) 0 [0,1] ?_ | refine aP (ops := #[⟨some 4, _, _, _, _, _⟩, _, _, _]) 0 [0,1] ?_ | refine aP (ops := #[⟨some 12, _, _, _, _, _⟩, _, _, _, _, _, _, _, _, _, _, _]) 1 [0,1] ?_ | refine aP (ops := #[⟨some 15, _, _, _, _, _⟩, _, _, _, _, _, _, _]) 1 [0,1] ?_ | refine aP (ops := #[⟨some 19, _, _, _, _, _⟩, _]) 2 [7,9,10] ?_ | refine aP (ops := #[⟨some 4, _, _, _, _, _⟩, _, _, _]) 2 [] ?_ | refine aP (ops := #[⟨some 21, _, _, _, _, _⟩, _, _, _, _]) 3 [9,10] ?_)))
 | ((first | (with_reducible refine And.intro ?_ ?_) | (with_reducible refine Need.mk ?_)); focus (first | exact True.intro | (simp; done)))
 | (with_reducible refine retK_n ?_)
 | ((with_reducible show condN _ _ _ _ _ _); first
 | ((with_reducible refine condN_t ?_ ?_) <;> (intro hc; (try simp only [zB, zC, reduceCtorEq] at hc); (try (exfalso; contradiction)))))
 | ((with_reducible show callN _ _ _ _ _ _ _ _ _ _); first
 | (refine callN_q (k := 89) fnok_89 (flist_p n f hn hf) ?_ ?_)
 | ((refine callN_i (k := 63) Tryz.func63 rfl fnok_63 (by rw [Tryz.ntmps63]; simp) ?_ ?_ (fun K hK => ?_)); (focus (exact True.intro)); (focus ((simp [lsF]; done))); simp only [Tryz.ntmps63, List.map_cons, List.map_nil, List.nil_append, List.cons_append, List.append_nil, LV.tv, argEnv, Nat.zero_add, Nat.reduceAdd]))
 | ((with_reducible show callGN _ _ _ _ _ _ _ _ _ _); first
 | (refine callGN_q (k := 90) fnok_90 (fun hg => pvalid_p k o hk ho) ?_ ?_))
 | ((fail_if_success (with_reducible show AW _ _ _ _)); simp (maxSteps := 2000000) only [go_sem, reduceIte, reduceCtorEq, xA, xL, xD, xE, xM, xS, xB, Tryz.f34, Tryz.f63, hv])
 | ((with_reducible refine hK _ ?_); clear hK K)
 | (with_reducible apply_assumption -exfalso only [*]))
  all_goals (exact ap_bad (by unfold apV; rw [hv]; rfl))
theorem Apply_g (n : Nat) (f : Nat → Feat) (k : Nat) (o : Nat → OpS) (hn : n ≤ 9223372036854775807) (hf : ∀ i, i < n → (f i).Ok) (hk : k ≤ 9223372036854775807) (ho : ∀ i, i < k → (o i).f.Ok) (hv : feaB n f = true) (hw : opsB k o = false) : CallsP Tryz.prog 34 [.one (.lst 9 n (featF f)), .one (.lst 16 k (oprF o))] (.tup [.one (.lst 9 (apN n f k o) (featF (apF n f k o))), .one (.g (.int .i64 (apI n f k o))), .one (.g (.int .i64 (apE n f k o)))]) := by
  refine CallsP_of Tryz.func34 rfl (by rw [Tryz.ntmps34]; simp) ?_
  simp only [Tryz.ntmps34, zM, PT.tv, argEnv, Nat.zero_add, Nat.reduceAdd]
  repeat' (first
 | ((with_reducible show AW _ _ _ _); first
 | (with_reducible first | refine aS (fun K hK => ?_) | refine aT ?_ | refine aC ?_)
 | (first
 | (with_reducible first | refine aP (ops := #[⟨some 4, _, _, _, _, _⟩, _, _]) 0 [0,1] ?_ | refine aP (ops := #[⟨some 4, _, _, _, _, _⟩, _, _, _]) 0 [0,1] ?_ | refine aP (ops := #[⟨some 12, _, _, _, _, _⟩, _, _, _, _, _, _, _, _, _, _, _]) 1 [0,1] ?_ | refine aP (ops := #[⟨some 15, _, _, _, _, _⟩, _, _, _, _, _, _, _]) 1 [0,1] ?_ | refine aP (ops := #[⟨some 19, _, _, _, _, _⟩, _]) 2 [7,9,10] ?_ | refine aP (ops := #[⟨some 4, _, _, _, _, _⟩, _, _, _]) 2 [] ?_ | refine aP (ops := #[⟨some 21, _, _, _, _, _⟩, _, _, _, _]) 3 [9,10] ?_)))
 | ((first | (with_reducible refine And.intro ?_ ?_) | (with_reducible refine Need.mk ?_)); focus (first | exact True.intro | (intro _; exact True.intro)))
 | (with_reducible refine retK_n ?_)
 | ((with_reducible show condN _ _ _ _ _ _); first
 | ((with_reducible refine condN_t ?_ ?_) <;> (intro hc; (try simp only [zB, zC, reduceCtorEq] at hc); (try (exfalso; contradiction)))))
 | ((with_reducible show callN _ _ _ _ _ _ _ _ _ _); first
 | (refine callN_q (k := 89) fnok_89 (flist_p n f hn hf) ?_ ?_)
 | ((refine callN_i (k := 63) Tryz.func63 rfl fnok_63 (by rw [Tryz.ntmps63]; simp) ?_ ?_ (fun K hK => ?_)); (focus (exact True.intro)); (focus ((simp [lsF]; done))); simp only [Tryz.ntmps63, List.map_cons, List.map_nil, List.nil_append, List.cons_append, List.append_nil, LV.tv, argEnv, Nat.zero_add, Nat.reduceAdd]))
 | ((with_reducible show callGN _ _ _ _ _ _ _ _ _ _); first
 | (refine callGN_q (k := 90) fnok_90 (fun hg => pvalid_p k o hk ho) ?_ ?_))
 | ((fail_if_success (with_reducible show AW _ _ _ _)); simp (maxSteps := 2000000) only [go_sem, reduceIte, reduceCtorEq, xA, xL, xD, xE, xM, xS, xB, Tryz.f34, Tryz.f63, hv, hw])
 | ((with_reducible refine hK _ ?_); clear hK K)
 | (with_reducible apply_assumption -exfalso only [*]))
  all_goals (exact ap_bad (by unfold apV; rw [hv]; rw [hw]; rfl))
theorem Apply_p (n : Nat) (f : Nat → Feat) (k : Nat) (o : Nat → OpS) (hn : n ≤ 9223372036854775807) (hf : ∀ i, i < n → (f i).Ok) (hk : k ≤ 9223372036854775807) (ho : ∀ i, i < k → (o i).f.Ok) : CallsP Tryz.prog 34 [.one (.lst 9 n (featF f)), .one (.lst 16 k (oprF o))] (.tup [.one (.lst 9 (apN n f k o) (featF (apF n f k o))), .one (.g (.int .i64 (apI n f k o))), .one (.g (.int .i64 (apE n f k o)))]) := by
  cases hv : feaB n f with
  | false => exact Apply_f n f k o hn hf hk ho hv
  | true => cases hw : opsB k o with
    | false => exact Apply_g n f k o hn hf hk ho hv hw
    | true => exact Apply_t n f k o hn hf hk ho hv hw
end Go.Proofs.YtmnejmpjmniiiaaGreatDoor
namespace Go.Proofs.YtmnejmpjmniiiaaGreatDoor
open Go.RowKit Go.Sea
def bl (s : Nat) : List Nat := (List.range 10).filter s.testBit
def cz (s : Nat) : Nat := Lib.ctz 64 s
theorem bl_all : ∀ s, s < 1024 → 0 < s → bl s = cz s :: bl (s &&& (s - 1)) ∧ s &&& (s - 1) < s ∧ cz s < 10 := by decide +kernel
theorem bl_z : bl 0 = [] := by decide +kernel
theorem bl_mem {s i : Nat} : i ∈ bl s ↔ i < 10 ∧ s.testBit i = true := by unfold bl; simp
theorem bl_nod (s : Nat) : (bl s).Nodup := List.Nodup.sublist List.filter_sublist List.nodup_range
theorem bl_lt (s : Nat) : (bl s).Pairwise (· < ·) := List.Pairwise.sublist List.filter_sublist List.pairwise_lt_range
theorem set_ext {s t : Nat} (hs : s < 1024) (ht : t < 1024) (h : ∀ i, i < 10 → s.testBit i = t.testBit i) : s = t := by
  apply Nat.eq_of_testBit_eq
  intro i
  by_cases hi : i < 10
  · exact h i hi
  · have : 1024 ≤ 2 ^ i := Nat.pow_le_pow_right (n := 2) (by decide) (by omega : 10 ≤ i)
    rw [Nat.testBit_lt_two_pow (by omega), Nat.testBit_lt_two_pow (by omega)]
theorem wrN (x : Nat) (h : x < 18446744073709551616) : IntKind.u64.wrap (x : Int) = (x : Int) := by rw [IntKind.wrap_u64]; omega
theorem u_shl {k : Nat} (h : k < 64) : IntKind.u64.wrap (1 * 2 ^ (min (k : Int).toNat IntKind.u64.bits)) = ((2 ^ k : Nat) : Int) := by
  have e : min (k : Int).toNat IntKind.u64.bits = k := by simp [IntKind.bits]; omega
  have h2 : 2 ^ k < 2 ^ 64 := Nat.pow_lt_pow_right (by decide) h
  rw [e, Int.one_mul, ← wrN (2 ^ k) (by omega)]; simp
theorem u_shr (x k : Nat) (h : k < 64) : (x : Int).fdiv (2 ^ (min (k : Int).toNat IntKind.u64.bits)) = ((x >>> k : Nat) : Int) := by
  have e : min (k : Int).toNat IntKind.u64.bits = k := by simp [IntKind.bits]; omega
  rw [e, Int.fdiv_eq_ediv_of_nonneg _ (Int.pow_nonneg (by decide)), Nat.shiftRight_eq_div_pow]
  simp
theorem u_and {x y : Nat} (hx : x < 18446744073709551616) (hy : y < 18446744073709551616) : bits .and .u64 (x : Int) (y : Int) = ((x &&& y : Nat) : Int) := bits_and_u64_nat x y hx hy
theorem u_or {x y : Nat} (hx : x < 18446744073709551616) (hy : y < 18446744073709551616) : bits .or .u64 (x : Int) (y : Int) = ((x ||| y : Nat) : Int) := bits_or_u64_nat x y hx hy
theorem u_xor {x y : Nat} (hx : x < 18446744073709551616) (hy : y < 18446744073709551616) : bits .xor .u64 (x : Int) (y : Int) = ((x ^^^ y : Nat) : Int) := bits_xor_u64_nat x y hx hy
theorem u_one (x k : Nat) : ((x >>> k &&& 1 : Nat) : Int) = 1 ↔ x.testBit k = true := by
  unfold Nat.testBit
  rw [Nat.and_comm (x >>> k) 1]
  have : 1 &&& x >>> k < 2 := Nat.lt_of_le_of_lt Nat.and_le_left (by decide)
  rcases (by omega : 1 &&& x >>> k = 0 ∨ 1 &&& x >>> k = 1) with e | e <;> rw [e] <;> simp
theorem u_andNot {x y : Nat} (hx : x < 18446744073709551616) (hy : y < 18446744073709551616) : bits .andNot .u64 (x : Int) (y : Int) = ((x ^^^ (x &&& y) : Nat) : Int) := by
  have h1 : (BitVec.ofInt 64 (x : Int)).toNat = x := by
    rw [BitVec.ofInt_natCast, BitVec.toNat_ofNat]; exact Nat.mod_eq_of_lt (by omega)
  have h2 : (BitVec.ofInt 64 (y : Int)).toNat = y := by
    rw [BitVec.ofInt_natCast, BitVec.toNat_ofNat]; exact Nat.mod_eq_of_lt (by omega)
  have h3 : x ^^^ (x &&& y) < 18446744073709551616 := Nat.xor_lt_two_pow (n := 64) hx (Nat.and_lt_two_pow _ hy)
  show IntKind.u64.wrap ((BitVec.ofInt 64 (x : Int) &&& ~~~BitVec.ofInt 64 (y : Int)).toNat : Int) = _
  have h4 : (BitVec.ofInt 64 (x : Int) &&& ~~~BitVec.ofInt 64 (y : Int)).toNat = x ^^^ (x &&& y) := by
    apply Nat.eq_of_testBit_eq
    intro i
    rw [BitVec.toNat_and, Nat.testBit_and, Nat.testBit_xor, Nat.testBit_and, h1, BitVec.toNat_not, h2]
    by_cases hi : i < 64
    · rw [show 2 ^ 64 - 1 - y = 2 ^ 64 - (y + 1) by omega, Nat.testBit_two_pow_sub_succ (by omega)]
      cases x.testBit i <;> cases y.testBit i <;> simp [hi]
    · have : 2 ^ 64 ≤ 2 ^ i := Nat.pow_le_pow_right (by decide) (by omega)
      rw [Nat.testBit_lt_two_pow (by omega : x < 2 ^ i)]; simp
  rw [h4]; exact wrN _ h3
def lb (d : Nat) : Nat := if d = 0 then 0 else 2 ^ cz d
theorem u_low {d : Nat} (h : d < 1024) : bits .and .u64 (d : Int) (IntKind.u64.wrap (0 - (d : Int))) = ((lb d : Nat) : Int) := by
  unfold lb
  by_cases e : d = 0
  · subst e; decide +kernel
  · rw [if_neg e]
    obtain ⟨h1, h2⟩ := Lib.lowest_bit 64 d e (by omega)
    have e1 : IntKind.u64.wrap (0 - (d : Int)) = ((18446744073709551616 - d : Nat) : Int) := by rw [IntKind.wrap_u64]; omega
    rw [e1, u_and (by omega) (by omega)]
    exact congrArg _ h1
def befB (s t : Nat) : Bool := decide (s &&& lb (s ^^^ t) ≠ 0)
theorem lb_lt : ∀ d, d < 1024 → lb d < 1024 := by decide +kernel
theorem xor_lt {s t : Nat} (h : s < 1024) (h2 : t < 1024) : s ^^^ t < 1024 := Nat.xor_lt_two_pow (n := 10) h h2
theorem or_lt {s t : Nat} (h : s < 1024) (h2 : t < 1024) : s ||| t < 1024 := Nat.or_lt_two_pow (n := 10) h h2
theorem u_bef {s t : Nat} (hs : s < 1024) (ht : t < 1024) : (bits .and .u64 (s : Int) (bits .and .u64 (bits .xor .u64 (s : Int) (t : Int)) (IntKind.u64.wrap (0 - bits .xor .u64 (s : Int) (t : Int)))) != 0) = befB s t := by
  have hx := xor_lt hs ht
  have hl := lb_lt _ hx
  rw [u_xor (by omega) (by omega), u_low hx, u_and (by omega) (by omega)]
  unfold befB
  rw [Bool.eq_iff_iff]; simp
theorem p2_lt {k : Nat} (h : k < 10) : 2 ^ k < 1024 := Nat.pow_lt_pow_right (n := 10) (by decide) h
structure StepS where
  nu : Int
  q : Nat
  a : Nat → Int
structure PtS where
  k : Nat
  o : Nat → OpS
structure CaS where
  n : Nat
  f : Nat → Feat
  m : Nat
  S : Nat → StepS
  mo : Nat
  O : Nat → PtS
structure CaS.Ok (x : CaS) : Prop where
  n : x.n ≤ 9223372036854775807
  f : ∀ i, i < x.n → (x.f i).Ok
  m : x.m ≤ 9223372036854775807
  q : ∀ i, i < x.m → (x.S i).q ≤ 9223372036854775807
  mo : x.mo ≤ 9223372036854775807
  k : ∀ i, i < x.mo → (x.O i).k ≤ 9223372036854775807
  o : ∀ i, i < x.mo → ∀ j, j < (x.O i).k → ((x.O i).o j).f.Ok
def stpG : StepS → Nat → IV
  | s, 0 => .g (.int .i64 s.nu)
  | s, _ + 1 => .lst 1 s.q (intI s.a)
def stF (S : Nat → StepS) (i o : Nat) : IV := stpG (S i) o
def ptF (O : Nat → PtS) (i o : Nat) : IV := .lst 16 (O i).k (oprF (O i).o)
theorem stF0 (S : Nat → StepS) (i : Nat) : stF S i 0 = .g (.int .i64 (S i).nu) := rfl
theorem stF1 (S : Nat → StepS) (i : Nat) : stF S i 1 = .lst 1 (S i).q (intI (S i).a) := rfl
theorem ptF0 (O : Nat → PtS) (i : Nat) : ptF O i 0 = .lst 16 (O i).k (oprF (O i).o) := rfl
def setO (l : List Int) (k : Int) : Option PT := if l.contains k = true then some (.one (.g (.bool true))) else none
theorem setO_nil : setO [] = fun _ => none := rfl
theorem setO_t {l : List Int} {k : Int} (h : l.contains k = true) : setO l k = some (.one (.g (.bool true))) := by unfold setO; rw [if_pos h]
theorem setO_f {l : List Int} {k : Int} (h : l.contains k = false) : setO l k = none := by unfold setO; rw [if_neg (by rw [h]; simp)]
theorem setO_put (l : List Int) (k : Int) : mputF (setO l) k (.one (.g (.bool true))) = setO (l ++ [k]) := by
  funext j
  unfold mputF setO
  by_cases h : j = k
  · rw [if_pos h, if_pos (by simp [h])]
  · rw [if_neg h]
    have : (l ++ [k]).contains j = l.contains j := by
      rw [Bool.eq_iff_iff]; simp [h]
    rw [this]
theorem setO_len {l : List Int} {k : Int} {n : Nat} (h : l.contains k = false) : mputN n (setO l) k = n + 1 := by unfold mputN; rw [setO_f h]; rfl
theorem oeqv_rf2 : ∀ x : Option PT, oeqv x x
  | none => trivial
  | some x => PT.eqv_refl x
def nuM (S : Nat → StepS) (i : Nat) : List Int := (List.range i).map fun j => (S j).nu
theorem nuM_0 (S : Nat → StepS) : nuM S 0 = [] := rfl
theorem nuM_s (S : Nat → StepS) (i : Nat) : nuM S (i + 1) = nuM S i ++ [(S i).nu] := by unfold nuM; rw [List.range_succ, List.map_append]; rfl
theorem nuM_mem {S : Nat → StepS} {i : Nat} {x : Int} : (nuM S i).contains x = true ↔ ∃ j, j < i ∧ (S j).nu = x := by
  unfold nuM; simp
def numB (x : Int) : Bool := decide (1 ≤ x ∧ x ≤ 10000)
def risB (q : Nat) (a : Nat → Int) : Bool := decide (∀ j, j < q → 0 < j → a (j - 1) < a j)
def lsN (S : Nat → StepS) (i : Nat) : Int := if i = 0 then 0 else (S (i - 1)).nu
theorem lsN_0 (S : Nat → StepS) : lsN S 0 = 0 := rfl
theorem lsN_s (S : Nat → StepS) (i : Nat) : lsN S (i + 1) = (S i).nu := by unfold lsN; rw [if_neg (by omega)]; rfl
def allB (l : List Int) (q : Nat) (a : Nat → Int) : Bool := decide (∀ j, j < q → l.contains (a j) = true)
def stO (S : Nat → StepS) (i : Nat) : Prop := numB (S i).nu = true ∧ lsN S i < (S i).nu ∧ risB (S i).q (S i).a = true ∧ allB (nuM S i) (S i).q (S i).a = true
instance (S : Nat → StepS) (i : Nat) : Decidable (stO S i) := by unfold stO; infer_instance
def vsB (S : Nat → StepS) (m : Nat) : Bool := decide (m ≤ 200 ∧ ∀ i, i < m → stO S i)
theorem nuM_new {S : Nat → StepS} {i : Nat} (h : ∀ j, j < i → stO S j) (hi : lsN S i < (S i).nu) : (nuM S i).contains (S i).nu = false := by
  have up : ∀ i, (∀ j, j < i → stO S j) → ∀ j, j < i → (S j).nu ≤ lsN S i := by
    intro i
    induction i with
    | zero => intro _ j hj; omega
    | succ i ih =>
      intro h j hj
      rw [lsN_s]
      rcases (by omega : j < i ∨ j = i) with g | rfl
      · have := ih (fun k hk => h k (by omega)) j g
        have := (h i (by omega)).2.1
        omega
      · exact Int.le_refl _
  cases e : (nuM S i).contains (S i).nu with
  | false => rfl
  | true =>
    obtain ⟨j, h1, h2⟩ := nuM_mem.1 e
    have := up i h j h1
    omega
theorem vs_f {S : Nat → StepS} {m i : Nat} (hi : (i : Int) < m) (h : ¬ stO S i) : false = vsB S m := (decide_eq_false fun g => h (g.2 i (by omega))).symm
theorem vs_t {S : Nat → StepS} {m i : Nat} (hi : (m : Int) ≤ i) (g : ∀ j, j < i → stO S j) : decide ((m : Int) ≤ 200) = vsB S m := by
  unfold vsB; exact decide_eq_decide.2 ⟨fun h => ⟨by omega, fun k hk => g k (by omega)⟩, fun h => by omega⟩
theorem ris_f {q : Nat} {a : Nat → Int} {j : Nat} (hj : (j : Int) + 1 < q) (h : a (j + 1) ≤ a j) : false = risB q a := (decide_eq_false fun g => by have := g (j + 1) (by omega) (by omega); simp only [Nat.add_sub_cancel] at this; omega).symm
theorem ris_t {q : Nat} {a : Nat → Int} {j : Nat} (hj : (q : Int) ≤ (j : Int) + 1) (h : ∀ i, i < j → a i < a (i + 1)) : true = risB q a := (decide_eq_true fun k hk h0 => by have := h (k - 1) (by omega); rwa [Nat.sub_add_cancel (by omega)] at this).symm
theorem all_f {l : List Int} {q : Nat} {a : Nat → Int} {j : Nat} (hj : (j : Int) < q) (h : l.contains (a j) = false) : allB l q a = false := decide_eq_false fun g => by have := g j (by omega); rw [h] at this; cases this
theorem all_t {l : List Int} {q : Nat} {a : Nat → Int} {j : Nat} (hj : (q : Int) ≤ j) (h : ∀ i, i < j → l.contains (a i) = true) : allB l q a = true := decide_eq_true fun k hk => h k (by omega)
def rdL (S : Nat → StepS) (i : Nat) : List Int := ((List.range i).filter fun j => (S j).q == 0).map fun j => (S j).nu
theorem rdL_0 (S : Nat → StepS) : rdL S 0 = [] := rfl
theorem rdL_t {S : Nat → StepS} {i : Nat} (h : (S i).q = 0) : rdL S (i + 1) = rdL S i ++ [(S i).nu] := by
  unfold rdL; rw [List.range_succ, List.filter_append, List.map_append, List.filter_cons_of_pos (by simp [h])]; rfl
theorem rdL_f {S : Nat → StepS} {i : Nat} (h : 0 < (S i).q) : rdL S (i + 1) = rdL S i := by
  unfold rdL; rw [List.range_succ, List.filter_append, List.filter_cons_of_neg (by simp; omega)]; simp
theorem rdL_le (S : Nat → StepS) (i : Nat) : (rdL S i).length ≤ i := by
  unfold rdL; rw [List.length_map]; exact Nat.le_trans (List.length_filter_le ..) (by simp)
def fldB (o : OpS) : Bool := decide (3 ≤ o.kd ∧ o.kd ≤ 5)
def hitB (x y : OpS) : Bool := decide (x.id = y.id ∧ (x.kd = y.kd ∨ fldB x = false ∨ fldB y = false))
def hitK (x : OpS) (l : Nat) (p : Nat → OpS) : Nat := fstB (fun j => hitB x (p j)) l
def comJ (k : Nat) (o : Nat → OpS) (l : Nat) (p : Nat → OpS) : Nat := fstB (fun i => decide (hitK (o i) l p < l)) k
def comX (k : Nat) (o : Nat → OpS) (l : Nat) (p : Nat → OpS) : Int := if comJ k o l p < k then comJ k o l p else -1
def comY (k : Nat) (o : Nat → OpS) (l : Nat) (p : Nat → OpS) : Int := if comJ k o l p < k then hitK (o (comJ k o l p)) l p else -1
theorem com_h {k : Nat} {o : Nat → OpS} {l : Nat} {p : Nat → OpS} {i j : Nat} (hi : (i : Int) < k) (g : ∀ i', i' < i → ∀ j, j < l → hitB (o i') (p j) = false) (hj : (j : Int) < l) (h : hitB (o i) (p j) = true) (gj : ∀ j', j' < j → hitB (o i) (p j') = false) : (i : Int) = comX k o l p ∧ (j : Int) = comY k o l p := by
  have e1 : hitK (o i) l p = j := fstB_h (b := fun j => hitB (o i) (p j)) h gj l (by omega)
  have e2 : comJ k o l p = i := fstB_h (b := fun i => decide (hitK (o i) l p < l)) (decide_eq_true (by rw [e1]; omega)) (fun t ht => decide_eq_false (by
    have : hitK (o t) l p = l := fstB_t l fun j hj => g t ht j hj
    omega)) k (by omega)
  unfold comX comY
  rw [e2, if_pos (by omega), if_pos (by omega), e1]
  exact ⟨rfl, rfl⟩
theorem com_n {k : Nat} {o : Nat → OpS} {l : Nat} {p : Nat → OpS} {i : Nat} (hi : (k : Int) ≤ i) (g : ∀ i', i' < i → ∀ j, j < l → hitB (o i') (p j) = false) : -1 = comX k o l p ∧ -1 = comY k o l p := by
  have e2 : comJ k o l p = k := fstB_t k fun t ht => decide_eq_false (by
    have : hitK (o t) l p = l := fstB_t l fun j hj => g t (by omega) j hj
    omega)
  unfold comX comY
  rw [e2, if_neg (by omega), if_neg (by omega)]
  exact ⟨rfl, rfl⟩
def smK (O : Nat → PtS) : Nat → Nat
  | 0 => 0
  | i + 1 => smK O i + (O i).k
def zL (l : List Int) (i : Nat) : Int := l.getD i 0
theorem row_zL (l : List Int) : ∀ i o, i < l.length → o < 1 → (civ ((rowI l).getD (i + o) .any)).eqv (.g (.int .i64 (zL l i))) := fun i o hi ho => by
  obtain rfl : o = 0 := by omega
  rw [Nat.add_zero, rowI_get _ _ hi]; exact IV.eqv_refl _
theorem rowI_snoc (zs : List Int) (x : Int) (i : Nat) : List.map (CV.purge i) (rowI zs ++ [.iv (.g (.int .i64 x))]) = rowI (zs ++ [x]) := by
  have e : rowI zs ++ [CV.iv (.g (.int .i64 x))] = rowI (zs ++ [x]) := by simp [rowI]
  rw [e]; exact rowI_pur _ _
theorem n00 : ((0 : Nat) : Int) = 0 := rfl
theorem callGK_s {P : Program} {gs : List (Option Nat)} {b : Bool} {o : Oper} {os : List Oper} {s : AS} {K : AS → Prop} (h1 : b = true → callK P gs o os s K) (h2 : b = false → arun P gs os (s.put o.dst .any) K) : callGK P gs b o os s K := Or.inr ⟨h1, h2⟩
def badO (x : CaS) : Prop := vsB x.S x.m = false ∨ feaB x.n x.f = false ∨ x.mo ≠ x.m ∨ ∃ i, i < x.mo ∧ opsB (x.O i).k (x.O i).o = false
instance (x : CaS) : Decidable (badO x) := by unfold badO; infer_instance
def cvE (x : CaS) : Int := if badO x then 1 else if x.m > 10 ∨ x.n + smK x.O x.mo > 300 then 2 else 0
theorem getD_l {a b : List Nat} {i : Nat} (h : i < a.length) : (a ++ b).getD i 0 = a.getD i 0 := by
  simp only [List.getD_eq_getElem?_getD]; rw [List.getElem?_append_left h]
theorem getD_r {a b : List Nat} {i : Nat} (h : a.length ≤ i) : (a ++ b).getD i 0 = b.getD (i - a.length) 0 := by
  simp only [List.getD_eq_getElem?_getD]; rw [List.getElem?_append_right h]
def ixM (S : Nat → StepS) (m : Nat) (x : Int) : Nat := fstB (fun i => decide ((S i).nu = x)) m
def orJ (S : Nat → StepS) (m i : Nat) (P : List Nat) : Nat → Nat
  | 0 => 0
  | j + 1 => orJ S m i P j ||| (P.getD (ixM S m ((S i).a j)) 0 ||| 2 ^ ixM S m ((S i).a j))
def pstL (S : Nat → StepS) (m : Nat) : Nat → List Nat
  | 0 => []
  | i + 1 => pstL S m i ++ [orJ S m i (pstL S m i) (S i).q]
theorem pstL_len (S : Nat → StepS) (m : Nat) : ∀ i, (pstL S m i).length = i
  | 0 => rfl
  | i + 1 => by show (_ ++ _ : List Nat).length = _; rw [List.length_append, pstL_len S m i]; rfl
theorem pstL_pre (S : Nat → StepS) (m : Nat) {i : Nat} : ∀ {k : Nat}, i ≤ k → ∃ r, pstL S m k = pstL S m i ++ r
  | 0, h => ⟨[], by rw [Nat.le_zero.1 h]; rfl⟩
  | k + 1, h => by
    rcases (by omega : i = k + 1 ∨ i ≤ k) with rfl | g
    · exact ⟨[], by simp⟩
    · obtain ⟨r, e⟩ := pstL_pre S m g
      exact ⟨r ++ [orJ S m k (pstL S m k) (S k).q], by show pstL S m k ++ _ = _; rw [e, List.append_assoc]⟩
def pstN (S : Nat → StepS) (m i : Nat) : Nat := (pstL S m m).getD i 0
theorem pstL_at (S : Nat → StepS) (m : Nat) {i k : Nat} (h : i < k) (hk : k ≤ m) : (pstL S m k).getD i 0 = pstN S m i := by
  obtain ⟨r, e⟩ := pstL_pre S m hk
  unfold pstN
  rw [e, getD_l (by rw [pstL_len]; exact h)]
def pstR (S : Nat → StepS) (m i x : Nat) : List Nat := pstL S m i ++ x :: List.replicate (m - (i + 1)) 0
def pst0 (S : Nat → StepS) (m i : Nat) : List Nat := pstL S m i ++ List.replicate (m - i) 0
theorem pst0_R (S : Nat → StepS) {m i : Nat} (h : i < m) : pst0 S m i = pstR S m i 0 := by
  unfold pst0 pstR
  rw [show m - i = (m - (i + 1)) + 1 by omega]; rfl
theorem pstR_0 (S : Nat → StepS) {m i : Nat} : pstR S m i (orJ S m i (pstL S m i) (S i).q) = pst0 S m (i + 1) := by
  unfold pst0 pstR
  show _ = (pstL S m i ++ [_]) ++ _
  rw [List.append_assoc]; rfl
theorem pst0_m (S : Nat → StepS) (m : Nat) : pst0 S m m = pstL S m m := by unfold pst0; simp
theorem pstR_len (S : Nat → StepS) {m i : Nat} (x : Nat) (h : i < m) : (pstR S m i x).length = m := by
  unfold pstR; rw [List.length_append, pstL_len]; simp; omega
theorem pst0_len (S : Nat → StepS) {m i : Nat} (h : i ≤ m) : (pst0 S m i).length = m := by
  unfold pst0; rw [List.length_append, pstL_len]; simp; omega
theorem pstR_i (S : Nat → StepS) {m i : Nat} (x : Nat) : (pstR S m i x).getD i 0 = x := by
  unfold pstR
  rw [getD_r (by rw [pstL_len]; omega), pstL_len, Nat.sub_self]; rfl
theorem pstR_k (S : Nat → StepS) {m i k : Nat} (x : Nat) (h : k < i) : (pstR S m i x).getD k 0 = (pstL S m i).getD k 0 := by
  unfold pstR
  rw [getD_l (by rw [pstL_len]; exact h)]
theorem pstR_set (S : Nat → StepS) {m i : Nat} (x y : Nat) : (pstR S m i x).set i y = pstR S m i y := by
  unfold pstR
  rw [List.set_append_right _ _ (by rw [pstL_len]; omega), pstL_len, Nat.sub_self]; rfl
def foeN (L : List (Nat × Nat)) (j : Nat) : Nat := L.foldl (fun a p => if p.1 = j then a ||| 2 ^ p.2 else if p.2 = j then a ||| 2 ^ p.1 else a) 0
def foeR (L : List (Nat × Nat)) (m : Nat) : List Nat := (List.range m).map (foeN L)
theorem foeR_nil (m : Nat) : foeR [] m = List.replicate m 0 := by
  unfold foeR
  have : foeN [] = fun _ => 0 := rfl
  rw [this, List.map_const', List.length_range]
theorem foeR_len (L : List (Nat × Nat)) (m : Nat) : (foeR L m).length = m := by simp [foeR]
theorem foeR_at (L : List (Nat × Nat)) {m j : Nat} (h : j < m) : (foeR L m).getD j 0 = foeN L j := by
  unfold foeR; simp [List.getD_eq_getElem?_getD, List.getElem?_range h]
theorem foeN_snoc (L : List (Nat × Nat)) (i k j : Nat) : foeN (L ++ [(i, k)]) j = if i = j then foeN L j ||| 2 ^ k else if k = j then foeN L j ||| 2 ^ i else foeN L j := by
  unfold foeN; rw [List.foldl_append]; rfl
theorem foeR_set (L : List (Nat × Nat)) {m i k : Nat} (h : i < k) (hk : k < m) : ((foeR L m).set i (foeN L i ||| 2 ^ k)).set k (foeN L k ||| 2 ^ i) = foeR (L ++ [(i, k)]) m := by
  apply List.ext_getElem
  · simp [foeR]
  · intro j h1 h2
    have hj : j < m := by simpa [foeR] using h2
    have e0 : ∀ (L : List (Nat × Nat)) (h : j < (foeR L m).length), (foeR L m)[j] = foeN L j := fun L h => by
      show ((List.range m).map (foeN L))[j]'(by simpa using hj) = _
      simp
    rw [List.getElem_set, e0, foeN_snoc]
    by_cases e1 : k = j
    · subst e1; rw [if_pos rfl, if_neg (by omega), if_pos rfl]
    · rw [if_neg e1, if_neg e1, List.getElem_set]
      by_cases e2 : i = j
      · subst e2; rw [if_pos rfl, if_pos rfl]
      · rw [if_neg e2, if_neg e2, e0]
theorem foeR_k (L : List (Nat × Nat)) {m i k : Nat} (x : Nat) (h : i < k) (hk : k < m) : ((foeR L m).set i x).getD k 0 = foeN L k := by
  rw [← foeR_at L hk]
  simp only [List.getD_eq_getElem?_getD]
  rw [List.getElem?_set_ne (by omega)]
theorem foeN_bit (L : List (Nat × Nat)) (hL : ∀ p, p ∈ L → p.1 < p.2) (j t : Nat) : (foeN L j).testBit t = true ↔ (j, t) ∈ L ∨ (t, j) ∈ L := by
  unfold foeN
  have key : ∀ (L : List (Nat × Nat)) (a : Nat), (∀ p, p ∈ L → p.1 < p.2) → ((L.foldl (fun a p => if p.1 = j then a ||| 2 ^ p.2 else if p.2 = j then a ||| 2 ^ p.1 else a) a).testBit t = true ↔ a.testBit t = true ∨ (j, t) ∈ L ∨ (t, j) ∈ L) := by
    intro L
    induction L with
    | nil => intro a _; simp
    | cons p L ih =>
      intro a hL
      obtain ⟨x, y⟩ := p
      have hxy : x < y := hL (x, y) (List.mem_cons_self ..)
      rw [List.foldl_cons, ih _ fun p hp => hL p (List.mem_cons_of_mem _ hp)]
      simp only [List.mem_cons, Prod.mk.injEq]
      by_cases e1 : x = j
      · subst e1
        rw [if_pos rfl]
        rw [Nat.testBit_or, Nat.testBit_two_pow]
        by_cases e : y = t
        · subst e; simp
        · have n1 : ¬ x = y := by omega
          simp [e, Ne.symm e, n1]
      · rw [if_neg e1]
        by_cases e2 : y = j
        · subst e2
          rw [if_pos rfl, Nat.testBit_or, Nat.testBit_two_pow]
          by_cases e : x = t
          · subst e; simp
          · have n1 : ¬ y = x := by omega
            simp [e, Ne.symm e, n1]
        · rw [if_neg e2]
          simp [Ne.symm e1, Ne.symm e2]
  rw [key L 0 hL]; simp
theorem foeN_lt (L : List (Nat × Nat)) (hL : ∀ p, p ∈ L → p.1 < 10 ∧ p.2 < 10) (j : Nat) : foeN L j < 1024 := by
  unfold foeN
  have key : ∀ (L : List (Nat × Nat)) (a : Nat), a < 1024 → (∀ p, p ∈ L → p.1 < 10 ∧ p.2 < 10) → L.foldl (fun a p => if p.1 = j then a ||| 2 ^ p.2 else if p.2 = j then a ||| 2 ^ p.1 else a) a < 1024 := by
    intro L
    induction L with
    | nil => intro a h _; exact h
    | cons p L ih =>
      intro a ha hL
      have hp := hL p (List.mem_cons_self ..)
      rw [List.foldl_cons]
      refine ih _ ?_ fun p hp => hL p (List.mem_cons_of_mem _ hp)
      split
      · exact or_lt ha (p2_lt hp.2)
      · split
        · exact or_lt ha (p2_lt hp.1)
        · exact ha
  exact key L 0 (by decide) hL
def clR (P : Nat → Nat) (X : Nat → Nat → Bool) (i : Nat) : Nat → List (Nat × Nat)
  | 0 => []
  | t + 1 => clR P X i t ++ if (P (i + 1 + t)).testBit i = false ∧ X i (i + 1 + t) = true then [(i, i + 1 + t)] else []
def clL (P : Nat → Nat) (X : Nat → Nat → Bool) (m : Nat) : Nat → List (Nat × Nat)
  | 0 => []
  | i + 1 => clL P X m i ++ clR P X i (m - (i + 1))
theorem clR_mem {P : Nat → Nat} {X : Nat → Nat → Bool} {i : Nat} : ∀ {t : Nat} {p : Nat × Nat}, p ∈ clR P X i t ↔ p.1 = i ∧ i < p.2 ∧ p.2 < i + 1 + t ∧ (P p.2).testBit i = false ∧ X i p.2 = true
  | 0, p => by constructor <;> intro h <;> simp [clR] at h; omega
  | t + 1, p => by
    show p ∈ _ ++ _ ↔ _
    rw [List.mem_append, clR_mem]
    obtain ⟨x, y⟩ := p
    simp only
    constructor
    · rintro (⟨h1, h2, h3, h4⟩ | h)
      · exact ⟨h1, h2, by omega, h4⟩
      · split at h
        · rename_i g
          simp only [List.mem_singleton, Prod.mk.injEq] at h
          obtain ⟨rfl, rfl⟩ := h
          exact ⟨rfl, by omega, by omega, g⟩
        · simp at h
    · rintro ⟨h1, h2, h3, h4⟩
      rcases (by omega : y < i + 1 + t ∨ y = i + 1 + t) with g | g
      · exact Or.inl ⟨h1, h2, g, h4⟩
      · right; subst g; rw [if_pos h4, h1]; simp
theorem clL_mem {P : Nat → Nat} {X : Nat → Nat → Bool} {m : Nat} : ∀ {k : Nat} {p : Nat × Nat}, k ≤ m → (p ∈ clL P X m k ↔ p.1 < k ∧ p.1 < p.2 ∧ p.2 < m ∧ (P p.2).testBit p.1 = false ∧ X p.1 p.2 = true)
  | 0, p, _ => by constructor <;> intro h <;> simp [clL] at h
  | k + 1, p, hk => by
    show p ∈ _ ++ _ ↔ _
    rw [List.mem_append, clL_mem (by omega), clR_mem]
    obtain ⟨x, y⟩ := p
    simp only
    constructor
    · rintro (⟨h1, h2, h3, h4⟩ | ⟨rfl, h2, h3, h4⟩)
      · exact ⟨by omega, h2, h3, h4⟩
      · exact ⟨by omega, h2, by omega, h4⟩
    · rintro ⟨h1, h2, h3, h4⟩
      rcases (by omega : x < k ∨ x = k) with g | rfl
      · exact Or.inl ⟨g, h2, h3, h4⟩
      · exact Or.inr ⟨rfl, h2, by omega, h4⟩
theorem clL_lt {P : Nat → Nat} {X : Nat → Nat → Bool} {m k t : Nat} (hk : k < m) (ht : k + 1 + t ≤ m) {p : Nat × Nat} (h : p ∈ clL P X m k ++ clR P X k t) : p.1 < p.2 ∧ p.2 < m := by
  rcases List.mem_append.1 h with g | g
  · have := (clL_mem (by omega)).1 g; omega
  · have := clR_mem.1 g; omega
theorem clR_t {P : Nat → Nat} {X : Nat → Nat → Bool} {i t : Nat} (h : (P (i + 1 + t)).testBit i = false) (hx : X i (i + 1 + t) = true) : clR P X i (t + 1) = clR P X i t ++ [(i, i + 1 + t)] := by
  show _ ++ _ = _; rw [if_pos ⟨h, hx⟩]
theorem clR_f {P : Nat → Nat} {X : Nat → Nat → Bool} {i t : Nat} (h : (P (i + 1 + t)).testBit i = true ∨ X i (i + 1 + t) = false) : clR P X i (t + 1) = clR P X i t := by
  show _ ++ _ = _; rw [if_neg (by rintro ⟨h1, h2⟩; rcases h with h | h <;> simp_all)]; simp
def cloN (P : Nat → Nat) (s : Nat) : Nat := (bl s).foldl (fun a i => a ||| P i) s
end Go.Proofs.YtmnejmpjmniiiaaGreatDoor
set_option maxRecDepth 100000
set_option maxHeartbeats 4000000
namespace Go.Proofs.YtmnejmpjmniiiaaGreatDoor
open Go.RowKit Go.Sea
open Nat renaming reduceAdd → xA, reduceLT → xL, reduceLeDiff → xD, reduceEqDiff → xE, reduceMul → xM, reduceSub → xS, reduceBEq → xB
theorem ar_23 : arD Tryz.prog 23 = none := by kernel_rfl
theorem fnok_62 : fnOk Tryz.prog 62 = true := by kernel_rfl
theorem fnok_84 : fnOk Tryz.prog 84 = true := by kernel_rfl
theorem fnok_85 : fnOk Tryz.prog 85 = true := by kernel_rfl
theorem le_23 : lenD Tryz.prog 23 = some true := by kernel_rfl
theorem mp_102 : mpD Tryz.prog 102 = some 4 := by kernel_rfl
theorem of_48_0 : offOf Tryz.prog 48 0 = some 0 := by kernel_rfl
theorem of_48_1 : offOf Tryz.prog 48 1 = some 1 := by kernel_rfl
theorem sl_23 : slD Tryz.prog 23 = some (2, 32, 48) := by kernel_rfl
theorem ty_48 : tyD Tryz.prog 48 = some (true, 2) := by kernel_rfl
theorem zc_48 : zeroC Tryz.prog 48 = some [.iv (.g (.int .i64 0)), .iv (.g (.slice none 0 0))] := by kernel_rfl
theorem zp_4 : zPT Tryz.prog 4 = some (.one (.g (.bool false))) := by kernel_rfl
attribute [go_sem] ar_23 fnok_62 fnok_84 fnok_85 le_23 mp_102 of_48_0 of_48_1 sl_23 ty_48 zc_48 zp_4
theorem fnum_p (x : Int) : CallsP Tryz.prog 84 [.one (.g (.int .i64 x))] (.t (.one (.g (.bool (numB x))))) := by
  refine CallsP_of Tryz.func84 rfl (by rw [Tryz.ntmps84]; simp) ?_
  simp only [Tryz.ntmps84, zM, PT.tv, argEnv, Nat.zero_add, Nat.reduceAdd]
  repeat' (first
 | ((with_reducible show AW _ _ _ _); first
 | (with_reducible first | refine aS (fun K hK => ?_) | refine aT ?_)
 | (first
 | (with_reducible first | refine aP 0 [0] ?_ | refine aP 1 [0] ?_)))
 | (with_reducible refine retK_n ?_)
 | ((fail_if_success (with_reducible show AW _ _ _ _)); simp (maxSteps := 2000000) only [go_sem, reduceIte, reduceCtorEq, xA, xL, xD, xE, xM, xS, xB, Tryz.f84])
 | ((with_reducible refine hK _ ?_); clear hK K))
  all_goals ((unfold numB; (try refine Bool.eq_iff_iff.2 ?_); (simp only [Bool.and_eq_true, Bool.or_eq_true, Bool.not_eq_true', decide_eq_true_eq, decide_eq_false_iff_not, bne_iff_ne, beq_iff_eq, ne_eq, ge_iff_le, gt_iff_lt, cond_eq_ite, iff_self, eq_self]; done)))
theorem fris_p (q : Nat) (a : Nat → Int) (hq : q ≤ 9223372036854775807) : CallsP Tryz.prog 85 [.one (.lst 1 q (intI a))] (.t (.one (.g (.bool (risB q a))))) := by
  have hsx : True := trivial
  refine CallsP_of Tryz.func85 rfl (by rw [Tryz.ntmps85]; simp) ?_
  simp only [Tryz.ntmps85, zM, PT.tv, argEnv, Nat.zero_add, Nat.reduceAdd]
  repeat' (first
 | ((with_reducible show AW _ _ _ _); first
 | (with_reducible first | refine aS (fun K hK => ?_) | refine aI ?_ | refine aX ?_ | refine aT ?_ | refine aC ?_ | refine aB ?_)
 | (first
 | (with_reducible first | refine aP 0 [0] ?_ | refine aP 1 [0] ?_ | refine aP 2 [0,3] ?_ | refine aP 3 [0,3] ?_)
 | ((with_reducible refine aR (c := Code.region 4 _ true) [0,3] ?_); (with_reducible refine aD ?_ ?_ ?_ ?_); (focus kernel_rfl); (focus kernel_rfl); (focus kernel_rfl))
 | (with_reducible first | refine aP 5 [] ?_ | refine aP 6 [] ?_))
 | ((with_reducible show AW _ (Code.loop _) _ _); first
 | ((with_reducible refine aL (c := (Code.seq (Code.seq (Code.region 2 _ _) _) _)) (ι := Nat) [0] (fun j => [(3, iA .i64 ((j : Int) + 1))]) (fun j => []) (fun j => (j + 1 ≤ q ∨ j = 0) ∧ (∀ j', j' < j → a j' < a (j' + 1))) (fun j => q - j) 0 ?lg2 ?l12 ?l22 ?li2 ?lr2); (case' lg2 => rintro j _); (case' li2 => try (exact ⟨Or.inr rfl, fun _ h => absurd h (Nat.not_lt_zero _)⟩)); (case' lr2 => rintro j ⟨hj, haj⟩ KR hR2; simp only [keepE, hupd, hset, lk, if_true, if_false, xE, reduceIte, zN, hsx]))))
 | (((with_reducible refine And.intro ?_ ?_)); focus (omega))
 | (with_reducible refine retK_n ?_)
 | ((with_reducible show condN _ _ _ _ _ _); first
 | ((with_reducible refine condN_t ?_ ?_) <;> (intro hc; (try simp only [zB, zC, reduceCtorEq] at hc); ((try (have hsx : (((j : Int) + 1 - 1).toNat) = j := by omega))); (try (exfalso; contradiction)))))
 | ((with_reducible refine And.intro ?_ ?_); focus ((with_reducible show chkR _ _ _ = true); kernel_rfl))
 | ((with_reducible refine hR2 _ (j + 1) ?_); (try clear hR2 KR))
 | ((with_reducible refine Told.mk ?_); simp only [go_sem, reduceIte, reduceCtorEq, xA, xL, xD, xE, xM, xS, xB, intI, hsx] <;> ((((try simp (disch := omega) only [seaWrap, Int.natCast_add, Int.cast_ofNat_Int, and_true, true_and, and_self]); (repeat' (first | omega | (with_reducible refine And.intro ?_ ?_) | (exact all_succ (by assumption) (by assumption)))); done))))
 | ((fail_if_success (with_reducible show AW _ _ _ _)); simp (maxSteps := 2000000) only [go_sem, reduceIte, reduceCtorEq, xA, xL, xD, xE, xM, xS, xB, Tryz.f85, intI, hsx])
 | ((fail_if_success (with_reducible show AW _ _ _ _)); simp (disch := omega) only [seaWrap, seaDiv, seaMod])
 | ((with_reducible refine hK _ ?_); clear hK K)
 | (with_reducible apply_assumption -exfalso only [*]))
  all_goals first | exact ris_f (by omega) (by omega) | exact ris_t (by omega) haj | skip
theorem st_f1 {S : Nat → StepS} {i : Nat} (h : numB (S i).nu = false) : ¬ stO S i := fun g => by rw [g.1] at h; cases h
theorem st_f2 {S : Nat → StepS} {i : Nat} (h : (S i).nu ≤ lsN S i) : ¬ stO S i := fun g => by have := g.2.1; omega
theorem st_f3 {S : Nat → StepS} {i : Nat} (h : risB (S i).q (S i).a = false) : ¬ stO S i := fun g => by rw [g.2.2.1] at h; cases h
theorem st_f4 {S : Nat → StepS} {i j : Nat} (hj : (j : Int) < (S i).q) (h : (nuM S i).contains ((S i).a j) = false) : ¬ stO S i := fun g => by have e := g.2.2.2; rw [all_f hj h] at e; cases e
theorem st_cs (S : Nat → StepS) (i : Nat) : (numB (S i).nu = false ∧ True ∧ True) ∨ (numB (S i).nu = true ∧ decide ((S i).nu ≤ lsN S i) = true ∧ True) ∨ (numB (S i).nu = true ∧ decide ((S i).nu ≤ lsN S i) = false ∧ risB (S i).q (S i).a = false) ∨ (numB (S i).nu = true ∧ decide ((S i).nu ≤ lsN S i) = false ∧ risB (S i).q (S i).a = true) := by
  cases numB (S i).nu <;> cases decide ((S i).nu ≤ lsN S i) <;> cases risB (S i).q (S i).a <;> simp
theorem st_t {S : Nat → StepS} {i j : Nat} (h1 : numB (S i).nu = true) (h2 : lsN S i < (S i).nu) (h3 : risB (S i).q (S i).a = true) (hj : ((S i).q : Int) ≤ j) (h4 : ∀ k, k < j → (nuM S i).contains ((S i).a k) = true) : stO S i := ⟨h1, h2, h3, all_t hj h4⟩
theorem fval_p (S : Nat → StepS) (m : Nat) (hm : m ≤ 9223372036854775807) (hq : ∀ i, i < m → (S i).q ≤ 9223372036854775807) : CallsP Tryz.prog 60 [.one (.lst 2 m (stF S))] (.t (.one (.g (.bool (vsB S m))))) := by
  have hfk : True := trivial
  have hb1 : True := trivial
  have hb2 : True := trivial
  have hb3 : True := trivial
  have mk0 : True := trivial
  have mk1 : True := trivial
  refine CallsP_of Tryz.func60 rfl (by rw [Tryz.ntmps60]; simp) ?_
  simp only [Tryz.ntmps60, zM, PT.tv, argEnv, Nat.zero_add, Nat.reduceAdd]
  repeat' (first
 | ((with_reducible show callGN _ _ _ _ _ _ _ _ _ _); ((refine callGN_sq ?_ ?_) <;> (intro hc; (try rw [hc]); (try simp only [zB, zC, reduceCtorEq] at hc); (try (exfalso; contradiction)))))
 | (refine callGK_u0 ?_)
 | ((with_reducible show AW _ _ _ _); first
 | (with_reducible first | refine aS (fun K hK => ?_) | refine aI ?_ | refine aX ?_ | refine aT ?_ | refine aC ?_ | refine aB ?_)
 | (first
 | (with_reducible first | refine aP (ops := #[⟨some 2, _, _, _, _, _⟩]) 0 [0] ?_ | refine aP (ops := #[⟨some 4, _, _, _, _, _⟩]) 0 [0,1] ?_ | refine aP (ops := #[⟨some 7, _, _, _, _, _⟩, _]) 1 [0] ?_ | refine aP (ops := #[⟨some 7, _, _, _, _, _⟩, _, _]) 1 [0,1] ?_ | refine aP (ops := #[⟨some 4, _, _, _, _, _⟩]) 2 [0,3] ?_ | refine aP (ops := #[⟨some 10, _, _, _, _, _⟩]) 2 [0,7,8,9] ?_ | refine aP (ops := #[⟨some 8, _, _, _, _, _⟩, _, _]) 3 [0,3,4] ?_ | refine aP (ops := #[⟨some 11, _, _, _, _, _⟩, _, _]) 3 [0,7,8,9] ?_ | refine aP (ops := #[⟨some 11, _, _, _, _, _⟩]) 4 [0,3,4,8,9,10] ?_ | refine aP (ops := #[⟨some 13, _, _, _, _, _⟩, _, _, _]) 4 [0,6,7,8,9] ?_ | refine aP (ops := #[⟨some 12, _, _, _, _, _⟩, _, _, _]) 5 [0,3,4,8,9,10] ?_ | refine aP (ops := #[⟨some 4, _, _, _, _, _⟩]) 5 [] ?_ | refine aP (ops := #[⟨some 14, _, _, _, _, _⟩, _, _, _, _, _, _, _, _, _, _, _, _, _, _, _, _, _, _, _, _, _, _]) 6 [0,3,4,6,8,9,10] ?_ | refine aP (ops := #[⟨some 17, _, _, _, _, _⟩, _]) 6 [0,7,8,9] ?_ | refine aP (ops := #[⟨some 2, _, _, _, _, _⟩]) 7 [] ?_ | refine aP (ops := #[⟨some 4, _, _, _, _, _⟩]) 7 [] ?_ | refine aP 8 [0,3,6,8,9,10] ?_ | refine aP 9 [0,3,4,8,9,10] ?_ | refine aP 10 [0,3,4,8,9,10] ?_ | refine aP 11 [0] ?_))
 | ((with_reducible show AW _ (Code.loop _) _ _); first
 | ((with_reducible refine aL (c := (Code.seq (Code.region 4 _ _) _)) (ι := Nat) [0,3,8,9] (fun i => [(4, iA .i64 (lsN S i)), (10, iA .i64 (i : Int))]) (fun i => [(0, [.mi none i (setO (nuM S i))])]) (fun i => i ≤ m ∧ (∀ i', i' < i → stO S i')) (fun i => m - i) 0 ?lg4 ?l14 ?l24 ?li4 ?lr4); (case' lg4 => rintro i _); (case' li4 => try (exact ⟨Nat.zero_le _, fun i hi => absurd hi (Nat.not_lt_zero _)⟩)); (case' lr4 => rintro i ⟨hi, hai⟩ KR hR4; simp only [keepE, hupd, hset, lk, if_true, if_false, xE, reduceIte, zN, stF0, stF1, hb1, hb2, hb3, hfk, setO_put, setO_nil, lsN_s, lsN_0, nuM_0]))
 | ((with_reducible refine aL (c := (Code.seq (Code.region 2 _ _) _)) (ι := Nat) [0,7,8] (fun j => [(9, iA .i64 (j : Int))]) (fun j => []) (fun j => j ≤ (S i).q ∧ (∀ j', j' < j → (nuM S i).contains ((S i).a j') = true)) (fun j => (S i).q - j) 0 ?lg2 ?l12 ?l22 ?li2 ?lr2); (case' lg2 => rintro j _); (case' li2 => try (exact ⟨Nat.zero_le _, fun i hi => absurd hi (Nat.not_lt_zero _)⟩)); (case' lr2 => rintro j ⟨hj, haj⟩ KR hR2; simp only [keepE, hupd, hset, lk, if_true, if_false, xE, reduceIte, zN, stF0, stF1, hb1, hb2, hb3, hfk, setO_put, setO_nil, lsN_s, lsN_0, nuM_0]))))
 | ((first | (with_reducible refine And.intro ?_ ?_) | (with_reducible refine Need.mk ?_)); focus (first | exact True.intro | omega))
 | (with_reducible refine retK_n ?_)
 | ((with_reducible show condN _ _ _ _ _ _); first
 | ((with_reducible refine condN_t ?_ ?_) <;> (intro hc; (try simp only [zB, zC, reduceCtorEq] at hc); ((try (clear mk1; have hq2 := hq i (by omega); clear hb1 hb2 hb3; rcases st_cs S i with ⟨hb1, hb2, hb3⟩ | ⟨hb1, hb2, hb3⟩ | ⟨hb1, hb2, hb3⟩ | ⟨hb1, hb2, hb3⟩)); (try (clear mk0; clear hfk; cases hcn : (nuM S i).contains ((S i).a j); all_goals (first | (have hfk := setO_t hcn) | (have hfk := setO_f hcn)))); (try (have e0 : ¬ ((i : Int) < m) := (by omega); clear mk0))); (try (exfalso; contradiction)))))
 | ((with_reducible show callN _ _ _ _ _ _ _ _ _ _); first
 | (refine callN_q (k := 84) fnok_84 (fnum_p (S i).nu) ?_ ?_)
 | (refine callN_q (k := 85) fnok_85 (fris_p (S i).q (S i).a (hq i (by omega))) ?_ ?_)
 | ((refine callN_i (k := 62) Tryz.func62 rfl fnok_62 (by rw [Tryz.ntmps62]; simp) ?_ ?_ (fun K hK => ?_)); (focus (exact True.intro)); (focus ((simp [lsF]; done))); simp only [Tryz.ntmps62, List.map_cons, List.map_nil, List.nil_append, List.cons_append, List.append_nil, LV.tv, argEnv, Nat.zero_add, Nat.reduceAdd]))
 | ((with_reducible refine hR4 _ (i + 1) ?_); (try clear hR4 KR))
 | ((with_reducible refine hR2 _ (j + 1) ?_); (try clear hR2 KR))
 | ((with_reducible refine Told.mk ?_); simp only [go_sem, reduceIte, reduceCtorEq, xA, xL, xD, xE, xM, xS, xB, stF0, stF1, intI, hb1, hb2, hb3, hfk, setO_put, setO_nil, lsN_s, lsN_0, nuM_0] <;> ((((try simp (disch := omega) only [seaWrap, Int.natCast_add, Int.cast_ofNat_Int, and_true, true_and, and_self]); (repeat' (first | omega | (with_reducible refine And.intro ?_ ?_) | (exact all_succ (by assumption) (by assumption)) | ((exact Or.inr ⟨setO_len (nuM_new hai (by have := of_decide_eq_false hb2; omega)), fun k => by rw [nuM_s]; exact oeqv_rf2 _⟩)) | ((exact all_succ (by assumption) (st_t (by assumption) (by have := of_decide_eq_false hb2; omega) (by assumption) (by assumption) (by assumption)))))); done))))
 | ((fail_if_success (with_reducible show AW _ _ _ _)); simp (maxSteps := 2000000) only [go_sem, reduceIte, reduceCtorEq, xA, xL, xD, xE, xM, xS, xB, Tryz.f60, Tryz.f62, stF0, stF1, intI, hb1, hb2, hb3, hfk, setO_put, setO_nil, lsN_s, lsN_0, nuM_0])
 | ((with_reducible refine hK _ ?_); clear hK K)
 | (with_reducible apply_assumption -exfalso only [*]))
  all_goals first | exact vs_f (by assumption) (by first | exact st_f1 (by assumption) | exact st_f2 (of_decide_eq_true (by assumption)) | exact st_f3 (by assumption) | exact st_f4 (by assumption) (by assumption)) | exact vs_t (by omega) hai | skip
end Go.Proofs.YtmnejmpjmniiiaaGreatDoor
