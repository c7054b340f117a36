/- Part 9 of 16: contracts of functions and plain laws for the root text. No condition. -/
import Derived.Test.YtcfechepbamhkaaGreatY01
import Derived.Test.YtcfechepbamhkaaGreatY02
import Derived.Test.YtcfechepbamhkaaGreatY03
import Derived.Test.YtcfechepbamhkaaGreatY04
import Derived.Test.YtcfechepbamhkaaGreatY05
import Derived.Test.YtcfechepbamhkaaGreatY06
import Derived.Test.YtcfechepbamhkaaGreatY07
import Derived.Test.YtcfechepbamhkaaGreatY08
import Derived.Ground.Names2Prog
import Derived.Shelf.Spec.SlicesInsert
import Derived.Shelf.Spec.SlicesInsertGrow
import Derived.Test.YtcfechepbamhkaaGreatProg
set_option linter.unusedVariables false
set_option linter.unusedSimpArgs false
namespace Go.Proofs.YtcfechepbamhkaaGreat
open Go.RowKit Go.Sea
def jw (b : Nat -> Bool) : Nat -> Nat
  | 0 => 0
  | k + 1 => if jw b k < k then jw b k else if b k = true then k else k + 1
theorem qy (b : Nat -> Bool) : ∀ k, jw b k <= k
  | 0 => Nat.le_refl _
  | k + 1 => by
    have := qy b k
    simp only [jw]; repeat' split
    all_goals omega
theorem pY {b : Nat -> Bool} : ∀ k, (∀ j, j < k -> b j = false) -> jw b k = k
  | 0, _ => rfl
  | k + 1, h => by
    have h1 := pY k fun j hj => h j (by omega)
    have h2 := h k (by omega)
    simp only [jw]
    rw [if_neg (by omega), if_neg (by rw [h2]; simp)]
theorem l5 {b : Nat -> Bool} {i : Nat} (h : b i = true) (g : ∀ j, j < i -> b j = false) : ∀ k, i < k -> jw b k = i
  | 0, hk => by omega
  | k + 1, hk => by
    simp only [jw]
    by_cases hi : i < k
    · have h1 := l5 h g k hi
      rw [h1, if_pos hi]
    · have e : i = k := by omega
      subst e
      rw [pY i g, if_neg (by omega), if_pos h]
def Lh (f : aN) : PT := .agg [.g (.int .i64 f.id), .g (.int .i64 f.kd), .g (.int .i64 f.x), .g (.int .i64 f.y), .g (.int .i64 f.r), .lst 2 f.n (dY f.P), .g (.int .i64 f.d), .g (.int .i64 f.s), .lst 6 f.m (dY f.S)]
def fF (L : List aN) (k : Int) : Option PT := (idx L k).map Lh
theorem fK : fF [] = fun _ => none := rfl
theorem Mr {L : List aN} (h : vk L) (f : aN) : jr (fF L) f.id (Lh f) = fF (lH L f) := by
  funext k
  unfold jr fF
  rw [MX h]
  by_cases hk : k = f.id
  · rw [if_pos hk, if_pos hk]; rfl
  · rw [if_neg hk, if_neg hk]
theorem aaW {L : List aN} (h : vk L) (c : Int) : tT (fF L) c = fF (mQ L c) := by
  funext k
  unfold tT fF
  rw [zT h]
  by_cases hk : k = c
  · rw [if_pos hk, if_pos hk]; rfl
  · rw [if_neg hk, if_neg hk]
theorem acR {L : List aN} (h : vk L) {f : aN} {k : Int} (hk : f.id = k) : jr (fF L) k (Lh f) = fF (lH (mQ L k) f) := by
  subst hk
  funext j
  unfold jr fF
  rw [MX (zo h _), zT h]
  by_cases hj : j = f.id
  · rw [if_pos hj, if_pos hj]; rfl
  · rw [if_neg hj, if_neg hj, if_neg hj]
theorem adA {L : List aN} {f : aN} (hf : idx L f.id = none) : kP L.length (fF L) f.id = (lH L f).length := by
  unfold kP fF
  rw [hf, zu hf]; rfl
theorem akD {L : List aN} (h : vk L) {k : Int} {f : aN} (hf : idx L k = some f) : yN L.length (fF L) k = (mQ L k).length := by
  have := Fh h hf
  unfold yN fF
  rw [hf]
  show L.length - 1 = _
  omega
theorem ajy {L : List aN} (h : vk L) {k : Int} {f g : aN} (hf : idx L k = some f) (hk : g.id = k) : kP L.length (fF L) k = (lH (mQ L k) g).length := by
  have h1 := Fh h hf
  have h2 : idx (mQ L k) g.id = none := by rw [zT h, if_pos hk]
  rw [zu h2]
  unfold kP fF
  rw [hf]
  show L.length = _
  omega
theorem Tw {L : List aN} {f : aN} (h : ∀ g, g ∈ L -> g.id < f.id) : lH L f = L ++ [f] := by
  unfold lH
  rw [List.filter_eq_self.2 fun g hg => by simpa using h g hg, List.filter_eq_nil_iff.2 fun g hg => by have := h g hg; simp; omega]
def LF (f : Nat -> aN) (k : Nat) : List aN := (List.range k).map f
theorem qX (f : Nat -> aN) : LF f 0 = [] := rfl
theorem afN (f : Nat -> aN) (k : Nat) : LF f (k + 1) = LF f k ++ [f k] := by unfold LF; rw [List.range_succ, List.map_append]; rfl
theorem gN (f : Nat -> aN) (k : Nat) : (LF f k).length = k := by simp [LF]
theorem BK {f : Nat -> aN} {k : Nat} {g : aN} : g ∈ LF f k ↔ ∃ i, i < k /\ f i = g := by simp [LF]
def rises (f : Nat -> aN) (n : Nat) : Prop := ∀ i, 0 < i -> i < n -> (f (i - 1)).id < (f i).id
theorem uq {f : Nat -> aN} {n : Nat} (h : rises f n) {i : Nat} : ∀ j, i < j -> j < n -> (f i).id < (f j).id
  | 0, hij, _ => absurd hij (Nat.not_lt_zero _)
  | j + 1, hij, hj => by
    have h1 := h (j + 1) (by omega) hj
    rw [Nat.add_sub_cancel] at h1
    by_cases e : i = j
    · subst e; exact h1
    · have h2 : (f i).id < (f j).id := uq h j (by omega) (by omega)
      omega
theorem Kq {f : Nat -> aN} {n : Nat} (h : rises f n) : ∀ k, k <= n -> vk (LF f k)
  | 0, _ => List.Pairwise.nil
  | k + 1, hk => by
    unfold vk
    rw [afN, List.pairwise_append]
    refine ⟨Kq h k (by omega), List.pairwise_singleton _ _, fun a ha b hb => ?_⟩
    obtain ⟨i, hi, rfl⟩ := BK.1 ha
    obtain rfl := List.mem_singleton.1 hb
    exact uq h k hi (by omega)
theorem Yn {f : Nat -> aN} {n k : Nat} (h : rises f n) (hk : k < n) : lH (LF f k) (f k) = LF f (k + 1) := by
  rw [afN]
  refine Tw fun g hg => ?_
  obtain ⟨i, hi, rfl⟩ := BK.1 hg
  exact uq h k hi hk
theorem ag1 {f : Nat -> aN} {n k : Nat} (h : rises f n) (hk : k < n) : idx (LF f k) (f k).id = none := by
  rw [oV]
  intro g hg
  obtain ⟨i, hi, rfl⟩ := BK.1 hg
  have := uq h k hi hk
  omega
theorem Ei {n : Nat} {f : Nat -> aN} (h : nV n f = true) : rises f n := fun i h0 hi => ((of_decide_eq_true h).2 i hi).2 h0
theorem agw {f : aN} {o : eG} (hf : jg f = true) (ho : u7 o = true) (h1 : o.kd ≠ 1) (h2 : o.kd ≠ 2) (he : l9 f o = 0) : jg (mD f o) = true := by
  have g := (jG f).1 hf
  have p := (kK o).1 ho
  unfold l9 at he
  have hn : ¬ ((o.kd = 3 /\ ((f.kd = 3 \/ f.kd = 6) \/ f.kd = 4 /\ o.r ≠ 0)) \/ (o.kd = 4 /\ (f.kd = 4 \/ f.kd = 6))) := fun h => by rw [if_pos h] at he; omega
  obtain ⟨g1, g2, g3, g4, g5⟩ := g
  obtain ⟨p1, p2⟩ := p
  have p3 := p2.resolve_left (fun h => h1 h.1)
  rcases p3.2 with q | q | q | q
  · omega
  · have e : mD f o = { f with x := o.x, y := o.y, r := o.r } := by unfold mD; rw [if_pos q.1]
    rw [e, jG]
    refine ⟨g1, g2, g3, q.2.1, ?_⟩
    rcases g5 with k | k | k
    · exact Or.inl ⟨k.1, q.2.2.1, q.2.2.2.1, k.2.2.2.1, k.2.2.2.2⟩
    · exact absurd (Or.inl ⟨q.1, Or.inl k.1⟩) hn
    · refine Or.inr (Or.inr ⟨k.1, q.2.2.1, k.2.2.1, ?_, k.2.2.2.2.1, k.2.2.2.2.2⟩)
      exact Classical.byContradiction fun hr => hn (Or.inl ⟨q.1, Or.inr ⟨k.1, hr⟩⟩)
  · have e : mD f o = { f with d := o.d } := by unfold mD; rw [if_neg (by omega), if_pos q.1]
    rw [e, jG]
    refine ⟨g1, g2, q.2.1, g4, ?_⟩
    rcases g5 with k | k | k
    · exact Or.inl k
    · refine Or.inr (Or.inl ⟨k.1, fun h6 => absurd (Or.inr ⟨q.1, Or.inr h6⟩) hn, k.2.2⟩)
    · exact absurd (Or.inr ⟨q.1, Or.inl k.1⟩) hn
  · have e : mD f o = { f with s := o.s } := by unfold mD; rw [if_neg (by omega), if_neg (by omega), if_pos q.1]
    rw [e, jG]
    exact ⟨g1, q.2.1, g3, g4, g5⟩
def Ku (L : List aN) : Prop := ∀ f, f ∈ L -> jg f = true
theorem I9 {L : List aN} (h : Ku L) (k : Int) : Ku (mQ L k) := fun f hf => h f (zy.1 hf).1
theorem Gy {L : List aN} (h : Ku L) {f : aN} (hf : jg f = true) : Ku (lH L f) := fun g hg => by
  rcases zX.1 hg with e | e
  · rw [e]; exact hf
  · exact h g e.1
theorem aea {L : List aN} (h : Ku L) {o : eG} (ho : u7 o = true) : Ku (ni L o).2 := by
  unfold ni
  by_cases h1 : o.kd = 1
  · rw [if_pos h1]
    have hf : jg o.f = true := by
      have p := ((kK o).1 ho).2
      rcases p with p | p
      · exact p.2.2.1
      · omega
    cases hi : idx L o.id with
    | some f => exact h
    | none =>
      simp only
      split
      · exact h
      · exact Gy h hf
  · rw [if_neg h1]
    cases hi : idx L o.id with
    | none => exact h
    | some f =>
      simp only
      by_cases h2 : o.kd = 2
      · rw [if_pos h2]; exact I9 h _
      · rw [if_neg h2]
        by_cases he : l9 f o = 0
        · rw [if_pos he]; exact Gy (I9 h _) (agw (h f (jF hi).1) ho h1 h2 he)
        · rw [if_neg he]; exact h
theorem abN {L : List aN} (hs : vk L) (h : L.length <= 300) {o : eG} (ho : u7 o = true) : (ni L o).2.length <= 300 := by
  unfold ni
  by_cases h1 : o.kd = 1
  · rw [if_pos h1]
    have hid : o.f.id = o.id := by
      have p := ((kK o).1 ho).2
      rcases p with p | p
      · exact p.2.1
      · omega
    cases hi : idx L o.id with
    | some f => exact h
    | none =>
      simp only
      by_cases h3 : 300 <= L.length
      · rw [if_pos h3]; exact h
      · rw [if_neg h3]
        show (lH L o.f).length <= 300
        rw [zu (by rw [hid]; exact hi)]; omega
  · rw [if_neg h1]
    cases hi : idx L o.id with
    | none => exact h
    | some f =>
      have hc := Fh hs hi
      simp only
      by_cases h2 : o.kd = 2
      · rw [if_pos h2]; show (mQ L o.id).length <= 300; omega
      · rw [if_neg h2]
        by_cases he : l9 f o = 0
        · rw [if_pos he]
          show (lH (mQ L o.id) (mD f o)).length <= 300
          rw [zu (by rw [zT hs, Eo, (jF hi).2, if_pos rfl])]; omega
        · rw [if_neg he]; exact h
structure Good (L : List aN) : Prop where
  a : vk L
  f : Ku L
  n : L.length <= 300
theorem Y4 {L : List aN} (h : Good L) {o : eG} (ho : u7 o = true) : Good (ni L o).2 := ⟨Zk h.a o, aea h.f ho, abN h.a h.n ho⟩
theorem VA {L : List aN} {k : Int} {f : aN} (h : idx L k = some f) : fF L k = some (.agg [.g (.int .i64 (f.id)), .g (.int .i64 (f.kd)), .g (.int .i64 (f.x)), .g (.int .i64 (f.y)), .g (.int .i64 (f.r)), .lst 2 f.n (dY f.P), .g (.int .i64 (f.d)), .g (.int .i64 (f.s)), .lst 6 f.m (dY f.S)]) := by unfold fF; rw [h]; rfl
theorem ahA {L : List aN} {k : Int} (h : idx L k = none) : fF L k = none := by unfold fF; rw [h]; rfl
theorem NQ {f : Nat -> aN} {n k : Nat} (h : rises f n) (hk : k < n) : jr (fF (LF f k)) (f k).id (.agg [.g (.int .i64 ((f k).id)), .g (.int .i64 ((f k).kd)), .g (.int .i64 ((f k).x)), .g (.int .i64 ((f k).y)), .g (.int .i64 ((f k).r)), .lst 2 (f k).n (dY (f k).P), .g (.int .i64 ((f k).d)), .g (.int .i64 ((f k).s)), .lst 6 (f k).m (dY (f k).S)]) = fF (LF f (k + 1)) /\ kP k (fF (LF f k)) (f k).id = k + 1 := by
  have h1 := Mr (Kq h k (by omega)) (f k)
  rw [Yn h hk] at h1
  have h2 := adA (ag1 h hk)
  rw [Yn h hk, gN, gN] at h2
  exact ⟨h1, h2⟩
def jf (L : List aN) (o : Nat -> eG) : Nat -> List aN
  | 0 => L
  | i + 1 => (ni (jf L o i) (o i)).2
theorem iZ (L : List aN) (o : Nat -> eG) : jf L o 0 = L := rfl
theorem ou (o : Option PT) : TK o o := by cases o <;> first | trivial | exact PT.bG _
theorem akj {o : eG} (h : u7 o = true) : o.kd = 1 \/ o.kd = 2 \/ o.kd = 3 \/ o.kd = 4 \/ o.kd = 5 := by
  rcases ((kK o).1 h).2 with p | ⟨_, p | p | p | p⟩ <;> omega
theorem Xr {o : eG} (h : u7 o = true) (hk : o.kd = 1) : o.f.id = o.id := by
  rcases ((kK o).1 h).2 with p | ⟨_, p | p | p | p⟩
  · exact p.2.1
  all_goals omega
theorem KG {L : List aN} (h : Good L) {o : eG} (ho : u7 o = true) (hk : o.kd = 1) (hq : idx L o.id = none) (hn : (L.length : Int) < 300) : (ni L o).1 = 0 /\ kP L.length (fF L) o.id = (ni L o).2.length /\ jr (fF L) o.id (.agg [.g (.int .i64 (o.f.id)), .g (.int .i64 (o.f.kd)), .g (.int .i64 (o.f.x)), .g (.int .i64 (o.f.y)), .g (.int .i64 (o.f.r)), .lst 2 o.f.n (dY o.f.P), .g (.int .i64 (o.f.d)), .g (.int .i64 (o.f.s)), .lst 6 o.f.m (dY o.f.S)]) = fF (ni L o).2 := by
  have hi := Xr ho hk
  have e : ni L o = (0, lH L o.f) := by unfold ni; rw [if_pos hk, hq]; simp only; rw [if_neg (by omega)]
  rw [e]
  have h1 := adA (L := L) (f := o.f) (by rw [hi]; exact hq)
  have h2 := Mr h.a o.f
  rw [hi] at h1 h2
  exact ⟨rfl, h1, h2⟩
theorem La {L : List aN} (h : Good L) {o : eG} (hk : o.kd = 2) {g : aN} (hq : idx L o.id = some g) : (ni L o).1 = 0 /\ yN L.length (fF L) o.id = (ni L o).2.length /\ tT (fF L) o.id = fF (ni L o).2 := by
  have e : ni L o = (0, mQ L o.id) := by unfold ni; rw [if_neg (by omega), hq]; simp only; rw [if_pos hk]
  rw [e]; exact ⟨rfl, akD h.a hq, aaW h.a _⟩
theorem LW {L : List aN} (h : Good L) {o : eG} (hk : o.kd ≠ 1 /\ o.kd ≠ 2) {g : aN} (hq : idx L o.id = some g) (he : l9 g o = 0) : (ni L o).1 = 0 /\ kP L.length (fF L) o.id = (ni L o).2.length /\ jr (fF L) o.id (.agg [.g (.int .i64 ((fI g o).id)), .g (.int .i64 ((fI g o).kd)), .g (.int .i64 ((fI g o).x)), .g (.int .i64 ((fI g o).y)), .g (.int .i64 ((fI g o).r)), .lst 2 (fI g o).n (dY (fI g o).P), .g (.int .i64 ((fI g o).d)), .g (.int .i64 ((fI g o).s)), .lst 6 (fI g o).m (dY (fI g o).S)]) = fF (ni L o).2 := by
  have ex : fI g o = mD g o := by unfold fI; rw [if_neg (by omega)]
  have hi : (mD g o).id = o.id := by rw [Eo]; exact (jF hq).2
  have e : ni L o = (0, lH (mQ L o.id) (mD g o)) := by unfold ni; rw [if_neg hk.1, hq]; simp only; rw [if_neg hk.2, if_pos he]
  rw [e, ex]
  exact ⟨rfl, ajy h.a hq hi, acR h.a hi⟩
theorem aji {L : List aN} {o : eG} (hk : o.kd = 1) {g : aN} (hq : idx L o.id = some g) : (ni L o).1 = 5 := by unfold ni; rw [if_pos hk, hq]
theorem akp {L : List aN} {o : eG} (hk : o.kd = 1) (hq : idx L o.id = none) (hn : (L.length : Int) >= 300) : (ni L o).1 = 2 := by unfold ni; rw [if_pos hk, hq]; simp only; rw [if_pos (by omega)]
theorem ajl {L : List aN} {o : eG} (hk : o.kd ≠ 1) (hq : idx L o.id = none) : (ni L o).1 = 4 := by unfold ni; rw [if_neg hk, hq]
theorem akK {L : List aN} {o : eG} (hk : o.kd ≠ 1 /\ o.kd ≠ 2) {g : aN} (hq : idx L o.id = some g) (he : l9 g o ≠ 0) : (ni L o).1 = l9 g o := by unfold ni; rw [if_neg hk.1, hq]; simp only; rw [if_neg hk.2, if_neg he]
theorem EZ {n : Nat} {f : Nat -> aN} (h : nV n f = true) : Good (LF f n) := by
  have h1 := of_decide_eq_true h
  refine ⟨Kq (Ei h) n (Nat.le_refl _), fun g hg => ?_, by rw [gN]; exact h1.1⟩
  obtain ⟨i, hi, rfl⟩ := BK.1 hg
  exact (h1.2 i hi).1
theorem j4 {L : List aN} (h : Good L) {o : Nat -> eG} {k : Nat} (ho : ∀ i, i < k -> u7 (o i) = true) : ∀ i, i <= k -> Good (jf L o i)
  | 0, _ => h
  | i + 1, hi => Y4 (j4 h ho i (by omega)) (ho i (by omega))
theorem EO {f : aN} (h : jg f = true) : f.Ok := by
  have g := ((jG f).1 h).2.2.2.2
  rcases g with k | k | k
  · exact ⟨by omega, by omega⟩
  · have := (of_decide_eq_true k.2.2.1).1
    exact ⟨by omega, by omega⟩
  · have := (of_decide_eq_true k.2.2.1).1
    exact ⟨by omega, by omega⟩
theorem alH {k : Int} (h : k = 1) : (((1 : Int) = k) = True) /\ True := ⟨by simp [h], trivial⟩
theorem alg {k : Int} (h : k = 2) : (((1 : Int) = k) = False) /\ (((2 : Int) = k) = True) := ⟨by simp [h], by simp [h]⟩
theorem alZ {k : Int} (h : k = 3) : (((1 : Int) = k) = False) /\ (((2 : Int) = k) = False) /\ (((3 : Int) = k) = True) := ⟨by simp [h], by simp [h], by simp [h]⟩
theorem alm {k : Int} (h : k = 4) : (((1 : Int) = k) = False) /\ (((2 : Int) = k) = False) /\ (((3 : Int) = k) = False) /\ (((4 : Int) = k) = True) := ⟨by simp [h], by simp [h], by simp [h], by simp [h]⟩
theorem al0 {k : Int} (h : k = 5) : (((1 : Int) = k) = False) /\ (((2 : Int) = k) = False) /\ (((3 : Int) = k) = False) /\ (((4 : Int) = k) = False) /\ (((5 : Int) = k) = True) := ⟨by simp [h], by simp [h], by simp [h], by simp [h], by simp [h]⟩
theorem zn {ok : Nat -> Prop} : ∀ (m : Nat) (l : List CV), m <= l.length -> wkC ok l (List.replicate m .any)
  | 0, _, _ => by simp [wkC]
  | m + 1, [], h => by simp at h
  | m + 1, c :: l, h => ⟨Or.inl rfl, zn m l (by simpa using h)⟩
def ali (L : List aN) (o : Nat -> eG) (k : Nat) : Nat := jw (fun j => decide ((ni (jf L o j) (o j)).1 ≠ 0)) k
def Lr (n : Nat) (f : Nat -> aN) (k : Nat) (o : Nat -> eG) : Bool := nV n f && Ah k o
def apJ (n : Nat) (f : Nat -> aN) (k : Nat) (o : Nat -> eG) : Nat := ali (LF f n) o k
def yL (n : Nat) (f : Nat -> aN) (k : Nat) (o : Nat -> eG) : Int := if Lr n f k o = true then (if apJ n f k o < k then (ni (jf (LF f n) o (apJ n f k o)) (o (apJ n f k o))).1 else 0) else 1
def YS (n : Nat) (f : Nat -> aN) (k : Nat) (o : Nat -> eG) : Int := if Lr n f k o = true then (if apJ n f k o < k then (apJ n f k o : Int) else -1) else -1
def Dp (n : Nat) (f : Nat -> aN) (k : Nat) (o : Nat -> eG) : Nat := if Lr n f k o = true then (if apJ n f k o < k then 0 else (jf (LF f n) o k).length) else 0
def Yv (n : Nat) (f : Nat -> aN) (k : Nat) (o : Nat -> eG) (i : Nat) : aN := (jf (LF f n) o k).getD i dM
theorem F6 {n : Nat} {f : Nat -> aN} {k : Nat} {o : Nat -> eG} (hv : nV n f = true) (hw : Ah k o = true) {i : Nat} (hi : (i : Int) < k) (hai : ∀ j, j < i -> (ni (jf (LF f n) o j) (o j)).1 = 0) {e : Int} (he : (ni (jf (LF f n) o i) (o i)).1 = e) (h0 : e ≠ 0) : Dp n f k o = 0 /\ (i : Int) = YS n f k o /\ e = yL n f k o := by
  have hj : apJ n f k o = i := l5 (b := fun j => decide ((ni (jf (LF f n) o j) (o j)).1 ≠ 0)) (decide_eq_true (by rw [he]; exact h0)) (fun j hj => decide_eq_false (by rw [hai j hj]; simp)) k (by omega)
  have hV : Lr n f k o = true := by unfold Lr; rw [hv, hw]; rfl
  have hlt : i < k := by omega
  unfold Dp YS yL
  rw [if_pos hV, if_pos hV, if_pos hV, hj, if_pos hlt, if_pos hlt, if_pos hlt, he]
  exact ⟨rfl, rfl, rfl⟩
theorem ahY {n : Nat} {f : Nat -> aN} {k : Nat} {o : Nat -> eG} (hv : nV n f = true) (hw : Ah k o = true) {i : Nat} (hi : (k : Int) <= i) (hai : ∀ j, j < i -> (ni (jf (LF f n) o j) (o j)).1 = 0) : (jf (LF f n) o k).length = Dp n f k o /\ (-1) = YS n f k o /\ 0 = yL n f k o := by
  have hj : apJ n f k o = k := pY k fun j hj => decide_eq_false (by rw [hai j (by omega)]; simp)
  have hV : Lr n f k o = true := by unfold Lr; rw [hv, hw]; rfl
  unfold Dp YS yL
  rw [if_pos hV, if_pos hV, if_pos hV, hj, if_neg (Nat.lt_irrefl k), if_neg (Nat.lt_irrefl k), if_neg (Nat.lt_irrefl k)]
  exact ⟨rfl, rfl, rfl⟩
theorem TI {n : Nat} {f : Nat -> aN} {k : Nat} {o : Nat -> eG} (h : Lr n f k o = false) : Dp n f k o = 0 /\ -1 = YS n f k o /\ 1 = yL n f k o := by
  unfold Dp YS yL
  rw [if_neg (by simp [h]), if_neg (by simp [h]), if_neg (by simp [h])]
  exact ⟨rfl, rfl, rfl⟩
def ddE : List Nat -> List (Nat × AV) -> List (Nat × AV)
  | _, [] => []
  | s, (k, v) :: r => if s.contains k = true then ddE s r else (k, v) :: ddE (k :: s) r
theorem Ll : ∀ (e : List (Nat × AV)) (s : List Nat) (t : Nat), s.contains t = false -> lk (ddE s e) t = lk e t
  | [], _, _, _ => rfl
  | (k, v) :: r, s, t, h => by
    unfold ddE
    by_cases h1 : s.contains k = true
    · rw [if_pos h1, Ll r s t h]
      have : t ≠ k := fun e => by rw [e, h1] at h; cases h
      simp only [lk]; rw [if_neg this]
    · rw [if_neg h1]
      simp only [lk]
      by_cases h2 : t = k
      · rw [if_pos h2, if_pos h2]
      · rw [if_neg h2, if_neg h2]
        refine Ll r (k :: s) t ?_
        rw [List.contains_cons, h]
        simp [h2]
def ddG : List (Nat × List (Nat × AV)) -> List (Nat × List (Nat × AV))
  | [] => []
  | (f, e) :: r => (f, ddE [] e) :: ddG r
theorem YD : ∀ (g : List (Nat × List (Nat × AV))) (f t : Nat), gk (ddG g) f t = gk g f t
  | [], _, _ => rfl
  | (k, e) :: r, f, t => by
    show lk (if f = k then ddE [] e else gf (ddG r) f) t = lk (if f = k then e else gf r f) t
    by_cases h : f = k
    · rw [if_pos h, if_pos h]; exact Ll e [] t rfl
    · rw [if_neg h, if_neg h]; exact YD r f t
theorem adw {P : Program} {E : List (Nat × AV)} {H : List (Option (List CV))} {N : Nat} {g : List (Nat × List (Nat × AV))} {l : LP} {Q : Exit -> AS -> Prop} {c : Code} (h : AW P c ⟨E, H, N, ddG g, l⟩ Q) : AW P c ⟨E, H, N, g, l⟩ Q := fun w0 Z0 a w n ⟨J, Z, R⟩ =>
  h w0 Z0 a w n ⟨J, Z, R.nodef, R.size, R.below, R.zfrom, R.zlt, R.jlt, R.inj, R.hole, R.blk, R.slots, fun f t => by
    show bq _ _ _ _ (gk (ddG g) f t); rw [YD]; exact R.ghost f t, R.loops, R.lnd, R.ro⟩
theorem tL : ∀ {m ks : List Int}, ks.Nodup -> (∀ x, x ∈ ks -> x ∈ m) -> ks.length <= m.length
  | [], ks, _, h => by
    cases ks with
    | nil => simp
    | cons a l => exact absurd (h a (List.mem_cons_self ..)) List.not_mem_nil
  | a :: m, ks, hn, h => by
    have h1 : (ks.erase a).length <= m.length := tL (hn.erase a) fun x hx => by
      rcases List.mem_cons.1 (h x (List.mem_of_mem_erase hx)) with e | e
      · exact absurd e ((List.Nodup.mem_erase_iff hn).1 hx).1
      · exact e
    rw [List.length_erase] at h1
    split at h1 <;> simp only [List.length_cons] <;> omega
theorem ZL {L : List aN} {x : Int} (h : fF L x ≠ none) : x ∈ L.map (·.id) := by
  unfold fF at h
  cases hi : idx L x with
  | none => rw [hi] at h; exact absurd rfl h
  | some g => exact List.mem_map.2 ⟨g, jF hi⟩
theorem abY {L : List aN} (h : vk L) {x : Int} (hx : x ∈ L.map (·.id)) : (fF L x).isSome = true := by
  obtain ⟨g, h1, h2⟩ := List.mem_map.1 hx
  unfold fF; rw [<- h2, qR h h1]; rfl
theorem EA {L : List aN} {ks : List Int} (hn : ks.Nodup) (hk : ∀ x, x ∈ ks -> fF L x ≠ none) : ks.length <= L.length := by
  have := tL (m := L.map (·.id)) hn fun x hx => ZL (hk x hx)
  simpa using this
theorem keys_eq {L : List aN} (h : vk L) {ks : List Int} (hn : ks.Nodup) (hk : ∀ x, x ∈ ks -> fF L x ≠ none) (ha : ∀ x, (fF L x).isSome = true -> x ∈ ks) : ks.length = L.length := by
  have h1 := EA hn hk
  have h2 : (L.map (·.id)).length <= ks.length := tL ((M8 h).imp fun h => by omega) fun x hx => ha x (abY h hx)
  rw [List.length_map] at h2
  omega
theorem Pf {L : List aN} {ks : List Int} (hn : ks.Nodup) (hk : ∀ x, x ∈ ks -> fF L x ≠ none) {kk : Int} {yy : PT} (hy : fF L kk = some yy) (hnn : ¬ kk ∈ ks) : (kk :: ks).Nodup /\ (∀ x, x ∈ kk :: ks -> fF L x ≠ none) /\ ks.length + 1 <= L.length := by
  have h1 : (kk :: ks).Nodup := List.nodup_cons.2 ⟨hnn, hn⟩
  have h2 : ∀ x, x ∈ kk :: ks -> fF L x ≠ none := fun x hx => by
    rcases List.mem_cons.1 hx with e | e
    · rw [e, hy]; simp
    · exact hk x e
  exact ⟨h1, h2, EA h1 h2⟩
theorem QS {L : List aN} (h : vk L) {ks : List Int} (hn : ks.Nodup) (hk : ∀ x, x ∈ ks -> fF L x ≠ none) (ha : ∀ x, (fF L x).isSome = true -> x ∈ ks) : ks.reverse.mergeSort (fun x y => decide (x <= y)) = L.map (·.id) := by
  have hp := List.mergeSort_perm ks.reverse (fun x y => decide (x <= y))
  have h1 : (ks.reverse.mergeSort (fun x y => decide (x <= y))).Nodup := hp.symm.nodup ((List.reverse_perm ks).symm.nodup hn)
  have h2 : (ks.reverse.mergeSort (fun x y => decide (x <= y))).Pairwise (fun a b => decide (a <= b) = true) := List.pairwise_mergeSort (by intro a b c; simp only [decide_eq_true_eq]; omega) (by intro a b; simp only [Bool.or_eq_true, decide_eq_true_eq]; omega) _
  have hm : ∀ x, x ∈ ks.reverse.mergeSort (fun x y => decide (x <= y)) ↔ x ∈ ks := fun x => by rw [hp.mem_iff, List.mem_reverse]
  refine Rv h ?_ fun x => ?_
  · refine (h2.and h1).imp fun {a b} p => ?_
    have h3 := of_decide_eq_true p.1
    have h4 : a ≠ b := p.2
    omega
  · rw [hm]
    constructor
    · intro hx e
      exact hk x hx (by unfold fF; rw [e]; rfl)
    · intro hx
      cases hi : idx L x with
      | none => exact absurd hi hx
      | some g => exact ha x (by unfold fF; rw [hi]; rfl)
theorem sort_k {L : List aN} (h : vk L) (hl : L.length <= 300) {ks : List Int} (hn : ks.Nodup) (hk : ∀ x, x ∈ ks -> fF L x ≠ none) (ha : ∀ x, (fF L x).isSome = true -> x ∈ ks) (i : Nat) {H : List (Option (List CV))} (hH : hget H i = some (dU ks.reverse)) : gW Tryz.prog 121 [.one (.slc i 0 ks.length 1)] H (.tup []) (hset H i (dU (L.map (·.id)))) := by
  have h0 := EA hn hk
  have h1 := U5 ks.reverse (by rw [List.length_reverse]; omega) i H hH
  rw [List.length_reverse, QS h hn hk ha] at h1
  exact h1
theorem bF (zs : List Int) (i : Nat) : List.map (CV.cB i) (dU zs) = dU zs := jK i (ig zs)
theorem cZ (zs : List Int) (x : Int) (i : Nat) : List.map (CV.cB i) (dU zs.reverse ++ [.iv (.g (.int .i64 x))]) = dU (x :: zs).reverse := by
  rw [show dU zs.reverse ++ [.iv (.g (.int .i64 x))] = dU (x :: zs).reverse by simp [dU]]
  exact bF _ _
theorem VQ {L : List aN} {v : Nat} (hv : v < L.length) : (dU (L.map (·.id))).getD v .any = .iv (.g (.int .i64 (L.getD v dM).id)) := by
  rw [Dj _ _ (by simpa using hv)]
  simp [List.getD, hv]
def c9 (f : aN) : List CV := [.iv (.g (.int .i64 (f.id))), .iv (.g (.int .i64 (f.kd))), .iv (.g (.int .i64 (f.x))), .iv (.g (.int .i64 (f.y))), .iv (.g (.int .i64 (f.r))), .iv (.lst 2 f.n (dY f.P)), .iv (.g (.int .i64 (f.d))), .iv (.g (.int .i64 (f.s))), .iv (.lst 6 f.m (dY f.S))]
def lI (l : List aN) : List CV := l.flatMap c9
theorem dN (l : List aN) : (lI l).length = l.length * 9 := by
  induction l with
  | nil => rfl
  | cons s l ih => simp only [lI, List.flatMap_cons, List.length_append] at ih ⊢; rw [ih]; simp [c9]; omega
theorem nX (l : List aN) : ∀ c, c ∈ lI l -> jM c := by
  intro c hc
  simp only [lI, List.mem_flatMap, c9] at hc
  obtain ⟨s, _, h⟩ := hc
  simp only [List.mem_cons, List.not_mem_nil, or_false] at h
  rcases h with rfl | rfl | rfl | rfl | rfl | rfl | rfl | rfl | rfl <;> trivial
theorem uE {L : List aN} {v : Nat} (hv : v < L.length) : L.getD v dM ∈ L := by
  rw [List.getD, List.getElem?_eq_getElem hv]; exact List.getElem_mem hv
theorem take_one {L : List aN} {v : Nat} (hv : v < L.length) : L.take v ++ [L.getD v dM] = L.take (v + 1) := by
  rw [List.take_add_one, List.getD]
  simp [hv]
theorem Xx {L : List aN} {v : Nat} (hv : v < L.length) (i : Nat) : List.map (CV.cB i) (lI (L.take v) ++ [.iv (.g (.int .i64 ((L.getD v dM).id))), .iv (.g (.int .i64 ((L.getD v dM).kd))), .iv (.g (.int .i64 ((L.getD v dM).x))), .iv (.g (.int .i64 ((L.getD v dM).y))), .iv (.g (.int .i64 ((L.getD v dM).r))), .iv (.lst 2 (L.getD v dM).n (dY (L.getD v dM).P)), .iv (.g (.int .i64 ((L.getD v dM).d))), .iv (.g (.int .i64 ((L.getD v dM).s))), .iv (.lst 6 (L.getD v dM).m (dY (L.getD v dM).S))]) = lI (L.take (v + 1)) := by
  have e : lI (L.take v) ++ c9 (L.getD v dM) = lI (L.take (v + 1)) := by rw [<- take_one hv]; simp [lI]
  exact (congrArg (List.map (CV.cB i)) e).trans (jK i (nX _))
theorem Im : ∀ (l : List aN) (i o : Nat), i < l.length -> o < 9 -> (lI l).getD (i * 9 + o) .any = (c9 (l.getD i dM)).getD o .any
  | [], i, _, h, _ => by simp at h
  | f :: l, 0, o, _, ho => by
    show (c9 f ++ lI l).getD (0 * 9 + o) .any = (c9 f).getD o .any
    rw [Nat.zero_mul, Nat.zero_add, List.getD, List.getD, List.getElem?_append_left (by show o < 9; exact ho)]
  | f :: l, i + 1, o, h, ho => by
    show (c9 f ++ lI l).getD ((i + 1) * 9 + o) .any = (c9 (l.getD i dM)).getD o .any
    rw [<- Im l i o (by simpa using h) ho, List.getD, List.getD, List.getElem?_append_right (by show 9 <= _; omega)]
    congr 2
    show (i + 1) * 9 + o - 9 = i * 9 + o
    omega
theorem Da (l : List aN) : ∀ i o, i < l.length -> o < 9 -> (GX ((lI l).getD (i * 9 + o) .any)).eqv (dL (fun i => l.getD i dM) i o) := by
  intro i o hi ho
  rw [Im l i o hi ho]
  match o, ho with
  | 0, _ | 1, _ | 2, _ | 3, _ | 4, _ | 5, _ | 6, _ | 7, _ | 8, _ => exact IV.bG _
end Go.Proofs.YtcfechepbamhkaaGreat
set_option maxRecDepth 100000
set_option maxHeartbeats 4000000
namespace Go.Proofs.YtcfechepbamhkaaGreat
open Go.RowKit Go.Sea
open Nat renaming reduceAdd -> xA, reduceLT -> xL, reduceLeDiff -> xD, reduceEqDiff -> xE, reduceMul -> xM, reduceSub -> xS, reduceBEq -> xB
theorem uR : aK Tryz.prog 148 = true := by kernel_rfl
theorem Jt : aK Tryz.prog 149 = true := by kernel_rfl
theorem IG : aK Tryz.prog 150 = true := by kernel_rfl
theorem EN : aK Tryz.prog 72 = true := by kernel_rfl
theorem GZ : aK Tryz.prog 151 = true := by kernel_rfl
theorem Tz : aK Tryz.prog 176 = true := by kernel_rfl
theorem Yk : aK Tryz.prog 177 = true := by kernel_rfl
theorem VJ : aK Tryz.prog 178 = true := by kernel_rfl
theorem Bj : aK Tryz.prog 120 = true := by kernel_rfl
theorem Ae : aK Tryz.prog 121 = true := by kernel_rfl
theorem Ya : aK Tryz.prog 179 = true := by kernel_rfl
theorem uh : aK Tryz.prog 207 = true := by kernel_rfl
theorem BH : aK Tryz.prog 157 = true := by kernel_rfl
theorem tK : aK Tryz.prog 109 = true := by kernel_rfl
theorem GH : aK Tryz.prog 110 = true := by kernel_rfl
theorem qL : aK Tryz.prog 95 = true := by kernel_rfl
theorem aeI : wK Tryz.prog 141 = none := by kernel_rfl
theorem Xo : JC Tryz.prog 141 = some 64 := by kernel_rfl
theorem ahG : JC Tryz.prog 176 = some 180 := by kernel_rfl
theorem Y9 : dz Tryz.prog 66 2 = some (2, 9) := by kernel_rfl
theorem afu : lG Tryz.prog 141 = some (false, 1) := by kernel_rfl
theorem af4 : ZJ Tryz.prog 180 = some (.one (.g (.nilFunc))) := by kernel_rfl
theorem akm : ZJ Tryz.prog 64 = some (.agg [.g (.int .i64 0), .g (.int .i64 0), .g (.int .i64 0), .g (.int .i64 0), .g (.int .i64 0), .g (.slice none 0 0), .g (.int .i64 0), .g (.int .i64 0), .g (.slice none 0 0)]) := by kernel_rfl
attribute [go_sem] uR Jt IG EN GZ Bj Ae uh BH tK GH qL aeI Xo ahG Y9 afu af4 akm
theorem ab2 (n : Nat) (f : Nat -> aN) (k : Nat) (o : Nat -> eG) (hn : n <= 9223372036854775807) (hf : ∀ i, i < n -> (f i).Ok) (hk : k <= 9223372036854775807) (ho : ∀ i, i < k -> (o i).f.Ok) (hv : nV n f = true) (hw : Ah k o = true) : aA Tryz.prog 61 [.one (.lst 9 n (dL f)), .one (.lst 16 k (iC o))] (.tup [.one (.lst 9 (Dp n f k o) (dL (Yv n f k o))), .one (.g (.int .i64 (YS n f k o))), .one (.g (.int .i64 (yL n f k o)))]) := by
  have mk0 : True := trivial
  have mk2 : True := trivial
  have mk3 : True := trivial
  have hrk : True := trivial
  have hkd : True := trivial
  have hfk : True := trivial
  have hrs := Ei hv
  have hG := EZ hv
  have hops := (of_decide_eq_true hw).2
  have hk100 := (of_decide_eq_true hw).1
  refine ak Tryz.func61 rfl (by rw [Tryz.ntmps61]; simp) ?_
  simp only [Tryz.ntmps61, zM, PT.tv, au, Nat.zero_add, Nat.reduceAdd]
  repeat' (first
 | (exact F6 hv hw (by assumption) hai (aji e5 hq) (by omega))
 | (exact F6 hv hw (by assumption) hai (akp e5 hq (by assumption)) (by omega))
 | (exact F6 hv hw (by assumption) hai (ajl (by omega) hq) (by omega))
 | (exact F6 hv hw (by assumption) hai (akK (by omega) hq (by assumption)) (by omega))
 | (clear mk2; have hkm := Pf hnd hks hyy hnn)
 | ((with_reducible show AW _ _ _ _); first
 | (with_reducible first | refine aS (fun K hK => ?_) | refine aI ?_ | refine aX ?_ | refine aT ?_ | refine aC ?_ | refine aB ?_)
 | ((refine eu (k := 179) rfl Tryz.func179 rfl Ya (by rw [Tryz.ntmps179]; simp) ?_ ?_ (fun l hlne A B hA hB => ?_)); (focus (simp (maxSteps := 2000000) only [go_sem, reduceIte, reduceCtorEq, xA, xL, xD, xE, xM, xS, xB, Tryz.f61, Tryz.f179, Tryz.f109, Tryz.f149, Tryz.f150, Tryz.f110, Tryz.f151, Tryz.f72, Tryz.f120, Tryz.f157, Tryz.f176, Tryz.f177, Tryz.f178, hv, hw, hkd, hfk, hrk, aZ, dN, List.length_reverse, List.length_map, List.take_zero, List.length_take, bF, cZ, fK, qX, iZ, List.length_replicate, gN, Int.reduceEq, maxLen]; try exact True.intro)); (focus (simp (maxSteps := 2000000) only [go_sem, reduceIte, reduceCtorEq, xA, xL, xD, xE, xM, xS, xB, Tryz.f61, Tryz.f179, Tryz.f109, Tryz.f149, Tryz.f150, Tryz.f110, Tryz.f151, Tryz.f72, Tryz.f120, Tryz.f157, Tryz.f176, Tryz.f177, Tryz.f178, hv, hw, hkd, hfk, hrk, aZ, dN, List.length_reverse, List.length_map, List.take_zero, List.length_take, bF, cZ, fK, qX, iZ, List.length_replicate, gN, Int.reduceEq, maxLen]; try exact True.intro)); simp only [Tryz.ntmps179, List.map_cons, List.map_nil, LV.tv, au, yV, Nat.zero_add, Nat.reduceAdd]; clear hlne)
 | (with_reducible refine tZ (by assumption) ?_)
 | (first
 | (with_reducible first | refine aP 0 [0,1,7] ?_ | refine aP 1 [0,1,2,3,4,5,7] ?_ | refine aP (ops := #[⟨some 19, _, _, _, _, _⟩, _]) 2 [7,9,10] ?_ | refine aP (ops := #[⟨some 8, _, _, _, _, _⟩, _, _]) 2 [0,5] ?_ | refine aP (ops := #[⟨some 7, _, _, _, _, _⟩, _, _]) 2 [0,3] ?_ | refine aP (ops := #[⟨some 6, _, _, _, _, _⟩, _, _, _, _]) 2 [0,3] ?_ | refine aP (ops := #[⟨some 6, _, _, _, _, _⟩, _]) 2 [3] ?_ | refine aP (ops := #[⟨some 5, _, _, _, _, _⟩]) 2 [2,7] ?_ | refine aP (ops := #[⟨some 15, _, _, _, _, _⟩]) 2 [0,3,4,7] ?_ | refine aP (ops := #[⟨some 15, _, _, _, _, _⟩, _]) 2 [0,3,4,6,7] ?_ | refine aP (ops := #[⟨some 18, _, _, _, _, _⟩, _]) 2 [0,3,4,6,7] ?_ | refine aP (ops := #[⟨some 21, _, _, _, _, _⟩, _, _, _, _]) 3 [9,10] ?_ | refine aP (ops := #[⟨some 10, _, _, _, _, _⟩, _, _, _]) 3 [0,3,5] ?_ | refine aP (ops := #[⟨some 23, _, _, _, _, _⟩, _, _]) 3 [0,1] ?_ | refine aP (ops := #[⟨some 10, _, _, _, _, _⟩]) 3 [3,7,8,9] ?_ | refine aP (ops := #[⟨some 11, _, _, _, _, _⟩]) 3 [0,3,8,9,10] ?_ | refine aP (ops := #[⟨some 8, _, _, _, _, _⟩, _]) 3 [3] ?_ | refine aP (ops := #[⟨some 8, _, _, _, _, _⟩, _, _, _, _]) 3 [2,5,7] ?_ | refine aP (ops := #[⟨some 16, _, _, _, _, _⟩, _, _]) 3 [4] ?_ | refine aP (ops := #[⟨some 17, _, _, _, _, _⟩, _, _]) 3 [4] ?_ | refine aP (ops := #[⟨some 20, _, _, _, _, _⟩, _, _]) 3 [4] ?_ | refine aP (ops := #[⟨some 23, _, _, _, _, _⟩, _, _, _, _, _, _]) 4 [7,9,10] ?_ | refine aP (ops := #[⟨some 25, _, _, _, _, _⟩, _, _]) 4 [1,8] ?_ | refine aP (ops := #[⟨some 11, _, _, _, _, _⟩, _, _, _]) 4 [3,7,8,9] ?_ | refine aP (ops := #[⟨some 12, _, _, _, _, _⟩, _, _]) 4 [0,3,8,9,10] ?_ | refine aP (ops := #[⟨some 12, _, _, _, _, _⟩, _]) 4 [2] ?_ | refine aP (ops := #[⟨some 17, _, _, _, _, _⟩, _, _]) 4 [0,3,4] ?_ | refine aP (ops := #[⟨some 18, _, _, _, _, _⟩, _, _, _]) 4 [0,3,4,6] ?_ | refine aP (ops := #[⟨some 22, _, _, _, _, _⟩, _, _, _, _, _, _, _, _, _, _, _]) 4 [0,3,4,6] ?_ | refine aP (ops := #[⟨some 10, _, _, _, _, _⟩]) 5 [1,8,9] ?_ | refine aP (ops := #[⟨some 13, _, _, _, _, _⟩, _, _, _, _]) 5 [3,5,7,8,9] ?_ | refine aP (ops := #[⟨some 14, _, _, _, _, _⟩, _, _, _, _, _, _]) 5 [0,3,5,8,9,10] ?_ | refine aP (ops := #[⟨some 20, _, _, _, _, _⟩, _, _]) 5 [4] ?_ | refine aP (ops := #[⟨some 21, _, _, _, _, _⟩, _, _, _, _, _]) 5 [3,4,6] ?_ | refine aP (ops := #[⟨some 28, _, _, _, _, _⟩, _]) 5 [0,3,4,8,9,10] ?_ | refine aP (ops := #[⟨some 27, _, _, _, _, _⟩, _, _]) 6 [1,8,9,10] ?_ | refine aP (ops := #[⟨some 17, _, _, _, _, _⟩, _]) 6 [3,7,8,9] ?_ | refine aP (ops := #[⟨some 20, _, _, _, _, _⟩, _]) 6 [0,3,8,9,10] ?_ | refine aP (ops := #[⟨some 21, _, _, _, _, _⟩, _, _, _, _, _]) 6 [0,3,4] ?_ | refine aP (ops := #[⟨some 30, _, _, _, _, _⟩, _, _, _]) 6 [4,10] ?_ | refine aP (ops := #[⟨some 30, _, _, _, _, _⟩]) 7 [8,9,10,27,28,29] ?_ | refine aP (ops := #[⟨some 18, _, _, _, _, _⟩, _]) 7 [3] ?_ | refine aP (ops := #[⟨some 21, _, _, _, _, _⟩, _]) 7 [3] ?_ | refine aP (ops := #[⟨some 26, _, _, _, _, _⟩, _, _, _, _]) 7 [3,4] ?_ | refine aP (ops := #[⟨some 32, _, _, _, _, _⟩, _, _, _, _]) 7 [0,3,4,8,9] ?_ | refine aP (ops := #[⟨some 31, _, _, _, _, _⟩, _, _, _, _, _]) 8 [8,9,10,27,28,29] ?_ | refine aP (ops := #[⟨some 36, _, _, _, _, _⟩, _, _]) 8 [4,9] ?_ | refine aP 9 [8,9,10,11,12,27,28,29] ?_ | refine aP 10 [8,9,10,11,13,14,27,28,29] ?_ | refine aP 11 [11,14] ?_ | refine aP 12 [8,9,10,13,27,28,29] ?_ | refine aP 13 [8,9,10,27,28,29] ?_ | refine aP 14 [8,10] ?_))
 | ((with_reducible show AW _ (Code.loop _) _ _); first
 | ((with_reducible refine aL (c := (Code.seq (Code.region 7 _ _) _)) (ι := Nat) [8,9,27,28] (fun i => [(10, .t (.one (.slc 2 0 i 16))), (29, iA .i64 (i : Int))]) (fun i => [(0, [.mi none (jf (LF f n) o i).length (fF (jf (LF f n) o i))]), (2, List.replicate (i * 16) .any)]) (fun i => i <= k /\ (∀ j, j < i -> (ni (jf (LF f n) o j) (o j)).1 = 0)) (fun i => k - i) 0 ?lg7 ?l17 ?l27 ?li7 ?lr7); (case' lg7 => rintro i _); (case' li7 => try (exact ⟨Nat.zero_le _, fun i hi => absurd hi (Nat.not_lt_zero _)⟩)); (case' lr7 => rintro i ⟨hi, hai⟩ KR hR7; simp only [bD, dD, hset, lk, if_true, if_false, xE, reduceIte, zN, hv, hw, hkd, hfk, hrk, aZ, dN, List.length_reverse, List.length_map, List.take_zero, List.length_take, bF, cZ, fK, qX, iZ, List.length_replicate, gN, Int.reduceEq, maxLen]))
 | (((with_reducible refine adw ?_); simp only [ddG, ddE, List.contains_cons, List.contains_nil, Nat.reduceBEq, Bool.or_false, Bool.false_or, Bool.or_true, Bool.true_or, if_true, if_false, Bool.false_eq_true, reduceIte]; with_reducible refine aL (c := (Code.seq (Code.region 1 _ _) _)) (ι := List Int) [0,5] (fun ks => []) (fun ks => [(1, []), (2, []), (4, [.slc 6 0 ks.length 1]), (6, dU ks.reverse), (5, [.mt 0 cc (fun q => q ∈ ks) ks.head?])]) (fun ks => ks.Nodup /\ ∀ x, x ∈ ks -> fF (jf (LF f n) o k) x ≠ none) (fun ks => (jf (LF f n) o k).length - ks.length) [] ?lg1 ?l11 ?l21 ?li1 ?lr1); (case' lg1 => rintro ks _); (case' li1 => try (exact ⟨List.nodup_nil, fun x h => absurd h (List.not_mem_nil)⟩)); (case' lr1 => rintro ks ⟨hnd, hks⟩ KR hR1; simp only [bD, dD, hset, lk, if_true, if_false, xE, reduceIte, zN, hv, hw, hkd, hfk, hrk, aZ, dN, List.length_reverse, List.length_map, List.take_zero, List.length_take, bF, cZ, fK, qX, iZ, List.length_replicate, gN, Int.reduceEq, maxLen]))))
 | ((first | (with_reducible refine And.intro ?_ ?_) | (with_reducible refine Need.mk ?_)); focus (first | exact True.intro | omega | (intro _; exact True.intro)))
 | (with_reducible refine aJ ?_)
 | ((with_reducible show bL _ _ _ _ _ _); first
 | ((with_reducible refine aM ?_ ?_) <;> (intro hc; (try simp only [zB, zC, reduceCtorEq] at hc); ((try (clear mk0; have e9 : k = i := (by omega); subst e9; have hgk := j4 hG hops k (Nat.le_refl k); have hgn := hgk.n)); (try (clear mk3; have hv8 := keys_eq hgk.a hnd hks hall; have hrk := VQ (L := (jf (LF f n) o k)) (v := v) (by omega); have hfk := VA (qR hgk.a (uE (L := (jf (LF f n) o k)) (v := v) (by omega))))); (try (have e0 : n = u := (by omega); subst e0)); (try (clear mk0; have hO := hops i (by omega); have hg := j4 hG hops i (by omega); clear hkd hfk; rcases akj hO with e5 | e5 | e5 | e5 | e5 <;> rcases hq : idx (jf (LF f n) o i) (o i).id with _ | g; all_goals (first | (have hkd := alH e5) | (have hkd := alg e5) | (have hkd := alZ e5) | (have hkd := alm e5) | (have hkd := al0 e5)); all_goals (first | (have hfk := ahA hq) | (have hfk := VA hq; have hgk := EO (hg.f _ (jF hq).1)))))); (try (exfalso; contradiction)))))
 | ((with_reducible show aW _ _ _ _ _ _ _ _ _ _); first
 | (refine aF (k := 95) qL (zR n f hn hf) ?_ ?_)
 | (refine aF (k := 207) uh (Ql g (o i) hgk (ho i (by omega)) e5) ?_ ?_)
 | (refine aF (k := 207) uh (QZ g (o i) hgk (ho i (by omega)) e5) ?_ ?_)
 | (refine aF (k := 207) uh (Rl g (o i) hgk (ho i (by omega)) e5) ?_ ?_)
 | (refine nP (k := 121) Ae (sort_k (j4 hG hops k (Nat.le_refl k)).a (j4 hG hops k (Nat.le_refl k)).n hnd hks hall 6 rfl) ?_ ?_)
 | ((refine dw (k := 109) Tryz.func109 rfl tK (by rw [Tryz.ntmps109]; simp) ?_ ?_ (fun K hK => ?_)); (focus (exact True.intro)); (focus ((simp [jo]; done))); simp only [Tryz.ntmps109, List.map_cons, List.map_nil, List.nil_append, List.cons_append, List.append_nil, LV.tv, au, Nat.zero_add, Nat.reduceAdd])
 | ((refine dw (k := 149) Tryz.func149 rfl Jt (by rw [Tryz.ntmps149]; simp) ?_ ?_ (fun K hK => ?_)); (focus (exact True.intro)); (focus ((simp [jo]; done))); simp only [Tryz.ntmps149, List.map_cons, List.map_nil, List.nil_append, List.cons_append, List.append_nil, LV.tv, au, Nat.zero_add, Nat.reduceAdd])
 | ((refine dw (k := 150) Tryz.func150 rfl IG (by rw [Tryz.ntmps150]; simp) ?_ ?_ (fun K hK => ?_)); (focus (exact True.intro)); (focus ((simp [jo]; done))); simp only [Tryz.ntmps150, List.map_cons, List.map_nil, List.nil_append, List.cons_append, List.append_nil, LV.tv, au, Nat.zero_add, Nat.reduceAdd])
 | ((refine dw (k := 110) Tryz.func110 rfl GH (by rw [Tryz.ntmps110]; simp) ?_ ?_ (fun K hK => ?_)); (focus (exact True.intro)); (focus ((simp [jo]; done))); simp only [Tryz.ntmps110, List.map_cons, List.map_nil, List.nil_append, List.cons_append, List.append_nil, LV.tv, au, Nat.zero_add, Nat.reduceAdd])
 | ((refine dw (k := 151) Tryz.func151 rfl GZ (by rw [Tryz.ntmps151]; simp) ?_ ?_ (fun K hK => ?_)); (focus (exact True.intro)); (focus ((simp [jo]; done))); simp only [Tryz.ntmps151, List.map_cons, List.map_nil, List.nil_append, List.cons_append, List.append_nil, LV.tv, au, Nat.zero_add, Nat.reduceAdd])
 | ((refine dw (k := 72) Tryz.func72 rfl EN (by rw [Tryz.ntmps72]; simp) ?_ ?_ (fun K hK => ?_)); (focus (exact True.intro)); (focus ((simp [jo]; done))); simp only [Tryz.ntmps72, List.map_cons, List.map_nil, List.nil_append, List.cons_append, List.append_nil, LV.tv, au, Nat.zero_add, Nat.reduceAdd])
 | ((refine dw (k := 120) Tryz.func120 rfl Bj (by rw [Tryz.ntmps120]; simp) ?_ ?_ (fun K hK => ?_)); (focus (exact True.intro)); (focus ((simp [jo]; done))); simp only [Tryz.ntmps120, List.map_cons, List.map_nil, List.nil_append, List.cons_append, List.append_nil, LV.tv, au, Nat.zero_add, Nat.reduceAdd])
 | ((refine dw (k := 157) Tryz.func157 rfl BH (by rw [Tryz.ntmps157]; simp) ?_ ?_ (fun K hK => ?_)); (focus (exact True.intro)); (focus ((simp [jo]; done))); simp only [Tryz.ntmps157, List.map_cons, List.map_nil, List.nil_append, List.cons_append, List.append_nil, LV.tv, au, Nat.zero_add, Nat.reduceAdd])
 | ((refine nO (k := 176) Tryz.func176 rfl Tz (by rw [Tryz.ntmps176]; simp) ?_ ?_ (fun K hK => ?_)); (focus (exact True.intro)); (focus ((simp [jo]; done))); simp only [Tryz.ntmps176, List.map_cons, List.map_nil, List.nil_append, List.cons_append, List.append_nil, LV.tv, au, Nat.zero_add, Nat.reduceAdd])
 | ((refine nO (k := 177) Tryz.func177 rfl Yk (by rw [Tryz.ntmps177]; simp) ?_ ?_ (fun K hK => ?_)); (focus (exact True.intro)); (focus ((simp [jo]; done))); simp only [Tryz.ntmps177, List.map_cons, List.map_nil, List.nil_append, List.cons_append, List.append_nil, LV.tv, au, Nat.zero_add, Nat.reduceAdd])
 | ((refine nO (k := 178) Tryz.func178 rfl VJ (by rw [Tryz.ntmps178]; simp) ?_ ?_ (fun K hK => ?_)); (focus (exact True.intro)); (focus ((simp [jo]; done))); simp only [Tryz.ntmps178, List.map_cons, List.map_nil, List.nil_append, List.cons_append, List.append_nil, LV.tv, au, Nat.zero_add, Nat.reduceAdd]))
 | ((with_reducible show bM _ _ _ _ _ _ _ _ _ _); first
 | (refine aO (k := 148) uR (fun hg => Ap k o hk ho) ?_ ?_))
 | (((with_reducible show AW _ (Code.loop (Code.seq (Code.region 3 #[⟨some 10, _, _, _, _, _⟩] _) _)) _ _); with_reducible refine aL (c := (Code.seq (Code.region 3 _ _) _)) (ι := Nat) [3,7,8] (fun u => [(9, iA .i64 (u : Int))]) (fun u => [(0, [.mi none u (fF (LF f u))])]) (fun u => u <= n) (fun u => n - u) 0 ?lg3 ?l13 ?l23 ?li3 ?lr3); (case' lg3 => rintro u _); (case' li3 => try (omega)); (case' lr3 => rintro u hu KR hR3; simp only [bD, dD, hset, lk, if_true, if_false, xE, reduceIte, zN, hv, hw, hkd, hfk, hrk, aZ, dN, List.length_reverse, List.length_map, List.take_zero, List.length_take, bF, cZ, fK, qX, iZ, List.length_replicate, gN, Int.reduceEq, maxLen]))
 | ((with_reducible refine hR3 _ (u + 1) ?_); (try clear hR3 KR))
 | ((with_reducible refine hR7 _ (i + 1) ?_); (try clear hR7 KR))
 | ((with_reducible refine hR1 _ (kk :: ks) ?_); (try clear hR1 KR))
 | (((with_reducible show AW _ (Code.loop (Code.seq (Code.region 3 #[⟨some 11, _, _, _, _, _⟩] _) _)) _ _); with_reducible refine aL (c := (Code.seq (Code.region 3 _ _) _)) (ι := Nat) [0,8,9] (fun v => [(3, .t (.one (.slc 7 0 v 9))), (10, iA .i64 (v : Int))]) (fun v => [(7, lI ((jf (LF f n) o k).take v))]) (fun v => v <= (jf (LF f n) o k).length) (fun v => (jf (LF f n) o k).length - v) 0 ?lg3b ?l13b ?l23b ?li3b ?lr3b); (case' lg3b => rintro v _); (case' li3b => try (omega)); (case' lr3b => rintro v hv9 KR hR3b; simp only [bD, dD, hset, lk, if_true, if_false, xE, reduceIte, zN, hv, hw, hkd, hfk, hrk, aZ, dN, List.length_reverse, List.length_map, List.take_zero, List.length_take, bF, cZ, fK, qX, iZ, List.length_replicate, gN, Int.reduceEq, maxLen]))
 | ((with_reducible refine hR3b _ (v + 1) ?_); (try clear hR3b KR))
 | ((with_reducible refine Told.mk ?_); simp only [go_sem, reduceIte, reduceCtorEq, xA, xL, xD, xE, xM, xS, xB, hv, hw, hkd, hfk, hrk, aZ, dN, List.length_reverse, List.length_map, List.take_zero, List.length_take, bF, cZ, fK, qX, iZ, List.length_replicate, gN, Int.reduceEq, maxLen] <;> (first | (((try simp (disch := omega) only [aY, Int.natCast_add, Int.cast_ofNat_Int, and_true, true_and, and_self]); (repeat' (first | omega | rfl | (with_reducible refine And.intro ?_ ?_) | ((exact Or.inr ⟨(NQ hrs (by omega)).2, fun k => by rw [(NQ hrs (by omega)).1]; exact ou _⟩)))); done)) | (((try simp (disch := omega) only [aY, Int.natCast_add, Int.cast_ofNat_Int, and_true, true_and, and_self]); (repeat' (first | omega | rfl | (with_reducible refine And.intro ?_ ?_) | ((exact zn _ _ (by simp; omega))) | ((exact Or.inr ⟨(KG hg hO e5 hq (by omega)).2.1, fun k => by rw [(KG hg hO e5 hq (by omega)).2.2]; exact ou _⟩)) | ((exact all_succ (by assumption) (KG hg hO e5 hq (by omega)).1)) | ((exact Or.inr ⟨(La hg e5 hq).2.1, fun k => by rw [(La hg e5 hq).2.2]; exact ou _⟩)) | ((exact all_succ (by assumption) (La hg e5 hq).1)) | ((exact Or.inr ⟨(LW hg (by omega) hq (by assumption)).2.1, fun k => by rw [(LW hg (by omega) hq (by assumption)).2.2]; exact ou _⟩)) | ((exact all_succ (by assumption) (LW hg (by omega) hq (by assumption)).1)))); done)) | (((try simp (disch := omega) only [aY, Int.natCast_add, Int.cast_ofNat_Int, and_true, true_and, and_self]); (repeat' (first | omega | rfl | (with_reducible refine And.intro ?_ ?_) | ((exact hkm.1)) | ((exact fun e => by rw [hyy] at e; cases e)) | ((exact jQ rfl (ig _))))); done)) | (((try simp (disch := omega) only [aY, Int.natCast_add, Int.cast_ofNat_Int, and_true, true_and, and_self]); (repeat' (first | omega | (with_reducible refine And.intro ?_ ?_) | ((exact jQ rfl (ig _))) | ((rw [Xx (by omega)]; exact jQ rfl (nX _))))); done))))
 | ((with_reducible show kr _ _ (Oper.mk _ (Op.range _ _) _ _ _ _) _ _ _); refine yI (by exact Xo) (by simp (maxSteps := 2000000) only [go_sem, reduceIte, reduceCtorEq, xA, xL, xD, xE, xM, xS, xB, Tryz.f61, Tryz.f179, Tryz.f109, Tryz.f149, Tryz.f150, Tryz.f110, Tryz.f151, Tryz.f72, Tryz.f120, Tryz.f157, Tryz.f176, Tryz.f177, Tryz.f178, hv, hw, hkd, hfk, hrk, aZ, dN, List.length_reverse, List.length_map, List.take_zero, List.length_take, bF, cZ, fK, qX, iZ, List.length_replicate, gN, Int.reduceEq, maxLen]; rfl) (by simp (maxSteps := 2000000) only [go_sem, reduceIte, reduceCtorEq, xA, xL, xD, xE, xM, xS, xB, Tryz.f61, Tryz.f179, Tryz.f109, Tryz.f149, Tryz.f150, Tryz.f110, Tryz.f151, Tryz.f72, Tryz.f120, Tryz.f157, Tryz.f176, Tryz.f177, Tryz.f178, hv, hw, hkd, hfk, hrk, aZ, dN, List.length_reverse, List.length_map, List.take_zero, List.length_take, bF, cZ, fK, qX, iZ, List.length_replicate, gN, Int.reduceEq, maxLen]; rfl) (fun cc => ?_))
 | ((with_reducible show kr _ _ (Oper.mk _ (Op.next _ _) _ _ _ _) _ _ _); refine CU (by simp (maxSteps := 2000000) only [go_sem, reduceIte, reduceCtorEq, xA, xL, xD, xE, xM, xS, xB, Tryz.f61, Tryz.f179, Tryz.f109, Tryz.f149, Tryz.f150, Tryz.f110, Tryz.f151, Tryz.f72, Tryz.f120, Tryz.f157, Tryz.f176, Tryz.f177, Tryz.f178, hv, hw, hkd, hfk, hrk, aZ, dN, List.length_reverse, List.length_map, List.take_zero, List.length_take, bF, cZ, fK, qX, iZ, List.length_replicate, gN, Int.reduceEq, maxLen]; rfl) (by simp (maxSteps := 2000000) only [go_sem, reduceIte, reduceCtorEq, xA, xL, xD, xE, xM, xS, xB, Tryz.f61, Tryz.f179, Tryz.f109, Tryz.f149, Tryz.f150, Tryz.f110, Tryz.f151, Tryz.f72, Tryz.f120, Tryz.f157, Tryz.f176, Tryz.f177, Tryz.f178, hv, hw, hkd, hfk, hrk, aZ, dN, List.length_reverse, List.length_map, List.take_zero, List.length_take, bF, cZ, fK, qX, iZ, List.length_replicate, gN, Int.reduceEq, maxLen]; rfl) (by simp (maxSteps := 2000000) only [go_sem, reduceIte, reduceCtorEq, xA, xL, xD, xE, xM, xS, xB, Tryz.f61, Tryz.f179, Tryz.f109, Tryz.f149, Tryz.f150, Tryz.f110, Tryz.f151, Tryz.f72, Tryz.f120, Tryz.f157, Tryz.f176, Tryz.f177, Tryz.f178, hv, hw, hkd, hfk, hrk, aZ, dN, List.length_reverse, List.length_map, List.take_zero, List.length_take, bF, cZ, fK, qX, iZ, List.length_replicate, gN, Int.reduceEq, maxLen]; rfl) (fun hall => ?_) (fun kk yy hyy hnn => ?_))
 | ((with_reducible show kr _ _ (Oper.mk _ (Op.entry _) _ _ _ _) _ _ _); refine yJ (by simp (maxSteps := 2000000) only [go_sem, reduceIte, reduceCtorEq, xA, xL, xD, xE, xM, xS, xB, Tryz.f61, Tryz.f179, Tryz.f109, Tryz.f149, Tryz.f150, Tryz.f110, Tryz.f151, Tryz.f72, Tryz.f120, Tryz.f157, Tryz.f176, Tryz.f177, Tryz.f178, hv, hw, hkd, hfk, hrk, aZ, dN, List.length_reverse, List.length_map, List.take_zero, List.length_take, bF, cZ, fK, qX, iZ, List.length_replicate, gN, Int.reduceEq, maxLen]; rfl) (by simp (maxSteps := 2000000) only [go_sem, reduceIte, reduceCtorEq, xA, xL, xD, xE, xM, xS, xB, Tryz.f61, Tryz.f179, Tryz.f109, Tryz.f149, Tryz.f150, Tryz.f110, Tryz.f151, Tryz.f72, Tryz.f120, Tryz.f157, Tryz.f176, Tryz.f177, Tryz.f178, hv, hw, hkd, hfk, hrk, aZ, dN, List.length_reverse, List.length_map, List.take_zero, List.length_take, bF, cZ, fK, qX, iZ, List.length_replicate, gN, Int.reduceEq, maxLen]; rfl) (by simp (maxSteps := 2000000) only [go_sem, reduceIte, reduceCtorEq, xA, xL, xD, xE, xM, xS, xB, Tryz.f61, Tryz.f179, Tryz.f109, Tryz.f149, Tryz.f150, Tryz.f110, Tryz.f151, Tryz.f72, Tryz.f120, Tryz.f157, Tryz.f176, Tryz.f177, Tryz.f178, hv, hw, hkd, hfk, hrk, aZ, dN, List.length_reverse, List.length_map, List.take_zero, List.length_take, bF, cZ, fK, qX, iZ, List.length_replicate, gN, Int.reduceEq, maxLen]; rfl) (by ((intros; simp_all; done))) (fun yy hyy => ?_))
 | ((fail_if_success (with_reducible show AW _ _ _ _)); simp (maxSteps := 2000000) only [go_sem, reduceIte, reduceCtorEq, xA, xL, xD, xE, xM, xS, xB, Tryz.f61, Tryz.f179, Tryz.f109, Tryz.f149, Tryz.f150, Tryz.f110, Tryz.f151, Tryz.f72, Tryz.f120, Tryz.f157, Tryz.f176, Tryz.f177, Tryz.f178, hv, hw, hkd, hfk, hrk, aZ, dN, List.length_reverse, List.length_map, List.take_zero, List.length_take, bF, cZ, fK, qX, iZ, List.length_replicate, gN, Int.reduceEq, maxLen])
 | ((with_reducible show aW _ _ _ _ _ _ (.yld _) _ _ _); (refine kU (by simp only [Eh, if_true]; exact rfl) ?_ (by simp) ?_ ?_ (fun K hK => ?_)); (focus (exact True.intro)); (focus (simp [mE])); (focus ((simp [jo]; done))); simp only [iT, gf, if_true, Nat.reduceAdd])
 | ((with_reducible refine hK _ ?_); clear hK K)
 | (with_reducible apply_assumption -exfalso only [*]))
  all_goals ((have h8 := keys_eq (j4 hG hops k (Nat.le_refl k)).a hnd hks hall; have e7 : v = (jf (LF f n) o k).length := (by omega); subst e7; rw [List.take_length]; have h7 := ahY hv hw (Int.le_refl _) hai; refine ⟨⟨by omega, fun c hc9 => (by have := nX _ c hc9; cases c <;> trivial)⟩, ⟨h7.1, fun i q hi hq => Da (jf (LF f n) o k) i q hi hq⟩, h7.2⟩))
theorem Ze (n : Nat) (f : Nat -> aN) (k : Nat) (o : Nat -> eG) (hn : n <= 9223372036854775807) (hf : ∀ i, i < n -> (f i).Ok) (hk : k <= 9223372036854775807) (ho : ∀ i, i < k -> (o i).f.Ok) (hv : nV n f = false) : aA Tryz.prog 61 [.one (.lst 9 n (dL f)), .one (.lst 16 k (iC o))] (.tup [.one (.lst 9 (Dp n f k o) (dL (Yv n f k o))), .one (.g (.int .i64 (YS n f k o))), .one (.g (.int .i64 (yL n f k o)))]) := by
  refine ak Tryz.func61 rfl (by rw [Tryz.ntmps61]; simp) ?_
  simp only [Tryz.ntmps61, zM, PT.tv, au, Nat.zero_add, Nat.reduceAdd]
  repeat' (first
 | ((with_reducible show AW _ _ _ _); first
 | (with_reducible first | refine aS (fun K hK => ?_) | refine aT ?_ | refine aC ?_)
 | (first
 | (with_reducible first | refine aP (ops := #[⟨some 4, _, _, _, _, _⟩, _, _]) 0 [0,1] ?_ | refine aP (ops := #[⟨some 4, _, _, _, _, _⟩, _, _, _]) 0 [0,1] ?_ | refine aP (ops := #[⟨some 12, _, _, _, _, _⟩, _, _, _, _, _, _, _, _, _, _, _]) 1 [0,1] ?_ | refine aP (ops := #[⟨some 15, _, _, _, _, _⟩, _, _, _, _, _, _, _]) 1 [0,1] ?_ | refine aP (ops := #[⟨some 19, _, _, _, _, _⟩, _]) 2 [7,9,10] ?_ | refine aP (ops := #[⟨some 4, _, _, _, _, _⟩, _, _, _]) 2 [] ?_ | refine aP (ops := #[⟨some 21, _, _, _, _, _⟩, _, _, _, _]) 3 [9,10] ?_)))
 | ((first | (with_reducible refine And.intro ?_ ?_) | (with_reducible refine Need.mk ?_)); focus (first | exact True.intro | (simp; done)))
 | (with_reducible refine aJ ?_)
 | ((with_reducible show bL _ _ _ _ _ _); first
 | ((with_reducible refine aM ?_ ?_) <;> (intro hc; (try simp only [zB, zC, reduceCtorEq] at hc); (try (exfalso; contradiction)))))
 | ((with_reducible show aW _ _ _ _ _ _ _ _ _ _); first
 | (refine aF (k := 95) qL (zR n f hn hf) ?_ ?_)
 | ((refine dw (k := 109) Tryz.func109 rfl tK (by rw [Tryz.ntmps109]; simp) ?_ ?_ (fun K hK => ?_)); (focus (exact True.intro)); (focus ((simp [jo]; done))); simp only [Tryz.ntmps109, List.map_cons, List.map_nil, List.nil_append, List.cons_append, List.append_nil, LV.tv, au, Nat.zero_add, Nat.reduceAdd]))
 | ((with_reducible show bM _ _ _ _ _ _ _ _ _ _); first
 | (refine aO (k := 148) uR (fun hg => Ap k o hk ho) ?_ ?_))
 | ((fail_if_success (with_reducible show AW _ _ _ _)); simp (maxSteps := 2000000) only [go_sem, reduceIte, reduceCtorEq, xA, xL, xD, xE, xM, xS, xB, Tryz.f61, Tryz.f109, hv])
 | ((with_reducible refine hK _ ?_); clear hK K)
 | (with_reducible apply_assumption -exfalso only [*]))
  all_goals (exact TI (by unfold Lr; rw [hv]; rfl))
theorem aap (n : Nat) (f : Nat -> aN) (k : Nat) (o : Nat -> eG) (hn : n <= 9223372036854775807) (hf : ∀ i, i < n -> (f i).Ok) (hk : k <= 9223372036854775807) (ho : ∀ i, i < k -> (o i).f.Ok) (hv : nV n f = true) (hw : Ah k o = false) : aA Tryz.prog 61 [.one (.lst 9 n (dL f)), .one (.lst 16 k (iC o))] (.tup [.one (.lst 9 (Dp n f k o) (dL (Yv n f k o))), .one (.g (.int .i64 (YS n f k o))), .one (.g (.int .i64 (yL n f k o)))]) := by
  refine ak Tryz.func61 rfl (by rw [Tryz.ntmps61]; simp) ?_
  simp only [Tryz.ntmps61, zM, PT.tv, au, Nat.zero_add, Nat.reduceAdd]
  repeat' (first
 | ((with_reducible show AW _ _ _ _); first
 | (with_reducible first | refine aS (fun K hK => ?_) | refine aT ?_ | refine aC ?_)
 | (first
 | (with_reducible first | refine aP (ops := #[⟨some 4, _, _, _, _, _⟩, _, _]) 0 [0,1] ?_ | refine aP (ops := #[⟨some 4, _, _, _, _, _⟩, _, _, _]) 0 [0,1] ?_ | refine aP (ops := #[⟨some 12, _, _, _, _, _⟩, _, _, _, _, _, _, _, _, _, _, _]) 1 [0,1] ?_ | refine aP (ops := #[⟨some 15, _, _, _, _, _⟩, _, _, _, _, _, _, _]) 1 [0,1] ?_ | refine aP (ops := #[⟨some 19, _, _, _, _, _⟩, _]) 2 [7,9,10] ?_ | refine aP (ops := #[⟨some 4, _, _, _, _, _⟩, _, _, _]) 2 [] ?_ | refine aP (ops := #[⟨some 21, _, _, _, _, _⟩, _, _, _, _]) 3 [9,10] ?_)))
 | ((first | (with_reducible refine And.intro ?_ ?_) | (with_reducible refine Need.mk ?_)); focus (first | exact True.intro | (intro _; exact True.intro)))
 | (with_reducible refine aJ ?_)
 | ((with_reducible show bL _ _ _ _ _ _); first
 | ((with_reducible refine aM ?_ ?_) <;> (intro hc; (try simp only [zB, zC, reduceCtorEq] at hc); (try (exfalso; contradiction)))))
 | ((with_reducible show aW _ _ _ _ _ _ _ _ _ _); first
 | (refine aF (k := 95) qL (zR n f hn hf) ?_ ?_)
 | ((refine dw (k := 109) Tryz.func109 rfl tK (by rw [Tryz.ntmps109]; simp) ?_ ?_ (fun K hK => ?_)); (focus (exact True.intro)); (focus ((simp [jo]; done))); simp only [Tryz.ntmps109, List.map_cons, List.map_nil, List.nil_append, List.cons_append, List.append_nil, LV.tv, au, Nat.zero_add, Nat.reduceAdd]))
 | ((with_reducible show bM _ _ _ _ _ _ _ _ _ _); first
 | (refine aO (k := 148) uR (fun hg => Ap k o hk ho) ?_ ?_))
 | ((fail_if_success (with_reducible show AW _ _ _ _)); simp (maxSteps := 2000000) only [go_sem, reduceIte, reduceCtorEq, xA, xL, xD, xE, xM, xS, xB, Tryz.f61, Tryz.f109, hv, hw])
 | ((with_reducible refine hK _ ?_); clear hK K)
 | (with_reducible apply_assumption -exfalso only [*]))
  all_goals (exact TI (by unfold Lr; rw [hv]; rw [hw]; rfl))
theorem Mh (n : Nat) (f : Nat -> aN) (k : Nat) (o : Nat -> eG) (hn : n <= 9223372036854775807) (hf : ∀ i, i < n -> (f i).Ok) (hk : k <= 9223372036854775807) (ho : ∀ i, i < k -> (o i).f.Ok) : aA Tryz.prog 61 [.one (.lst 9 n (dL f)), .one (.lst 16 k (iC o))] (.tup [.one (.lst 9 (Dp n f k o) (dL (Yv n f k o))), .one (.g (.int .i64 (YS n f k o))), .one (.g (.int .i64 (yL n f k o)))]) := by
  cases hv : nV n f with
  | false => exact Ze n f k o hn hf hk ho hv
  | true => cases hw : Ah k o with
    | false => exact aap n f k o hn hf hk ho hv hw
    | true => exact ab2 n f k o hn hf hk ho hv hw
end Go.Proofs.YtcfechepbamhkaaGreat
set_option maxRecDepth 100000
set_option maxHeartbeats 4000000
namespace Go.Proofs.YtcfechepbamhkaaGreat
open Go.RowKit Go.Sea
open Nat renaming reduceAdd -> xA, reduceLT -> xL, reduceLeDiff -> xD, reduceEqDiff -> xE, reduceMul -> xM, reduceSub -> xS, reduceBEq -> xB
theorem Ip : aK Tryz.prog 155 = true := by kernel_rfl
attribute [go_sem] Ip
theorem lJ (l : List aN) (i : Nat) : List.map (CV.cB i) (lI l) = lI l := jK i (nX l)
theorem jU (l : List aN) (f : aN) (i : Nat) : List.map (CV.cB i) (lI l ++ [CV.iv (.g (.int .i64 (f.id))), CV.iv (.g (.int .i64 (f.kd))), CV.iv (.g (.int .i64 (f.x))), CV.iv (.g (.int .i64 (f.y))), CV.iv (.g (.int .i64 (f.r))), CV.iv (.lst 2 f.n (dY f.P)), CV.iv (.g (.int .i64 (f.d))), CV.iv (.g (.int .i64 (f.s))), CV.iv (.lst 6 f.m (dY f.S))]) = lI (l ++ [f]) := by
  have e : lI l ++ c9 f = lI (l ++ [f]) := by simp [lI]
  exact (congrArg (List.map (CV.cB i)) e).trans (jK i (nX _))
theorem FJ {b : Nat -> Bool} : ∀ k, jw b k < k -> b (jw b k) = true /\ ∀ j, j < jw b k -> b j = false
  | 0, h => absurd h (Nat.not_lt_zero _)
  | k + 1, h => by
    by_cases h1 : jw b k < k
    · have := FJ k h1
      have e : jw b (k + 1) = jw b k := l5 this.1 this.2 (k + 1) (by omega)
      rw [e]; exact this
    · have e0 : jw b k = k := by have := qy b k; omega
      have hA : ∀ j, j < k -> b j = false := fun j hj => by
        cases hb : b j with
        | false => rfl
        | true =>
          exfalso
          obtain ⟨m, hm, hm1, hm2⟩ : ∃ m, m <= j /\ b m = true /\ ∀ q, q < m -> b q = false := by
            clear h h1 e0
            induction j using Nat.strongRecOn with
            | _ j ih =>
              by_cases hx : ∃ q, q < j /\ b q = true
              · obtain ⟨q, hq, hq2⟩ := hx
                obtain ⟨m, h1, h2⟩ := ih q hq (by omega) hq2
                exact ⟨m, by omega, h2⟩
              · exact ⟨j, Nat.le_refl _, hb, fun q hq => by
                  cases hbq : b q with
                  | false => rfl
                  | true => exact absurd ⟨q, hq, hbq⟩ hx⟩
          have := l5 hm1 hm2 k (by omega)
          omega
      cases hb : b k with
      | true => rw [l5 hb hA (k + 1) (by omega)]; exact ⟨hb, hA⟩
      | false =>
        have : jw b (k + 1) = k + 1 := pY (k + 1) fun j hj => by
          by_cases e : j = k
          · subst e; exact hb
          · exact hA j (by omega)
        omega
end Go.Proofs.YtcfechepbamhkaaGreat
set_option maxRecDepth 100000
set_option maxHeartbeats 4000000
namespace Go.Proofs.YtcfechepbamhkaaGreat
open Go.RowKit Go.Sea
open Nat renaming reduceAdd -> xA, reduceLT -> xL, reduceLeDiff -> xD, reduceEqDiff -> xE, reduceMul -> xM, reduceSub -> xS, reduceBEq -> xB
theorem abh : dF Tryz.prog 35 0 = some 0 := by kernel_rfl
theorem Zp : dF Tryz.prog 35 1 = some 1 := by kernel_rfl
theorem abt : dF Tryz.prog 35 3 = some 3 := by kernel_rfl
theorem acn : dF Tryz.prog 35 4 = some 4 := by kernel_rfl
attribute [go_sem] abh Zp abt acn
theorem XF {x y : Int} (hx : -2000000 <= x /\ x <= 2000000) (hy : -2000000 <= y /\ y <= 2000000) : -4000000000000 <= x * y /\ x * y <= 4000000000000 := by
  have h1 : 0 <= (2000000 - x) * (2000000 + y) := Int.mul_nonneg (by omega) (by omega)
  have h2 : 0 <= (2000000 + x) * (2000000 - y) := Int.mul_nonneg (by omega) (by omega)
  have h3 : 0 <= (2000000 - x) * (2000000 - y) := Int.mul_nonneg (by omega) (by omega)
  have h4 : 0 <= (2000000 + x) * (2000000 + y) := Int.mul_nonneg (by omega) (by omega)
  simp only [Int.sub_mul, Int.mul_sub, Int.add_mul, Int.mul_add] at h1 h2 h3 h4
  generalize x * y = z at *
  omega
def oC (n m : Nat) (s t : Nat -> Int) : Bool := decide (n = m /\ ∀ i, i < n -> s i = t i)
def yZ (n m : Nat) (f g : Nat -> aN) : Bool := decide (n = m /\ ∀ i, i < n -> uP (f i) (g i) = true)
theorem agu {q : Nat} {a : Nat -> Int} {i : Nat} (hi : (q : Int) <= i) (g : ∀ i', i' < i -> mW a 10001 i') : decide ((q : Int) <= 200) = yR q a := by
  unfold yR; exact decide_eq_decide.2 ⟨fun h => ⟨by omega, fun k hk => g k (by omega)⟩, fun h => by omega⟩
theorem ad9 {q : Nat} {a : Nat -> Int} {i : Nat} (hi : (i : Int) < q) (h : ¬ mW a 10001 i) : yR q a = false := decide_eq_false fun g => h (g.2 i (by omega))
theorem aja {m : rY} (h : (-2000000 <= m.A /\ m.A <= 2000000) /\ (-2000000 <= m.B /\ m.B <= 2000000) /\ (-2000000 <= m.D /\ m.D <= 2000000) /\ (-2000000 <= m.E /\ m.E <= 2000000)) : (-4000000000000 <= m.A * m.E /\ m.A * m.E <= 4000000000000) /\ (-4000000000000 <= m.B * m.D /\ m.B * m.D <= 4000000000000) := ⟨XF h.1 h.2.2.2, XF h.2.1 h.2.2.1⟩
def seqB (a b : bE) : Bool := decide (a.ch = b.ch /\ a.sc = b.sc /\ a.ed = b.ed /\ (a.m.A = b.m.A /\ a.m.B = b.m.B /\ a.m.C = b.m.C /\ a.m.D = b.m.D /\ a.m.E = b.m.E /\ a.m.F = b.m.F /\ a.m.R = b.m.R) /\ a.cap = b.cap) && (oC a.q b.q a.dn b.dn && yZ a.n b.n a.f b.f)
theorem SI (x y : Int) : aA Tryz.prog 93 [.one (.g (.int .i64 x)), .one (.g (.int .i64 y))] (.t (.one (.g (.bool (decide (1 <= x /\ x <= y)))))) := by
  refine ak Tryz.func93 rfl (by rw [Tryz.ntmps93]; simp) ?_
  simp only [Tryz.ntmps93, zM, PT.tv, au, Nat.zero_add, Nat.reduceAdd]
  repeat' (first
 | ((with_reducible show AW _ _ _ _); first
 | (with_reducible first | refine aS (fun K hK => ?_) | refine aT ?_)
 | (first
 | (with_reducible first | refine aP 0 [0,1] ?_ | refine aP 1 [0,1] ?_)))
 | (with_reducible refine aJ ?_)
 | ((fail_if_success (with_reducible show AW _ _ _ _)); simp (maxSteps := 2000000) only [go_sem, reduceIte, reduceCtorEq, xA, xL, xD, xE, xM, xS, xB, Tryz.f93])
 | ((with_reducible refine hK _ ?_); clear hK K))
  all_goals ((try refine Bool.eq_iff_iff.2 ?_); (simp only [Bool.and_eq_true, Bool.or_eq_true, Bool.not_eq_true', decide_eq_true_eq, decide_eq_false_iff_not, bne_iff_ne, beq_iff_eq, ne_eq, ge_iff_le, gt_iff_lt, cond_eq_ite, iff_self, eq_self]; done))
theorem ajF (m : rY) (hm : (-2000000 <= m.A /\ m.A <= 2000000) /\ (-2000000 <= m.B /\ m.B <= 2000000) /\ (-2000000 <= m.D /\ m.D <= 2000000) /\ (-2000000 <= m.E /\ m.E <= 2000000)) : aA Tryz.prog 132 [.agg [.g (.int .i64 m.A), .g (.int .i64 m.B), .g (.int .i64 m.C), .g (.int .i64 m.D), .g (.int .i64 m.E), .g (.int .i64 m.F), .g (.int .i64 m.R)]] (.t (.one (.g (.int .i64 (m.A * m.E - m.B * m.D))))) := by
  have hX := aja hm
  refine ak Tryz.func132 rfl (by rw [Tryz.ntmps132]; simp) ?_
  simp only [Tryz.ntmps132, zM, PT.tv, au, Nat.zero_add, Nat.reduceAdd]
  repeat' (first
 | ((with_reducible show AW _ _ _ _); first
 | (with_reducible first | refine aS (fun K hK => ?_) | refine aT ?_)
 | (first
 | (with_reducible first | refine aP 0 [0] ?_ | refine aP 1 [1] ?_)))
 | (with_reducible refine aJ ?_)
 | ((fail_if_success (with_reducible show AW _ _ _ _)); simp (maxSteps := 2000000) only [go_sem, reduceIte, reduceCtorEq, xA, xL, xD, xE, xM, xS, xB, Tryz.f132])
 | ((fail_if_success (with_reducible show AW _ _ _ _)); simp (disch := omega) only [aY, jy, jH])
 | ((with_reducible refine hK _ ?_); clear hK K))
end Go.Proofs.YtcfechepbamhkaaGreat
set_option maxRecDepth 100000
set_option maxHeartbeats 4000000
namespace Go.Proofs.YtcfechepbamhkaaGreat
open Go.RowKit Go.Sea
open Nat renaming reduceAdd -> xA, reduceLT -> xL, reduceLeDiff -> xD, reduceEqDiff -> xE, reduceMul -> xM, reduceSub -> xS, reduceBEq -> xB
theorem Jo : aK Tryz.prog 132 = true := by kernel_rfl
theorem Xn : aK Tryz.prog 152 = true := by kernel_rfl
theorem Sd : aK Tryz.prog 153 = true := by kernel_rfl
theorem af8 : fE Tryz.prog 161 = true := by kernel_rfl
theorem afg : ixD Tryz.prog 161 = some (4, false, 1) := by kernel_rfl
theorem aci : dF Tryz.prog 35 2 = some 2 := by kernel_rfl
theorem ZF : dF Tryz.prog 35 5 = some 5 := by kernel_rfl
theorem ac5 : dF Tryz.prog 35 6 = some 6 := by kernel_rfl
theorem X0 : dz Tryz.prog 161 0 = some (0, 1) := by kernel_rfl
theorem VL : dz Tryz.prog 161 1 = some (1, 1) := by kernel_rfl
theorem Yf : dz Tryz.prog 161 2 = some (2, 1) := by kernel_rfl
theorem Xy : dz Tryz.prog 161 3 = some (3, 1) := by kernel_rfl
theorem aku : lG Tryz.prog 35 = some (true, 7) := by kernel_rfl
theorem aeR : fJ Tryz.prog 161 = some [.iv (.g (.int .i64 0)), .iv (.g (.int .i64 0)), .iv (.g (.int .i64 0)), .iv (.g (.int .i64 0))] := by kernel_rfl
attribute [go_sem] Jo Xn Sd af8 afg aci ZF ac5 X0 VL Yf Xy aku aeR
theorem Et {n m : Nat} {s t : Nat -> Int} (h : (n : Int) ≠ m) : false = oC n m s t := (decide_eq_false fun g => by omega).symm
theorem EF {n m : Nat} {s t : Nat -> Int} {i : Nat} (hi : (i : Int) < n) (h : s i ≠ t i) : false = oC n m s t := (decide_eq_false fun g => h (g.2 i (by omega))).symm
theorem Ey {n m : Nat} {s t : Nat -> Int} {i : Nat} (h : (n : Int) = m) (hi : (n : Int) <= i) (g : ∀ j, j < i -> s j = t j) : true = oC n m s t := (decide_eq_true ⟨by omega, fun k hk => g k (by omega)⟩).symm
theorem ahf {n m : Nat} {f g : Nat -> aN} (h : (n : Int) ≠ m) : false = yZ n m f g := (decide_eq_false fun e => by omega).symm
theorem ahn {n m : Nat} {f g : Nat -> aN} {i : Nat} (hi : (i : Int) < n) (h : uP (f i) (g i) = false) : false = yZ n m f g := (decide_eq_false fun e => by rw [e.2 i (by omega)] at h; cases h).symm
theorem ael {n m : Nat} {f g : Nat -> aN} {i : Nat} (h : (n : Int) = m) (hi : (n : Int) <= i) (ha : ∀ j, j < i -> uP (f j) (g j) = true) : true = yZ n m f g := (decide_eq_true ⟨by omega, fun k hk => ha k (by omega)⟩).symm
def iD (q : Nat) (a : Nat -> Int) (x : Int) : Bool := decide (∃ i, i < q /\ a i = x)
theorem afj {m : rY} (h : ¬ Md m) : false = Ri m := (decide_eq_false h).symm
theorem ajj {m : rY} {b : Bool} (h : b = true ↔ Md m) : b = Ri m := Bool.eq_iff_iff.2 (h.trans (decide_eq_true_iff (p := Md m)).symm)
def KY (m : rY) (j : Nat) : Int := if j = 0 then m.A else if j = 1 then m.B else if j = 2 then m.D else m.E
def ahC (m : rY) (j : Nat) : Prop := -2000000 <= KY m j /\ KY m j <= 2000000
theorem MV {m : rY} {j : Nat} (h : ∀ j', j' < j -> ahC m j') (hj : 4 <= j) : (-2000000 <= m.A /\ m.A <= 2000000) /\ (-2000000 <= m.B /\ m.B <= 2000000) /\ (-2000000 <= m.D /\ m.D <= 2000000) /\ (-2000000 <= m.E /\ m.E <= 2000000) := by
  have h0 := h 0 (by omega); have h1 := h 1 (by omega); have h2 := h 2 (by omega); have h3 := h 3 (by omega)
  simp only [ahC, KY, if_true, Nat.reduceEqDiff, if_false] at h0 h1 h2 h3
  exact ⟨by simpa using h0, by simpa using h1, by simpa using h2, by simpa using h3⟩
theorem abL {m : rY} {j : Nat} (h : j < 4) : ([.iv (.g (.int .i64 m.A)), .iv (.g (.int .i64 m.B)), .iv (.g (.int .i64 m.D)), .iv (.g (.int .i64 m.E))] : List CV).getD j .any = .iv (.g (.int .i64 (KY m j))) := by
  rcases (by omega : j = 0 \/ j = 1 \/ j = 2 \/ j = 3) with rfl | rfl | rfl | rfl <;> rfl
theorem aeP {m : rY} {j : Nat} (h : j < 4) (hc : KY m j < -2000000 \/ KY m j > 2000000) (g : (-2000000 <= m.A /\ m.A <= 2000000) /\ (-2000000 <= m.B /\ m.B <= 2000000) /\ (-2000000 <= m.D /\ m.D <= 2000000) /\ (-2000000 <= m.E /\ m.E <= 2000000)) : False := by
  rcases (by omega : j = 0 \/ j = 1 \/ j = 2 \/ j = 3) with rfl | rfl | rfl | rfl <;> simp [KY] at hc <;> omega
theorem akq {m : rY} (h : ¬ ((-2000000 <= m.A /\ m.A <= 2000000) /\ (-2000000 <= m.B /\ m.B <= 2000000) /\ (-2000000 <= m.D /\ m.D <= 2000000) /\ (-2000000 <= m.E /\ m.E <= 2000000))) : false = Ri m := afj fun g => h g.1
theorem aiO (n m : Nat) (s t : Nat -> Int) (hn : n <= 9223372036854775807) (hm : m <= 9223372036854775807) : aA Tryz.prog 56 [.one (.lst 1 n (bC s)), .one (.lst 1 m (bC t))] (.t (.one (.g (.bool (oC n m s t))))) := by
  refine ak Tryz.func56 rfl (by rw [Tryz.ntmps56]; simp) ?_
  simp only [Tryz.ntmps56, zM, PT.tv, au, Nat.zero_add, Nat.reduceAdd]
  repeat' (first
 | ((with_reducible show AW _ _ _ _); first
 | (with_reducible first | refine aS (fun K hK => ?_) | refine aI ?_ | refine aX ?_ | refine aT ?_ | refine aC ?_ | refine aB ?_)
 | (first
 | (with_reducible first | refine aP 0 [0,1] ?_ | refine aP 1 [0,1] ?_ | refine aP 2 [] ?_ | refine aP 3 [0,1] ?_ | refine aP 4 [0,1,12,13] ?_ | refine aP 5 [0,1,12,13] ?_)
 | ((with_reducible refine aR (c := Code.region 6 _ true) [0,1,5,12,13] ?_); (with_reducible refine aD ?_ ?_ ?_ ?_); (focus kernel_rfl); (focus kernel_rfl); (focus kernel_rfl))
 | (with_reducible first | refine aP 7 [] ?_ | refine aP 8 [0,1,12,13] ?_ | refine aP 9 [] ?_))
 | ((with_reducible show AW _ (Code.loop _) _ _); first
 | ((with_reducible refine aL (c := (Code.seq (Code.region 4 _ _) _)) (ι := Nat) [0,1,12] (fun i => [(13, iA .i64 (i : Int))]) (fun i => []) (fun i => i <= n /\ (∀ i', i' < i -> s i' = t i')) (fun i => n - i) 0 ?lg4 ?l14 ?l24 ?li4 ?lr4); (case' lg4 => rintro i _); (case' li4 => try (exact ⟨Nat.zero_le _, fun i hi => absurd hi (Nat.not_lt_zero _)⟩)); (case' lr4 => rintro i ⟨hi, hai⟩ KR hR4; simp only [bD, dD, hset, lk, if_true, if_false, xE, reduceIte, zN]))))
 | (((with_reducible refine And.intro ?_ ?_)); focus (omega))
 | (with_reducible refine aJ ?_)
 | ((with_reducible show bL _ _ _ _ _ _); first
 | ((with_reducible refine aM ?_ ?_) <;> (intro hc; (try simp only [zB, zC, reduceCtorEq] at hc); (try (exfalso; contradiction)))))
 | ((with_reducible refine And.intro ?_ ?_); focus ((with_reducible show gV _ _ _ = true); kernel_rfl))
 | ((with_reducible refine hR4 _ (i + 1) ?_); (try clear hR4 KR))
 | ((with_reducible refine Told.mk ?_); simp only [go_sem, reduceIte, reduceCtorEq, xA, xL, xD, xE, xM, xS, xB, bC] <;> ((((try simp (disch := omega) only [aY, Int.natCast_add, Int.cast_ofNat_Int, and_true, true_and, and_self]); (repeat' (first | omega | (with_reducible refine And.intro ?_ ?_) | (exact all_succ (by assumption) (by assumption)) )); done))))
 | ((fail_if_success (with_reducible show AW _ _ _ _)); simp (maxSteps := 2000000) only [go_sem, reduceIte, reduceCtorEq, xA, xL, xD, xE, xM, xS, xB, Tryz.f56, bC])
 | ((with_reducible refine hK _ ?_); clear hK K)
 | (with_reducible apply_assumption -exfalso only [*]))
  all_goals first | exact Et (by assumption) | exact EF (by assumption) hc | exact Ey (by omega) (by assumption) hai | skip
theorem ZQ (n m : Nat) (s t : Nat -> Int) (hn : n <= 9223372036854775807) (hm : m <= 9223372036854775807) : aA Tryz.prog 65 [.one (.lst 1 n (bC s)), .one (.lst 1 m (bC t))] (.t (.one (.g (.bool (oC n m s t))))) := by
  refine ak Tryz.func65 rfl (by rw [Tryz.ntmps65]; simp) ?_
  simp only [Tryz.ntmps65, zM, PT.tv, au, Nat.zero_add, Nat.reduceAdd]
  repeat' (first
 | ((with_reducible show AW _ _ _ _); first
 | (with_reducible first | refine aS (fun K hK => ?_) | refine aI ?_ | refine aX ?_ | refine aT ?_ | refine aC ?_ | refine aB ?_)
 | (first
 | (with_reducible first | refine aP 0 [0,1] ?_ | refine aP 1 [0,1] ?_ | refine aP 2 [] ?_ | refine aP 3 [0,1] ?_ | refine aP 4 [0,1,5] ?_ | refine aP 5 [0,1,5] ?_)
 | ((with_reducible refine aR (c := Code.region 6 _ true) [0,1,5] ?_); (with_reducible refine aD ?_ ?_ ?_ ?_); (focus kernel_rfl); (focus kernel_rfl); (focus kernel_rfl))
 | (with_reducible first | refine aP 7 [] ?_ | refine aP 8 [] ?_))
 | ((with_reducible show AW _ (Code.loop _) _ _); first
 | ((with_reducible refine aL (c := (Code.seq (Code.seq (Code.region 4 _ _) _) _)) (ι := Nat) [0,1] (fun i => [(5, iA .i64 (i : Int))]) (fun i => []) (fun i => i <= n /\ (∀ i', i' < i -> s i' = t i')) (fun i => n - i) 0 ?lg4 ?l14 ?l24 ?li4 ?lr4); (case' lg4 => rintro i _); (case' li4 => try (exact ⟨Nat.zero_le _, fun i hi => absurd hi (Nat.not_lt_zero _)⟩)); (case' lr4 => rintro i ⟨hi, hai⟩ KR hR4; simp only [bD, dD, hset, lk, if_true, if_false, xE, reduceIte, zN]))))
 | (((with_reducible refine And.intro ?_ ?_)); focus (omega))
 | (with_reducible refine aJ ?_)
 | ((with_reducible show bL _ _ _ _ _ _); first
 | ((with_reducible refine aM ?_ ?_) <;> (intro hc; (try simp only [zB, zC, reduceCtorEq] at hc); (try (exfalso; contradiction)))))
 | ((with_reducible refine And.intro ?_ ?_); focus ((with_reducible show gV _ _ _ = true); kernel_rfl))
 | ((with_reducible refine hR4 _ (i + 1) ?_); (try clear hR4 KR))
 | ((with_reducible refine Told.mk ?_); simp only [go_sem, reduceIte, reduceCtorEq, xA, xL, xD, xE, xM, xS, xB, bC] <;> ((((try simp (disch := omega) only [aY, Int.natCast_add, Int.cast_ofNat_Int, and_true, true_and, and_self]); (repeat' (first | omega | (with_reducible refine And.intro ?_ ?_) | (exact all_succ (by assumption) (by assumption)) )); done))))
 | ((fail_if_success (with_reducible show AW _ _ _ _)); simp (maxSteps := 2000000) only [go_sem, reduceIte, reduceCtorEq, xA, xL, xD, xE, xM, xS, xB, Tryz.f65, bC])
 | ((with_reducible refine hK _ ?_); clear hK K)
 | (with_reducible apply_assumption -exfalso only [*]))
  all_goals first | exact Et (by assumption) | exact EF (by assumption) hc | exact Ey (by omega) (by assumption) hai | skip
theorem Xl (n m : Nat) (s t : Nat -> Int) (hn : n <= 9223372036854775807) (hm : m <= 9223372036854775807) : aA Tryz.prog 31 [.one (.lst 1 n (bC s)), .one (.lst 1 m (bC t))] (.t (.one (.g (.bool (oC n m s t))))) := by
  refine ak Tryz.func31 rfl (by rw [Tryz.ntmps31]; simp) ?_
  simp only [Tryz.ntmps31, zM, PT.tv, au, Nat.zero_add, Nat.reduceAdd]
  repeat' (first
 | ((with_reducible show AW _ _ _ _); first
 | (with_reducible first | refine aS (fun K hK => ?_) | refine aI ?_ | refine aX ?_ | refine aT ?_ | refine aC ?_ | refine aB ?_)
 | (first
 | (with_reducible first | refine aP 0 [0,1] ?_ | refine aP 1 [0,1] ?_ | refine aP 2 [] ?_ | refine aP 3 [0,1] ?_ | refine aP 4 [0,1,5] ?_ | refine aP 5 [0,1,5] ?_)
 | ((with_reducible refine aR (c := Code.region 6 _ true) [0,1,5] ?_); (with_reducible refine aD ?_ ?_ ?_ ?_); (focus kernel_rfl); (focus kernel_rfl); (focus kernel_rfl))
 | (with_reducible first | refine aP 7 [] ?_ | refine aP 8 [] ?_))
 | ((with_reducible show AW _ (Code.loop _) _ _); first
 | ((with_reducible refine aL (c := (Code.seq (Code.seq (Code.region 4 _ _) _) _)) (ι := Nat) [0,1] (fun i => [(5, iA .i64 (i : Int))]) (fun i => []) (fun i => i <= n /\ (∀ i', i' < i -> s i' = t i')) (fun i => n - i) 0 ?lg4 ?l14 ?l24 ?li4 ?lr4); (case' lg4 => rintro i _); (case' li4 => try (exact ⟨Nat.zero_le _, fun i hi => absurd hi (Nat.not_lt_zero _)⟩)); (case' lr4 => rintro i ⟨hi, hai⟩ KR hR4; simp only [bD, dD, hset, lk, if_true, if_false, xE, reduceIte, zN]))))
 | (((with_reducible refine And.intro ?_ ?_)); focus (omega))
 | (with_reducible refine aJ ?_)
 | ((with_reducible show bL _ _ _ _ _ _); first
 | ((with_reducible refine aM ?_ ?_) <;> (intro hc; (try simp only [zB, zC, reduceCtorEq] at hc); (try (exfalso; contradiction)))))
 | ((with_reducible refine And.intro ?_ ?_); focus ((with_reducible show gV _ _ _ = true); kernel_rfl))
 | ((with_reducible refine hR4 _ (i + 1) ?_); (try clear hR4 KR))
 | ((with_reducible refine Told.mk ?_); simp only [go_sem, reduceIte, reduceCtorEq, xA, xL, xD, xE, xM, xS, xB, bC] <;> ((((try simp (disch := omega) only [aY, Int.natCast_add, Int.cast_ofNat_Int, and_true, true_and, and_self]); (repeat' (first | omega | (with_reducible refine And.intro ?_ ?_) | (exact all_succ (by assumption) (by assumption)) )); done))))
 | ((fail_if_success (with_reducible show AW _ _ _ _)); simp (maxSteps := 2000000) only [go_sem, reduceIte, reduceCtorEq, xA, xL, xD, xE, xM, xS, xB, Tryz.f31, bC])
 | ((with_reducible refine hK _ ?_); clear hK K)
 | (with_reducible apply_assumption -exfalso only [*]))
  all_goals first | exact Et (by assumption) | exact EF (by assumption) hc | exact Ey (by omega) (by assumption) hai | skip
theorem zY (n m : Nat) (f g : Nat -> aN) (hn : n <= 9223372036854775807) (hm : m <= 9223372036854775807) (hf : ∀ i, i < n -> (f i).Ok) (hg : ∀ i, i < m -> (g i).Ok) : aA Tryz.prog 23 [.one (.lst 9 n (dL f)), .one (.lst 9 m (dL g))] (.t (.one (.g (.bool (yZ n m f g))))) := by
  refine ak Tryz.func23 rfl (by rw [Tryz.ntmps23]; simp) ?_
  simp only [Tryz.ntmps23, zM, PT.tv, au, Nat.zero_add, Nat.reduceAdd]
  repeat' (first
 | ((with_reducible show AW _ _ _ _); first
 | (with_reducible first | refine aS (fun K hK => ?_) | refine aI ?_ | refine aX ?_ | refine aT ?_ | refine aC ?_ | refine aB ?_)
 | (first
 | (with_reducible first | refine aP 0 [0,1] ?_ | refine aP 1 [0,1] ?_ | refine aP 2 [] ?_ | refine aP 3 [0,1] ?_ | refine aP 4 [0,1,5] ?_ | refine aP 5 [0,1,5] ?_)
 | ((with_reducible refine aR (c := Code.region 6 _ true) [0,1,5] ?_); (with_reducible refine aD ?_ ?_ ?_ ?_); (focus kernel_rfl); (focus kernel_rfl); (focus kernel_rfl))
 | (with_reducible first | refine aP 7 [] ?_ | refine aP 8 [] ?_))
 | ((with_reducible show AW _ (Code.loop _) _ _); first
 | ((with_reducible refine aL (c := (Code.seq (Code.seq (Code.region 4 _ _) _) _)) (ι := Nat) [0,1] (fun i => [(5, iA .i64 (i : Int))]) (fun i => []) (fun i => i <= n /\ (∀ i', i' < i -> uP (f i') (g i') = true)) (fun i => n - i) 0 ?lg4 ?l14 ?l24 ?li4 ?lr4); (case' lg4 => rintro i _); (case' li4 => try (exact ⟨Nat.zero_le _, fun i hi => absurd hi (Nat.not_lt_zero _)⟩)); (case' lr4 => rintro i ⟨hi, hai⟩ KR hR4; simp only [bD, dD, hset, lk, if_true, if_false, xE, reduceIte, zN]))))
 | ((first | (with_reducible refine And.intro ?_ ?_) | (with_reducible refine Need.mk ?_)); focus (first | exact True.intro | omega))
 | (with_reducible refine aJ ?_)
 | ((with_reducible show bL _ _ _ _ _ _); first
 | ((with_reducible refine aM ?_ ?_) <;> (intro hc; (try simp only [zB, zC, reduceCtorEq] at hc); (try (exfalso; contradiction)))))
 | ((with_reducible refine And.intro ?_ ?_); focus ((with_reducible show gV _ _ _ = true); kernel_rfl))
 | ((with_reducible show eT _ _ _ _ _ _ _ _ _ _ _ _ _); first
 | (refine dh (k := 64) Fj (Jb (f i) (g i) (hf i (by omega)) (hg i (by omega))) ?_ ?_))
 | ((with_reducible refine hR4 _ (i + 1) ?_); (try clear hR4 KR))
 | ((with_reducible refine Told.mk ?_); simp only [go_sem, reduceIte, reduceCtorEq, xA, xL, xD, xE, xM, xS, xB] <;> ((((try simp (disch := omega) only [aY, Int.natCast_add, Int.cast_ofNat_Int, and_true, true_and, and_self]); (repeat' (first | omega | (with_reducible refine And.intro ?_ ?_) | (exact all_succ (by assumption) (by assumption)) )); done))))
 | ((fail_if_success (with_reducible show AW _ _ _ _)); simp (maxSteps := 2000000) only [go_sem, reduceIte, reduceCtorEq, xA, xL, xD, xE, xM, xS, xB, Tryz.f23])
 | ((with_reducible refine hK _ ?_); clear hK K)
 | (with_reducible apply_assumption -exfalso only [*]))
  all_goals first | exact ahf (by assumption) | exact ahn (by assumption) hc | exact ael (by omega) (by assumption) hai | skip
theorem aiK (m : rY) : aA Tryz.prog 94 [.agg [.g (.int .i64 m.A), .g (.int .i64 m.B), .g (.int .i64 m.C), .g (.int .i64 m.D), .g (.int .i64 m.E), .g (.int .i64 m.F), .g (.int .i64 m.R)]] (.t (.one (.g (.bool (Ri m))))) := by
  have hdg : True := trivial
  refine ak Tryz.func94 rfl (by rw [Tryz.ntmps94]; simp) ?_
  simp only [Tryz.ntmps94, zM, PT.tv, au, Nat.zero_add, Nat.reduceAdd]
  repeat' (first
 | ((with_reducible show AW _ _ _ _); first
 | (with_reducible first | refine aS (fun K hK => ?_) | refine aI ?_ | refine aX ?_ | refine aT ?_ | refine aC ?_ | refine aB ?_)
 | (first
 | (with_reducible first | refine aP 0 [0] ?_ | refine aP 1 [1] ?_ | refine aP 2 [1,13,14] ?_ | refine aP 3 [1,13,14] ?_ | refine aP 4 [1,4,13,14] ?_ | refine aP 5 [] ?_ | refine aP 6 [1,13,14] ?_ | refine aP 7 [1] ?_))
 | ((with_reducible show AW _ (Code.loop _) _ _); first
 | ((with_reducible refine aL (c := (Code.seq (Code.region 2 _ _) _)) (ι := Nat) [1,13] (fun j => [(14, iA .i64 (j : Int))]) (fun j => []) (fun j => j <= 4 /\ (∀ j', j' < j -> ahC m j')) (fun j => 4 - j) 0 ?lg2 ?l12 ?l22 ?li2 ?lr2); (case' lg2 => rintro j _); (case' li2 => try (exact ⟨Nat.zero_le _, fun i hi => absurd hi (Nat.not_lt_zero _)⟩)); (case' lr2 => rintro j ⟨hj, haj⟩ KR hR2; simp only [bD, dD, hset, lk, if_true, if_false, xE, reduceIte, zN, hdg]))))
 | ((first | (with_reducible refine And.intro ?_ ?_) | (with_reducible refine Need.mk ?_)); focus (first | exact True.intro | omega | (simp; done)))
 | (with_reducible refine aJ ?_)
 | ((with_reducible show bL _ _ _ _ _ _); first
 | ((with_reducible refine aM ?_ ?_) <;> (intro hc; (try simp only [zB, zC, reduceCtorEq] at hc); ((try (clear hdg; have hdg := abL (m := m) (j := j) (by omega)))); (try (exfalso; contradiction)))))
 | ((with_reducible show aW _ _ _ _ _ _ _ _ _ _); first
 | (refine aF (k := 132) Jo (ajF m (MV haj (by omega))) ?_ ?_))
 | ((with_reducible refine hR2 _ (j + 1) ?_); (try clear hR2 KR))
 | ((with_reducible refine Told.mk ?_); simp only [go_sem, reduceIte, reduceCtorEq, xA, xL, xD, xE, xM, xS, xB, hdg] <;> ((((try simp (disch := omega) only [aY, Int.natCast_add, Int.cast_ofNat_Int, and_true, true_and, and_self]); (repeat' (first | omega | (with_reducible refine And.intro ?_ ?_) | (exact all_succ (by assumption) (by assumption)) )); done))))
 | ((fail_if_success (with_reducible show AW _ _ _ _)); simp (maxSteps := 2000000) only [go_sem, reduceIte, reduceCtorEq, xA, xL, xD, xE, xM, xS, xB, Tryz.f94, hdg])
 | ((with_reducible refine hK _ ?_); clear hK K)
 | (with_reducible apply_assumption -exfalso only [*]))
  all_goals (first | (exact akq fun g => by have := g; exact aeP (by omega) hc g) | (have h4 := MV haj (by omega); refine ajj ?_; simp only [Bool.and_eq_true, decide_eq_true_eq]; unfold Md; exact ⟨fun h => by omega, fun h => by omega⟩))
end Go.Proofs.YtcfechepbamhkaaGreat
set_option maxRecDepth 100000
set_option maxHeartbeats 4000000
namespace Go.Proofs.YtcfechepbamhkaaGreat
open Go.RowKit Go.Sea
open Nat renaming reduceAdd -> xA, reduceLT -> xL, reduceLeDiff -> xD, reduceEqDiff -> xE, reduceMul -> xM, reduceSub -> xS, reduceBEq -> xB
theorem aie : boD Tryz.prog 35 = false := by kernel_rfl
theorem ajU : eqD Tryz.prog 35 = some (true, [.int .i64, .int .i64, .int .i64, .int .i64, .int .i64, .int .i64, .int .i64]) := by kernel_rfl
theorem Nz : aK Tryz.prog 65 = true := by kernel_rfl
theorem oJ : aK Tryz.prog 23 = true := by kernel_rfl
theorem MO : aK Tryz.prog 93 = true := by kernel_rfl
theorem Mt : aK Tryz.prog 94 = true := by kernel_rfl
theorem Nv : aK Tryz.prog 56 = true := by kernel_rfl
theorem WR : aK Tryz.prog 114 = true := by kernel_rfl
theorem UL : aK Tryz.prog 115 = true := by kernel_rfl
theorem Te : aK Tryz.prog 116 = true := by kernel_rfl
theorem aa0 : dF Tryz.prog 39 0 = some 0 := by kernel_rfl
theorem Zv : dF Tryz.prog 39 1 = some 1 := by kernel_rfl
theorem abp : dF Tryz.prog 39 2 = some 2 := by kernel_rfl
theorem Z9 : dF Tryz.prog 39 3 = some 3 := by kernel_rfl
theorem ZO : dF Tryz.prog 39 4 = some 10 := by kernel_rfl
theorem Zy : dF Tryz.prog 39 5 = some 11 := by kernel_rfl
theorem acf : dF Tryz.prog 39 6 = some 12 := by kernel_rfl
theorem ah6 : lG Tryz.prog 37 = some (false, 1) := by kernel_rfl
attribute [go_sem] aie ajU Nz oJ MO Mt qL Nv WR UL Te aa0 Zv abp Z9 ZO Zy acf ah6
def lsI (a : Nat -> Int) (i : Nat) : Int := if i = 0 then 0 else a (i - 1)
theorem UM (a : Nat -> Int) (i : Nat) : lsI a (i + 1) = a i := by simp [lsI]
theorem afi {a : Nat -> Int} {i : Nat} (h : lsI a i < a i /\ a i <= 10000) (g : ∀ i', i' < i -> mW a 10001 i') : mW a 10001 i := by
  obtain ⟨h1, h2⟩ := h
  unfold lsI at h1
  by_cases h0 : i = 0
  · rw [if_pos h0] at h1; exact ⟨by omega, by omega, fun h => by omega⟩
  · rw [if_neg h0] at h1
    have := (g (i - 1) (by omega)).1
    exact ⟨by omega, by omega, fun h => by omega⟩
theorem Z4 {q : Nat} {a : Nat -> Int} {i : Nat} (hi : (i : Int) < q) (h : a i <= lsI a i \/ a i > 10000) : yR q a = false := ad9 hi fun g => by
  have g1 := g.1; have g2 := g.2.1
  unfold lsI at h
  by_cases h0 : i = 0
  · rw [if_pos h0] at h; omega
  · rw [if_neg h0] at h; have := g.2.2 (by omega); omega
theorem aiN {s : bE} (h : yR s.q s.dn = false) : false = gK s := by unfold gK; rw [h]; rfl
theorem ajk {s : bE} {b : Bool} (h : b = true ↔ (yR s.q s.dn = true /\ ((1 <= s.ch /\ s.ch <= 1000) /\ (1 <= s.sc /\ s.sc <= 1000) /\ (1 <= s.ed /\ s.ed <= 1000) /\ (1 <= s.cap /\ s.cap <= 100000)) /\ Ri s.m = true /\ nV s.n s.f = true)) : b = gK s := by
  refine Bool.eq_iff_iff.2 (h.trans ?_)
  unfold gK
  simp only [Bool.and_eq_true, decide_eq_true_eq, and_assoc]
theorem ad7 {q : Nat} {a : Nat -> Int} {i : Nat} (hi : (q : Int) <= i) (g : ∀ i', i' < i -> mW a 10001 i') : yR q a = true ↔ (q : Int) <= 200 := by rw [<- agu hi g]; exact decide_eq_true_iff
theorem akO {a b : bE} {c : Bool} (h : c = true ↔ ((a.ch = b.ch /\ a.sc = b.sc /\ a.ed = b.ed /\ (a.m.A = b.m.A /\ a.m.B = b.m.B /\ a.m.C = b.m.C /\ a.m.D = b.m.D /\ a.m.E = b.m.E /\ a.m.F = b.m.F /\ a.m.R = b.m.R) /\ a.cap = b.cap) /\ oC a.q b.q a.dn b.dn = true /\ yZ a.n b.n a.f b.f = true)) : c = seqB a b := by
  refine Bool.eq_iff_iff.2 (h.trans ?_)
  unfold seqB
  simp only [Bool.and_eq_true, decide_eq_true_eq, and_assoc]
theorem kR (s : bE) (ho : s.Ok) : aA Tryz.prog 48 [(qQ s)] (.t (.one (.g (.bool (gK s))))) := by
  have hq := ho.q
  have hn := ho.n
  refine ak Tryz.func48 rfl (by rw [Tryz.ntmps48]; simp) ?_
  simp only [qQ, Tryz.ntmps48, zM, PT.tv, au, Nat.zero_add, Nat.reduceAdd]
  repeat' (first
 | ((with_reducible show AW _ _ _ _); first
 | (with_reducible first | refine aS (fun K hK => ?_) | refine aI ?_ | refine aX ?_ | refine aT ?_ | refine aC ?_ | refine aB ?_)
 | (first
 | (with_reducible first | refine aP 0 [0] ?_ | refine aP 1 [1] ?_ | refine aP 2 [1,3] ?_ | refine aP 3 [1,3,7,8,9] ?_ | refine aP 4 [1,3,7,8,9] ?_ | refine aP 5 [1,3,5,7,8,9] ?_ | refine aP 6 [] ?_ | refine aP 7 [1,5,7,8,9] ?_ | refine aP 8 [1,3,7,8,9] ?_ | refine aP 9 [1] ?_))
 | ((with_reducible show AW _ (Code.loop _) _ _); first
 | ((with_reducible refine aL (c := (Code.seq (Code.region 3 _ _) _)) (ι := Nat) [1,7,8] (fun i => [(3, iA .i64 (lsI s.dn i)), (9, iA .i64 (i : Int))]) (fun i => []) (fun i => i <= s.q /\ (∀ i', i' < i -> mW s.dn 10001 i')) (fun i => s.q - i) 0 ?lg3 ?l13 ?l23 ?li3 ?lr3); (case' lg3 => rintro i _); (case' li3 => try (exact ⟨Nat.zero_le _, fun i hi => absurd hi (Nat.not_lt_zero _)⟩)); (case' lr3 => rintro i ⟨hi, hai⟩ KR hR3; simp only [bD, dD, hset, lk, if_true, if_false, xE, reduceIte, zN, UM]))))
 | ((first | (with_reducible refine And.intro ?_ ?_) | (with_reducible refine Need.mk ?_)); focus (first | omega | (intro _; (with_reducible assumption)) | (simp; done)))
 | (with_reducible refine aJ ?_)
 | ((with_reducible show bL _ _ _ _ _ _); first
 | ((with_reducible refine aM ?_ ?_) <;> (intro hc; (try simp only [zB, zC, reduceCtorEq] at hc); (try (exfalso; contradiction)))))
 | ((with_reducible show bM _ _ _ _ _ _ _ _ _ _); first
 | (refine aO (k := 93) MO (fun hg => SI _ _) ?_ ?_)
 | (refine aO (k := 94) Mt (fun hg => aiK s.m) ?_ ?_)
 | (refine aO (k := 95) qL (fun hg => zR _ _ ho.n ho.f) ?_ ?_))
 | ((with_reducible refine hR3 _ (i + 1) ?_); (try clear hR3 KR))
 | ((with_reducible refine Told.mk ?_); simp only [go_sem, reduceIte, reduceCtorEq, xA, xL, xD, xE, xM, xS, xB, UM, bC] <;> ((((try simp (disch := omega) only [aY, Int.natCast_add, Int.cast_ofNat_Int, and_true, true_and, and_self]); (repeat' (first | omega | rfl | (with_reducible refine And.intro ?_ ?_) | ((exact all_succ (by assumption) (afi hc hai))))); done))))
 | ((fail_if_success (with_reducible show AW _ _ _ _)); simp (maxSteps := 2000000) only [go_sem, reduceIte, reduceCtorEq, xA, xL, xD, xE, xM, xS, xB, Tryz.f48, UM, bC])
 | ((with_reducible refine hK _ ?_); clear hK K)
 | (with_reducible apply_assumption -exfalso only [*]))
  all_goals (first | (exact aiN (Z4 (by assumption) hc)) | (refine ajk ?_; (try rw [ad7 (by assumption) hai]); simp only [Bool.and_eq_true, decide_eq_true_eq, reduceCtorEq, false_iff]; exact ⟨fun h => by (repeat' (with_reducible refine And.intro ?_ ?_)) <;> first | omega | (simp only [h]; done), fun h => by (repeat' (with_reducible refine And.intro ?_ ?_)) <;> first | omega | (simp only [h]; done)⟩))
theorem ZX (a b : bE) (ho : a.Ok) (ho2 : b.Ok) : aA Tryz.prog 24 [(qQ a), (qQ b)] (.t (.one (.g (.bool (seqB a b))))) := by
  refine ak Tryz.func24 rfl (by rw [Tryz.ntmps24]; simp) ?_
  simp only [qQ, Tryz.ntmps24, zM, PT.tv, au, Nat.zero_add, Nat.reduceAdd]
  repeat' (first
 | ((with_reducible show AW _ _ _ _); first
 | (with_reducible first | refine aS (fun K hK => ?_) | refine aT ?_)
 | (first
 | (with_reducible first | refine aP 0 [0,1] ?_ | refine aP 1 [2,3] ?_ | refine aP 2 [2,3,5] ?_ | refine aP 3 [2,3,5,6] ?_)))
 | (((with_reducible refine Need.mk ?_)); focus (exact True.intro))
 | (with_reducible refine aJ ?_)
 | ((with_reducible show aW _ _ _ _ _ _ _ _ _ _); first
 | (refine aF (k := 65) Nz (ZQ _ _ _ _ ho.q ho2.q) ?_ ?_)
 | (refine aF (k := 23) oJ (zY _ _ _ _ ho.n ho2.n ho.f ho2.f) ?_ ?_))
 | ((fail_if_success (with_reducible show AW _ _ _ _)); simp (maxSteps := 2000000) only [go_sem, reduceIte, reduceCtorEq, xA, xL, xD, xE, xM, xS, xB, Tryz.f24, Go.Sea.nk])
 | ((with_reducible refine hK _ ?_); clear hK K))
  all_goals ((refine akO ?_; simp only [Bool.and_eq_true, decide_eq_true_eq, reduceCtorEq, false_iff, beq_iff_eq]; exact ⟨fun h => by simp only [h, and_self], fun h => by simp only [h, and_self]⟩))
end Go.Proofs.YtcfechepbamhkaaGreat
set_option maxRecDepth 100000
set_option maxHeartbeats 4000000
namespace Go.Proofs.YtcfechepbamhkaaGreat
open Go.RowKit Go.Sea
open Nat renaming reduceAdd -> xA, reduceLT -> xL, reduceLeDiff -> xD, reduceEqDiff -> xE, reduceMul -> xM, reduceSub -> xS, reduceBEq -> xB
theorem YH : aK Tryz.prog 126 = true := by kernel_rfl
theorem Sb : aK Tryz.prog 127 = true := by kernel_rfl
attribute [go_sem] YH Sb
theorem zS (c : Nat -> IV) : ∀ n k, (gX c n k).length = n
  | 0, _ => rfl
  | n + 1, k => by simp [gX, zS c n (k + 1)]
theorem ND (c : Nat -> IV) : ∀ n k o, o < n -> (gX c n k)[o]? = some (.iv (c (k + o)))
  | n + 1, k, 0, _ => by simp [gX]
  | n + 1, k, o + 1, h => by
    simp only [gX, List.getElem?_cons_succ]
    rw [ND c n (k + 1) o (by omega), show k + 1 + o = k + (o + 1) by omega]
theorem oQ (f : Nat -> Nat -> IV) (E : Nat) : ∀ n k i o, i < n -> o < E -> (dZ f E n k)[i * E + o]? = some (.iv (f (k + i) o))
  | n + 1, k, 0, o, _, ho => by
    simp only [dZ, Nat.zero_mul, Nat.zero_add]
    rw [List.getElem?_append_left (by rw [zS]; exact ho), ND _ _ _ _ ho, Nat.zero_add]; rfl
  | n + 1, k, i + 1, o, h, ho => by
    simp only [dZ]
    rw [show (i + 1) * E + o = E + (i * E + o) by rw [Nat.add_mul]; omega, List.getElem?_append_right (by rw [zS]; omega), zS, Nat.add_sub_cancel_left, oQ f E n (k + 1) i o (by omega) ho, show k + 1 + i = k + (i + 1) by omega]
theorem X5 (c : Nat -> IV) : ∀ n k x, x ∈ gX c n k -> jM x
  | 0, _, x, h => by simp [gX] at h
  | n + 1, k, x, h => by
    simp only [gX, List.mem_cons] at h
    rcases h with rfl | h
    · trivial
    · exact X5 c n (k + 1) x h
theorem ED (f : Nat -> Nat -> IV) (E : Nat) : ∀ n k x, x ∈ dZ f E n k -> jM x
  | 0, _, x, h => by simp [dZ] at h
  | n + 1, k, x, h => by
    simp only [dZ, List.mem_append] at h
    rcases h with h | h
    · exact X5 _ _ _ x h
    · exact ED f E n (k + 1) x h
end Go.Proofs.YtcfechepbamhkaaGreat
set_option maxRecDepth 100000
set_option maxHeartbeats 4000000
namespace Go.Proofs.YtcfechepbamhkaaGreat
open Go.RowKit Go.Sea
open Nat renaming reduceAdd -> xA, reduceLT -> xL, reduceLeDiff -> xD, reduceEqDiff -> xE, reduceMul -> xM, reduceSub -> xS, reduceBEq -> xB
theorem TT : aK Tryz.prog 117 = true := by kernel_rfl
theorem Uh : aK Tryz.prog 118 = true := by kernel_rfl
attribute [go_sem] Ip TT Uh
end Go.Proofs.YtcfechepbamhkaaGreat
namespace Go.Proofs
open Go.Shelf
def Tryz.Dt : Go.Shelf.Ren := ⟨fun | 21 => 101 | 27 => 139 | 28 => 140 | 35 => 173 | 39 => 206 | n => n, fun | 22 => 36 | 3 => 3 | 4 => 4 | 0 => 0 | n => n, fun | n => n⟩
theorem Tryz.nK : Go.Proofs.Lays2.n21 Tryz.prog Tryz.Dt := {
  mixed := by kernel_rfl
  f21 := Tryz.func101.trans (congrArg some (by kernel_rfl))
  f27 := Tryz.func139.trans (congrArg some (by kernel_rfl))
  f28 := Tryz.func140.trans (congrArg some (by kernel_rfl))
  f35 := Tryz.func173.trans (congrArg some (by kernel_rfl))
  f39 := Tryz.func206.trans (congrArg some (by kernel_rfl))
  t0 := Tryz.underlying0
  a0 := Tryz.isAgg0
  z0 := Tryz.sizeOf0
  v0 := Tryz.zeroValue0
  t3 := Tryz.underlying3
  a3 := Tryz.isAgg3
  z3 := Tryz.sizeOf3
  v3 := Tryz.zeroValue3
  t4 := Tryz.underlying4
  a4 := Tryz.isAgg4
  z4 := Tryz.sizeOf4
  v4 := Tryz.zeroValue4
  t22 := Tryz.underlying36
  a22 := Tryz.isAgg36
  z22 := Tryz.sizeOf36
  v22 := Tryz.zeroValue36
  i3 := by kernel_rfl }
end Go.Proofs
