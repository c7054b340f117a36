/- Part 9 of 17: contracts of functions and plain laws for the root text. No condition. -/
import Derived.Test.YtcfechepbamhkaaGreatX01
import Derived.Test.YtcfechepbamhkaaGreatX02
import Derived.Test.YtcfechepbamhkaaGreatX03
import Derived.Test.YtcfechepbamhkaaGreatX04
import Derived.Test.YtcfechepbamhkaaGreatX05
import Derived.Test.YtcfechepbamhkaaGreatX06
import Derived.Test.YtcfechepbamhkaaGreatX07
import Derived.Test.YtcfechepbamhkaaGreatX08
import Derived.Ground.Names2Prog
import Derived.Shelf.Spec.SlicesInsert
import Derived.Shelf.Spec.SlicesInsertGrow
import Derived.Test.YtcfechepbamhkaaGreatProg
set_option linter.unusedVariables false
set_option linter.unusedSimpArgs false
namespace Go.Proofs.YtcfechepbamhkaaGreat
open Go.RowKit Go.Sea
def jM (b : Nat -> Bool) : Nat -> Nat
  | 0 => 0
  | k + 1 => if jM b k < k then jM b k else if b k = true then k else k + 1
theorem rz (b : Nat -> Bool) : ∀ k, jM b k <= k
  | 0 => Nat.le_refl _
  | k + 1 => by
    have := rz b k
    simp only [jM]; repeat' split
    all_goals omega
theorem o8 {b : Nat -> Bool} : ∀ k, (∀ j, j < k -> b j = false) -> jM b k = k
  | 0, _ => rfl
  | k + 1, h => by
    have h1 := o8 k fun j hj => h j (by omega)
    have h2 := h k (by omega)
    simp only [jM]
    rw [if_neg (by omega), if_neg (by rw [h2]; simp)]
theorem jY {b : Nat -> Bool} {i : Nat} (h : b i = true) (g : ∀ j, j < i -> b j = false) : ∀ k, i < k -> jM b k = i
  | 0, hk => by omega
  | k + 1, hk => by
    simp only [jM]
    by_cases hi : i < k
    · have h1 := jY h g k hi
      rw [h1, if_pos hi]
    · have e : i = k := by omega
      subst e
      rw [o8 i g, if_neg (by omega), if_pos h]
def La (f : aW) : PT := .agg [.g (.int .i64 f.id), .g (.int .i64 f.kd), .g (.int .i64 f.x), .g (.int .i64 f.y), .g (.int .i64 f.r), .lst 2 f.n (eX f.P), .g (.int .i64 f.d), .g (.int .i64 f.s), .lst 6 f.m (eX f.S)]
def fP (L : List aW) (k : Int) : Option PT := (idx L k).map La
theorem fV : fP [] = fun _ => none := rfl
theorem OL {L : List aW} (h : vP L) (f : aW) : jI (fP L) f.id (La f) = fP (nH L f) := by
  funext k
  unfold jI fP
  rw [PS h]
  by_cases hk : k = f.id
  · rw [if_pos hk, if_pos hk]; rfl
  · rw [if_neg hk, if_neg hk]
theorem aa2 {L : List aW} (h : vP L) (c : Int) : uq (fP L) c = fP (oZ L c) := by
  funext k
  unfold uq fP
  rw [zZ h]
  by_cases hk : k = c
  · rw [if_pos hk, if_pos hk]; rfl
  · rw [if_neg hk, if_neg hk]
theorem ac8 {L : List aW} (h : vP L) {f : aW} {k : Int} (hk : f.id = k) : jI (fP L) k (La f) = fP (nH (oZ L k) f) := by
  subst hk
  funext j
  unfold jI fP
  rw [PS (Au h _), zZ h]
  by_cases hj : j = f.id
  · rw [if_pos hj, if_pos hj]; rfl
  · rw [if_neg hj, if_neg hj, if_neg hj]
theorem agx {L : List aW} {f : aW} (hf : idx L f.id = none) : lC L.length (fP L) f.id = (nH L f).length := by
  unfold lC fP
  rw [hf, Aa hf]; rfl
theorem al7 {L : List aW} (h : vP L) {k : Int} {f : aW} (hf : idx L k = some f) : zn L.length (fP L) k = (oZ L k).length := by
  have := Ig h hf
  unfold zn fP
  rw [hf]
  show L.length - 1 = _
  omega
theorem anj {L : List aW} (h : vP L) {k : Int} {f g : aW} (hf : idx L k = some f) (hk : g.id = k) : lC L.length (fP L) k = (nH (oZ L k) g).length := by
  have h1 := Ig h hf
  have h2 : idx (oZ L k) g.id = none := by rw [zZ h, if_pos hk]
  rw [Aa h2]
  unfold lC fP
  rw [hf]
  show L.length = _
  omega
theorem aaH {L : List aW} {f : aW} (h : ∀ g, g ∈ L -> g.id < f.id) : nH L f = L ++ [f] := by
  unfold nH
  rw [List.filter_eq_self.2 fun g hg => by simpa using h g hg, List.filter_eq_nil_iff.2 fun g hg => by have := h g hg; simp; omega]
def LF (f : Nat -> aW) (k : Nat) : List aW := (List.range k).map f
theorem rO (f : Nat -> aW) : LF f 0 = [] := rfl
theorem amm (f : Nat -> aW) (k : Nat) : LF f (k + 1) = LF f k ++ [f k] := by unfold LF; rw [List.range_succ, List.map_append]; rfl
theorem iG (f : Nat -> aW) (k : Nat) : (LF f k).length = k := by simp [LF]
theorem HZ {f : Nat -> aW} {k : Nat} {g : aW} : g ∈ LF f k ↔ ∃ i, i < k /\ f i = g := by simp [LF]
def rises (f : Nat -> aW) (n : Nat) : Prop := ∀ i, 0 < i -> i < n -> (f (i - 1)).id < (f i).id
theorem uI {f : Nat -> aW} {n : Nat} (h : rises f n) {i : Nat} : ∀ j, i < j -> j < n -> (f i).id < (f j).id
  | 0, hij, _ => absurd hij (Nat.not_lt_zero _)
  | j + 1, hij, hj => by
    have h1 := h (j + 1) (by omega) hj
    rw [Nat.add_sub_cancel] at h1
    by_cases e : i = j
    · subst e; exact h1
    · have h2 : (f i).id < (f j).id := uI h j (by omega) (by omega)
      omega
theorem Na {f : Nat -> aW} {n : Nat} (h : rises f n) : ∀ k, k <= n -> vP (LF f k)
  | 0, _ => List.Pairwise.nil
  | k + 1, hk => by
    unfold vP
    rw [amm, List.pairwise_append]
    refine ⟨Na h k (by omega), List.pairwise_singleton _ _, fun a ha b hb => ?_⟩
    obtain ⟨i, hi, rfl⟩ := HZ.1 ha
    obtain rfl := List.mem_singleton.1 hb
    exact uI h k hi (by omega)
theorem Xj {f : Nat -> aW} {n k : Nat} (h : rises f n) (hk : k < n) : nH (LF f k) (f k) = LF f (k + 1) := by
  rw [amm]
  refine aaH fun g hg => ?_
  obtain ⟨i, hi, rfl⟩ := HZ.1 hg
  exact uI h k hi hk
theorem agR {f : Nat -> aW} {n k : Nat} (h : rises f n) (hk : k < n) : idx (LF f k) (f k).id = none := by
  rw [qJ]
  intro g hg
  obtain ⟨i, hi, rfl⟩ := HZ.1 hg
  have := uI h k hi hk
  omega
theorem Fp {n : Nat} {f : Nat -> aW} (h : oz n f = true) : rises f n := fun i h0 hi => ((of_decide_eq_true h).2 i hi).2 h0
theorem agX {f : aW} {o : fG} (hf : jw f = true) (ho : yY o = true) (h1 : o.kd ≠ 1) (h2 : o.kd ≠ 2) (he : mD f o = 0) : jw (mR f o) = true := by
  have g := (jQ f).1 hf
  have p := (kV o).1 ho
  unfold mD at he
  have hn : ¬ ((o.kd = 3 /\ ((f.kd = 3 \/ f.kd = 6) \/ f.kd = 4 /\ o.r ≠ 0)) \/ (o.kd = 4 /\ (f.kd = 4 \/ f.kd = 6))) := fun h => by rw [if_pos h] at he; omega
  obtain ⟨g1, g2, g3, g4, g5⟩ := g
  obtain ⟨p1, p2⟩ := p
  have p3 := p2.resolve_left (fun h => h1 h.1)
  rcases p3.2 with q | q | q | q
  · omega
  · have e : mR f o = { f with x := o.x, y := o.y, r := o.r } := by unfold mR; rw [if_pos q.1]
    rw [e, jQ]
    refine ⟨g1, g2, g3, q.2.1, ?_⟩
    rcases g5 with k | k | k
    · exact Or.inl ⟨k.1, q.2.2.1, q.2.2.2.1, k.2.2.2.1, k.2.2.2.2⟩
    · exact absurd (Or.inl ⟨q.1, Or.inl k.1⟩) hn
    · refine Or.inr (Or.inr ⟨k.1, q.2.2.1, k.2.2.1, ?_, k.2.2.2.2.1, k.2.2.2.2.2⟩)
      exact Classical.byContradiction fun hr => hn (Or.inl ⟨q.1, Or.inr ⟨k.1, hr⟩⟩)
  · have e : mR f o = { f with d := o.d } := by unfold mR; rw [if_neg (by omega), if_pos q.1]
    rw [e, jQ]
    refine ⟨g1, g2, q.2.1, g4, ?_⟩
    rcases g5 with k | k | k
    · exact Or.inl k
    · refine Or.inr (Or.inl ⟨k.1, fun h6 => absurd (Or.inr ⟨q.1, Or.inr h6⟩) hn, k.2.2⟩)
    · exact absurd (Or.inr ⟨q.1, Or.inl k.1⟩) hn
  · have e : mR f o = { f with s := o.s } := by unfold mR; rw [if_neg (by omega), if_neg (by omega), if_pos q.1]
    rw [e, jQ]
    exact ⟨g1, q.2.1, g3, g4, g5⟩
def MO (L : List aW) : Prop := ∀ f, f ∈ L -> jw f = true
theorem JM {L : List aW} (h : MO L) (k : Int) : MO (oZ L k) := fun f hf => h f (Ab.1 hf).1
theorem I9 {L : List aW} (h : MO L) {f : aW} (hf : jw f = true) : MO (nH L f) := fun g hg => by
  rcases Af.1 hg with e | e
  · rw [e]; exact hf
  · exact h g e.1
theorem ag0 {L : List aW} (h : MO L) {o : fG} (ho : yY o = true) : MO (ow L o).2 := by
  unfold ow
  by_cases h1 : o.kd = 1
  · rw [if_pos h1]
    have hf : jw o.f = true := by
      have p := ((kV o).1 ho).2
      rcases p with p | p
      · exact p.2.2.1
      · omega
    cases hi : idx L o.id with
    | some f => exact h
    | none =>
      simp only
      split
      · exact h
      · exact I9 h hf
  · rw [if_neg h1]
    cases hi : idx L o.id with
    | none => exact h
    | some f =>
      simp only
      by_cases h2 : o.kd = 2
      · rw [if_pos h2]; exact JM h _
      · rw [if_neg h2]
        by_cases he : mD f o = 0
        · rw [if_pos he]; exact I9 (JM h _) (agX (h f (kI hi).1) ho h1 h2 he)
        · rw [if_neg he]; exact h
theorem adQ {L : List aW} (hs : vP L) (h : L.length <= 300) {o : fG} (ho : yY o = true) : (ow L o).2.length <= 300 := by
  unfold ow
  by_cases h1 : o.kd = 1
  · rw [if_pos h1]
    have hid : o.f.id = o.id := by
      have p := ((kV o).1 ho).2
      rcases p with p | p
      · exact p.2.1
      · omega
    cases hi : idx L o.id with
    | some f => exact h
    | none =>
      simp only
      by_cases h3 : 300 <= L.length
      · rw [if_pos h3]; exact h
      · rw [if_neg h3]
        show (nH L o.f).length <= 300
        rw [Aa (by rw [hid]; exact hi)]; omega
  · rw [if_neg h1]
    cases hi : idx L o.id with
    | none => exact h
    | some f =>
      have hc := Ig hs hi
      simp only
      by_cases h2 : o.kd = 2
      · rw [if_pos h2]; show (oZ L o.id).length <= 300; omega
      · rw [if_neg h2]
        by_cases he : mD f o = 0
        · rw [if_pos he]
          show (nH (oZ L o.id) (mR f o)).length <= 300
          rw [Aa (by rw [zZ hs, Ox, (kI hi).2, if_pos rfl])]; omega
        · rw [if_neg he]; exact h
structure Good (L : List aW) : Prop where
  a : vP L
  f : MO L
  n : L.length <= 300
theorem acV {L : List aW} (h : Good L) {o : fG} (ho : yY o = true) : Good (ow L o).2 := ⟨afk h.a o, ag0 h.f ho, adQ h.a h.n ho⟩
theorem WO {L : List aW} {k : Int} {f : aW} (h : idx L k = some f) : fP L k = some (.agg [.g (.int .i64 (f.id)), .g (.int .i64 (f.kd)), .g (.int .i64 (f.x)), .g (.int .i64 (f.y)), .g (.int .i64 (f.r)), .lst 2 f.n (eX f.P), .g (.int .i64 (f.d)), .g (.int .i64 (f.s)), .lst 6 f.m (eX f.S)]) := by unfold fP; rw [h]; rfl
theorem ag6 {L : List aW} {k : Int} (h : idx L k = none) : fP L k = none := by unfold fP; rw [h]; rfl
theorem O6 {f : Nat -> aW} {n k : Nat} (h : rises f n) (hk : k < n) : jI (fP (LF f k)) (f k).id (.agg [.g (.int .i64 ((f k).id)), .g (.int .i64 ((f k).kd)), .g (.int .i64 ((f k).x)), .g (.int .i64 ((f k).y)), .g (.int .i64 ((f k).r)), .lst 2 (f k).n (eX (f k).P), .g (.int .i64 ((f k).d)), .g (.int .i64 ((f k).s)), .lst 6 (f k).m (eX (f k).S)]) = fP (LF f (k + 1)) /\ lC k (fP (LF f k)) (f k).id = k + 1 := by
  have h1 := OL (Na h k (by omega)) (f k)
  rw [Xj h hk] at h1
  have h2 := agx (agR h hk)
  rw [Xj h hk, iG, iG] at h2
  exact ⟨h1, h2⟩
def jL (L : List aW) (o : Nat -> fG) : Nat -> List aW
  | 0 => L
  | i + 1 => (ow (jL L o i) (o i)).2
theorem jk (L : List aW) (o : Nat -> fG) : jL L o 0 = L := rfl
theorem oI (o : Option PT) : Vf o o := by cases o <;> first | trivial | exact PT.bn _
theorem amt {o : fG} (h : yY o = true) : o.kd = 1 \/ o.kd = 2 \/ o.kd = 3 \/ o.kd = 4 \/ o.kd = 5 := by
  rcases ((kV o).1 h).2 with p | ⟨_, p | p | p | p⟩ <;> omega
theorem aiZ {o : fG} (h : yY o = true) (hk : o.kd = 1) : o.f.id = o.id := by
  rcases ((kV o).1 h).2 with p | ⟨_, p | p | p | p⟩
  · exact p.2.1
  all_goals omega
theorem NG {L : List aW} (h : Good L) {o : fG} (ho : yY o = true) (hk : o.kd = 1) (hq : idx L o.id = none) (hn : (L.length : Int) < 300) : (ow L o).1 = 0 /\ lC L.length (fP L) o.id = (ow L o).2.length /\ jI (fP L) o.id (.agg [.g (.int .i64 (o.f.id)), .g (.int .i64 (o.f.kd)), .g (.int .i64 (o.f.x)), .g (.int .i64 (o.f.y)), .g (.int .i64 (o.f.r)), .lst 2 o.f.n (eX o.f.P), .g (.int .i64 (o.f.d)), .g (.int .i64 (o.f.s)), .lst 6 o.f.m (eX o.f.S)]) = fP (ow L o).2 := by
  have hi := aiZ ho hk
  have e : ow L o = (0, nH L o.f) := by unfold ow; rw [if_pos hk, hq]; simp only; rw [if_neg (by omega)]
  rw [e]
  have h1 := agx (L := L) (f := o.f) (by rw [hi]; exact hq)
  have h2 := OL h.a o.f
  rw [hi] at h1 h2
  exact ⟨rfl, h1, h2⟩
theorem M5 {L : List aW} (h : Good L) {o : fG} (hk : o.kd = 2) {g : aW} (hq : idx L o.id = some g) : (ow L o).1 = 0 /\ zn L.length (fP L) o.id = (ow L o).2.length /\ uq (fP L) o.id = fP (ow L o).2 := by
  have e : ow L o = (0, oZ L o.id) := by unfold ow; rw [if_neg (by omega), hq]; simp only; rw [if_pos hk]
  rw [e]; exact ⟨rfl, al7 h.a hq, aa2 h.a _⟩
theorem LD {L : List aW} (h : Good L) {o : fG} (hk : o.kd ≠ 1 /\ o.kd ≠ 2) {g : aW} (hq : idx L o.id = some g) (he : mD g o = 0) : (ow L o).1 = 0 /\ lC L.length (fP L) o.id = (ow L o).2.length /\ jI (fP L) o.id (.agg [.g (.int .i64 ((gu g o).id)), .g (.int .i64 ((gu g o).kd)), .g (.int .i64 ((gu g o).x)), .g (.int .i64 ((gu g o).y)), .g (.int .i64 ((gu g o).r)), .lst 2 (gu g o).n (eX (gu g o).P), .g (.int .i64 ((gu g o).d)), .g (.int .i64 ((gu g o).s)), .lst 6 (gu g o).m (eX (gu g o).S)]) = fP (ow L o).2 := by
  have ex : gu g o = mR g o := by unfold gu; rw [if_neg (by omega)]
  have hi : (mR g o).id = o.id := by rw [Ox]; exact (kI hq).2
  have e : ow L o = (0, nH (oZ L o.id) (mR g o)) := by unfold ow; rw [if_neg hk.1, hq]; simp only; rw [if_neg hk.2, if_pos he]
  rw [e, ex]
  exact ⟨rfl, anj h.a hq hi, ac8 h.a hi⟩
theorem amL {L : List aW} {o : fG} (hk : o.kd = 1) {g : aW} (hq : idx L o.id = some g) : (ow L o).1 = 5 := by unfold ow; rw [if_pos hk, hq]
theorem alK {L : List aW} {o : fG} (hk : o.kd = 1) (hq : idx L o.id = none) (hn : (L.length : Int) >= 300) : (ow L o).1 = 2 := by unfold ow; rw [if_pos hk, hq]; simp only; rw [if_pos (by omega)]
theorem anQ {L : List aW} {o : fG} (hk : o.kd ≠ 1) (hq : idx L o.id = none) : (ow L o).1 = 4 := by unfold ow; rw [if_neg hk, hq]
theorem als {L : List aW} {o : fG} (hk : o.kd ≠ 1 /\ o.kd ≠ 2) {g : aW} (hq : idx L o.id = some g) (he : mD g o ≠ 0) : (ow L o).1 = mD g o := by unfold ow; rw [if_neg hk.1, hq]; simp only; rw [if_neg hk.2, if_neg he]
theorem FQ {n : Nat} {f : Nat -> aW} (h : oz n f = true) : Good (LF f n) := by
  have h1 := of_decide_eq_true h
  refine ⟨Na (Fp h) n (Nat.le_refl _), fun g hg => ?_, by rw [iG]; exact h1.1⟩
  obtain ⟨i, hi, rfl⟩ := HZ.1 hg
  exact (h1.2 i hi).1
theorem kT {L : List aW} (h : Good L) {o : Nat -> fG} {k : Nat} (ho : ∀ i, i < k -> yY (o i) = true) : ∀ i, i <= k -> Good (jL L o i)
  | 0, _ => h
  | i + 1, hi => acV (kT h ho i (by omega)) (ho i (by omega))
theorem F8 {f : aW} (h : jw f = true) : f.Ok := by
  have g := ((jQ f).1 h).2.2.2.2
  rcases g with k | k | k
  · exact ⟨by omega, by omega⟩
  · have := (of_decide_eq_true k.2.2.1).1
    exact ⟨by omega, by omega⟩
  · have := (of_decide_eq_true k.2.2.1).1
    exact ⟨by omega, by omega⟩
theorem aoe {k : Int} (h : k = 1) : (((1 : Int) = k) = True) /\ True := ⟨by simp [h], trivial⟩
theorem aor {k : Int} (h : k = 2) : (((1 : Int) = k) = False) /\ (((2 : Int) = k) = True) := ⟨by simp [h], by simp [h]⟩
theorem aou {k : Int} (h : k = 3) : (((1 : Int) = k) = False) /\ (((2 : Int) = k) = False) /\ (((3 : Int) = k) = True) := ⟨by simp [h], by simp [h], by simp [h]⟩
theorem aoY {k : Int} (h : k = 4) : (((1 : Int) = k) = False) /\ (((2 : Int) = k) = False) /\ (((3 : Int) = k) = False) /\ (((4 : Int) = k) = True) := ⟨by simp [h], by simp [h], by simp [h], by simp [h]⟩
theorem aoF {k : Int} (h : k = 5) : (((1 : Int) = k) = False) /\ (((2 : Int) = k) = False) /\ (((3 : Int) = k) = False) /\ (((4 : Int) = k) = False) /\ (((5 : Int) = k) = True) := ⟨by simp [h], by simp [h], by simp [h], by simp [h], by simp [h]⟩
theorem Ak {ok : Nat -> Prop} : ∀ (m : Nat) (l : List CV), m <= l.length -> wkC ok l (List.replicate m .any)
  | 0, _, _ => by simp [wkC]
  | m + 1, [], h => by simp at h
  | m + 1, c :: l, h => ⟨Or.inl rfl, Ak m l (by simpa using h)⟩
def anX (L : List aW) (o : Nat -> fG) (k : Nat) : Nat := jM (fun j => decide ((ow (jL L o j) (o j)).1 ≠ 0)) k
def P7 (n : Nat) (f : Nat -> aW) (k : Nat) (o : Nat -> fG) : Bool := oz n f && Ew k o
def apJ (n : Nat) (f : Nat -> aW) (k : Nat) (o : Nat -> fG) : Nat := anX (LF f n) o k
def yU (n : Nat) (f : Nat -> aW) (k : Nat) (o : Nat -> fG) : Int := if P7 n f k o = true then (if apJ n f k o < k then (ow (jL (LF f n) o (apJ n f k o)) (o (apJ n f k o))).1 else 0) else 1
def apI (n : Nat) (f : Nat -> aW) (k : Nat) (o : Nat -> fG) : Int := if P7 n f k o = true then (if apJ n f k o < k then (apJ n f k o : Int) else -1) else -1
def EA (n : Nat) (f : Nat -> aW) (k : Nat) (o : Nat -> fG) : Nat := if P7 n f k o = true then (if apJ n f k o < k then 0 else (jL (LF f n) o k).length) else 0
def Zd (n : Nat) (f : Nat -> aW) (k : Nat) (o : Nat -> fG) (i : Nat) : aW := (jL (LF f n) o k).getD i eG
theorem GY {n : Nat} {f : Nat -> aW} {k : Nat} {o : Nat -> fG} (hv : oz n f = true) (hw : Ew k o = true) {i : Nat} (hi : (i : Int) < k) (hai : ∀ j, j < i -> (ow (jL (LF f n) o j) (o j)).1 = 0) {e : Int} (he : (ow (jL (LF f n) o i) (o i)).1 = e) (h0 : e ≠ 0) : EA n f k o = 0 /\ (i : Int) = apI n f k o /\ e = yU n f k o := by
  have hj : apJ n f k o = i := jY (b := fun j => decide ((ow (jL (LF f n) o j) (o j)).1 ≠ 0)) (decide_eq_true (by rw [he]; exact h0)) (fun j hj => decide_eq_false (by rw [hai j hj]; simp)) k (by omega)
  have hV : P7 n f k o = true := by unfold P7; rw [hv, hw]; rfl
  have hlt : i < k := by omega
  unfold EA apI yU
  rw [if_pos hV, if_pos hV, if_pos hV, hj, if_pos hlt, if_pos hlt, if_pos hlt, he]
  exact ⟨rfl, rfl, rfl⟩
theorem al1 {n : Nat} {f : Nat -> aW} {k : Nat} {o : Nat -> fG} (hv : oz n f = true) (hw : Ew k o = true) {i : Nat} (hi : (k : Int) <= i) (hai : ∀ j, j < i -> (ow (jL (LF f n) o j) (o j)).1 = 0) : (jL (LF f n) o k).length = EA n f k o /\ (-1) = apI n f k o /\ 0 = yU n f k o := by
  have hj : apJ n f k o = k := o8 k fun j hj => decide_eq_false (by rw [hai j (by omega)]; simp)
  have hV : P7 n f k o = true := by unfold P7; rw [hv, hw]; rfl
  unfold EA apI yU
  rw [if_pos hV, if_pos hV, if_pos hV, hj, if_neg (Nat.lt_irrefl k), if_neg (Nat.lt_irrefl k), if_neg (Nat.lt_irrefl k)]
  exact ⟨rfl, rfl, rfl⟩
theorem Zl {n : Nat} {f : Nat -> aW} {k : Nat} {o : Nat -> fG} (h : P7 n f k o = false) : EA n f k o = 0 /\ -1 = apI n f k o /\ 1 = yU n f k o := by
  unfold EA apI yU
  rw [if_neg (by simp [h]), if_neg (by simp [h]), if_neg (by simp [h])]
  exact ⟨rfl, rfl, rfl⟩
def ddE : List Nat -> List (Nat × AV) -> List (Nat × AV)
  | _, [] => []
  | s, (k, v) :: r => if s.contains k = true then ddE s r else (k, v) :: ddE (k :: s) r
theorem Nj : ∀ (e : List (Nat × AV)) (s : List Nat) (t : Nat), s.contains t = false -> lk (ddE s e) t = lk e t
  | [], _, _, _ => rfl
  | (k, v) :: r, s, t, h => by
    unfold ddE
    by_cases h1 : s.contains k = true
    · rw [if_pos h1, Nj r s t h]
      have : t ≠ k := fun e => by rw [e, h1] at h; cases h
      simp only [lk]; rw [if_neg this]
    · rw [if_neg h1]
      simp only [lk]
      by_cases h2 : t = k
      · rw [if_pos h2, if_pos h2]
      · rw [if_neg h2, if_neg h2]
        refine Nj r (k :: s) t ?_
        rw [List.contains_cons, h]
        simp [h2]
def ddG : List (Nat × List (Nat × AV)) -> List (Nat × List (Nat × AV))
  | [] => []
  | (f, e) :: r => (f, ddE [] e) :: ddG r
theorem UH : ∀ (g : List (Nat × List (Nat × AV))) (f t : Nat), gk (ddG g) f t = gk g f t
  | [], _, _ => rfl
  | (k, e) :: r, f, t => by
    show lk (if f = k then ddE [] e else gf (ddG r) f) t = lk (if f = k then e else gf r f) t
    by_cases h : f = k
    · rw [if_pos h, if_pos h]; exact Nj e [] t rfl
    · rw [if_neg h, if_neg h]; exact UH r f t
theorem af2 {P : Program} {E : List (Nat × AV)} {H : List (Option (List CV))} {N : Nat} {g : List (Nat × List (Nat × AV))} {l : LP} {Q : Exit -> AS -> Prop} {c : Code} (h : AW P c ⟨E, H, N, ddG g, l⟩ Q) : AW P c ⟨E, H, N, g, l⟩ Q := fun w0 Z0 a w n ⟨J, Z, R⟩ =>
  h w0 Z0 a w n ⟨J, Z, R.nodef, R.size, R.below, R.zfrom, R.zlt, R.jlt, R.inj, R.hole, R.blk, R.slots, fun f t => by
    show bB _ _ _ _ (gk (ddG g) f t); rw [UH]; exact R.ghost f t, R.loops, R.lnd, R.ro⟩
theorem uL : ∀ {m ks : List Int}, ks.Nodup -> (∀ x, x ∈ ks -> x ∈ m) -> ks.length <= m.length
  | [], ks, _, h => by
    cases ks with
    | nil => simp
    | cons a l => exact absurd (h a (List.mem_cons_self ..)) List.not_mem_nil
  | a :: m, ks, hn, h => by
    have h1 : (ks.erase a).length <= m.length := uL (hn.erase a) fun x hx => by
      rcases List.mem_cons.1 (h x (List.mem_of_mem_erase hx)) with e | e
      · exact absurd e ((List.Nodup.mem_erase_iff hn).1 hx).1
      · exact e
    rw [List.length_erase] at h1
    split at h1 <;> simp only [List.length_cons] <;> omega
theorem aei {L : List aW} {x : Int} (h : fP L x ≠ none) : x ∈ L.map (·.id) := by
  unfold fP at h
  cases hi : idx L x with
  | none => rw [hi] at h; exact absurd rfl h
  | some g => exact List.mem_map.2 ⟨g, kI hi⟩
theorem ady {L : List aW} (h : vP L) {x : Int} (hx : x ∈ L.map (·.id)) : (fP L x).isSome = true := by
  obtain ⟨g, h1, h2⟩ := List.mem_map.1 hx
  unfold fP; rw [<- h2, qO h h1]; rfl
theorem Ia {L : List aW} {ks : List Int} (hn : ks.Nodup) (hk : ∀ x, x ∈ ks -> fP L x ≠ none) : ks.length <= L.length := by
  have := uL (m := L.map (·.id)) hn fun x hx => aei (hk x hx)
  simpa using this
theorem keys_eq {L : List aW} (h : vP L) {ks : List Int} (hn : ks.Nodup) (hk : ∀ x, x ∈ ks -> fP L x ≠ none) (ha : ∀ x, (fP L x).isSome = true -> x ∈ ks) : ks.length = L.length := by
  have h1 := Ia hn hk
  have h2 : (L.map (·.id)).length <= ks.length := uL ((N9 h).imp fun h => by omega) fun x hx => ha x (ady h hx)
  rw [List.length_map] at h2
  omega
theorem Qj {L : List aW} {ks : List Int} (hn : ks.Nodup) (hk : ∀ x, x ∈ ks -> fP L x ≠ none) {kk : Int} {yy : PT} (hy : fP L kk = some yy) (hnn : ¬ kk ∈ ks) : (kk :: ks).Nodup /\ (∀ x, x ∈ kk :: ks -> fP L x ≠ none) /\ ks.length + 1 <= L.length := by
  have h1 : (kk :: ks).Nodup := List.nodup_cons.2 ⟨hnn, hn⟩
  have h2 : ∀ x, x ∈ kk :: ks -> fP L x ≠ none := fun x hx => by
    rcases List.mem_cons.1 hx with e | e
    · rw [e, hy]; simp
    · exact hk x e
  exact ⟨h1, h2, Ia h1 h2⟩
theorem RF {L : List aW} (h : vP L) {ks : List Int} (hn : ks.Nodup) (hk : ∀ x, x ∈ ks -> fP L x ≠ none) (ha : ∀ x, (fP L x).isSome = true -> x ∈ ks) : ks.reverse.mergeSort (fun x y => decide (x <= y)) = L.map (·.id) := by
  have hp := List.mergeSort_perm ks.reverse (fun x y => decide (x <= y))
  have h1 : (ks.reverse.mergeSort (fun x y => decide (x <= y))).Nodup := hp.symm.nodup ((List.reverse_perm ks).symm.nodup hn)
  have h2 : (ks.reverse.mergeSort (fun x y => decide (x <= y))).Pairwise (fun a b => decide (a <= b) = true) := List.pairwise_mergeSort (by intro a b c; simp only [decide_eq_true_eq]; omega) (by intro a b; simp only [Bool.or_eq_true, decide_eq_true_eq]; omega) _
  have hm : ∀ x, x ∈ ks.reverse.mergeSort (fun x y => decide (x <= y)) ↔ x ∈ ks := fun x => by rw [hp.mem_iff, List.mem_reverse]
  refine Sv h ?_ fun x => ?_
  · refine (h2.and h1).imp fun {a b} p => ?_
    have h3 := of_decide_eq_true p.1
    have h4 : a ≠ b := p.2
    omega
  · rw [hm]
    constructor
    · intro hx e
      exact hk x hx (by unfold fP; rw [e]; rfl)
    · intro hx
      cases hi : idx L x with
      | none => exact absurd hi hx
      | some g => exact ha x (by unfold fP; rw [hi]; rfl)
theorem sort_k {L : List aW} (h : vP L) (hl : L.length <= 300) {ks : List Int} (hn : ks.Nodup) (hk : ∀ x, x ∈ ks -> fP L x ≠ none) (ha : ∀ x, (fP L x).isSome = true -> x ∈ ks) (i : Nat) {H : List (Option (List CV))} (hH : hget H i = some (dY ks.reverse)) : iD Tryz.prog 121 [.one (.slc i 0 ks.length 1)] H (.tup []) (hset H i (dY (L.map (·.id)))) := by
  have h0 := Ia hn hk
  have h1 := ZJ ks.reverse (by rw [List.length_reverse]; omega) i H hH
  rw [List.length_reverse, RF h hn hk ha] at h1
  exact h1
theorem bD (zs : List Int) (i : Nat) : List.map (CV.bU i) (dY zs) = dY zs := l6 i (iI zs)
theorem bV (zs : List Int) (x : Int) (i : Nat) : List.map (CV.bU i) (dY zs.reverse ++ [.iv (.g (.int .i64 x))]) = dY (x :: zs).reverse := by
  rw [show dY zs.reverse ++ [.iv (.g (.int .i64 x))] = dY (x :: zs).reverse by simp [dY]]
  exact bD _ _
theorem aaS {L : List aW} {v : Nat} (hv : v < L.length) : (dY (L.map (·.id))).getD v .any = .iv (.g (.int .i64 (L.getD v eG).id)) := by
  rw [BM _ _ (by simpa using hv)]
  simp [List.getD, hv]
def c9 (f : aW) : List CV := [.iv (.g (.int .i64 (f.id))), .iv (.g (.int .i64 (f.kd))), .iv (.g (.int .i64 (f.x))), .iv (.g (.int .i64 (f.y))), .iv (.g (.int .i64 (f.r))), .iv (.lst 2 f.n (eX f.P)), .iv (.g (.int .i64 (f.d))), .iv (.g (.int .i64 (f.s))), .iv (.lst 6 f.m (eX f.S))]
def uS (l : List aW) : List CV := l.flatMap c9
theorem fU (l : List aW) : (uS l).length = l.length * 9 := by
  induction l with
  | nil => rfl
  | cons s l ih => simp only [uS, List.flatMap_cons, List.length_append] at ih ⊢; rw [ih]; simp [c9]; omega
theorem Ih (l : List aW) : ∀ c, c ∈ uS l -> j4 c := by
  intro c hc
  simp only [uS, List.mem_flatMap, c9] at hc
  obtain ⟨s, _, h⟩ := hc
  simp only [List.mem_cons, List.not_mem_nil, or_false] at h
  rcases h with rfl | rfl | rfl | rfl | rfl | rfl | rfl | rfl | rfl <;> trivial
theorem Cm {L : List aW} {v : Nat} (hv : v < L.length) : L.getD v eG ∈ L := by
  rw [List.getD, List.getElem?_eq_getElem hv]; exact List.getElem_mem hv
theorem take_one {L : List aW} {v : Nat} (hv : v < L.length) : L.take v ++ [L.getD v eG] = L.take (v + 1) := by
  rw [List.take_add_one, List.getD]
  simp [hv]
theorem VI {L : List aW} {v : Nat} (hv : v < L.length) (i : Nat) : List.map (CV.bU i) (uS (L.take v) ++ [.iv (.g (.int .i64 ((L.getD v eG).id))), .iv (.g (.int .i64 ((L.getD v eG).kd))), .iv (.g (.int .i64 ((L.getD v eG).x))), .iv (.g (.int .i64 ((L.getD v eG).y))), .iv (.g (.int .i64 ((L.getD v eG).r))), .iv (.lst 2 (L.getD v eG).n (eX (L.getD v eG).P)), .iv (.g (.int .i64 ((L.getD v eG).d))), .iv (.g (.int .i64 ((L.getD v eG).s))), .iv (.lst 6 (L.getD v eG).m (eX (L.getD v eG).S))]) = uS (L.take (v + 1)) := by
  have e : uS (L.take v) ++ c9 (L.getD v eG) = uS (L.take (v + 1)) := by rw [<- take_one hv]; simp [uS]
  exact (congrArg (List.map (CV.bU i)) e).trans (l6 i (Ih _))
theorem KX : ∀ (l : List aW) (i o : Nat), i < l.length -> o < 9 -> (uS l).getD (i * 9 + o) .any = (c9 (l.getD i eG)).getD o .any
  | [], i, _, h, _ => by simp at h
  | f :: l, 0, o, _, ho => by
    show (c9 f ++ uS l).getD (0 * 9 + o) .any = (c9 f).getD o .any
    rw [Nat.zero_mul, Nat.zero_add, List.getD, List.getD, List.getElem?_append_left (by show o < 9; exact ho)]
  | f :: l, i + 1, o, h, ho => by
    show (c9 f ++ uS l).getD ((i + 1) * 9 + o) .any = (c9 (l.getD i eG)).getD o .any
    rw [<- KX l i o (by simpa using h) ho, List.getD, List.getD, List.getElem?_append_right (by show 9 <= _; omega)]
    congr 2
    show (i + 1) * 9 + o - 9 = i * 9 + o
    omega
theorem TY (l : List aW) : ∀ i o, i < l.length -> o < 9 -> (Im ((uS l).getD (i * 9 + o) .any)).eqv (dN (fun i => l.getD i eG) i o) := by
  intro i o hi ho
  rw [KX l i o hi ho]
  match o, ho with
  | 0, _ | 1, _ | 2, _ | 3, _ | 4, _ | 5, _ | 6, _ | 7, _ | 8, _ => exact IV.bn _
end Go.Proofs.YtcfechepbamhkaaGreat
set_option maxRecDepth 100000
set_option maxHeartbeats 4000000
namespace Go.Proofs.YtcfechepbamhkaaGreat
open Go.RowKit Go.Sea
open Nat renaming reduceAdd -> xA, reduceLT -> xL, reduceLeDiff -> xD, reduceEqDiff -> xE, reduceMul -> xM, reduceSub -> xS, reduceBEq -> xB
theorem vJ : aM Tryz.prog 148 = true := by kernel_rfl
theorem KU : aM Tryz.prog 149 = true := by kernel_rfl
theorem KJ : aM Tryz.prog 150 = true := by kernel_rfl
theorem FZ : aM Tryz.prog 72 = true := by kernel_rfl
theorem KD : aM Tryz.prog 151 = true := by kernel_rfl
theorem Ua : aM Tryz.prog 176 = true := by kernel_rfl
theorem V6 : aM Tryz.prog 177 = true := by kernel_rfl
theorem XI : aM Tryz.prog 178 = true := by kernel_rfl
theorem CF : aM Tryz.prog 120 = true := by kernel_rfl
theorem Du : aM Tryz.prog 121 = true := by kernel_rfl
theorem XP : aM Tryz.prog 179 = true := by kernel_rfl
theorem vB : aM Tryz.prog 207 = true := by kernel_rfl
theorem CQ : aM Tryz.prog 157 = true := by kernel_rfl
theorem uG : aM Tryz.prog 109 = true := by kernel_rfl
theorem IK : aM Tryz.prog 110 = true := by kernel_rfl
theorem rE : aM Tryz.prog 95 = true := by kernel_rfl
theorem ajK : yu Tryz.prog 141 = none := by kernel_rfl
theorem Uf : JI Tryz.prog 141 = some 64 := by kernel_rfl
theorem air : JI Tryz.prog 176 = some 180 := by kernel_rfl
theorem abp : dA Tryz.prog 66 2 = some (2, 9) := by kernel_rfl
theorem ajV : lD Tryz.prog 141 = some (false, 1) := by kernel_rfl
theorem akf : zPT Tryz.prog 180 = some (.one (.g (.nilFunc))) := by kernel_rfl
theorem am1 : zPT Tryz.prog 64 = some (.agg [.g (.int .i64 0), .g (.int .i64 0), .g (.int .i64 0), .g (.int .i64 0), .g (.int .i64 0), .g (.slice none 0 0), .g (.int .i64 0), .g (.int .i64 0), .g (.slice none 0 0)]) := by kernel_rfl
attribute [go_sem] vJ KU KJ FZ KD CF Du vB CQ uG IK rE ajK Uf air abp ajV akf am1
theorem acf (n : Nat) (f : Nat -> aW) (k : Nat) (o : Nat -> fG) (hn : n <= 9223372036854775807) (hf : ∀ i, i < n -> (f i).Ok) (hk : k <= 9223372036854775807) (ho : ∀ i, i < k -> (o i).f.Ok) (hv : oz n f = true) (hw : Ew k o = true) : aA Tryz.prog 61 [.one (.lst 9 n (dN f)), .one (.lst 16 k (jq o))] (.tup [.one (.lst 9 (EA n f k o) (dN (Zd n f k o))), .one (.g (.int .i64 (apI n f k o))), .one (.g (.int .i64 (yU n f k o)))]) := by
  have mk0 : True := trivial
  have mk2 : True := trivial
  have mk3 : True := trivial
  have hrk : True := trivial
  have hkd : True := trivial
  have hfk : True := trivial
  have hrs := Fp hv
  have hG := FQ hv
  have hops := (of_decide_eq_true hw).2
  have hk100 := (of_decide_eq_true hw).1
  refine ak Tryz.func61 rfl (by rw [Tryz.ntmps61]; simp) ?_
  simp only [Tryz.ntmps61, zM, PT.tv, au, Nat.zero_add, Nat.reduceAdd]
  repeat' (first
 | (exact GY hv hw (by assumption) hai (amL e5 hq) (by omega))
 | (exact GY hv hw (by assumption) hai (alK e5 hq (by assumption)) (by omega))
 | (exact GY hv hw (by assumption) hai (anQ (by omega) hq) (by omega))
 | (exact GY hv hw (by assumption) hai (als (by omega) hq (by assumption)) (by omega))
 | (clear mk2; have hkm := Qj hnd hks hyy hnn)
 | ((with_reducible show AW _ _ _ _); first
 | (with_reducible first | refine aS (fun K hK => ?_) | refine aI ?_ | refine aX ?_ | refine aT ?_ | refine aC ?_ | refine aB ?_)
 | ((refine eT (k := 179) rfl Tryz.func179 rfl XP (by rw [Tryz.ntmps179]; simp) ?_ ?_ (fun l hlne A B hA hB => ?_)); (focus (simp (maxSteps := 2000000) only [go_sem, reduceIte, reduceCtorEq, xA, xL, xD, xE, xM, xS, xB, Tryz.f61, Tryz.f179, Tryz.f109, Tryz.f149, Tryz.f150, Tryz.f110, Tryz.f151, Tryz.f72, Tryz.f120, Tryz.f157, Tryz.f176, Tryz.f177, Tryz.f178, hv, hw, hkd, hfk, hrk, bf, fU, List.length_reverse, List.length_map, List.take_zero, List.length_take, bD, bV, fV, rO, jk, List.length_replicate, iG, Int.reduceEq, maxLen]; try exact True.intro)); (focus (simp (maxSteps := 2000000) only [go_sem, reduceIte, reduceCtorEq, xA, xL, xD, xE, xM, xS, xB, Tryz.f61, Tryz.f179, Tryz.f109, Tryz.f149, Tryz.f150, Tryz.f110, Tryz.f151, Tryz.f72, Tryz.f120, Tryz.f157, Tryz.f176, Tryz.f177, Tryz.f178, hv, hw, hkd, hfk, hrk, bf, fU, List.length_reverse, List.length_map, List.take_zero, List.length_take, bD, bV, fV, rO, jk, List.length_replicate, iG, Int.reduceEq, maxLen]; try exact True.intro)); simp only [Tryz.ntmps179, List.map_cons, List.map_nil, LV.tv, au, yV, Nat.zero_add, Nat.reduceAdd]; clear hlne)
 | (with_reducible refine vN (by assumption) ?_)
 | (first
 | (with_reducible first | refine aP 0 [0,1,7] ?_ | refine aP 1 [0,1,2,3,4,5,7] ?_ | refine aP (ops := #[⟨some 19, _, _, _, _, _⟩, _]) 2 [7,9,10] ?_ | refine aP (ops := #[⟨some 8, _, _, _, _, _⟩, _, _]) 2 [0,5] ?_ | refine aP (ops := #[⟨some 7, _, _, _, _, _⟩, _, _]) 2 [0,3] ?_ | refine aP (ops := #[⟨some 6, _, _, _, _, _⟩, _, _, _, _]) 2 [0,3] ?_ | refine aP (ops := #[⟨some 6, _, _, _, _, _⟩, _]) 2 [3] ?_ | refine aP (ops := #[⟨some 5, _, _, _, _, _⟩]) 2 [2,7] ?_ | refine aP (ops := #[⟨some 15, _, _, _, _, _⟩]) 2 [0,3,4,7] ?_ | refine aP (ops := #[⟨some 15, _, _, _, _, _⟩, _]) 2 [0,3,4,6,7] ?_ | refine aP (ops := #[⟨some 18, _, _, _, _, _⟩, _]) 2 [0,3,4,6,7] ?_ | refine aP (ops := #[⟨some 21, _, _, _, _, _⟩, _, _, _, _]) 3 [9,10] ?_ | refine aP (ops := #[⟨some 10, _, _, _, _, _⟩, _, _, _]) 3 [0,3,5] ?_ | refine aP (ops := #[⟨some 23, _, _, _, _, _⟩, _, _]) 3 [0,1] ?_ | refine aP (ops := #[⟨some 10, _, _, _, _, _⟩]) 3 [3,7,8,9] ?_ | refine aP (ops := #[⟨some 11, _, _, _, _, _⟩]) 3 [0,3,8,9,10] ?_ | refine aP (ops := #[⟨some 8, _, _, _, _, _⟩, _]) 3 [3] ?_ | refine aP (ops := #[⟨some 8, _, _, _, _, _⟩, _, _, _, _]) 3 [2,5,7] ?_ | refine aP (ops := #[⟨some 16, _, _, _, _, _⟩, _, _]) 3 [4] ?_ | refine aP (ops := #[⟨some 17, _, _, _, _, _⟩, _, _]) 3 [4] ?_ | refine aP (ops := #[⟨some 20, _, _, _, _, _⟩, _, _]) 3 [4] ?_ | refine aP (ops := #[⟨some 23, _, _, _, _, _⟩, _, _, _, _, _, _]) 4 [7,9,10] ?_ | refine aP (ops := #[⟨some 25, _, _, _, _, _⟩, _, _]) 4 [1,8] ?_ | refine aP (ops := #[⟨some 11, _, _, _, _, _⟩, _, _, _]) 4 [3,7,8,9] ?_ | refine aP (ops := #[⟨some 12, _, _, _, _, _⟩, _, _]) 4 [0,3,8,9,10] ?_ | refine aP (ops := #[⟨some 12, _, _, _, _, _⟩, _]) 4 [2] ?_ | refine aP (ops := #[⟨some 17, _, _, _, _, _⟩, _, _]) 4 [0,3,4] ?_ | refine aP (ops := #[⟨some 18, _, _, _, _, _⟩, _, _, _]) 4 [0,3,4,6] ?_ | refine aP (ops := #[⟨some 22, _, _, _, _, _⟩, _, _, _, _, _, _, _, _, _, _, _]) 4 [0,3,4,6] ?_ | refine aP (ops := #[⟨some 10, _, _, _, _, _⟩]) 5 [1,8,9] ?_ | refine aP (ops := #[⟨some 13, _, _, _, _, _⟩, _, _, _, _]) 5 [3,5,7,8,9] ?_ | refine aP (ops := #[⟨some 14, _, _, _, _, _⟩, _, _, _, _, _, _]) 5 [0,3,5,8,9,10] ?_ | refine aP (ops := #[⟨some 20, _, _, _, _, _⟩, _, _]) 5 [4] ?_ | refine aP (ops := #[⟨some 21, _, _, _, _, _⟩, _, _, _, _, _]) 5 [3,4,6] ?_ | refine aP (ops := #[⟨some 28, _, _, _, _, _⟩, _]) 5 [0,3,4,8,9,10] ?_ | refine aP (ops := #[⟨some 27, _, _, _, _, _⟩, _, _]) 6 [1,8,9,10] ?_ | refine aP (ops := #[⟨some 17, _, _, _, _, _⟩, _]) 6 [3,7,8,9] ?_ | refine aP (ops := #[⟨some 20, _, _, _, _, _⟩, _]) 6 [0,3,8,9,10] ?_ | refine aP (ops := #[⟨some 21, _, _, _, _, _⟩, _, _, _, _, _]) 6 [0,3,4] ?_ | refine aP (ops := #[⟨some 30, _, _, _, _, _⟩, _, _, _]) 6 [4,10] ?_ | refine aP (ops := #[⟨some 30, _, _, _, _, _⟩]) 7 [8,9,10,27,28,29] ?_ | refine aP (ops := #[⟨some 18, _, _, _, _, _⟩, _]) 7 [3] ?_ | refine aP (ops := #[⟨some 21, _, _, _, _, _⟩, _]) 7 [3] ?_ | refine aP (ops := #[⟨some 26, _, _, _, _, _⟩, _, _, _, _]) 7 [3,4] ?_ | refine aP (ops := #[⟨some 32, _, _, _, _, _⟩, _, _, _, _]) 7 [0,3,4,8,9] ?_ | refine aP (ops := #[⟨some 31, _, _, _, _, _⟩, _, _, _, _, _]) 8 [8,9,10,27,28,29] ?_ | refine aP (ops := #[⟨some 36, _, _, _, _, _⟩, _, _]) 8 [4,9] ?_ | refine aP 9 [8,9,10,11,12,27,28,29] ?_ | refine aP 10 [8,9,10,11,13,14,27,28,29] ?_ | refine aP 11 [11,14] ?_ | refine aP 12 [8,9,10,13,27,28,29] ?_ | refine aP 13 [8,9,10,27,28,29] ?_ | refine aP 14 [8,10] ?_))
 | ((with_reducible show AW _ (Code.loop _) _ _); first
 | ((with_reducible refine aL (c := (Code.seq (Code.region 7 _ _) _)) (ι := Nat) [8,9,27,28] (fun i => [(10, .t (.one (.slc 2 0 i 16))), (29, iA .i64 (i : Int))]) (fun i => [(0, [.mi none (jL (LF f n) o i).length (fP (jL (LF f n) o i))]), (2, List.replicate (i * 16) .any)]) (fun i => i <= k /\ (∀ j, j < i -> (ow (jL (LF f n) o j) (o j)).1 = 0)) (fun i => k - i) 0 ?lg7 ?l17 ?l27 ?li7 ?lr7); (case' lg7 => rintro i _); (case' li7 => try (exact ⟨Nat.zero_le _, fun i hi => absurd hi (Nat.not_lt_zero _)⟩)); (case' lr7 => rintro i ⟨hi, hai⟩ KR hR7; simp only [bG, dL, hset, lk, if_true, if_false, xE, reduceIte, zN, hv, hw, hkd, hfk, hrk, bf, fU, List.length_reverse, List.length_map, List.take_zero, List.length_take, bD, bV, fV, rO, jk, List.length_replicate, iG, Int.reduceEq, maxLen]))
 | (((with_reducible refine af2 ?_); simp only [ddG, ddE, List.contains_cons, List.contains_nil, Nat.reduceBEq, Bool.or_false, Bool.false_or, Bool.or_true, Bool.true_or, if_true, if_false, Bool.false_eq_true, reduceIte]; with_reducible refine aL (c := (Code.seq (Code.region 1 _ _) _)) (ι := List Int) [0,5] (fun ks => []) (fun ks => [(1, []), (2, []), (4, [.slc 6 0 ks.length 1]), (6, dY ks.reverse), (5, [.mt 0 cc (fun q => q ∈ ks) ks.head?])]) (fun ks => ks.Nodup /\ ∀ x, x ∈ ks -> fP (jL (LF f n) o k) x ≠ none) (fun ks => (jL (LF f n) o k).length - ks.length) [] ?lg1 ?l11 ?l21 ?li1 ?lr1); (case' lg1 => rintro ks _); (case' li1 => try (exact ⟨List.nodup_nil, fun x h => absurd h (List.not_mem_nil)⟩)); (case' lr1 => rintro ks ⟨hnd, hks⟩ KR hR1; simp only [bG, dL, hset, lk, if_true, if_false, xE, reduceIte, zN, hv, hw, hkd, hfk, hrk, bf, fU, List.length_reverse, List.length_map, List.take_zero, List.length_take, bD, bV, fV, rO, jk, List.length_replicate, iG, Int.reduceEq, maxLen]))))
 | ((first | (with_reducible refine And.intro ?_ ?_) | (with_reducible refine Need.mk ?_)); focus (first | exact True.intro | omega | (intro _; exact True.intro)))
 | (with_reducible refine aK ?_)
 | ((with_reducible show bL _ _ _ _ _ _); first
 | ((with_reducible refine aN ?_ ?_) <;> (intro hc; (try simp only [zB, zC, reduceCtorEq] at hc); ((try (clear mk0; have e9 : k = i := (by omega); subst e9; have hgk := kT hG hops k (Nat.le_refl k); have hgn := hgk.n)); (try (clear mk3; have hv8 := keys_eq hgk.a hnd hks hall; have hrk := aaS (L := (jL (LF f n) o k)) (v := v) (by omega); have hfk := WO (qO hgk.a (Cm (L := (jL (LF f n) o k)) (v := v) (by omega))))); (try (have e0 : n = u := (by omega); subst e0)); (try (clear mk0; have hO := hops i (by omega); have hg := kT hG hops i (by omega); clear hkd hfk; rcases amt hO with e5 | e5 | e5 | e5 | e5 <;> rcases hq : idx (jL (LF f n) o i) (o i).id with _ | g; all_goals (first | (have hkd := aoe e5) | (have hkd := aor e5) | (have hkd := aou e5) | (have hkd := aoY e5) | (have hkd := aoF e5)); all_goals (first | (have hfk := ag6 hq) | (have hfk := WO hq; have hgk := F8 (hg.f _ (kI hq).1)))))); (try (exfalso; contradiction)))))
 | ((with_reducible show aZ _ _ _ _ _ _ _ _ _ _); first
 | (refine aG (k := 95) rE (Ap n f hn hf) ?_ ?_)
 | (refine aG (k := 207) vB (Qn g (o i) hgk (ho i (by omega)) e5) ?_ ?_)
 | (refine aG (k := 207) vB (Ta g (o i) hgk (ho i (by omega)) e5) ?_ ?_)
 | (refine aG (k := 207) vB (TF g (o i) hgk (ho i (by omega)) e5) ?_ ?_)
 | (refine lV (k := 121) Du (sort_k (kT hG hops k (Nat.le_refl k)).a (kT hG hops k (Nat.le_refl k)).n hnd hks hall 6 rfl) ?_ ?_)
 | ((refine bW (k := 109) Tryz.func109 rfl uG (by rw [Tryz.ntmps109]; simp) ?_ ?_ (fun K hK => ?_)); (focus (exact True.intro)); (focus ((simp [iZ]; done))); simp only [Tryz.ntmps109, List.map_cons, List.map_nil, List.nil_append, List.cons_append, List.append_nil, LV.tv, au, Nat.zero_add, Nat.reduceAdd])
 | ((refine bW (k := 149) Tryz.func149 rfl KU (by rw [Tryz.ntmps149]; simp) ?_ ?_ (fun K hK => ?_)); (focus (exact True.intro)); (focus ((simp [iZ]; done))); simp only [Tryz.ntmps149, List.map_cons, List.map_nil, List.nil_append, List.cons_append, List.append_nil, LV.tv, au, Nat.zero_add, Nat.reduceAdd])
 | ((refine bW (k := 150) Tryz.func150 rfl KJ (by rw [Tryz.ntmps150]; simp) ?_ ?_ (fun K hK => ?_)); (focus (exact True.intro)); (focus ((simp [iZ]; done))); simp only [Tryz.ntmps150, List.map_cons, List.map_nil, List.nil_append, List.cons_append, List.append_nil, LV.tv, au, Nat.zero_add, Nat.reduceAdd])
 | ((refine bW (k := 110) Tryz.func110 rfl IK (by rw [Tryz.ntmps110]; simp) ?_ ?_ (fun K hK => ?_)); (focus (exact True.intro)); (focus ((simp [iZ]; done))); simp only [Tryz.ntmps110, List.map_cons, List.map_nil, List.nil_append, List.cons_append, List.append_nil, LV.tv, au, Nat.zero_add, Nat.reduceAdd])
 | ((refine bW (k := 151) Tryz.func151 rfl KD (by rw [Tryz.ntmps151]; simp) ?_ ?_ (fun K hK => ?_)); (focus (exact True.intro)); (focus ((simp [iZ]; done))); simp only [Tryz.ntmps151, List.map_cons, List.map_nil, List.nil_append, List.cons_append, List.append_nil, LV.tv, au, Nat.zero_add, Nat.reduceAdd])
 | ((refine bW (k := 72) Tryz.func72 rfl FZ (by rw [Tryz.ntmps72]; simp) ?_ ?_ (fun K hK => ?_)); (focus (exact True.intro)); (focus ((simp [iZ]; done))); simp only [Tryz.ntmps72, List.map_cons, List.map_nil, List.nil_append, List.cons_append, List.append_nil, LV.tv, au, Nat.zero_add, Nat.reduceAdd])
 | ((refine bW (k := 120) Tryz.func120 rfl CF (by rw [Tryz.ntmps120]; simp) ?_ ?_ (fun K hK => ?_)); (focus (exact True.intro)); (focus ((simp [iZ]; done))); simp only [Tryz.ntmps120, List.map_cons, List.map_nil, List.nil_append, List.cons_append, List.append_nil, LV.tv, au, Nat.zero_add, Nat.reduceAdd])
 | ((refine bW (k := 157) Tryz.func157 rfl CQ (by rw [Tryz.ntmps157]; simp) ?_ ?_ (fun K hK => ?_)); (focus (exact True.intro)); (focus ((simp [iZ]; done))); simp only [Tryz.ntmps157, List.map_cons, List.map_nil, List.nil_append, List.cons_append, List.append_nil, LV.tv, au, Nat.zero_add, Nat.reduceAdd])
 | ((refine kJ (k := 176) Tryz.func176 rfl Ua (by rw [Tryz.ntmps176]; simp) ?_ ?_ (fun K hK => ?_)); (focus (exact True.intro)); (focus ((simp [iZ]; done))); simp only [Tryz.ntmps176, List.map_cons, List.map_nil, List.nil_append, List.cons_append, List.append_nil, LV.tv, au, Nat.zero_add, Nat.reduceAdd])
 | ((refine kJ (k := 177) Tryz.func177 rfl V6 (by rw [Tryz.ntmps177]; simp) ?_ ?_ (fun K hK => ?_)); (focus (exact True.intro)); (focus ((simp [iZ]; done))); simp only [Tryz.ntmps177, List.map_cons, List.map_nil, List.nil_append, List.cons_append, List.append_nil, LV.tv, au, Nat.zero_add, Nat.reduceAdd])
 | ((refine kJ (k := 178) Tryz.func178 rfl XI (by rw [Tryz.ntmps178]; simp) ?_ ?_ (fun K hK => ?_)); (focus (exact True.intro)); (focus ((simp [iZ]; done))); simp only [Tryz.ntmps178, List.map_cons, List.map_nil, List.nil_append, List.cons_append, List.append_nil, LV.tv, au, Nat.zero_add, Nat.reduceAdd]))
 | ((with_reducible show bM _ _ _ _ _ _ _ _ _ _); first
 | (refine aV (k := 148) vJ (fun hg => CW k o hk ho) ?_ ?_))
 | (((with_reducible show AW _ (Code.loop (Code.seq (Code.region 3 #[⟨some 10, _, _, _, _, _⟩] _) _)) _ _); with_reducible refine aL (c := (Code.seq (Code.region 3 _ _) _)) (ι := Nat) [3,7,8] (fun u => [(9, iA .i64 (u : Int))]) (fun u => [(0, [.mi none u (fP (LF f u))])]) (fun u => u <= n) (fun u => n - u) 0 ?lg3 ?l13 ?l23 ?li3 ?lr3); (case' lg3 => rintro u _); (case' li3 => try (omega)); (case' lr3 => rintro u hu KR hR3; simp only [bG, dL, hset, lk, if_true, if_false, xE, reduceIte, zN, hv, hw, hkd, hfk, hrk, bf, fU, List.length_reverse, List.length_map, List.take_zero, List.length_take, bD, bV, fV, rO, jk, List.length_replicate, iG, Int.reduceEq, maxLen]))
 | ((with_reducible refine hR3 _ (u + 1) ?_); (try clear hR3 KR))
 | ((with_reducible refine hR7 _ (i + 1) ?_); (try clear hR7 KR))
 | ((with_reducible refine hR1 _ (kk :: ks) ?_); (try clear hR1 KR))
 | (((with_reducible show AW _ (Code.loop (Code.seq (Code.region 3 #[⟨some 11, _, _, _, _, _⟩] _) _)) _ _); with_reducible refine aL (c := (Code.seq (Code.region 3 _ _) _)) (ι := Nat) [0,8,9] (fun v => [(3, .t (.one (.slc 7 0 v 9))), (10, iA .i64 (v : Int))]) (fun v => [(7, uS ((jL (LF f n) o k).take v))]) (fun v => v <= (jL (LF f n) o k).length) (fun v => (jL (LF f n) o k).length - v) 0 ?lg3b ?l13b ?l23b ?li3b ?lr3b); (case' lg3b => rintro v _); (case' li3b => try (omega)); (case' lr3b => rintro v hv9 KR hR3b; simp only [bG, dL, hset, lk, if_true, if_false, xE, reduceIte, zN, hv, hw, hkd, hfk, hrk, bf, fU, List.length_reverse, List.length_map, List.take_zero, List.length_take, bD, bV, fV, rO, jk, List.length_replicate, iG, Int.reduceEq, maxLen]))
 | ((with_reducible refine hR3b _ (v + 1) ?_); (try clear hR3b KR))
 | ((with_reducible refine Told.mk ?_); simp only [go_sem, reduceIte, reduceCtorEq, xA, xL, xD, xE, xM, xS, xB, hv, hw, hkd, hfk, hrk, bf, fU, List.length_reverse, List.length_map, List.take_zero, List.length_take, bD, bV, fV, rO, jk, List.length_replicate, iG, Int.reduceEq, maxLen] <;> (first | (((try simp (disch := omega) only [aY, Int.natCast_add, Int.cast_ofNat_Int, and_true, true_and, and_self]); (repeat' (first | omega | rfl | (with_reducible refine And.intro ?_ ?_) | ((exact Or.inr ⟨(O6 hrs (by omega)).2, fun k => by rw [(O6 hrs (by omega)).1]; exact oI _⟩)))); done)) | (((try simp (disch := omega) only [aY, Int.natCast_add, Int.cast_ofNat_Int, and_true, true_and, and_self]); (repeat' (first | omega | rfl | (with_reducible refine And.intro ?_ ?_) | ((exact Ak _ _ (by simp; omega))) | ((exact Or.inr ⟨(NG hg hO e5 hq (by omega)).2.1, fun k => by rw [(NG hg hO e5 hq (by omega)).2.2]; exact oI _⟩)) | ((exact all_succ (by assumption) (NG hg hO e5 hq (by omega)).1)) | ((exact Or.inr ⟨(M5 hg e5 hq).2.1, fun k => by rw [(M5 hg e5 hq).2.2]; exact oI _⟩)) | ((exact all_succ (by assumption) (M5 hg e5 hq).1)) | ((exact Or.inr ⟨(LD hg (by omega) hq (by assumption)).2.1, fun k => by rw [(LD hg (by omega) hq (by assumption)).2.2]; exact oI _⟩)) | ((exact all_succ (by assumption) (LD hg (by omega) hq (by assumption)).1)))); done)) | (((try simp (disch := omega) only [aY, Int.natCast_add, Int.cast_ofNat_Int, and_true, true_and, and_self]); (repeat' (first | omega | rfl | (with_reducible refine And.intro ?_ ?_) | ((exact hkm.1)) | ((exact fun e => by rw [hyy] at e; cases e)) | ((exact kZ rfl (iI _))))); done)) | (((try simp (disch := omega) only [aY, Int.natCast_add, Int.cast_ofNat_Int, and_true, true_and, and_self]); (repeat' (first | omega | (with_reducible refine And.intro ?_ ?_) | ((exact kZ rfl (iI _))) | ((rw [VI (by omega)]; exact kZ rfl (Ih _))))); done))))
 | ((with_reducible show kM _ _ (Oper.mk _ (Op.range _ _) _ _ _ _) _ _ _); refine zh (by exact Uf) (by simp (maxSteps := 2000000) only [go_sem, reduceIte, reduceCtorEq, xA, xL, xD, xE, xM, xS, xB, Tryz.f61, Tryz.f179, Tryz.f109, Tryz.f149, Tryz.f150, Tryz.f110, Tryz.f151, Tryz.f72, Tryz.f120, Tryz.f157, Tryz.f176, Tryz.f177, Tryz.f178, hv, hw, hkd, hfk, hrk, bf, fU, List.length_reverse, List.length_map, List.take_zero, List.length_take, bD, bV, fV, rO, jk, List.length_replicate, iG, Int.reduceEq, maxLen]; rfl) (by simp (maxSteps := 2000000) only [go_sem, reduceIte, reduceCtorEq, xA, xL, xD, xE, xM, xS, xB, Tryz.f61, Tryz.f179, Tryz.f109, Tryz.f149, Tryz.f150, Tryz.f110, Tryz.f151, Tryz.f72, Tryz.f120, Tryz.f157, Tryz.f176, Tryz.f177, Tryz.f178, hv, hw, hkd, hfk, hrk, bf, fU, List.length_reverse, List.length_map, List.take_zero, List.length_take, bD, bV, fV, rO, jk, List.length_replicate, iG, Int.reduceEq, maxLen]; rfl) (fun cc => ?_))
 | ((with_reducible show kM _ _ (Oper.mk _ (Op.next _ _) _ _ _ _) _ _ _); refine DV (by simp (maxSteps := 2000000) only [go_sem, reduceIte, reduceCtorEq, xA, xL, xD, xE, xM, xS, xB, Tryz.f61, Tryz.f179, Tryz.f109, Tryz.f149, Tryz.f150, Tryz.f110, Tryz.f151, Tryz.f72, Tryz.f120, Tryz.f157, Tryz.f176, Tryz.f177, Tryz.f178, hv, hw, hkd, hfk, hrk, bf, fU, List.length_reverse, List.length_map, List.take_zero, List.length_take, bD, bV, fV, rO, jk, List.length_replicate, iG, Int.reduceEq, maxLen]; rfl) (by simp (maxSteps := 2000000) only [go_sem, reduceIte, reduceCtorEq, xA, xL, xD, xE, xM, xS, xB, Tryz.f61, Tryz.f179, Tryz.f109, Tryz.f149, Tryz.f150, Tryz.f110, Tryz.f151, Tryz.f72, Tryz.f120, Tryz.f157, Tryz.f176, Tryz.f177, Tryz.f178, hv, hw, hkd, hfk, hrk, bf, fU, List.length_reverse, List.length_map, List.take_zero, List.length_take, bD, bV, fV, rO, jk, List.length_replicate, iG, Int.reduceEq, maxLen]; rfl) (by simp (maxSteps := 2000000) only [go_sem, reduceIte, reduceCtorEq, xA, xL, xD, xE, xM, xS, xB, Tryz.f61, Tryz.f179, Tryz.f109, Tryz.f149, Tryz.f150, Tryz.f110, Tryz.f151, Tryz.f72, Tryz.f120, Tryz.f157, Tryz.f176, Tryz.f177, Tryz.f178, hv, hw, hkd, hfk, hrk, bf, fU, List.length_reverse, List.length_map, List.take_zero, List.length_take, bD, bV, fV, rO, jk, List.length_replicate, iG, Int.reduceEq, maxLen]; rfl) (fun hall => ?_) (fun kk yy hyy hnn => ?_))
 | ((with_reducible show kM _ _ (Oper.mk _ (Op.entry _) _ _ _ _) _ _ _); refine zk (by simp (maxSteps := 2000000) only [go_sem, reduceIte, reduceCtorEq, xA, xL, xD, xE, xM, xS, xB, Tryz.f61, Tryz.f179, Tryz.f109, Tryz.f149, Tryz.f150, Tryz.f110, Tryz.f151, Tryz.f72, Tryz.f120, Tryz.f157, Tryz.f176, Tryz.f177, Tryz.f178, hv, hw, hkd, hfk, hrk, bf, fU, List.length_reverse, List.length_map, List.take_zero, List.length_take, bD, bV, fV, rO, jk, List.length_replicate, iG, Int.reduceEq, maxLen]; rfl) (by simp (maxSteps := 2000000) only [go_sem, reduceIte, reduceCtorEq, xA, xL, xD, xE, xM, xS, xB, Tryz.f61, Tryz.f179, Tryz.f109, Tryz.f149, Tryz.f150, Tryz.f110, Tryz.f151, Tryz.f72, Tryz.f120, Tryz.f157, Tryz.f176, Tryz.f177, Tryz.f178, hv, hw, hkd, hfk, hrk, bf, fU, List.length_reverse, List.length_map, List.take_zero, List.length_take, bD, bV, fV, rO, jk, List.length_replicate, iG, Int.reduceEq, maxLen]; rfl) (by simp (maxSteps := 2000000) only [go_sem, reduceIte, reduceCtorEq, xA, xL, xD, xE, xM, xS, xB, Tryz.f61, Tryz.f179, Tryz.f109, Tryz.f149, Tryz.f150, Tryz.f110, Tryz.f151, Tryz.f72, Tryz.f120, Tryz.f157, Tryz.f176, Tryz.f177, Tryz.f178, hv, hw, hkd, hfk, hrk, bf, fU, List.length_reverse, List.length_map, List.take_zero, List.length_take, bD, bV, fV, rO, jk, List.length_replicate, iG, Int.reduceEq, maxLen]; rfl) (by ((intros; simp_all; done))) (fun yy hyy => ?_))
 | ((fail_if_success (with_reducible show AW _ _ _ _)); simp (maxSteps := 2000000) only [go_sem, reduceIte, reduceCtorEq, xA, xL, xD, xE, xM, xS, xB, Tryz.f61, Tryz.f179, Tryz.f109, Tryz.f149, Tryz.f150, Tryz.f110, Tryz.f151, Tryz.f72, Tryz.f120, Tryz.f157, Tryz.f176, Tryz.f177, Tryz.f178, hv, hw, hkd, hfk, hrk, bf, fU, List.length_reverse, List.length_map, List.take_zero, List.length_take, bD, bV, fV, rO, jk, List.length_replicate, iG, Int.reduceEq, maxLen])
 | ((with_reducible show aZ _ _ _ _ _ _ (.yld _) _ _ _); (refine lG (by simp only [Fg, if_true]; exact rfl) ?_ (by simp) ?_ ?_ (fun K hK => ?_)); (focus (exact True.intro)); (focus (simp [nk])); (focus ((simp [iZ]; done))); simp only [jm, gf, if_true, Nat.reduceAdd])
 | ((with_reducible refine hK _ ?_); clear hK K)
 | (with_reducible apply_assumption -exfalso only [*]))
  all_goals ((have h8 := keys_eq (kT hG hops k (Nat.le_refl k)).a hnd hks hall; have e7 : v = (jL (LF f n) o k).length := (by omega); subst e7; rw [List.take_length]; have h7 := al1 hv hw (Int.le_refl _) hai; refine ⟨⟨by omega, fun c hc9 => (by have := Ih _ c hc9; cases c <;> trivial)⟩, ⟨h7.1, fun i q hi hq => TY (jL (LF f n) o k) i q hi hq⟩, h7.2⟩))
theorem abO (n : Nat) (f : Nat -> aW) (k : Nat) (o : Nat -> fG) (hn : n <= 9223372036854775807) (hf : ∀ i, i < n -> (f i).Ok) (hk : k <= 9223372036854775807) (ho : ∀ i, i < k -> (o i).f.Ok) (hv : oz n f = false) : aA Tryz.prog 61 [.one (.lst 9 n (dN f)), .one (.lst 16 k (jq o))] (.tup [.one (.lst 9 (EA n f k o) (dN (Zd n f k o))), .one (.g (.int .i64 (apI n f k o))), .one (.g (.int .i64 (yU n f k o)))]) := by
  refine ak Tryz.func61 rfl (by rw [Tryz.ntmps61]; simp) ?_
  simp only [Tryz.ntmps61, zM, PT.tv, au, Nat.zero_add, Nat.reduceAdd]
  repeat' (first
 | ((with_reducible show AW _ _ _ _); first
 | (with_reducible first | refine aS (fun K hK => ?_) | refine aT ?_ | refine aC ?_)
 | (first
 | (with_reducible first | refine aP (ops := #[⟨some 4, _, _, _, _, _⟩, _, _]) 0 [0,1] ?_ | refine aP (ops := #[⟨some 4, _, _, _, _, _⟩, _, _, _]) 0 [0,1] ?_ | refine aP (ops := #[⟨some 12, _, _, _, _, _⟩, _, _, _, _, _, _, _, _, _, _, _]) 1 [0,1] ?_ | refine aP (ops := #[⟨some 15, _, _, _, _, _⟩, _, _, _, _, _, _, _]) 1 [0,1] ?_ | refine aP (ops := #[⟨some 19, _, _, _, _, _⟩, _]) 2 [7,9,10] ?_ | refine aP (ops := #[⟨some 4, _, _, _, _, _⟩, _, _, _]) 2 [] ?_ | refine aP (ops := #[⟨some 21, _, _, _, _, _⟩, _, _, _, _]) 3 [9,10] ?_)))
 | ((first | (with_reducible refine And.intro ?_ ?_) | (with_reducible refine Need.mk ?_)); focus (first | exact True.intro | (simp; done)))
 | (with_reducible refine aK ?_)
 | ((with_reducible show bL _ _ _ _ _ _); first
 | ((with_reducible refine aN ?_ ?_) <;> (intro hc; (try simp only [zB, zC, reduceCtorEq] at hc); (try (exfalso; contradiction)))))
 | ((with_reducible show aZ _ _ _ _ _ _ _ _ _ _); first
 | (refine aG (k := 95) rE (Ap n f hn hf) ?_ ?_)
 | ((refine bW (k := 109) Tryz.func109 rfl uG (by rw [Tryz.ntmps109]; simp) ?_ ?_ (fun K hK => ?_)); (focus (exact True.intro)); (focus ((simp [iZ]; done))); simp only [Tryz.ntmps109, List.map_cons, List.map_nil, List.nil_append, List.cons_append, List.append_nil, LV.tv, au, Nat.zero_add, Nat.reduceAdd]))
 | ((with_reducible show bM _ _ _ _ _ _ _ _ _ _); first
 | (refine aV (k := 148) vJ (fun hg => CW k o hk ho) ?_ ?_))
 | ((fail_if_success (with_reducible show AW _ _ _ _)); simp (maxSteps := 2000000) only [go_sem, reduceIte, reduceCtorEq, xA, xL, xD, xE, xM, xS, xB, Tryz.f61, Tryz.f109, hv])
 | ((with_reducible refine hK _ ?_); clear hK K)
 | (with_reducible apply_assumption -exfalso only [*]))
  all_goals (exact Zl (by unfold P7; rw [hv]; rfl))
theorem aef (n : Nat) (f : Nat -> aW) (k : Nat) (o : Nat -> fG) (hn : n <= 9223372036854775807) (hf : ∀ i, i < n -> (f i).Ok) (hk : k <= 9223372036854775807) (ho : ∀ i, i < k -> (o i).f.Ok) (hv : oz n f = true) (hw : Ew k o = false) : aA Tryz.prog 61 [.one (.lst 9 n (dN f)), .one (.lst 16 k (jq o))] (.tup [.one (.lst 9 (EA n f k o) (dN (Zd n f k o))), .one (.g (.int .i64 (apI n f k o))), .one (.g (.int .i64 (yU n f k o)))]) := by
  refine ak Tryz.func61 rfl (by rw [Tryz.ntmps61]; simp) ?_
  simp only [Tryz.ntmps61, zM, PT.tv, au, Nat.zero_add, Nat.reduceAdd]
  repeat' (first
 | ((with_reducible show AW _ _ _ _); first
 | (with_reducible first | refine aS (fun K hK => ?_) | refine aT ?_ | refine aC ?_)
 | (first
 | (with_reducible first | refine aP (ops := #[⟨some 4, _, _, _, _, _⟩, _, _]) 0 [0,1] ?_ | refine aP (ops := #[⟨some 4, _, _, _, _, _⟩, _, _, _]) 0 [0,1] ?_ | refine aP (ops := #[⟨some 12, _, _, _, _, _⟩, _, _, _, _, _, _, _, _, _, _, _]) 1 [0,1] ?_ | refine aP (ops := #[⟨some 15, _, _, _, _, _⟩, _, _, _, _, _, _, _]) 1 [0,1] ?_ | refine aP (ops := #[⟨some 19, _, _, _, _, _⟩, _]) 2 [7,9,10] ?_ | refine aP (ops := #[⟨some 4, _, _, _, _, _⟩, _, _, _]) 2 [] ?_ | refine aP (ops := #[⟨some 21, _, _, _, _, _⟩, _, _, _, _]) 3 [9,10] ?_)))
 | ((first | (with_reducible refine And.intro ?_ ?_) | (with_reducible refine Need.mk ?_)); focus (first | exact True.intro | (intro _; exact True.intro)))
 | (with_reducible refine aK ?_)
 | ((with_reducible show bL _ _ _ _ _ _); first
 | ((with_reducible refine aN ?_ ?_) <;> (intro hc; (try simp only [zB, zC, reduceCtorEq] at hc); (try (exfalso; contradiction)))))
 | ((with_reducible show aZ _ _ _ _ _ _ _ _ _ _); first
 | (refine aG (k := 95) rE (Ap n f hn hf) ?_ ?_)
 | ((refine bW (k := 109) Tryz.func109 rfl uG (by rw [Tryz.ntmps109]; simp) ?_ ?_ (fun K hK => ?_)); (focus (exact True.intro)); (focus ((simp [iZ]; done))); simp only [Tryz.ntmps109, List.map_cons, List.map_nil, List.nil_append, List.cons_append, List.append_nil, LV.tv, au, Nat.zero_add, Nat.reduceAdd]))
 | ((with_reducible show bM _ _ _ _ _ _ _ _ _ _); first
 | (refine aV (k := 148) vJ (fun hg => CW k o hk ho) ?_ ?_))
 | ((fail_if_success (with_reducible show AW _ _ _ _)); simp (maxSteps := 2000000) only [go_sem, reduceIte, reduceCtorEq, xA, xL, xD, xE, xM, xS, xB, Tryz.f61, Tryz.f109, hv, hw])
 | ((with_reducible refine hK _ ?_); clear hK K)
 | (with_reducible apply_assumption -exfalso only [*]))
  all_goals (exact Zl (by unfold P7; rw [hv]; rw [hw]; rfl))
theorem Ho (n : Nat) (f : Nat -> aW) (k : Nat) (o : Nat -> fG) (hn : n <= 9223372036854775807) (hf : ∀ i, i < n -> (f i).Ok) (hk : k <= 9223372036854775807) (ho : ∀ i, i < k -> (o i).f.Ok) : aA Tryz.prog 61 [.one (.lst 9 n (dN f)), .one (.lst 16 k (jq o))] (.tup [.one (.lst 9 (EA n f k o) (dN (Zd n f k o))), .one (.g (.int .i64 (apI n f k o))), .one (.g (.int .i64 (yU n f k o)))]) := by
  cases hv : oz n f with
  | false => exact abO n f k o hn hf hk ho hv
  | true => cases hw : Ew k o with
    | false => exact aef n f k o hn hf hk ho hv hw
    | true => exact acf n f k o hn hf hk ho hv hw
end Go.Proofs.YtcfechepbamhkaaGreat
set_option maxRecDepth 100000
set_option maxHeartbeats 4000000
namespace Go.Proofs.YtcfechepbamhkaaGreat
open Go.RowKit Go.Sea
open Nat renaming reduceAdd -> xA, reduceLT -> xL, reduceLeDiff -> xD, reduceEqDiff -> xE, reduceMul -> xM, reduceSub -> xS, reduceBEq -> xB
theorem Kv : aM Tryz.prog 155 = true := by kernel_rfl
attribute [go_sem] Kv
theorem Fz {b : Nat -> Bool} : ∀ k, jM b k < k -> b (jM b k) = true /\ ∀ j, j < jM b k -> b j = false
  | 0, h => absurd h (Nat.not_lt_zero _)
  | k + 1, h => by
    by_cases h1 : jM b k < k
    · have := Fz k h1
      have e : jM b (k + 1) = jM b k := jY this.1 this.2 (k + 1) (by omega)
      rw [e]; exact this
    · have e0 : jM b k = k := by have := rz b k; omega
      have hA : ∀ j, j < k -> b j = false := fun j hj => by
        cases hb : b j with
        | false => rfl
        | true =>
          exfalso
          obtain ⟨m, hm, hm1, hm2⟩ : ∃ m, m <= j /\ b m = true /\ ∀ q, q < m -> b q = false := by
            clear h h1 e0
            induction j using Nat.strongRecOn with
            | _ j ih =>
              by_cases hx : ∃ q, q < j /\ b q = true
              · obtain ⟨q, hq, hq2⟩ := hx
                obtain ⟨m, h1, h2⟩ := ih q hq (by omega) hq2
                exact ⟨m, by omega, h2⟩
              · exact ⟨j, Nat.le_refl _, hb, fun q hq => by
                  cases hbq : b q with
                  | false => rfl
                  | true => exact absurd ⟨q, hq, hbq⟩ hx⟩
          have := jY hm1 hm2 k (by omega)
          omega
      cases hb : b k with
      | true => rw [jY hb hA (k + 1) (by omega)]; exact ⟨hb, hA⟩
      | false =>
        have : jM b (k + 1) = k + 1 := o8 (k + 1) fun j hj => by
          by_cases e : j = k
          · subst e; exact hb
          · exact hA j (by omega)
        omega
end Go.Proofs.YtcfechepbamhkaaGreat
set_option maxRecDepth 100000
set_option maxHeartbeats 4000000
namespace Go.Proofs.YtcfechepbamhkaaGreat
open Go.RowKit Go.Sea
open Nat renaming reduceAdd -> xA, reduceLT -> xL, reduceLeDiff -> xD, reduceEqDiff -> xE, reduceMul -> xM, reduceSub -> xS, reduceBEq -> xB
theorem abL : dF Tryz.prog 35 0 = some 0 := by kernel_rfl
theorem abV : dF Tryz.prog 35 1 = some 1 := by kernel_rfl
theorem aeb : dF Tryz.prog 35 3 = some 3 := by kernel_rfl
theorem aeJ : dF Tryz.prog 35 4 = some 4 := by kernel_rfl
attribute [go_sem] abL abV aeb aeJ
theorem VJ {x y : Int} (hx : -2000000 <= x /\ x <= 2000000) (hy : -2000000 <= y /\ y <= 2000000) : -4000000000000 <= x * y /\ x * y <= 4000000000000 := by
  have h1 : 0 <= (2000000 - x) * (2000000 + y) := Int.mul_nonneg (by omega) (by omega)
  have h2 : 0 <= (2000000 + x) * (2000000 - y) := Int.mul_nonneg (by omega) (by omega)
  have h3 : 0 <= (2000000 - x) * (2000000 - y) := Int.mul_nonneg (by omega) (by omega)
  have h4 : 0 <= (2000000 + x) * (2000000 + y) := Int.mul_nonneg (by omega) (by omega)
  simp only [Int.sub_mul, Int.mul_sub, Int.add_mul, Int.mul_add] at h1 h2 h3 h4
  generalize x * y = z at *
  omega
def rH (n m : Nat) (s t : Nat -> Int) : Bool := decide (n = m /\ ∀ i, i < n -> s i = t i)
def AY (n m : Nat) (f g : Nat -> aW) : Bool := decide (n = m /\ ∀ i, i < n -> uM (f i) (g i) = true)
theorem aje {q : Nat} {a : Nat -> Int} {i : Nat} (hi : (q : Int) <= i) (g : ∀ i', i' < i -> nG a 10001 i') : decide ((q : Int) <= 200) = yR q a := by
  unfold yR; exact decide_eq_decide.2 ⟨fun h => ⟨by omega, fun k hk => g k (by omega)⟩, fun h => by omega⟩
theorem aha {q : Nat} {a : Nat -> Int} {i : Nat} (hi : (i : Int) < q) (h : ¬ nG a 10001 i) : yR q a = false := decide_eq_false fun g => h (g.2 i (by omega))
theorem aml {m : sN} (h : (-2000000 <= m.A /\ m.A <= 2000000) /\ (-2000000 <= m.B /\ m.B <= 2000000) /\ (-2000000 <= m.D /\ m.D <= 2000000) /\ (-2000000 <= m.E /\ m.E <= 2000000)) : (-4000000000000 <= m.A * m.E /\ m.A * m.E <= 4000000000000) /\ (-4000000000000 <= m.B * m.D /\ m.B * m.D <= 4000000000000) := ⟨VJ h.1 h.2.2.2, VJ h.2.1 h.2.2.1⟩
def seqB (a b : aF) : Bool := decide (a.ch = b.ch /\ a.sc = b.sc /\ a.ed = b.ed /\ (a.m.A = b.m.A /\ a.m.B = b.m.B /\ a.m.C = b.m.C /\ a.m.D = b.m.D /\ a.m.E = b.m.E /\ a.m.F = b.m.F /\ a.m.R = b.m.R) /\ a.cap = b.cap) && (rH a.q b.q a.dn b.dn && AY a.n b.n a.f b.f)
theorem aad (x y : Int) : aA Tryz.prog 93 [.one (.g (.int .i64 x)), .one (.g (.int .i64 y))] (.t (.one (.g (.bool (decide (1 <= x /\ x <= y)))))) := by
  refine ak Tryz.func93 rfl (by rw [Tryz.ntmps93]; simp) ?_
  simp only [Tryz.ntmps93, zM, PT.tv, au, Nat.zero_add, Nat.reduceAdd]
  repeat' (first
 | ((with_reducible show AW _ _ _ _); first
 | (with_reducible first | refine aS (fun K hK => ?_) | refine aT ?_)
 | (first
 | (with_reducible first | refine aP 0 [0,1] ?_ | refine aP 1 [0,1] ?_)))
 | (with_reducible refine aK ?_)
 | ((fail_if_success (with_reducible show AW _ _ _ _)); simp (maxSteps := 2000000) only [go_sem, reduceIte, reduceCtorEq, xA, xL, xD, xE, xM, xS, xB, Tryz.f93])
 | ((with_reducible refine hK _ ?_); clear hK K))
  all_goals ((try refine Bool.eq_iff_iff.2 ?_); (simp only [Bool.and_eq_true, Bool.or_eq_true, Bool.not_eq_true', decide_eq_true_eq, decide_eq_false_iff_not, bne_iff_ne, beq_iff_eq, ne_eq, ge_iff_le, gt_iff_lt, cond_eq_ite, iff_self, eq_self]; done))
theorem akx (m : sN) (hm : (-2000000 <= m.A /\ m.A <= 2000000) /\ (-2000000 <= m.B /\ m.B <= 2000000) /\ (-2000000 <= m.D /\ m.D <= 2000000) /\ (-2000000 <= m.E /\ m.E <= 2000000)) : aA Tryz.prog 132 [.agg [.g (.int .i64 m.A), .g (.int .i64 m.B), .g (.int .i64 m.C), .g (.int .i64 m.D), .g (.int .i64 m.E), .g (.int .i64 m.F), .g (.int .i64 m.R)]] (.t (.one (.g (.int .i64 (m.A * m.E - m.B * m.D))))) := by
  have hX := aml hm
  refine ak Tryz.func132 rfl (by rw [Tryz.ntmps132]; simp) ?_
  simp only [Tryz.ntmps132, zM, PT.tv, au, Nat.zero_add, Nat.reduceAdd]
  repeat' (first
 | ((with_reducible show AW _ _ _ _); first
 | (with_reducible first | refine aS (fun K hK => ?_) | refine aT ?_)
 | (first
 | (with_reducible first | refine aP 0 [0] ?_ | refine aP 1 [1] ?_)))
 | (with_reducible refine aK ?_)
 | ((fail_if_success (with_reducible show AW _ _ _ _)); simp (maxSteps := 2000000) only [go_sem, reduceIte, reduceCtorEq, xA, xL, xD, xE, xM, xS, xB, Tryz.f132])
 | ((fail_if_success (with_reducible show AW _ _ _ _)); simp (disch := omega) only [aY, iP, iX])
 | ((with_reducible refine hK _ ?_); clear hK K))
end Go.Proofs.YtcfechepbamhkaaGreat
set_option maxRecDepth 100000
set_option maxHeartbeats 4000000
namespace Go.Proofs.YtcfechepbamhkaaGreat
open Go.RowKit Go.Sea
open Nat renaming reduceAdd -> xA, reduceLT -> xL, reduceLeDiff -> xD, reduceEqDiff -> xE, reduceMul -> xM, reduceSub -> xS, reduceBEq -> xB
theorem Kh : aM Tryz.prog 132 = true := by kernel_rfl
theorem Vk : aM Tryz.prog 152 = true := by kernel_rfl
theorem UM : aM Tryz.prog 153 = true := by kernel_rfl
theorem ajb : fM Tryz.prog 161 = true := by kernel_rfl
theorem ag1 : ixD Tryz.prog 161 = some (4, false, 1) := by kernel_rfl
theorem abD : dF Tryz.prog 35 2 = some 2 := by kernel_rfl
theorem aeg : dF Tryz.prog 35 5 = some 5 := by kernel_rfl
theorem adf : dF Tryz.prog 35 6 = some 6 := by kernel_rfl
theorem Ym : dA Tryz.prog 161 0 = some (0, 1) := by kernel_rfl
theorem XJ : dA Tryz.prog 161 1 = some (1, 1) := by kernel_rfl
theorem aaG : dA Tryz.prog 161 2 = some (2, 1) := by kernel_rfl
theorem WS : dA Tryz.prog 161 3 = some (3, 1) := by kernel_rfl
theorem akN : lD Tryz.prog 35 = some (true, 7) := by kernel_rfl
theorem ajv : fO Tryz.prog 161 = some [.iv (.g (.int .i64 0)), .iv (.g (.int .i64 0)), .iv (.g (.int .i64 0)), .iv (.g (.int .i64 0))] := by kernel_rfl
attribute [go_sem] Kh Vk UM ajb ag1 abD aeg adf Ym XJ aaG WS akN ajv
theorem Ng {n m : Nat} {s t : Nat -> Int} (h : (n : Int) ≠ m) : false = rH n m s t := (decide_eq_false fun g => by omega).symm
theorem MZ {n m : Nat} {s t : Nat -> Int} {i : Nat} (hi : (i : Int) < n) (h : s i ≠ t i) : false = rH n m s t := (decide_eq_false fun g => h (g.2 i (by omega))).symm
theorem M8 {n m : Nat} {s t : Nat -> Int} {i : Nat} (h : (n : Int) = m) (hi : (n : Int) <= i) (g : ∀ j, j < i -> s j = t j) : true = rH n m s t := (decide_eq_true ⟨by omega, fun k hk => g k (by omega)⟩).symm
theorem ahj {n m : Nat} {f g : Nat -> aW} (h : (n : Int) ≠ m) : false = AY n m f g := (decide_eq_false fun e => by omega).symm
theorem ahv {n m : Nat} {f g : Nat -> aW} {i : Nat} (hi : (i : Int) < n) (h : uM (f i) (g i) = false) : false = AY n m f g := (decide_eq_false fun e => by rw [e.2 i (by omega)] at h; cases h).symm
theorem ahB {n m : Nat} {f g : Nat -> aW} {i : Nat} (h : (n : Int) = m) (hi : (n : Int) <= i) (ha : ∀ j, j < i -> uM (f j) (g j) = true) : true = AY n m f g := (decide_eq_true ⟨by omega, fun k hk => ha k (by omega)⟩).symm
def fD (q : Nat) (a : Nat -> Int) (x : Int) : Bool := decide (∃ i, i < q /\ a i = x)
theorem ajJ {m : sN} (h : ¬ MQ m) : false = Tq m := (decide_eq_false h).symm
theorem amj {m : sN} {b : Bool} (h : b = true ↔ MQ m) : b = Tq m := Bool.eq_iff_iff.2 (h.trans (decide_eq_true_iff (p := MQ m)).symm)
def MV (m : sN) (j : Nat) : Int := if j = 0 then m.A else if j = 1 then m.B else if j = 2 then m.D else m.E
def ahm (m : sN) (j : Nat) : Prop := -2000000 <= MV m j /\ MV m j <= 2000000
theorem Od {m : sN} {j : Nat} (h : ∀ j', j' < j -> ahm m j') (hj : 4 <= j) : (-2000000 <= m.A /\ m.A <= 2000000) /\ (-2000000 <= m.B /\ m.B <= 2000000) /\ (-2000000 <= m.D /\ m.D <= 2000000) /\ (-2000000 <= m.E /\ m.E <= 2000000) := by
  have h0 := h 0 (by omega); have h1 := h 1 (by omega); have h2 := h 2 (by omega); have h3 := h 3 (by omega)
  simp only [ahm, MV, if_true, Nat.reduceEqDiff, if_false] at h0 h1 h2 h3
  exact ⟨by simpa using h0, by simpa using h1, by simpa using h2, by simpa using h3⟩
theorem abk {m : sN} {j : Nat} (h : j < 4) : ([.iv (.g (.int .i64 m.A)), .iv (.g (.int .i64 m.B)), .iv (.g (.int .i64 m.D)), .iv (.g (.int .i64 m.E))] : List CV).getD j .any = .iv (.g (.int .i64 (MV m j))) := by
  rcases (by omega : j = 0 \/ j = 1 \/ j = 2 \/ j = 3) with rfl | rfl | rfl | rfl <;> rfl
theorem ain {m : sN} {j : Nat} (h : j < 4) (hc : MV m j < -2000000 \/ MV m j > 2000000) (g : (-2000000 <= m.A /\ m.A <= 2000000) /\ (-2000000 <= m.B /\ m.B <= 2000000) /\ (-2000000 <= m.D /\ m.D <= 2000000) /\ (-2000000 <= m.E /\ m.E <= 2000000)) : False := by
  rcases (by omega : j = 0 \/ j = 1 \/ j = 2 \/ j = 3) with rfl | rfl | rfl | rfl <;> simp [MV] at hc <;> omega
theorem alb {m : sN} (h : ¬ ((-2000000 <= m.A /\ m.A <= 2000000) /\ (-2000000 <= m.B /\ m.B <= 2000000) /\ (-2000000 <= m.D /\ m.D <= 2000000) /\ (-2000000 <= m.E /\ m.E <= 2000000))) : false = Tq m := ajJ fun g => h g.1
theorem anG (n m : Nat) (s t : Nat -> Int) (hn : n <= 9223372036854775807) (hm : m <= 9223372036854775807) : aA Tryz.prog 56 [.one (.lst 1 n (bC s)), .one (.lst 1 m (bC t))] (.t (.one (.g (.bool (rH n m s t))))) := by
  refine ak Tryz.func56 rfl (by rw [Tryz.ntmps56]; simp) ?_
  simp only [Tryz.ntmps56, zM, PT.tv, au, Nat.zero_add, Nat.reduceAdd]
  repeat' (first
 | ((with_reducible show AW _ _ _ _); first
 | (with_reducible first | refine aS (fun K hK => ?_) | refine aI ?_ | refine aX ?_ | refine aT ?_ | refine aC ?_ | refine aB ?_)
 | (first
 | (with_reducible first | refine aP 0 [0,1] ?_ | refine aP 1 [0,1] ?_ | refine aP 2 [] ?_ | refine aP 3 [0,1] ?_ | refine aP 4 [0,1,12,13] ?_ | refine aP 5 [0,1,12,13] ?_)
 | ((with_reducible refine aR (c := Code.region 6 _ true) [0,1,5,12,13] ?_); (with_reducible refine aD ?_ ?_ ?_ ?_); (focus kernel_rfl); (focus kernel_rfl); (focus kernel_rfl))
 | (with_reducible first | refine aP 7 [] ?_ | refine aP 8 [0,1,12,13] ?_ | refine aP 9 [] ?_))
 | ((with_reducible show AW _ (Code.loop _) _ _); first
 | ((with_reducible refine aL (c := (Code.seq (Code.region 4 _ _) _)) (ι := Nat) [0,1,12] (fun i => [(13, iA .i64 (i : Int))]) (fun i => []) (fun i => i <= n /\ (∀ i', i' < i -> s i' = t i')) (fun i => n - i) 0 ?lg4 ?l14 ?l24 ?li4 ?lr4); (case' lg4 => rintro i _); (case' li4 => try (exact ⟨Nat.zero_le _, fun i hi => absurd hi (Nat.not_lt_zero _)⟩)); (case' lr4 => rintro i ⟨hi, hai⟩ KR hR4; simp only [bG, dL, hset, lk, if_true, if_false, xE, reduceIte, zN]))))
 | (((with_reducible refine And.intro ?_ ?_)); focus (omega))
 | (with_reducible refine aK ?_)
 | ((with_reducible show bL _ _ _ _ _ _); first
 | ((with_reducible refine aN ?_ ?_) <;> (intro hc; (try simp only [zB, zC, reduceCtorEq] at hc); (try (exfalso; contradiction)))))
 | ((with_reducible refine And.intro ?_ ?_); focus ((with_reducible show iL _ _ _ = true); kernel_rfl))
 | ((with_reducible refine hR4 _ (i + 1) ?_); (try clear hR4 KR))
 | ((with_reducible refine Told.mk ?_); simp only [go_sem, reduceIte, reduceCtorEq, xA, xL, xD, xE, xM, xS, xB, bC] <;> ((((try simp (disch := omega) only [aY, Int.natCast_add, Int.cast_ofNat_Int, and_true, true_and, and_self]); (repeat' (first | omega | (with_reducible refine And.intro ?_ ?_) | (exact all_succ (by assumption) (by assumption)) )); done))))
 | ((fail_if_success (with_reducible show AW _ _ _ _)); simp (maxSteps := 2000000) only [go_sem, reduceIte, reduceCtorEq, xA, xL, xD, xE, xM, xS, xB, Tryz.f56, bC])
 | ((with_reducible refine hK _ ?_); clear hK K)
 | (with_reducible apply_assumption -exfalso only [*]))
  all_goals first | exact Ng (by assumption) | exact MZ (by assumption) hc | exact M8 (by omega) (by assumption) hai | skip
theorem afD (n m : Nat) (s t : Nat -> Int) (hn : n <= 9223372036854775807) (hm : m <= 9223372036854775807) : aA Tryz.prog 65 [.one (.lst 1 n (bC s)), .one (.lst 1 m (bC t))] (.t (.one (.g (.bool (rH n m s t))))) := by
  refine ak Tryz.func65 rfl (by rw [Tryz.ntmps65]; simp) ?_
  simp only [Tryz.ntmps65, zM, PT.tv, au, Nat.zero_add, Nat.reduceAdd]
  repeat' (first
 | ((with_reducible show AW _ _ _ _); first
 | (with_reducible first | refine aS (fun K hK => ?_) | refine aI ?_ | refine aX ?_ | refine aT ?_ | refine aC ?_ | refine aB ?_)
 | (first
 | (with_reducible first | refine aP 0 [0,1] ?_ | refine aP 1 [0,1] ?_ | refine aP 2 [] ?_ | refine aP 3 [0,1] ?_ | refine aP 4 [0,1,5] ?_ | refine aP 5 [0,1,5] ?_)
 | ((with_reducible refine aR (c := Code.region 6 _ true) [0,1,5] ?_); (with_reducible refine aD ?_ ?_ ?_ ?_); (focus kernel_rfl); (focus kernel_rfl); (focus kernel_rfl))
 | (with_reducible first | refine aP 7 [] ?_ | refine aP 8 [] ?_))
 | ((with_reducible show AW _ (Code.loop _) _ _); first
 | ((with_reducible refine aL (c := (Code.seq (Code.seq (Code.region 4 _ _) _) _)) (ι := Nat) [0,1] (fun i => [(5, iA .i64 (i : Int))]) (fun i => []) (fun i => i <= n /\ (∀ i', i' < i -> s i' = t i')) (fun i => n - i) 0 ?lg4 ?l14 ?l24 ?li4 ?lr4); (case' lg4 => rintro i _); (case' li4 => try (exact ⟨Nat.zero_le _, fun i hi => absurd hi (Nat.not_lt_zero _)⟩)); (case' lr4 => rintro i ⟨hi, hai⟩ KR hR4; simp only [bG, dL, hset, lk, if_true, if_false, xE, reduceIte, zN]))))
 | (((with_reducible refine And.intro ?_ ?_)); focus (omega))
 | (with_reducible refine aK ?_)
 | ((with_reducible show bL _ _ _ _ _ _); first
 | ((with_reducible refine aN ?_ ?_) <;> (intro hc; (try simp only [zB, zC, reduceCtorEq] at hc); (try (exfalso; contradiction)))))
 | ((with_reducible refine And.intro ?_ ?_); focus ((with_reducible show iL _ _ _ = true); kernel_rfl))
 | ((with_reducible refine hR4 _ (i + 1) ?_); (try clear hR4 KR))
 | ((with_reducible refine Told.mk ?_); simp only [go_sem, reduceIte, reduceCtorEq, xA, xL, xD, xE, xM, xS, xB, bC] <;> ((((try simp (disch := omega) only [aY, Int.natCast_add, Int.cast_ofNat_Int, and_true, true_and, and_self]); (repeat' (first | omega | (with_reducible refine And.intro ?_ ?_) | (exact all_succ (by assumption) (by assumption)) )); done))))
 | ((fail_if_success (with_reducible show AW _ _ _ _)); simp (maxSteps := 2000000) only [go_sem, reduceIte, reduceCtorEq, xA, xL, xD, xE, xM, xS, xB, Tryz.f65, bC])
 | ((with_reducible refine hK _ ?_); clear hK K)
 | (with_reducible apply_assumption -exfalso only [*]))
  all_goals first | exact Ng (by assumption) | exact MZ (by assumption) hc | exact M8 (by omega) (by assumption) hai | skip
theorem YI (n m : Nat) (s t : Nat -> Int) (hn : n <= 9223372036854775807) (hm : m <= 9223372036854775807) : aA Tryz.prog 31 [.one (.lst 1 n (bC s)), .one (.lst 1 m (bC t))] (.t (.one (.g (.bool (rH n m s t))))) := by
  refine ak Tryz.func31 rfl (by rw [Tryz.ntmps31]; simp) ?_
  simp only [Tryz.ntmps31, zM, PT.tv, au, Nat.zero_add, Nat.reduceAdd]
  repeat' (first
 | ((with_reducible show AW _ _ _ _); first
 | (with_reducible first | refine aS (fun K hK => ?_) | refine aI ?_ | refine aX ?_ | refine aT ?_ | refine aC ?_ | refine aB ?_)
 | (first
 | (with_reducible first | refine aP 0 [0,1] ?_ | refine aP 1 [0,1] ?_ | refine aP 2 [] ?_ | refine aP 3 [0,1] ?_ | refine aP 4 [0,1,5] ?_ | refine aP 5 [0,1,5] ?_)
 | ((with_reducible refine aR (c := Code.region 6 _ true) [0,1,5] ?_); (with_reducible refine aD ?_ ?_ ?_ ?_); (focus kernel_rfl); (focus kernel_rfl); (focus kernel_rfl))
 | (with_reducible first | refine aP 7 [] ?_ | refine aP 8 [] ?_))
 | ((with_reducible show AW _ (Code.loop _) _ _); first
 | ((with_reducible refine aL (c := (Code.seq (Code.seq (Code.region 4 _ _) _) _)) (ι := Nat) [0,1] (fun i => [(5, iA .i64 (i : Int))]) (fun i => []) (fun i => i <= n /\ (∀ i', i' < i -> s i' = t i')) (fun i => n - i) 0 ?lg4 ?l14 ?l24 ?li4 ?lr4); (case' lg4 => rintro i _); (case' li4 => try (exact ⟨Nat.zero_le _, fun i hi => absurd hi (Nat.not_lt_zero _)⟩)); (case' lr4 => rintro i ⟨hi, hai⟩ KR hR4; simp only [bG, dL, hset, lk, if_true, if_false, xE, reduceIte, zN]))))
 | (((with_reducible refine And.intro ?_ ?_)); focus (omega))
 | (with_reducible refine aK ?_)
 | ((with_reducible show bL _ _ _ _ _ _); first
 | ((with_reducible refine aN ?_ ?_) <;> (intro hc; (try simp only [zB, zC, reduceCtorEq] at hc); (try (exfalso; contradiction)))))
 | ((with_reducible refine And.intro ?_ ?_); focus ((with_reducible show iL _ _ _ = true); kernel_rfl))
 | ((with_reducible refine hR4 _ (i + 1) ?_); (try clear hR4 KR))
 | ((with_reducible refine Told.mk ?_); simp only [go_sem, reduceIte, reduceCtorEq, xA, xL, xD, xE, xM, xS, xB, bC] <;> ((((try simp (disch := omega) only [aY, Int.natCast_add, Int.cast_ofNat_Int, and_true, true_and, and_self]); (repeat' (first | omega | (with_reducible refine And.intro ?_ ?_) | (exact all_succ (by assumption) (by assumption)) )); done))))
 | ((fail_if_success (with_reducible show AW _ _ _ _)); simp (maxSteps := 2000000) only [go_sem, reduceIte, reduceCtorEq, xA, xL, xD, xE, xM, xS, xB, Tryz.f31, bC])
 | ((with_reducible refine hK _ ?_); clear hK K)
 | (with_reducible apply_assumption -exfalso only [*]))
  all_goals first | exact Ng (by assumption) | exact MZ (by assumption) hc | exact M8 (by omega) (by assumption) hai | skip
theorem OO (n m : Nat) (f g : Nat -> aW) (hn : n <= 9223372036854775807) (hm : m <= 9223372036854775807) (hf : ∀ i, i < n -> (f i).Ok) (hg : ∀ i, i < m -> (g i).Ok) : aA Tryz.prog 23 [.one (.lst 9 n (dN f)), .one (.lst 9 m (dN g))] (.t (.one (.g (.bool (AY n m f g))))) := by
  refine ak Tryz.func23 rfl (by rw [Tryz.ntmps23]; simp) ?_
  simp only [Tryz.ntmps23, zM, PT.tv, au, Nat.zero_add, Nat.reduceAdd]
  repeat' (first
 | ((with_reducible show AW _ _ _ _); first
 | (with_reducible first | refine aS (fun K hK => ?_) | refine aI ?_ | refine aX ?_ | refine aT ?_ | refine aC ?_ | refine aB ?_)
 | (first
 | (with_reducible first | refine aP 0 [0,1] ?_ | refine aP 1 [0,1] ?_ | refine aP 2 [] ?_ | refine aP 3 [0,1] ?_ | refine aP 4 [0,1,5] ?_ | refine aP 5 [0,1,5] ?_)
 | ((with_reducible refine aR (c := Code.region 6 _ true) [0,1,5] ?_); (with_reducible refine aD ?_ ?_ ?_ ?_); (focus kernel_rfl); (focus kernel_rfl); (focus kernel_rfl))
 | (with_reducible first | refine aP 7 [] ?_ | refine aP 8 [] ?_))
 | ((with_reducible show AW _ (Code.loop _) _ _); first
 | ((with_reducible refine aL (c := (Code.seq (Code.seq (Code.region 4 _ _) _) _)) (ι := Nat) [0,1] (fun i => [(5, iA .i64 (i : Int))]) (fun i => []) (fun i => i <= n /\ (∀ i', i' < i -> uM (f i') (g i') = true)) (fun i => n - i) 0 ?lg4 ?l14 ?l24 ?li4 ?lr4); (case' lg4 => rintro i _); (case' li4 => try (exact ⟨Nat.zero_le _, fun i hi => absurd hi (Nat.not_lt_zero _)⟩)); (case' lr4 => rintro i ⟨hi, hai⟩ KR hR4; simp only [bG, dL, hset, lk, if_true, if_false, xE, reduceIte, zN]))))
 | ((first | (with_reducible refine And.intro ?_ ?_) | (with_reducible refine Need.mk ?_)); focus (first | exact True.intro | omega))
 | (with_reducible refine aK ?_)
 | ((with_reducible show bL _ _ _ _ _ _); first
 | ((with_reducible refine aN ?_ ?_) <;> (intro hc; (try simp only [zB, zC, reduceCtorEq] at hc); (try (exfalso; contradiction)))))
 | ((with_reducible refine And.intro ?_ ?_); focus ((with_reducible show iL _ _ _ = true); kernel_rfl))
 | ((with_reducible show eP _ _ _ _ _ _ _ _ _ _ _ _ _); first
 | (refine bR (k := 64) P9 (aau (f i) (g i) (hf i (by omega)) (hg i (by omega))) ?_ ?_))
 | ((with_reducible refine hR4 _ (i + 1) ?_); (try clear hR4 KR))
 | ((with_reducible refine Told.mk ?_); simp only [go_sem, reduceIte, reduceCtorEq, xA, xL, xD, xE, xM, xS, xB] <;> ((((try simp (disch := omega) only [aY, Int.natCast_add, Int.cast_ofNat_Int, and_true, true_and, and_self]); (repeat' (first | omega | (with_reducible refine And.intro ?_ ?_) | (exact all_succ (by assumption) (by assumption)) )); done))))
 | ((fail_if_success (with_reducible show AW _ _ _ _)); simp (maxSteps := 2000000) only [go_sem, reduceIte, reduceCtorEq, xA, xL, xD, xE, xM, xS, xB, Tryz.f23])
 | ((with_reducible refine hK _ ?_); clear hK K)
 | (with_reducible apply_assumption -exfalso only [*]))
  all_goals first | exact ahj (by assumption) | exact ahv (by assumption) hc | exact ahB (by omega) (by assumption) hai | skip
theorem aku (m : sN) : aA Tryz.prog 94 [.agg [.g (.int .i64 m.A), .g (.int .i64 m.B), .g (.int .i64 m.C), .g (.int .i64 m.D), .g (.int .i64 m.E), .g (.int .i64 m.F), .g (.int .i64 m.R)]] (.t (.one (.g (.bool (Tq m))))) := by
  have hdg : True := trivial
  refine ak Tryz.func94 rfl (by rw [Tryz.ntmps94]; simp) ?_
  simp only [Tryz.ntmps94, zM, PT.tv, au, Nat.zero_add, Nat.reduceAdd]
  repeat' (first
 | ((with_reducible show AW _ _ _ _); first
 | (with_reducible first | refine aS (fun K hK => ?_) | refine aI ?_ | refine aX ?_ | refine aT ?_ | refine aC ?_ | refine aB ?_)
 | (first
 | (with_reducible first | refine aP 0 [0] ?_ | refine aP 1 [1] ?_ | refine aP 2 [1,13,14] ?_ | refine aP 3 [1,13,14] ?_ | refine aP 4 [1,4,13,14] ?_ | refine aP 5 [] ?_ | refine aP 6 [1,13,14] ?_ | refine aP 7 [1] ?_))
 | ((with_reducible show AW _ (Code.loop _) _ _); first
 | ((with_reducible refine aL (c := (Code.seq (Code.region 2 _ _) _)) (ι := Nat) [1,13] (fun j => [(14, iA .i64 (j : Int))]) (fun j => []) (fun j => j <= 4 /\ (∀ j', j' < j -> ahm m j')) (fun j => 4 - j) 0 ?lg2 ?l12 ?l22 ?li2 ?lr2); (case' lg2 => rintro j _); (case' li2 => try (exact ⟨Nat.zero_le _, fun i hi => absurd hi (Nat.not_lt_zero _)⟩)); (case' lr2 => rintro j ⟨hj, haj⟩ KR hR2; simp only [bG, dL, hset, lk, if_true, if_false, xE, reduceIte, zN, hdg]))))
 | ((first | (with_reducible refine And.intro ?_ ?_) | (with_reducible refine Need.mk ?_)); focus (first | exact True.intro | omega | (simp; done)))
 | (with_reducible refine aK ?_)
 | ((with_reducible show bL _ _ _ _ _ _); first
 | ((with_reducible refine aN ?_ ?_) <;> (intro hc; (try simp only [zB, zC, reduceCtorEq] at hc); ((try (clear hdg; have hdg := abk (m := m) (j := j) (by omega)))); (try (exfalso; contradiction)))))
 | ((with_reducible show aZ _ _ _ _ _ _ _ _ _ _); first
 | (refine aG (k := 132) Kh (akx m (Od haj (by omega))) ?_ ?_))
 | ((with_reducible refine hR2 _ (j + 1) ?_); (try clear hR2 KR))
 | ((with_reducible refine Told.mk ?_); simp only [go_sem, reduceIte, reduceCtorEq, xA, xL, xD, xE, xM, xS, xB, hdg] <;> ((((try simp (disch := omega) only [aY, Int.natCast_add, Int.cast_ofNat_Int, and_true, true_and, and_self]); (repeat' (first | omega | (with_reducible refine And.intro ?_ ?_) | (exact all_succ (by assumption) (by assumption)) )); done))))
 | ((fail_if_success (with_reducible show AW _ _ _ _)); simp (maxSteps := 2000000) only [go_sem, reduceIte, reduceCtorEq, xA, xL, xD, xE, xM, xS, xB, Tryz.f94, hdg])
 | ((with_reducible refine hK _ ?_); clear hK K)
 | (with_reducible apply_assumption -exfalso only [*]))
  all_goals (first | (exact alb fun g => by have := g; exact ain (by omega) hc g) | (have h4 := Od haj (by omega); refine amj ?_; simp only [Bool.and_eq_true, decide_eq_true_eq]; unfold MQ; exact ⟨fun h => by omega, fun h => by omega⟩))
end Go.Proofs.YtcfechepbamhkaaGreat
set_option maxRecDepth 100000
set_option maxHeartbeats 4000000
namespace Go.Proofs.YtcfechepbamhkaaGreat
open Go.RowKit Go.Sea
open Nat renaming reduceAdd -> xA, reduceLT -> xL, reduceLeDiff -> xD, reduceEqDiff -> xE, reduceMul -> xM, reduceSub -> xS, reduceBEq -> xB
theorem alr : boD Tryz.prog 35 = false := by kernel_rfl
theorem ane : eqD Tryz.prog 35 = some (true, [.int .i64, .int .i64, .int .i64, .int .i64, .int .i64, .int .i64, .int .i64]) := by kernel_rfl
theorem Pv : aM Tryz.prog 65 = true := by kernel_rfl
theorem vE : aM Tryz.prog 23 = true := by kernel_rfl
theorem Oy : aM Tryz.prog 93 = true := by kernel_rfl
theorem P5 : aM Tryz.prog 94 = true := by kernel_rfl
theorem NY : aM Tryz.prog 56 = true := by kernel_rfl
theorem Yh : aM Tryz.prog 114 = true := by kernel_rfl
theorem ZI : aM Tryz.prog 115 = true := by kernel_rfl
theorem WW : aM Tryz.prog 116 = true := by kernel_rfl
theorem acK : dF Tryz.prog 39 0 = some 0 := by kernel_rfl
theorem adU : dF Tryz.prog 39 1 = some 1 := by kernel_rfl
theorem afw : dF Tryz.prog 39 2 = some 2 := by kernel_rfl
theorem adj : dF Tryz.prog 39 3 = some 3 := by kernel_rfl
theorem ac0 : dF Tryz.prog 39 4 = some 10 := by kernel_rfl
theorem abY : dF Tryz.prog 39 5 = some 11 := by kernel_rfl
theorem acw : dF Tryz.prog 39 6 = some 12 := by kernel_rfl
theorem akR : lD Tryz.prog 37 = some (false, 1) := by kernel_rfl
attribute [go_sem] alr ane Pv vE Oy P5 rE NY Yh ZI WW acK adU afw adj ac0 abY acw akR
def lsI (a : Nat -> Int) (i : Nat) : Int := if i = 0 then 0 else a (i - 1)
theorem aar (a : Nat -> Int) (i : Nat) : lsI a (i + 1) = a i := by simp [lsI]
theorem aj5 {a : Nat -> Int} {i : Nat} (h : lsI a i < a i /\ a i <= 10000) (g : ∀ i', i' < i -> nG a 10001 i') : nG a 10001 i := by
  obtain ⟨h1, h2⟩ := h
  unfold lsI at h1
  by_cases h0 : i = 0
  · rw [if_pos h0] at h1; exact ⟨by omega, by omega, fun h => by omega⟩
  · rw [if_neg h0] at h1
    have := (g (i - 1) (by omega)).1
    exact ⟨by omega, by omega, fun h => by omega⟩
theorem abC {q : Nat} {a : Nat -> Int} {i : Nat} (hi : (i : Int) < q) (h : a i <= lsI a i \/ a i > 10000) : yR q a = false := aha hi fun g => by
  have g1 := g.1; have g2 := g.2.1
  unfold lsI at h
  by_cases h0 : i = 0
  · rw [if_pos h0] at h; omega
  · rw [if_neg h0] at h; have := g.2.2 (by omega); omega
theorem alF {s : aF} (h : yR s.q s.dn = false) : false = dW s := by unfold dW; rw [h]; rfl
theorem anm {s : aF} {b : Bool} (h : b = true ↔ (yR s.q s.dn = true /\ ((1 <= s.ch /\ s.ch <= 1000) /\ (1 <= s.sc /\ s.sc <= 1000) /\ (1 <= s.ed /\ s.ed <= 1000) /\ (1 <= s.cap /\ s.cap <= 100000)) /\ Tq s.m = true /\ oz s.n s.f = true)) : b = dW s := by
  refine Bool.eq_iff_iff.2 (h.trans ?_)
  unfold dW
  simp only [Bool.and_eq_true, decide_eq_true_eq, and_assoc]
theorem ah1 {q : Nat} {a : Nat -> Int} {i : Nat} (hi : (q : Int) <= i) (g : ∀ i', i' < i -> nG a 10001 i') : yR q a = true ↔ (q : Int) <= 200 := by rw [<- aje hi g]; exact decide_eq_true_iff
theorem alM {a b : aF} {c : Bool} (h : c = true ↔ ((a.ch = b.ch /\ a.sc = b.sc /\ a.ed = b.ed /\ (a.m.A = b.m.A /\ a.m.B = b.m.B /\ a.m.C = b.m.C /\ a.m.D = b.m.D /\ a.m.E = b.m.E /\ a.m.F = b.m.F /\ a.m.R = b.m.R) /\ a.cap = b.cap) /\ rH a.q b.q a.dn b.dn = true /\ AY a.n b.n a.f b.f = true)) : c = seqB a b := by
  refine Bool.eq_iff_iff.2 (h.trans ?_)
  unfold seqB
  simp only [Bool.and_eq_true, decide_eq_true_eq, and_assoc]
theorem iE (s : aF) (ho : s.Ok) : aA Tryz.prog 48 [(lY s)] (.t (.one (.g (.bool (dW s))))) := by
  have hq := ho.q
  have hn := ho.n
  refine ak Tryz.func48 rfl (by rw [Tryz.ntmps48]; simp) ?_
  simp only [lY, Tryz.ntmps48, zM, PT.tv, au, Nat.zero_add, Nat.reduceAdd]
  repeat' (first
 | ((with_reducible show AW _ _ _ _); first
 | (with_reducible first | refine aS (fun K hK => ?_) | refine aI ?_ | refine aX ?_ | refine aT ?_ | refine aC ?_ | refine aB ?_)
 | (first
 | (with_reducible first | refine aP 0 [0] ?_ | refine aP 1 [1] ?_ | refine aP 2 [1,3] ?_ | refine aP 3 [1,3,7,8,9] ?_ | refine aP 4 [1,3,7,8,9] ?_ | refine aP 5 [1,3,5,7,8,9] ?_ | refine aP 6 [] ?_ | refine aP 7 [1,5,7,8,9] ?_ | refine aP 8 [1,3,7,8,9] ?_ | refine aP 9 [1] ?_))
 | ((with_reducible show AW _ (Code.loop _) _ _); first
 | ((with_reducible refine aL (c := (Code.seq (Code.region 3 _ _) _)) (ι := Nat) [1,7,8] (fun i => [(3, iA .i64 (lsI s.dn i)), (9, iA .i64 (i : Int))]) (fun i => []) (fun i => i <= s.q /\ (∀ i', i' < i -> nG s.dn 10001 i')) (fun i => s.q - i) 0 ?lg3 ?l13 ?l23 ?li3 ?lr3); (case' lg3 => rintro i _); (case' li3 => try (exact ⟨Nat.zero_le _, fun i hi => absurd hi (Nat.not_lt_zero _)⟩)); (case' lr3 => rintro i ⟨hi, hai⟩ KR hR3; simp only [bG, dL, hset, lk, if_true, if_false, xE, reduceIte, zN, aar]))))
 | ((first | (with_reducible refine And.intro ?_ ?_) | (with_reducible refine Need.mk ?_)); focus (first | omega | (intro _; (with_reducible assumption)) | (simp; done)))
 | (with_reducible refine aK ?_)
 | ((with_reducible show bL _ _ _ _ _ _); first
 | ((with_reducible refine aN ?_ ?_) <;> (intro hc; (try simp only [zB, zC, reduceCtorEq] at hc); (try (exfalso; contradiction)))))
 | ((with_reducible show bM _ _ _ _ _ _ _ _ _ _); first
 | (refine aV (k := 93) Oy (fun hg => aad _ _) ?_ ?_)
 | (refine aV (k := 94) P5 (fun hg => aku s.m) ?_ ?_)
 | (refine aV (k := 95) rE (fun hg => Ap _ _ ho.n ho.f) ?_ ?_))
 | ((with_reducible refine hR3 _ (i + 1) ?_); (try clear hR3 KR))
 | ((with_reducible refine Told.mk ?_); simp only [go_sem, reduceIte, reduceCtorEq, xA, xL, xD, xE, xM, xS, xB, aar, bC] <;> ((((try simp (disch := omega) only [aY, Int.natCast_add, Int.cast_ofNat_Int, and_true, true_and, and_self]); (repeat' (first | omega | rfl | (with_reducible refine And.intro ?_ ?_) | ((exact all_succ (by assumption) (aj5 hc hai))))); done))))
 | ((fail_if_success (with_reducible show AW _ _ _ _)); simp (maxSteps := 2000000) only [go_sem, reduceIte, reduceCtorEq, xA, xL, xD, xE, xM, xS, xB, Tryz.f48, aar, bC])
 | ((with_reducible refine hK _ ?_); clear hK K)
 | (with_reducible apply_assumption -exfalso only [*]))
  all_goals (first | (exact alF (abC (by assumption) hc)) | (refine anm ?_; (try rw [ah1 (by assumption) hai]); simp only [Bool.and_eq_true, decide_eq_true_eq, reduceCtorEq, false_iff]; exact ⟨fun h => by (repeat' (with_reducible refine And.intro ?_ ?_)) <;> first | omega | (simp only [h]; done), fun h => by (repeat' (with_reducible refine And.intro ?_ ?_)) <;> first | omega | (simp only [h]; done)⟩))
theorem Pk (a b : aF) (ho : a.Ok) (ho2 : b.Ok) : aA Tryz.prog 24 [(lY a), (lY b)] (.t (.one (.g (.bool (seqB a b))))) := by
  refine ak Tryz.func24 rfl (by rw [Tryz.ntmps24]; simp) ?_
  simp only [lY, Tryz.ntmps24, zM, PT.tv, au, Nat.zero_add, Nat.reduceAdd]
  repeat' (first
 | ((with_reducible show AW _ _ _ _); first
 | (with_reducible first | refine aS (fun K hK => ?_) | refine aT ?_)
 | (first
 | (with_reducible first | refine aP 0 [0,1] ?_ | refine aP 1 [2,3] ?_ | refine aP 2 [2,3,5] ?_ | refine aP 3 [2,3,5,6] ?_)))
 | (((with_reducible refine Need.mk ?_)); focus (exact True.intro))
 | (with_reducible refine aK ?_)
 | ((with_reducible show aZ _ _ _ _ _ _ _ _ _ _); first
 | (refine aG (k := 65) Pv (afD _ _ _ _ ho.q ho2.q) ?_ ?_)
 | (refine aG (k := 23) vE (OO _ _ _ _ ho.n ho2.n ho.f ho2.f) ?_ ?_))
 | ((fail_if_success (with_reducible show AW _ _ _ _)); simp (maxSteps := 2000000) only [go_sem, reduceIte, reduceCtorEq, xA, xL, xD, xE, xM, xS, xB, Tryz.f24, Go.Sea.oK])
 | ((with_reducible refine hK _ ?_); clear hK K))
  all_goals ((refine alM ?_; simp only [Bool.and_eq_true, decide_eq_true_eq, reduceCtorEq, false_iff, beq_iff_eq]; exact ⟨fun h => by simp only [h, and_self], fun h => by simp only [h, and_self]⟩))
end Go.Proofs.YtcfechepbamhkaaGreat
set_option maxRecDepth 100000
set_option maxHeartbeats 4000000
namespace Go.Proofs.YtcfechepbamhkaaGreat
open Go.RowKit Go.Sea
open Nat renaming reduceAdd -> xA, reduceLT -> xL, reduceLeDiff -> xD, reduceEqDiff -> xE, reduceMul -> xM, reduceSub -> xS, reduceBEq -> xB
theorem X9 : aM Tryz.prog 126 = true := by kernel_rfl
theorem U9 : aM Tryz.prog 127 = true := by kernel_rfl
attribute [go_sem] X9 U9
theorem Ar (c : Nat -> IV) : ∀ n k, (iH c n k).length = n
  | 0, _ => rfl
  | n + 1, k => by simp [iH, Ar c n (k + 1)]
theorem Ph (c : Nat -> IV) : ∀ n k o, o < n -> (iH c n k)[o]? = some (.iv (c (k + o)))
  | n + 1, k, 0, _ => by simp [iH]
  | n + 1, k, o + 1, h => by
    simp only [iH, List.getElem?_cons_succ]
    rw [Ph c n (k + 1) o (by omega), show k + 1 + o = k + (o + 1) by omega]
theorem pW (f : Nat -> Nat -> IV) (E : Nat) : ∀ n k i o, i < n -> o < E -> (eO f E n k)[i * E + o]? = some (.iv (f (k + i) o))
  | n + 1, k, 0, o, _, ho => by
    simp only [eO, Nat.zero_mul, Nat.zero_add]
    rw [List.getElem?_append_left (by rw [Ar]; exact ho), Ph _ _ _ _ ho, Nat.zero_add]; rfl
  | n + 1, k, i + 1, o, h, ho => by
    simp only [eO]
    rw [show (i + 1) * E + o = E + (i * E + o) by rw [Nat.add_mul]; omega, List.getElem?_append_right (by rw [Ar]; omega), Ar, Nat.add_sub_cancel_left, pW f E n (k + 1) i o (by omega) ho, show k + 1 + i = k + (i + 1) by omega]
theorem Y2 (c : Nat -> IV) : ∀ n k x, x ∈ iH c n k -> j4 x
  | 0, _, x, h => by simp [iH] at h
  | n + 1, k, x, h => by
    simp only [iH, List.mem_cons] at h
    rcases h with rfl | h
    · trivial
    · exact Y2 c n (k + 1) x h
theorem FK (f : Nat -> Nat -> IV) (E : Nat) : ∀ n k x, x ∈ eO f E n k -> j4 x
  | 0, _, x, h => by simp [eO] at h
  | n + 1, k, x, h => by
    simp only [eO, List.mem_append] at h
    rcases h with h | h
    · exact Y2 _ _ _ x h
    · exact FK f E n (k + 1) x h
end Go.Proofs.YtcfechepbamhkaaGreat
set_option maxRecDepth 100000
set_option maxHeartbeats 4000000
namespace Go.Proofs.YtcfechepbamhkaaGreat
open Go.RowKit Go.Sea
open Nat renaming reduceAdd -> xA, reduceLT -> xL, reduceLeDiff -> xD, reduceEqDiff -> xE, reduceMul -> xM, reduceSub -> xS, reduceBEq -> xB
theorem UD : aM Tryz.prog 117 = true := by kernel_rfl
theorem WC : aM Tryz.prog 118 = true := by kernel_rfl
attribute [go_sem] Kv UD WC
end Go.Proofs.YtcfechepbamhkaaGreat
namespace Go.Proofs
open Go.Shelf
def Tryz.Ey : Go.Shelf.Ren := ⟨fun | 21 => 101 | 27 => 139 | 28 => 140 | 35 => 173 | 39 => 206 | n => n, fun | 22 => 36 | 3 => 3 | 4 => 4 | 0 => 0 | n => n, fun | n => n⟩
theorem Tryz.nX : Go.Proofs.Lays2.n21 Tryz.prog Tryz.Ey := {
  mixed := by kernel_rfl
  f21 := Tryz.func101.trans (congrArg some (by kernel_rfl))
  f27 := Tryz.func139.trans (congrArg some (by kernel_rfl))
  f28 := Tryz.func140.trans (congrArg some (by kernel_rfl))
  f35 := Tryz.func173.trans (congrArg some (by kernel_rfl))
  f39 := Tryz.func206.trans (congrArg some (by kernel_rfl))
  t0 := Tryz.underlying0
  a0 := Tryz.isAgg0
  z0 := Tryz.sizeOf0
  v0 := Tryz.zeroValue0
  t3 := Tryz.underlying3
  a3 := Tryz.isAgg3
  z3 := Tryz.sizeOf3
  v3 := Tryz.zeroValue3
  t4 := Tryz.underlying4
  a4 := Tryz.isAgg4
  z4 := Tryz.sizeOf4
  v4 := Tryz.zeroValue4
  t22 := Tryz.underlying36
  a22 := Tryz.isAgg36
  z22 := Tryz.sizeOf36
  v22 := Tryz.zeroValue36
  i3 := by kernel_rfl }
end Go.Proofs
