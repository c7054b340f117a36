/- Part 9 of 17: contracts of functions and plain laws for the root text. No condition. -/
import Derived.Test.YtcfechepbamhkaaGreatZ01
import Derived.Test.YtcfechepbamhkaaGreatZ02
import Derived.Test.YtcfechepbamhkaaGreatZ03
import Derived.Test.YtcfechepbamhkaaGreatZ04
import Derived.Test.YtcfechepbamhkaaGreatZ05
import Derived.Test.YtcfechepbamhkaaGreatZ06
import Derived.Test.YtcfechepbamhkaaGreatZ07
import Derived.Test.YtcfechepbamhkaaGreatZ08
import Derived.Ground.Names2Prog
import Derived.Shelf.Spec.SlicesInsert
import Derived.Shelf.Spec.SlicesInsertGrow
import Derived.Test.YtcfechepbamhkaaGreatProg
set_option linter.unusedVariables false
set_option linter.unusedSimpArgs false
namespace Go.Proofs.YtcfechepbamhkaaGreat
open Go.RowKit Go.Sea
def j3 (b : Nat -> Bool) : Nat -> Nat
  | 0 => 0
  | k + 1 => if j3 b k < k then j3 b k else if b k = true then k else k + 1
theorem qJ (b : Nat -> Bool) : ∀ k, j3 b k <= k
  | 0 => Nat.le_refl _
  | k + 1 => by
    have := qJ b k
    simp only [j3]; repeat' split
    all_goals omega
theorem sF {b : Nat -> Bool} : ∀ k, (∀ j, j < k -> b j = false) -> j3 b k = k
  | 0, _ => rfl
  | k + 1, h => by
    have h1 := sF k fun j hj => h j (by omega)
    have h2 := h k (by omega)
    simp only [j3]
    rw [if_neg (by omega), if_neg (by rw [h2]; simp)]
theorem lC {b : Nat -> Bool} {i : Nat} (h : b i = true) (g : ∀ j, j < i -> b j = false) : ∀ k, i < k -> j3 b k = i
  | 0, hk => by omega
  | k + 1, hk => by
    simp only [j3]
    by_cases hi : i < k
    · have h1 := lC h g k hi
      rw [h1, if_pos hi]
    · have e : i = k := by omega
      subst e
      rw [sF i g, if_neg (by omega), if_pos h]
def Ld (f : aZ) : PT := .agg [.g (.int .i64 f.id), .g (.int .i64 f.kd), .g (.int .i64 f.x), .g (.int .i64 f.y), .g (.int .i64 f.r), .lst 2 f.n (eO f.P), .g (.int .i64 f.d), .g (.int .i64 f.s), .lst 6 f.m (eO f.S)]
def fO (L : List aZ) (k : Int) : Option PT := (idx L k).map Ld
theorem fQ : fO [] = fun _ => none := rfl
theorem OY {L : List aZ} (h : vw L) (f : aZ) : jK (fO L) f.id (Ld f) = fO (nG L f) := by
  funext k
  unfold jK fO
  rw [O6 h]
  by_cases hk : k = f.id
  · rw [if_pos hk, if_pos hk]; rfl
  · rw [if_neg hk, if_neg hk]
theorem abf {L : List aZ} (h : vw L) (c : Int) : uZ (fO L) c = fO (oK L c) := by
  funext k
  unfold uZ fO
  rw [zA h]
  by_cases hk : k = c
  · rw [if_pos hk, if_pos hk]; rfl
  · rw [if_neg hk, if_neg hk]
theorem acG {L : List aZ} (h : vw L) {f : aZ} {k : Int} (hk : f.id = k) : jK (fO L) k (Ld f) = fO (nG (oK L k) f) := by
  subst hk
  funext j
  unfold jK fO
  rw [O6 (zP h _), zA h]
  by_cases hj : j = f.id
  · rw [if_pos hj, if_pos hj]; rfl
  · rw [if_neg hj, if_neg hj, if_neg hj]
theorem afM {L : List aZ} {f : aZ} (hf : idx L f.id = none) : lD L.length (fO L) f.id = (nG L f).length := by
  unfold lD fO
  rw [hf, zY hf]; rfl
theorem ak7 {L : List aZ} (h : vw L) {k : Int} {f : aZ} (hf : idx L k = some f) : yC L.length (fO L) k = (oK L k).length := by
  have := Gd h hf
  unfold yC fO
  rw [hf]
  show L.length - 1 = _
  omega
theorem akL {L : List aZ} (h : vw L) {k : Int} {f g : aZ} (hf : idx L k = some f) (hk : g.id = k) : lD L.length (fO L) k = (nG (oK L k) g).length := by
  have h1 := Gd h hf
  have h2 : idx (oK L k) g.id = none := by rw [zA h, if_pos hk]
  rw [zY h2]
  unfold lD fO
  rw [hf]
  show L.length = _
  omega
theorem UU {L : List aZ} {f : aZ} (h : ∀ g, g ∈ L -> g.id < f.id) : nG L f = L ++ [f] := by
  unfold nG
  rw [List.filter_eq_self.2 fun g hg => by simpa using h g hg, List.filter_eq_nil_iff.2 fun g hg => by have := h g hg; simp; omega]
def LF (f : Nat -> aZ) (k : Nat) : List aZ := (List.range k).map f
theorem q8 (f : Nat -> aZ) : LF f 0 = [] := rfl
theorem alf (f : Nat -> aZ) (k : Nat) : LF f (k + 1) = LF f k ++ [f k] := by unfold LF; rw [List.range_succ, List.map_append]; rfl
theorem iJ (f : Nat -> aZ) (k : Nat) : (LF f k).length = k := by simp [LF]
theorem G7 {f : Nat -> aZ} {k : Nat} {g : aZ} : g ∈ LF f k ↔ ∃ i, i < k /\ f i = g := by simp [LF]
def rises (f : Nat -> aZ) (n : Nat) : Prop := ∀ i, 0 < i -> i < n -> (f (i - 1)).id < (f i).id
theorem tF {f : Nat -> aZ} {n : Nat} (h : rises f n) {i : Nat} : ∀ j, i < j -> j < n -> (f i).id < (f j).id
  | 0, hij, _ => absurd hij (Nat.not_lt_zero _)
  | j + 1, hij, hj => by
    have h1 := h (j + 1) (by omega) hj
    rw [Nat.add_sub_cancel] at h1
    by_cases e : i = j
    · subst e; exact h1
    · have h2 : (f i).id < (f j).id := tF h j (by omega) (by omega)
      omega
theorem K7 {f : Nat -> aZ} {n : Nat} (h : rises f n) : ∀ k, k <= n -> vw (LF f k)
  | 0, _ => List.Pairwise.nil
  | k + 1, hk => by
    unfold vw
    rw [alf, List.pairwise_append]
    refine ⟨K7 h k (by omega), List.pairwise_singleton _ _, fun a ha b hb => ?_⟩
    obtain ⟨i, hi, rfl⟩ := G7.1 ha
    obtain rfl := List.mem_singleton.1 hb
    exact tF h k hi (by omega)
theorem UA {f : Nat -> aZ} {n k : Nat} (h : rises f n) (hk : k < n) : nG (LF f k) (f k) = LF f (k + 1) := by
  rw [alf]
  refine UU fun g hg => ?_
  obtain ⟨i, hi, rfl⟩ := G7.1 hg
  exact tF h k hi hk
theorem agy {f : Nat -> aZ} {n k : Nat} (h : rises f n) (hk : k < n) : idx (LF f k) (f k).id = none := by
  rw [pI]
  intro g hg
  obtain ⟨i, hi, rfl⟩ := G7.1 hg
  have := tF h k hi hk
  omega
theorem EI {n : Nat} {f : Nat -> aZ} (h : oP n f = true) : rises f n := fun i h0 hi => ((of_decide_eq_true h).2 i hi).2 h0
theorem ajm {f : aZ} {o : fE} (hf : jv f = true) (ho : yM o = true) (h1 : o.kd ≠ 1) (h2 : o.kd ≠ 2) (he : l7 f o = 0) : jv (mQ f o) = true := by
  have g := (jW f).1 hf
  have p := (lq o).1 ho
  unfold l7 at he
  have hn : ¬ ((o.kd = 3 /\ ((f.kd = 3 \/ f.kd = 6) \/ f.kd = 4 /\ o.r ≠ 0)) \/ (o.kd = 4 /\ (f.kd = 4 \/ f.kd = 6))) := fun h => by rw [if_pos h] at he; omega
  obtain ⟨g1, g2, g3, g4, g5⟩ := g
  obtain ⟨p1, p2⟩ := p
  have p3 := p2.resolve_left (fun h => h1 h.1)
  rcases p3.2 with q | q | q | q
  · omega
  · have e : mQ f o = { f with x := o.x, y := o.y, r := o.r } := by unfold mQ; rw [if_pos q.1]
    rw [e, jW]
    refine ⟨g1, g2, g3, q.2.1, ?_⟩
    rcases g5 with k | k | k
    · exact Or.inl ⟨k.1, q.2.2.1, q.2.2.2.1, k.2.2.2.1, k.2.2.2.2⟩
    · exact absurd (Or.inl ⟨q.1, Or.inl k.1⟩) hn
    · refine Or.inr (Or.inr ⟨k.1, q.2.2.1, k.2.2.1, ?_, k.2.2.2.2.1, k.2.2.2.2.2⟩)
      exact Classical.byContradiction fun hr => hn (Or.inl ⟨q.1, Or.inr ⟨k.1, hr⟩⟩)
  · have e : mQ f o = { f with d := o.d } := by unfold mQ; rw [if_neg (by omega), if_pos q.1]
    rw [e, jW]
    refine ⟨g1, g2, q.2.1, g4, ?_⟩
    rcases g5 with k | k | k
    · exact Or.inl k
    · refine Or.inr (Or.inl ⟨k.1, fun h6 => absurd (Or.inr ⟨q.1, Or.inr h6⟩) hn, k.2.2⟩)
    · exact absurd (Or.inr ⟨q.1, Or.inl k.1⟩) hn
  · have e : mQ f o = { f with s := o.s } := by unfold mQ; rw [if_neg (by omega), if_neg (by omega), if_pos q.1]
    rw [e, jW]
    exact ⟨g1, q.2.1, g3, g4, g5⟩
def Mq (L : List aZ) : Prop := ∀ f, f ∈ L -> jv f = true
theorem J5 {L : List aZ} (h : Mq L) (k : Int) : Mq (oK L k) := fun f hf => h f (zV.1 hf).1
theorem JO {L : List aZ} (h : Mq L) {f : aZ} (hf : jv f = true) : Mq (nG L f) := fun g hg => by
  rcases zn.1 hg with e | e
  · rw [e]; exact hf
  · exact h g e.1
theorem ajW {L : List aZ} (h : Mq L) {o : fE} (ho : yM o = true) : Mq (ow L o).2 := by
  unfold ow
  by_cases h1 : o.kd = 1
  · rw [if_pos h1]
    have hf : jv o.f = true := by
      have p := ((lq o).1 ho).2
      rcases p with p | p
      · exact p.2.2.1
      · omega
    cases hi : idx L o.id with
    | some f => exact h
    | none =>
      simp only
      split
      · exact h
      · exact JO h hf
  · rw [if_neg h1]
    cases hi : idx L o.id with
    | none => exact h
    | some f =>
      simp only
      by_cases h2 : o.kd = 2
      · rw [if_pos h2]; exact J5 h _
      · rw [if_neg h2]
        by_cases he : l7 f o = 0
        · rw [if_pos he]; exact JO (J5 h _) (ajm (h f (kT hi).1) ho h1 h2 he)
        · rw [if_neg he]; exact h
theorem abZ {L : List aZ} (hs : vw L) (h : L.length <= 300) {o : fE} (ho : yM o = true) : (ow L o).2.length <= 300 := by
  unfold ow
  by_cases h1 : o.kd = 1
  · rw [if_pos h1]
    have hid : o.f.id = o.id := by
      have p := ((lq o).1 ho).2
      rcases p with p | p
      · exact p.2.1
      · omega
    cases hi : idx L o.id with
    | some f => exact h
    | none =>
      simp only
      by_cases h3 : 300 <= L.length
      · rw [if_pos h3]; exact h
      · rw [if_neg h3]
        show (nG L o.f).length <= 300
        rw [zY (by rw [hid]; exact hi)]; omega
  · rw [if_neg h1]
    cases hi : idx L o.id with
    | none => exact h
    | some f =>
      have hc := Gd hs hi
      simp only
      by_cases h2 : o.kd = 2
      · rw [if_pos h2]; show (oK L o.id).length <= 300; omega
      · rw [if_neg h2]
        by_cases he : l7 f o = 0
        · rw [if_pos he]
          show (nG (oK L o.id) (mQ f o)).length <= 300
          rw [zY (by rw [zA hs, NV, (kT hi).2, if_pos rfl])]; omega
        · rw [if_neg he]; exact h
structure Good (L : List aZ) : Prop where
  a : vw L
  f : Mq L
  n : L.length <= 300
theorem aec {L : List aZ} (h : Good L) {o : fE} (ho : yM o = true) : Good (ow L o).2 := ⟨ad4 h.a o, ajW h.f ho, abZ h.a h.n ho⟩
theorem aaB {L : List aZ} {k : Int} {f : aZ} (h : idx L k = some f) : fO L k = some (.agg [.g (.int .i64 (f.id)), .g (.int .i64 (f.kd)), .g (.int .i64 (f.x)), .g (.int .i64 (f.y)), .g (.int .i64 (f.r)), .lst 2 f.n (eO f.P), .g (.int .i64 (f.d)), .g (.int .i64 (f.s)), .lst 6 f.m (eO f.S)]) := by unfold fO; rw [h]; rfl
theorem ajJ {L : List aZ} {k : Int} (h : idx L k = none) : fO L k = none := by unfold fO; rw [h]; rfl
theorem OU {f : Nat -> aZ} {n k : Nat} (h : rises f n) (hk : k < n) : jK (fO (LF f k)) (f k).id (.agg [.g (.int .i64 ((f k).id)), .g (.int .i64 ((f k).kd)), .g (.int .i64 ((f k).x)), .g (.int .i64 ((f k).y)), .g (.int .i64 ((f k).r)), .lst 2 (f k).n (eO (f k).P), .g (.int .i64 ((f k).d)), .g (.int .i64 ((f k).s)), .lst 6 (f k).m (eO (f k).S)]) = fO (LF f (k + 1)) /\ lD k (fO (LF f k)) (f k).id = k + 1 := by
  have h1 := OY (K7 h k (by omega)) (f k)
  rw [UA h hk] at h1
  have h2 := afM (agy h hk)
  rw [UA h hk, iJ, iJ] at h2
  exact ⟨h1, h2⟩
def jN (L : List aZ) (o : Nat -> fE) : Nat -> List aZ
  | 0 => L
  | i + 1 => (ow (jN L o i) (o i)).2
theorem jo (L : List aZ) (o : Nat -> fE) : jN L o 0 = L := rfl
theorem oU (o : Option PT) : Tj o o := by cases o <;> first | trivial | exact PT.bf _
theorem aj3 {o : fE} (h : yM o = true) : o.kd = 1 \/ o.kd = 2 \/ o.kd = 3 \/ o.kd = 4 \/ o.kd = 5 := by
  rcases ((lq o).1 h).2 with p | ⟨_, p | p | p | p⟩ <;> omega
theorem aiV {o : fE} (h : yM o = true) (hk : o.kd = 1) : o.f.id = o.id := by
  rcases ((lq o).1 h).2 with p | ⟨_, p | p | p | p⟩
  · exact p.2.1
  all_goals omega
theorem MI {L : List aZ} (h : Good L) {o : fE} (ho : yM o = true) (hk : o.kd = 1) (hq : idx L o.id = none) (hn : (L.length : Int) < 300) : (ow L o).1 = 0 /\ lD L.length (fO L) o.id = (ow L o).2.length /\ jK (fO L) o.id (.agg [.g (.int .i64 (o.f.id)), .g (.int .i64 (o.f.kd)), .g (.int .i64 (o.f.x)), .g (.int .i64 (o.f.y)), .g (.int .i64 (o.f.r)), .lst 2 o.f.n (eO o.f.P), .g (.int .i64 (o.f.d)), .g (.int .i64 (o.f.s)), .lst 6 o.f.m (eO o.f.S)]) = fO (ow L o).2 := by
  have hi := aiV ho hk
  have e : ow L o = (0, nG L o.f) := by unfold ow; rw [if_pos hk, hq]; simp only; rw [if_neg (by omega)]
  rw [e]
  have h1 := afM (L := L) (f := o.f) (by rw [hi]; exact hq)
  have h2 := OY h.a o.f
  rw [hi] at h1 h2
  exact ⟨rfl, h1, h2⟩
theorem MH {L : List aZ} (h : Good L) {o : fE} (hk : o.kd = 2) {g : aZ} (hq : idx L o.id = some g) : (ow L o).1 = 0 /\ yC L.length (fO L) o.id = (ow L o).2.length /\ uZ (fO L) o.id = fO (ow L o).2 := by
  have e : ow L o = (0, oK L o.id) := by unfold ow; rw [if_neg (by omega), hq]; simp only; rw [if_pos hk]
  rw [e]; exact ⟨rfl, ak7 h.a hq, abf h.a _⟩
theorem KV {L : List aZ} (h : Good L) {o : fE} (hk : o.kd ≠ 1 /\ o.kd ≠ 2) {g : aZ} (hq : idx L o.id = some g) (he : l7 g o = 0) : (ow L o).1 = 0 /\ lD L.length (fO L) o.id = (ow L o).2.length /\ jK (fO L) o.id (.agg [.g (.int .i64 ((fT g o).id)), .g (.int .i64 ((fT g o).kd)), .g (.int .i64 ((fT g o).x)), .g (.int .i64 ((fT g o).y)), .g (.int .i64 ((fT g o).r)), .lst 2 (fT g o).n (eO (fT g o).P), .g (.int .i64 ((fT g o).d)), .g (.int .i64 ((fT g o).s)), .lst 6 (fT g o).m (eO (fT g o).S)]) = fO (ow L o).2 := by
  have ex : fT g o = mQ g o := by unfold fT; rw [if_neg (by omega)]
  have hi : (mQ g o).id = o.id := by rw [NV]; exact (kT hq).2
  have e : ow L o = (0, nG (oK L o.id) (mQ g o)) := by unfold ow; rw [if_neg hk.1, hq]; simp only; rw [if_neg hk.2, if_pos he]
  rw [e, ex]
  exact ⟨rfl, akL h.a hq hi, acG h.a hi⟩
theorem akN {L : List aZ} {o : fE} (hk : o.kd = 1) {g : aZ} (hq : idx L o.id = some g) : (ow L o).1 = 5 := by unfold ow; rw [if_pos hk, hq]
theorem akQ {L : List aZ} {o : fE} (hk : o.kd = 1) (hq : idx L o.id = none) (hn : (L.length : Int) >= 300) : (ow L o).1 = 2 := by unfold ow; rw [if_pos hk, hq]; simp only; rw [if_pos (by omega)]
theorem akS {L : List aZ} {o : fE} (hk : o.kd ≠ 1) (hq : idx L o.id = none) : (ow L o).1 = 4 := by unfold ow; rw [if_neg hk, hq]
theorem alX {L : List aZ} {o : fE} (hk : o.kd ≠ 1 /\ o.kd ≠ 2) {g : aZ} (hq : idx L o.id = some g) (he : l7 g o ≠ 0) : (ow L o).1 = l7 g o := by unfold ow; rw [if_neg hk.1, hq]; simp only; rw [if_neg hk.2, if_neg he]
theorem Gg {n : Nat} {f : Nat -> aZ} (h : oP n f = true) : Good (LF f n) := by
  have h1 := of_decide_eq_true h
  refine ⟨K7 (EI h) n (Nat.le_refl _), fun g hg => ?_, by rw [iJ]; exact h1.1⟩
  obtain ⟨i, hi, rfl⟩ := G7.1 hg
  exact (h1.2 i hi).1
theorem kU {L : List aZ} (h : Good L) {o : Nat -> fE} {k : Nat} (ho : ∀ i, i < k -> yM (o i) = true) : ∀ i, i <= k -> Good (jN L o i)
  | 0, _ => h
  | i + 1, hi => aec (kU h ho i (by omega)) (ho i (by omega))
theorem GA {f : aZ} (h : jv f = true) : f.Ok := by
  have g := ((jW f).1 h).2.2.2.2
  rcases g with k | k | k
  · exact ⟨by omega, by omega⟩
  · have := (of_decide_eq_true k.2.2.1).1
    exact ⟨by omega, by omega⟩
  · have := (of_decide_eq_true k.2.2.1).1
    exact ⟨by omega, by omega⟩
theorem ank {k : Int} (h : k = 1) : (((1 : Int) = k) = True) /\ True := ⟨by simp [h], trivial⟩
theorem anO {k : Int} (h : k = 2) : (((1 : Int) = k) = False) /\ (((2 : Int) = k) = True) := ⟨by simp [h], by simp [h]⟩
theorem an9 {k : Int} (h : k = 3) : (((1 : Int) = k) = False) /\ (((2 : Int) = k) = False) /\ (((3 : Int) = k) = True) := ⟨by simp [h], by simp [h], by simp [h]⟩
theorem anu {k : Int} (h : k = 4) : (((1 : Int) = k) = False) /\ (((2 : Int) = k) = False) /\ (((3 : Int) = k) = False) /\ (((4 : Int) = k) = True) := ⟨by simp [h], by simp [h], by simp [h], by simp [h]⟩
theorem aor {k : Int} (h : k = 5) : (((1 : Int) = k) = False) /\ (((2 : Int) = k) = False) /\ (((3 : Int) = k) = False) /\ (((4 : Int) = k) = False) /\ (((5 : Int) = k) = True) := ⟨by simp [h], by simp [h], by simp [h], by simp [h], by simp [h]⟩
theorem zH {ok : Nat -> Prop} : ∀ (m : Nat) (l : List CV), m <= l.length -> wkC ok l (List.replicate m .any)
  | 0, _, _ => by simp [wkC]
  | m + 1, [], h => by simp at h
  | m + 1, c :: l, h => ⟨Or.inl rfl, zH m l (by simpa using h)⟩
def aov (L : List aZ) (o : Nat -> fE) (k : Nat) : Nat := j3 (fun j => decide ((ow (jN L o j) (o j)).1 ≠ 0)) k
def OP (n : Nat) (f : Nat -> aZ) (k : Nat) (o : Nat -> fE) : Bool := oP n f && D7 k o
def apJ (n : Nat) (f : Nat -> aZ) (k : Nat) (o : Nat -> fE) : Nat := aov (LF f n) o k
def zJ (n : Nat) (f : Nat -> aZ) (k : Nat) (o : Nat -> fE) : Int := if OP n f k o = true then (if apJ n f k o < k then (ow (jN (LF f n) o (apJ n f k o)) (o (apJ n f k o))).1 else 0) else 1
def apI (n : Nat) (f : Nat -> aZ) (k : Nat) (o : Nat -> fE) : Int := if OP n f k o = true then (if apJ n f k o < k then (apJ n f k o : Int) else -1) else -1
def Ef (n : Nat) (f : Nat -> aZ) (k : Nat) (o : Nat -> fE) : Nat := if OP n f k o = true then (if apJ n f k o < k then 0 else (jN (LF f n) o k).length) else 0
def apF (n : Nat) (f : Nat -> aZ) (k : Nat) (o : Nat -> fE) (i : Nat) : aZ := (jN (LF f n) o k).getD i eF
theorem F8 {n : Nat} {f : Nat -> aZ} {k : Nat} {o : Nat -> fE} (hv : oP n f = true) (hw : D7 k o = true) {i : Nat} (hi : (i : Int) < k) (hai : ∀ j, j < i -> (ow (jN (LF f n) o j) (o j)).1 = 0) {e : Int} (he : (ow (jN (LF f n) o i) (o i)).1 = e) (h0 : e ≠ 0) : Ef n f k o = 0 /\ (i : Int) = apI n f k o /\ e = zJ n f k o := by
  have hj : apJ n f k o = i := lC (b := fun j => decide ((ow (jN (LF f n) o j) (o j)).1 ≠ 0)) (decide_eq_true (by rw [he]; exact h0)) (fun j hj => decide_eq_false (by rw [hai j hj]; simp)) k (by omega)
  have hV : OP n f k o = true := by unfold OP; rw [hv, hw]; rfl
  have hlt : i < k := by omega
  unfold Ef apI zJ
  rw [if_pos hV, if_pos hV, if_pos hV, hj, if_pos hlt, if_pos hlt, if_pos hlt, he]
  exact ⟨rfl, rfl, rfl⟩
theorem akl {n : Nat} {f : Nat -> aZ} {k : Nat} {o : Nat -> fE} (hv : oP n f = true) (hw : D7 k o = true) {i : Nat} (hi : (k : Int) <= i) (hai : ∀ j, j < i -> (ow (jN (LF f n) o j) (o j)).1 = 0) : (jN (LF f n) o k).length = Ef n f k o /\ (-1) = apI n f k o /\ 0 = zJ n f k o := by
  have hj : apJ n f k o = k := sF k fun j hj => decide_eq_false (by rw [hai j (by omega)]; simp)
  have hV : OP n f k o = true := by unfold OP; rw [hv, hw]; rfl
  unfold Ef apI zJ
  rw [if_pos hV, if_pos hV, if_pos hV, hj, if_neg (Nat.lt_irrefl k), if_neg (Nat.lt_irrefl k), if_neg (Nat.lt_irrefl k)]
  exact ⟨rfl, rfl, rfl⟩
theorem Vj {n : Nat} {f : Nat -> aZ} {k : Nat} {o : Nat -> fE} (h : OP n f k o = false) : Ef n f k o = 0 /\ -1 = apI n f k o /\ 1 = zJ n f k o := by
  unfold Ef apI zJ
  rw [if_neg (by simp [h]), if_neg (by simp [h]), if_neg (by simp [h])]
  exact ⟨rfl, rfl, rfl⟩
def ddE : List Nat -> List (Nat × AV) -> List (Nat × AV)
  | _, [] => []
  | s, (k, v) :: r => if s.contains k = true then ddE s r else (k, v) :: ddE (k :: s) r
theorem KY : ∀ (e : List (Nat × AV)) (s : List Nat) (t : Nat), s.contains t = false -> lk (ddE s e) t = lk e t
  | [], _, _, _ => rfl
  | (k, v) :: r, s, t, h => by
    unfold ddE
    by_cases h1 : s.contains k = true
    · rw [if_pos h1, KY r s t h]
      have : t ≠ k := fun e => by rw [e, h1] at h; cases h
      simp only [lk]; rw [if_neg this]
    · rw [if_neg h1]
      simp only [lk]
      by_cases h2 : t = k
      · rw [if_pos h2, if_pos h2]
      · rw [if_neg h2, if_neg h2]
        refine KY r (k :: s) t ?_
        rw [List.contains_cons, h]
        simp [h2]
def ddG : List (Nat × List (Nat × AV)) -> List (Nat × List (Nat × AV))
  | [] => []
  | (f, e) :: r => (f, ddE [] e) :: ddG r
theorem YF : ∀ (g : List (Nat × List (Nat × AV))) (f t : Nat), gk (ddG g) f t = gk g f t
  | [], _, _ => rfl
  | (k, e) :: r, f, t => by
    show lk (if f = k then ddE [] e else gf (ddG r) f) t = lk (if f = k then e else gf r f) t
    by_cases h : f = k
    · rw [if_pos h, if_pos h]; exact KY e [] t rfl
    · rw [if_neg h, if_neg h]; exact YF r f t
theorem afH {P : Program} {E : List (Nat × AV)} {H : List (Option (List CV))} {N : Nat} {g : List (Nat × List (Nat × AV))} {l : LP} {Q : Exit -> AS -> Prop} {c : Code} (h : AW P c ⟨E, H, N, ddG g, l⟩ Q) : AW P c ⟨E, H, N, g, l⟩ Q := fun w0 Z0 a w n ⟨J, Z, R⟩ =>
  h w0 Z0 a w n ⟨J, Z, R.nodef, R.size, R.below, R.zfrom, R.zlt, R.jlt, R.inj, R.hole, R.blk, R.slots, fun f t => by
    show bD _ _ _ _ (gk (ddG g) f t); rw [YF]; exact R.ghost f t, R.loops, R.lnd, R.ro⟩
theorem tC : ∀ {m ks : List Int}, ks.Nodup -> (∀ x, x ∈ ks -> x ∈ m) -> ks.length <= m.length
  | [], ks, _, h => by
    cases ks with
    | nil => simp
    | cons a l => exact absurd (h a (List.mem_cons_self ..)) List.not_mem_nil
  | a :: m, ks, hn, h => by
    have h1 : (ks.erase a).length <= m.length := tC (hn.erase a) fun x hx => by
      rcases List.mem_cons.1 (h x (List.mem_of_mem_erase hx)) with e | e
      · exact absurd e ((List.Nodup.mem_erase_iff hn).1 hx).1
      · exact e
    rw [List.length_erase] at h1
    split at h1 <;> simp only [List.length_cons] <;> omega
theorem ac8 {L : List aZ} {x : Int} (h : fO L x ≠ none) : x ∈ L.map (·.id) := by
  unfold fO at h
  cases hi : idx L x with
  | none => rw [hi] at h; exact absurd rfl h
  | some g => exact List.mem_map.2 ⟨g, kT hi⟩
theorem adk {L : List aZ} (h : vw L) {x : Int} (hx : x ∈ L.map (·.id)) : (fO L x).isSome = true := by
  obtain ⟨g, h1, h2⟩ := List.mem_map.1 hx
  unfold fO; rw [<- h2, qK h h1]; rfl
theorem F5 {L : List aZ} {ks : List Int} (hn : ks.Nodup) (hk : ∀ x, x ∈ ks -> fO L x ≠ none) : ks.length <= L.length := by
  have := tC (m := L.map (·.id)) hn fun x hx => ac8 (hk x hx)
  simpa using this
theorem keys_eq {L : List aZ} (h : vw L) {ks : List Int} (hn : ks.Nodup) (hk : ∀ x, x ∈ ks -> fO L x ≠ none) (ha : ∀ x, (fO L x).isSome = true -> x ∈ ks) : ks.length = L.length := by
  have h1 := F5 hn hk
  have h2 : (L.map (·.id)).length <= ks.length := tC ((N9 h).imp fun h => by omega) fun x hx => ha x (adk h hx)
  rw [List.length_map] at h2
  omega
theorem Qc {L : List aZ} {ks : List Int} (hn : ks.Nodup) (hk : ∀ x, x ∈ ks -> fO L x ≠ none) {kk : Int} {yy : PT} (hy : fO L kk = some yy) (hnn : ¬ kk ∈ ks) : (kk :: ks).Nodup /\ (∀ x, x ∈ kk :: ks -> fO L x ≠ none) /\ ks.length + 1 <= L.length := by
  have h1 : (kk :: ks).Nodup := List.nodup_cons.2 ⟨hnn, hn⟩
  have h2 : ∀ x, x ∈ kk :: ks -> fO L x ≠ none := fun x hx => by
    rcases List.mem_cons.1 hx with e | e
    · rw [e, hy]; simp
    · exact hk x e
  exact ⟨h1, h2, F5 h1 h2⟩
theorem Qe {L : List aZ} (h : vw L) {ks : List Int} (hn : ks.Nodup) (hk : ∀ x, x ∈ ks -> fO L x ≠ none) (ha : ∀ x, (fO L x).isSome = true -> x ∈ ks) : ks.reverse.mergeSort (fun x y => decide (x <= y)) = L.map (·.id) := by
  have hp := List.mergeSort_perm ks.reverse (fun x y => decide (x <= y))
  have h1 : (ks.reverse.mergeSort (fun x y => decide (x <= y))).Nodup := hp.symm.nodup ((List.reverse_perm ks).symm.nodup hn)
  have h2 : (ks.reverse.mergeSort (fun x y => decide (x <= y))).Pairwise (fun a b => decide (a <= b) = true) := List.pairwise_mergeSort (by intro a b c; simp only [decide_eq_true_eq]; omega) (by intro a b; simp only [Bool.or_eq_true, decide_eq_true_eq]; omega) _
  have hm : ∀ x, x ∈ ks.reverse.mergeSort (fun x y => decide (x <= y)) ↔ x ∈ ks := fun x => by rw [hp.mem_iff, List.mem_reverse]
  refine Pz h ?_ fun x => ?_
  · refine (h2.and h1).imp fun {a b} p => ?_
    have h3 := of_decide_eq_true p.1
    have h4 : a ≠ b := p.2
    omega
  · rw [hm]
    constructor
    · intro hx e
      exact hk x hx (by unfold fO; rw [e]; rfl)
    · intro hx
      cases hi : idx L x with
      | none => exact absurd hi hx
      | some g => exact ha x (by unfold fO; rw [hi]; rfl)
theorem sort_k {L : List aZ} (h : vw L) (hl : L.length <= 300) {ks : List Int} (hn : ks.Nodup) (hk : ∀ x, x ∈ ks -> fO L x ≠ none) (ha : ∀ x, (fO L x).isSome = true -> x ∈ ks) (i : Nat) {H : List (Option (List CV))} (hH : hget H i = some (dX ks.reverse)) : iH Tryz.prog 121 [.one (.slc i 0 ks.length 1)] H (.tup []) (hset H i (dX (L.map (·.id)))) := by
  have h0 := F5 hn hk
  have h1 := Wm ks.reverse (by rw [List.length_reverse]; omega) i H hH
  rw [List.length_reverse, Qe h hn hk ha] at h1
  exact h1
theorem bH (zs : List Int) (i : Nat) : List.map (CV.cZ i) (dX zs) = dX zs := mK i (iO zs)
theorem dh (zs : List Int) (x : Int) (i : Nat) : List.map (CV.cZ i) (dX zs.reverse ++ [.iv (.g (.int .i64 x))]) = dX (x :: zs).reverse := by
  rw [show dX zs.reverse ++ [.iv (.g (.int .i64 x))] = dX (x :: zs).reverse by simp [dX]]
  exact bH _ _
theorem UH {L : List aZ} {v : Nat} (hv : v < L.length) : (dX (L.map (·.id))).getD v .any = .iv (.g (.int .i64 (L.getD v eF).id)) := by
  rw [CF _ _ (by simpa using hv)]
  simp [List.getD, hv]
def c9 (f : aZ) : List CV := [.iv (.g (.int .i64 (f.id))), .iv (.g (.int .i64 (f.kd))), .iv (.g (.int .i64 (f.x))), .iv (.g (.int .i64 (f.y))), .iv (.g (.int .i64 (f.r))), .iv (.lst 2 f.n (eO f.P)), .iv (.g (.int .i64 (f.d))), .iv (.g (.int .i64 (f.s))), .iv (.lst 6 f.m (eO f.S))]
def uX (l : List aZ) : List CV := l.flatMap c9
theorem fZ (l : List aZ) : (uX l).length = l.length * 9 := by
  induction l with
  | nil => rfl
  | cons s l ih => simp only [uX, List.flatMap_cons, List.length_append] at ih ⊢; rw [ih]; simp [c9]; omega
theorem Gf (l : List aZ) : ∀ c, c ∈ uX l -> j4 c := by
  intro c hc
  simp only [uX, List.mem_flatMap, c9] at hc
  obtain ⟨s, _, h⟩ := hc
  simp only [List.mem_cons, List.not_mem_nil, or_false] at h
  rcases h with rfl | rfl | rfl | rfl | rfl | rfl | rfl | rfl | rfl <;> trivial
theorem Di {L : List aZ} {v : Nat} (hv : v < L.length) : L.getD v eF ∈ L := by
  rw [List.getD, List.getElem?_eq_getElem hv]; exact List.getElem_mem hv
theorem take_one {L : List aZ} {v : Nat} (hv : v < L.length) : L.take v ++ [L.getD v eF] = L.take (v + 1) := by
  rw [List.take_add_one, List.getD]
  simp [hv]
theorem W9 {L : List aZ} {v : Nat} (hv : v < L.length) (i : Nat) : List.map (CV.cZ i) (uX (L.take v) ++ [.iv (.g (.int .i64 ((L.getD v eF).id))), .iv (.g (.int .i64 ((L.getD v eF).kd))), .iv (.g (.int .i64 ((L.getD v eF).x))), .iv (.g (.int .i64 ((L.getD v eF).y))), .iv (.g (.int .i64 ((L.getD v eF).r))), .iv (.lst 2 (L.getD v eF).n (eO (L.getD v eF).P)), .iv (.g (.int .i64 ((L.getD v eF).d))), .iv (.g (.int .i64 ((L.getD v eF).s))), .iv (.lst 6 (L.getD v eF).m (eO (L.getD v eF).S))]) = uX (L.take (v + 1)) := by
  have e : uX (L.take v) ++ c9 (L.getD v eF) = uX (L.take (v + 1)) := by rw [<- take_one hv]; simp [uX]
  exact (congrArg (List.map (CV.cZ i)) e).trans (mK i (Gf _))
theorem Jg : ∀ (l : List aZ) (i o : Nat), i < l.length -> o < 9 -> (uX l).getD (i * 9 + o) .any = (c9 (l.getD i eF)).getD o .any
  | [], i, _, h, _ => by simp at h
  | f :: l, 0, o, _, ho => by
    show (c9 f ++ uX l).getD (0 * 9 + o) .any = (c9 f).getD o .any
    rw [Nat.zero_mul, Nat.zero_add, List.getD, List.getD, List.getElem?_append_left (by show o < 9; exact ho)]
  | f :: l, i + 1, o, h, ho => by
    show (c9 f ++ uX l).getD ((i + 1) * 9 + o) .any = (c9 (l.getD i eF)).getD o .any
    rw [<- Jg l i o (by simpa using h) ho, List.getD, List.getD, List.getElem?_append_right (by show 9 <= _; omega)]
    congr 2
    show (i + 1) * 9 + o - 9 = i * 9 + o
    omega
theorem Tt (l : List aZ) : ∀ i o, i < l.length -> o < 9 -> (IE ((uX l).getD (i * 9 + o) .any)).eqv (dN (fun i => l.getD i eF) i o) := by
  intro i o hi ho
  rw [Jg l i o hi ho]
  match o, ho with
  | 0, _ | 1, _ | 2, _ | 3, _ | 4, _ | 5, _ | 6, _ | 7, _ | 8, _ => exact IV.bf _
end Go.Proofs.YtcfechepbamhkaaGreat
set_option maxRecDepth 100000
set_option maxHeartbeats 4000000
namespace Go.Proofs.YtcfechepbamhkaaGreat
open Go.RowKit Go.Sea
open Nat renaming reduceAdd -> xA, reduceLT -> xL, reduceLeDiff -> xD, reduceEqDiff -> xE, reduceMul -> xM, reduceSub -> xS, reduceBEq -> xB
theorem tL : aN Tryz.prog 148 = true := by kernel_rfl
theorem IC : aN Tryz.prog 149 = true := by kernel_rfl
theorem IW : aN Tryz.prog 150 = true := by kernel_rfl
theorem Gm : aN Tryz.prog 72 = true := by kernel_rfl
theorem KC : aN Tryz.prog 151 = true := by kernel_rfl
theorem U8 : aN Tryz.prog 176 = true := by kernel_rfl
theorem Vg : aN Tryz.prog 177 = true := by kernel_rfl
theorem X3 : aN Tryz.prog 178 = true := by kernel_rfl
theorem CZ : aN Tryz.prog 120 = true := by kernel_rfl
theorem Ao : aN Tryz.prog 121 = true := by kernel_rfl
theorem YA : aN Tryz.prog 179 = true := by kernel_rfl
theorem uW : aN Tryz.prog 207 = true := by kernel_rfl
theorem AU : aN Tryz.prog 157 = true := by kernel_rfl
theorem tN : aN Tryz.prog 109 = true := by kernel_rfl
theorem J7 : aN Tryz.prog 110 = true := by kernel_rfl
theorem qN : aN Tryz.prog 95 = true := by kernel_rfl
theorem ah3 : xH Tryz.prog 141 = none := by kernel_rfl
theorem Ui : Hu Tryz.prog 141 = some 64 := by kernel_rfl
theorem ai7 : Hu Tryz.prog 176 = some 180 := by kernel_rfl
theorem aei : dz Tryz.prog 66 2 = some (2, 9) := by kernel_rfl
theorem aji : lQ Tryz.prog 141 = some (false, 1) := by kernel_rfl
theorem agh : zPT Tryz.prog 180 = some (.one (.g (.nilFunc))) := by kernel_rfl
theorem al0 : zPT Tryz.prog 64 = some (.agg [.g (.int .i64 0), .g (.int .i64 0), .g (.int .i64 0), .g (.int .i64 0), .g (.int .i64 0), .g (.slice none 0 0), .g (.int .i64 0), .g (.int .i64 0), .g (.slice none 0 0)]) := by kernel_rfl
attribute [go_sem] tL IC IW Gm KC CZ Ao uW AU tN J7 qN ah3 Ui ai7 aei aji agh al0
theorem aaW (n : Nat) (f : Nat -> aZ) (k : Nat) (o : Nat -> fE) (hn : n <= 9223372036854775807) (hf : ∀ i, i < n -> (f i).Ok) (hk : k <= 9223372036854775807) (ho : ∀ i, i < k -> (o i).f.Ok) (hv : oP n f = true) (hw : D7 k o = true) : aA Tryz.prog 61 [.one (.lst 9 n (dN f)), .one (.lst 16 k (iR o))] (.tup [.one (.lst 9 (Ef n f k o) (dN (apF n f k o))), .one (.g (.int .i64 (apI n f k o))), .one (.g (.int .i64 (zJ n f k o)))]) := by
  have mk0 : True := trivial
  have mk2 : True := trivial
  have mk3 : True := trivial
  have hrk : True := trivial
  have hkd : True := trivial
  have hfk : True := trivial
  have hrs := EI hv
  have hG := Gg hv
  have hops := (of_decide_eq_true hw).2
  have hk100 := (of_decide_eq_true hw).1
  refine ak Tryz.func61 rfl (by rw [Tryz.ntmps61]; simp) ?_
  simp only [Tryz.ntmps61, zM, PT.tv, au, Nat.zero_add, Nat.reduceAdd]
  repeat' (first
 | (exact F8 hv hw (by assumption) hai (akN e5 hq) (by omega))
 | (exact F8 hv hw (by assumption) hai (akQ e5 hq (by assumption)) (by omega))
 | (exact F8 hv hw (by assumption) hai (akS (by omega) hq) (by omega))
 | (exact F8 hv hw (by assumption) hai (alX (by omega) hq (by assumption)) (by omega))
 | (clear mk2; have hkm := Qc hnd hks hyy hnn)
 | ((with_reducible show AW _ _ _ _); first
 | (with_reducible first | refine aS (fun K hK => ?_) | refine aI ?_ | refine aX ?_ | refine aT ?_ | refine aC ?_ | refine aB ?_)
 | ((refine eT (k := 179) rfl Tryz.func179 rfl YA (by rw [Tryz.ntmps179]; simp) ?_ ?_ (fun l hlne A B hA hB => ?_)); (focus (simp (maxSteps := 2000000) only [go_sem, reduceIte, reduceCtorEq, xA, xL, xD, xE, xM, xS, xB, Tryz.f61, Tryz.f179, Tryz.f109, Tryz.f149, Tryz.f150, Tryz.f110, Tryz.f151, Tryz.f72, Tryz.f120, Tryz.f157, Tryz.f176, Tryz.f177, Tryz.f178, hv, hw, hkd, hfk, hrk, bg, fZ, List.length_reverse, List.length_map, List.take_zero, List.length_take, bH, dh, fQ, q8, jo, List.length_replicate, iJ, Int.reduceEq, maxLen]; try exact True.intro)); (focus (simp (maxSteps := 2000000) only [go_sem, reduceIte, reduceCtorEq, xA, xL, xD, xE, xM, xS, xB, Tryz.f61, Tryz.f179, Tryz.f109, Tryz.f149, Tryz.f150, Tryz.f110, Tryz.f151, Tryz.f72, Tryz.f120, Tryz.f157, Tryz.f176, Tryz.f177, Tryz.f178, hv, hw, hkd, hfk, hrk, bg, fZ, List.length_reverse, List.length_map, List.take_zero, List.length_take, bH, dh, fQ, q8, jo, List.length_replicate, iJ, Int.reduceEq, maxLen]; try exact True.intro)); simp only [Tryz.ntmps179, List.map_cons, List.map_nil, LV.tv, au, yV, Nat.zero_add, Nat.reduceAdd]; clear hlne)
 | (with_reducible refine u7 (by assumption) ?_)
 | (first
 | (with_reducible first | refine aP 0 [0,1,7] ?_ | refine aP 1 [0,1,2,3,4,5,7] ?_ | refine aP (ops := #[⟨some 19, _, _, _, _, _⟩, _]) 2 [7,9,10] ?_ | refine aP (ops := #[⟨some 8, _, _, _, _, _⟩, _, _]) 2 [0,5] ?_ | refine aP (ops := #[⟨some 7, _, _, _, _, _⟩, _, _]) 2 [0,3] ?_ | refine aP (ops := #[⟨some 6, _, _, _, _, _⟩, _, _, _, _]) 2 [0,3] ?_ | refine aP (ops := #[⟨some 6, _, _, _, _, _⟩, _]) 2 [3] ?_ | refine aP (ops := #[⟨some 5, _, _, _, _, _⟩]) 2 [2,7] ?_ | refine aP (ops := #[⟨some 15, _, _, _, _, _⟩]) 2 [0,3,4,7] ?_ | refine aP (ops := #[⟨some 15, _, _, _, _, _⟩, _]) 2 [0,3,4,6,7] ?_ | refine aP (ops := #[⟨some 18, _, _, _, _, _⟩, _]) 2 [0,3,4,6,7] ?_ | refine aP (ops := #[⟨some 21, _, _, _, _, _⟩, _, _, _, _]) 3 [9,10] ?_ | refine aP (ops := #[⟨some 10, _, _, _, _, _⟩, _, _, _]) 3 [0,3,5] ?_ | refine aP (ops := #[⟨some 23, _, _, _, _, _⟩, _, _]) 3 [0,1] ?_ | refine aP (ops := #[⟨some 10, _, _, _, _, _⟩]) 3 [3,7,8,9] ?_ | refine aP (ops := #[⟨some 11, _, _, _, _, _⟩]) 3 [0,3,8,9,10] ?_ | refine aP (ops := #[⟨some 8, _, _, _, _, _⟩, _]) 3 [3] ?_ | refine aP (ops := #[⟨some 8, _, _, _, _, _⟩, _, _, _, _]) 3 [2,5,7] ?_ | refine aP (ops := #[⟨some 16, _, _, _, _, _⟩, _, _]) 3 [4] ?_ | refine aP (ops := #[⟨some 17, _, _, _, _, _⟩, _, _]) 3 [4] ?_ | refine aP (ops := #[⟨some 20, _, _, _, _, _⟩, _, _]) 3 [4] ?_ | refine aP (ops := #[⟨some 23, _, _, _, _, _⟩, _, _, _, _, _, _]) 4 [7,9,10] ?_ | refine aP (ops := #[⟨some 25, _, _, _, _, _⟩, _, _]) 4 [1,8] ?_ | refine aP (ops := #[⟨some 11, _, _, _, _, _⟩, _, _, _]) 4 [3,7,8,9] ?_ | refine aP (ops := #[⟨some 12, _, _, _, _, _⟩, _, _]) 4 [0,3,8,9,10] ?_ | refine aP (ops := #[⟨some 12, _, _, _, _, _⟩, _]) 4 [2] ?_ | refine aP (ops := #[⟨some 17, _, _, _, _, _⟩, _, _]) 4 [0,3,4] ?_ | refine aP (ops := #[⟨some 18, _, _, _, _, _⟩, _, _, _]) 4 [0,3,4,6] ?_ | refine aP (ops := #[⟨some 22, _, _, _, _, _⟩, _, _, _, _, _, _, _, _, _, _, _]) 4 [0,3,4,6] ?_ | refine aP (ops := #[⟨some 10, _, _, _, _, _⟩]) 5 [1,8,9] ?_ | refine aP (ops := #[⟨some 13, _, _, _, _, _⟩, _, _, _, _]) 5 [3,5,7,8,9] ?_ | refine aP (ops := #[⟨some 14, _, _, _, _, _⟩, _, _, _, _, _, _]) 5 [0,3,5,8,9,10] ?_ | refine aP (ops := #[⟨some 20, _, _, _, _, _⟩, _, _]) 5 [4] ?_ | refine aP (ops := #[⟨some 21, _, _, _, _, _⟩, _, _, _, _, _]) 5 [3,4,6] ?_ | refine aP (ops := #[⟨some 28, _, _, _, _, _⟩, _]) 5 [0,3,4,8,9,10] ?_ | refine aP (ops := #[⟨some 27, _, _, _, _, _⟩, _, _]) 6 [1,8,9,10] ?_ | refine aP (ops := #[⟨some 17, _, _, _, _, _⟩, _]) 6 [3,7,8,9] ?_ | refine aP (ops := #[⟨some 20, _, _, _, _, _⟩, _]) 6 [0,3,8,9,10] ?_ | refine aP (ops := #[⟨some 21, _, _, _, _, _⟩, _, _, _, _, _]) 6 [0,3,4] ?_ | refine aP (ops := #[⟨some 30, _, _, _, _, _⟩, _, _, _]) 6 [4,10] ?_ | refine aP (ops := #[⟨some 30, _, _, _, _, _⟩]) 7 [8,9,10,27,28,29] ?_ | refine aP (ops := #[⟨some 18, _, _, _, _, _⟩, _]) 7 [3] ?_ | refine aP (ops := #[⟨some 21, _, _, _, _, _⟩, _]) 7 [3] ?_ | refine aP (ops := #[⟨some 26, _, _, _, _, _⟩, _, _, _, _]) 7 [3,4] ?_ | refine aP (ops := #[⟨some 32, _, _, _, _, _⟩, _, _, _, _]) 7 [0,3,4,8,9] ?_ | refine aP (ops := #[⟨some 31, _, _, _, _, _⟩, _, _, _, _, _]) 8 [8,9,10,27,28,29] ?_ | refine aP (ops := #[⟨some 36, _, _, _, _, _⟩, _, _]) 8 [4,9] ?_ | refine aP 9 [8,9,10,11,12,27,28,29] ?_ | refine aP 10 [8,9,10,11,13,14,27,28,29] ?_ | refine aP 11 [11,14] ?_ | refine aP 12 [8,9,10,13,27,28,29] ?_ | refine aP 13 [8,9,10,27,28,29] ?_ | refine aP 14 [8,10] ?_))
 | ((with_reducible show AW _ (Code.loop _) _ _); first
 | ((with_reducible refine aL (c := (Code.seq (Code.region 7 _ _) _)) (ι := Nat) [8,9,27,28] (fun i => [(10, .t (.one (.slc 2 0 i 16))), (29, iA .i64 (i : Int))]) (fun i => [(0, [.mi none (jN (LF f n) o i).length (fO (jN (LF f n) o i))]), (2, List.replicate (i * 16) .any)]) (fun i => i <= k /\ (∀ j, j < i -> (ow (jN (LF f n) o j) (o j)).1 = 0)) (fun i => k - i) 0 ?lg7 ?l17 ?l27 ?li7 ?lr7); (case' lg7 => rintro i _); (case' li7 => try (exact ⟨Nat.zero_le _, fun i hi => absurd hi (Nat.not_lt_zero _)⟩)); (case' lr7 => rintro i ⟨hi, hai⟩ KR hR7; simp only [bI, dI, hset, lk, if_true, if_false, xE, reduceIte, zN, hv, hw, hkd, hfk, hrk, bg, fZ, List.length_reverse, List.length_map, List.take_zero, List.length_take, bH, dh, fQ, q8, jo, List.length_replicate, iJ, Int.reduceEq, maxLen]))
 | (((with_reducible refine afH ?_); simp only [ddG, ddE, List.contains_cons, List.contains_nil, Nat.reduceBEq, Bool.or_false, Bool.false_or, Bool.or_true, Bool.true_or, if_true, if_false, Bool.false_eq_true, reduceIte]; with_reducible refine aL (c := (Code.seq (Code.region 1 _ _) _)) (ι := List Int) [0,5] (fun ks => []) (fun ks => [(1, []), (2, []), (4, [.slc 6 0 ks.length 1]), (6, dX ks.reverse), (5, [.mt 0 cc (fun q => q ∈ ks) ks.head?])]) (fun ks => ks.Nodup /\ ∀ x, x ∈ ks -> fO (jN (LF f n) o k) x ≠ none) (fun ks => (jN (LF f n) o k).length - ks.length) [] ?lg1 ?l11 ?l21 ?li1 ?lr1); (case' lg1 => rintro ks _); (case' li1 => try (exact ⟨List.nodup_nil, fun x h => absurd h (List.not_mem_nil)⟩)); (case' lr1 => rintro ks ⟨hnd, hks⟩ KR hR1; simp only [bI, dI, hset, lk, if_true, if_false, xE, reduceIte, zN, hv, hw, hkd, hfk, hrk, bg, fZ, List.length_reverse, List.length_map, List.take_zero, List.length_take, bH, dh, fQ, q8, jo, List.length_replicate, iJ, Int.reduceEq, maxLen]))))
 | ((first | (with_reducible refine And.intro ?_ ?_) | (with_reducible refine Need.mk ?_)); focus (first | exact True.intro | omega | (intro _; exact True.intro)))
 | (with_reducible refine aJ ?_)
 | ((with_reducible show bL _ _ _ _ _ _); first
 | ((with_reducible refine aM ?_ ?_) <;> (intro hc; (try simp only [zB, zC, reduceCtorEq] at hc); ((try (clear mk0; have e9 : k = i := (by omega); subst e9; have hgk := kU hG hops k (Nat.le_refl k); have hgn := hgk.n)); (try (clear mk3; have hv8 := keys_eq hgk.a hnd hks hall; have hrk := UH (L := (jN (LF f n) o k)) (v := v) (by omega); have hfk := aaB (qK hgk.a (Di (L := (jN (LF f n) o k)) (v := v) (by omega))))); (try (have e0 : n = u := (by omega); subst e0)); (try (clear mk0; have hO := hops i (by omega); have hg := kU hG hops i (by omega); clear hkd hfk; rcases aj3 hO with e5 | e5 | e5 | e5 | e5 <;> rcases hq : idx (jN (LF f n) o i) (o i).id with _ | g; all_goals (first | (have hkd := ank e5) | (have hkd := anO e5) | (have hkd := an9 e5) | (have hkd := anu e5) | (have hkd := aor e5)); all_goals (first | (have hfk := ajJ hq) | (have hfk := aaB hq; have hgk := GA (hg.f _ (kT hq).1)))))); (try (exfalso; contradiction)))))
 | ((with_reducible show aQ _ _ _ _ _ _ _ _ _ _); first
 | (refine aF (k := 95) qN (za n f hn hf) ?_ ?_)
 | (refine aF (k := 207) uW (QA g (o i) hgk (ho i (by omega)) e5) ?_ ?_)
 | (refine aF (k := 207) uW (R8 g (o i) hgk (ho i (by omega)) e5) ?_ ?_)
 | (refine aF (k := 207) uW (R9 g (o i) hgk (ho i (by omega)) e5) ?_ ?_)
 | (refine nK (k := 121) Ao (sort_k (kU hG hops k (Nat.le_refl k)).a (kU hG hops k (Nat.le_refl k)).n hnd hks hall 6 rfl) ?_ ?_)
 | ((refine dA (k := 109) Tryz.func109 rfl tN (by rw [Tryz.ntmps109]; simp) ?_ ?_ (fun K hK => ?_)); (focus (exact True.intro)); (focus ((simp [jF]; done))); simp only [Tryz.ntmps109, List.map_cons, List.map_nil, List.nil_append, List.cons_append, List.append_nil, LV.tv, au, Nat.zero_add, Nat.reduceAdd])
 | ((refine dA (k := 149) Tryz.func149 rfl IC (by rw [Tryz.ntmps149]; simp) ?_ ?_ (fun K hK => ?_)); (focus (exact True.intro)); (focus ((simp [jF]; done))); simp only [Tryz.ntmps149, List.map_cons, List.map_nil, List.nil_append, List.cons_append, List.append_nil, LV.tv, au, Nat.zero_add, Nat.reduceAdd])
 | ((refine dA (k := 150) Tryz.func150 rfl IW (by rw [Tryz.ntmps150]; simp) ?_ ?_ (fun K hK => ?_)); (focus (exact True.intro)); (focus ((simp [jF]; done))); simp only [Tryz.ntmps150, List.map_cons, List.map_nil, List.nil_append, List.cons_append, List.append_nil, LV.tv, au, Nat.zero_add, Nat.reduceAdd])
 | ((refine dA (k := 110) Tryz.func110 rfl J7 (by rw [Tryz.ntmps110]; simp) ?_ ?_ (fun K hK => ?_)); (focus (exact True.intro)); (focus ((simp [jF]; done))); simp only [Tryz.ntmps110, List.map_cons, List.map_nil, List.nil_append, List.cons_append, List.append_nil, LV.tv, au, Nat.zero_add, Nat.reduceAdd])
 | ((refine dA (k := 151) Tryz.func151 rfl KC (by rw [Tryz.ntmps151]; simp) ?_ ?_ (fun K hK => ?_)); (focus (exact True.intro)); (focus ((simp [jF]; done))); simp only [Tryz.ntmps151, List.map_cons, List.map_nil, List.nil_append, List.cons_append, List.append_nil, LV.tv, au, Nat.zero_add, Nat.reduceAdd])
 | ((refine dA (k := 72) Tryz.func72 rfl Gm (by rw [Tryz.ntmps72]; simp) ?_ ?_ (fun K hK => ?_)); (focus (exact True.intro)); (focus ((simp [jF]; done))); simp only [Tryz.ntmps72, List.map_cons, List.map_nil, List.nil_append, List.cons_append, List.append_nil, LV.tv, au, Nat.zero_add, Nat.reduceAdd])
 | ((refine dA (k := 120) Tryz.func120 rfl CZ (by rw [Tryz.ntmps120]; simp) ?_ ?_ (fun K hK => ?_)); (focus (exact True.intro)); (focus ((simp [jF]; done))); simp only [Tryz.ntmps120, List.map_cons, List.map_nil, List.nil_append, List.cons_append, List.append_nil, LV.tv, au, Nat.zero_add, Nat.reduceAdd])
 | ((refine dA (k := 157) Tryz.func157 rfl AU (by rw [Tryz.ntmps157]; simp) ?_ ?_ (fun K hK => ?_)); (focus (exact True.intro)); (focus ((simp [jF]; done))); simp only [Tryz.ntmps157, List.map_cons, List.map_nil, List.nil_append, List.cons_append, List.append_nil, LV.tv, au, Nat.zero_add, Nat.reduceAdd])
 | ((refine nM (k := 176) Tryz.func176 rfl U8 (by rw [Tryz.ntmps176]; simp) ?_ ?_ (fun K hK => ?_)); (focus (exact True.intro)); (focus ((simp [jF]; done))); simp only [Tryz.ntmps176, List.map_cons, List.map_nil, List.nil_append, List.cons_append, List.append_nil, LV.tv, au, Nat.zero_add, Nat.reduceAdd])
 | ((refine nM (k := 177) Tryz.func177 rfl Vg (by rw [Tryz.ntmps177]; simp) ?_ ?_ (fun K hK => ?_)); (focus (exact True.intro)); (focus ((simp [jF]; done))); simp only [Tryz.ntmps177, List.map_cons, List.map_nil, List.nil_append, List.cons_append, List.append_nil, LV.tv, au, Nat.zero_add, Nat.reduceAdd])
 | ((refine nM (k := 178) Tryz.func178 rfl X3 (by rw [Tryz.ntmps178]; simp) ?_ ?_ (fun K hK => ?_)); (focus (exact True.intro)); (focus ((simp [jF]; done))); simp only [Tryz.ntmps178, List.map_cons, List.map_nil, List.nil_append, List.cons_append, List.append_nil, LV.tv, au, Nat.zero_add, Nat.reduceAdd]))
 | ((with_reducible show bG _ _ _ _ _ _ _ _ _ _); first
 | (refine aO (k := 148) tL (fun hg => CB k o hk ho) ?_ ?_))
 | (((with_reducible show AW _ (Code.loop (Code.seq (Code.region 3 #[⟨some 10, _, _, _, _, _⟩] _) _)) _ _); with_reducible refine aL (c := (Code.seq (Code.region 3 _ _) _)) (ι := Nat) [3,7,8] (fun u => [(9, iA .i64 (u : Int))]) (fun u => [(0, [.mi none u (fO (LF f u))])]) (fun u => u <= n) (fun u => n - u) 0 ?lg3 ?l13 ?l23 ?li3 ?lr3); (case' lg3 => rintro u _); (case' li3 => try (omega)); (case' lr3 => rintro u hu KR hR3; simp only [bI, dI, hset, lk, if_true, if_false, xE, reduceIte, zN, hv, hw, hkd, hfk, hrk, bg, fZ, List.length_reverse, List.length_map, List.take_zero, List.length_take, bH, dh, fQ, q8, jo, List.length_replicate, iJ, Int.reduceEq, maxLen]))
 | ((with_reducible refine hR3 _ (u + 1) ?_); (try clear hR3 KR))
 | ((with_reducible refine hR7 _ (i + 1) ?_); (try clear hR7 KR))
 | ((with_reducible refine hR1 _ (kk :: ks) ?_); (try clear hR1 KR))
 | (((with_reducible show AW _ (Code.loop (Code.seq (Code.region 3 #[⟨some 11, _, _, _, _, _⟩] _) _)) _ _); with_reducible refine aL (c := (Code.seq (Code.region 3 _ _) _)) (ι := Nat) [0,8,9] (fun v => [(3, .t (.one (.slc 7 0 v 9))), (10, iA .i64 (v : Int))]) (fun v => [(7, uX ((jN (LF f n) o k).take v))]) (fun v => v <= (jN (LF f n) o k).length) (fun v => (jN (LF f n) o k).length - v) 0 ?lg3b ?l13b ?l23b ?li3b ?lr3b); (case' lg3b => rintro v _); (case' li3b => try (omega)); (case' lr3b => rintro v hv9 KR hR3b; simp only [bI, dI, hset, lk, if_true, if_false, xE, reduceIte, zN, hv, hw, hkd, hfk, hrk, bg, fZ, List.length_reverse, List.length_map, List.take_zero, List.length_take, bH, dh, fQ, q8, jo, List.length_replicate, iJ, Int.reduceEq, maxLen]))
 | ((with_reducible refine hR3b _ (v + 1) ?_); (try clear hR3b KR))
 | ((with_reducible refine Told.mk ?_); simp only [go_sem, reduceIte, reduceCtorEq, xA, xL, xD, xE, xM, xS, xB, hv, hw, hkd, hfk, hrk, bg, fZ, List.length_reverse, List.length_map, List.take_zero, List.length_take, bH, dh, fQ, q8, jo, List.length_replicate, iJ, Int.reduceEq, maxLen] <;> (first | (((try simp (disch := omega) only [aV, Int.natCast_add, Int.cast_ofNat_Int, and_true, true_and, and_self]); (repeat' (first | omega | rfl | (with_reducible refine And.intro ?_ ?_) | ((exact Or.inr ⟨(OU hrs (by omega)).2, fun k => by rw [(OU hrs (by omega)).1]; exact oU _⟩)))); done)) | (((try simp (disch := omega) only [aV, Int.natCast_add, Int.cast_ofNat_Int, and_true, true_and, and_self]); (repeat' (first | omega | rfl | (with_reducible refine And.intro ?_ ?_) | ((exact zH _ _ (by simp; omega))) | ((exact Or.inr ⟨(MI hg hO e5 hq (by omega)).2.1, fun k => by rw [(MI hg hO e5 hq (by omega)).2.2]; exact oU _⟩)) | ((exact all_succ (by assumption) (MI hg hO e5 hq (by omega)).1)) | ((exact Or.inr ⟨(MH hg e5 hq).2.1, fun k => by rw [(MH hg e5 hq).2.2]; exact oU _⟩)) | ((exact all_succ (by assumption) (MH hg e5 hq).1)) | ((exact Or.inr ⟨(KV hg (by omega) hq (by assumption)).2.1, fun k => by rw [(KV hg (by omega) hq (by assumption)).2.2]; exact oU _⟩)) | ((exact all_succ (by assumption) (KV hg (by omega) hq (by assumption)).1)))); done)) | (((try simp (disch := omega) only [aV, Int.natCast_add, Int.cast_ofNat_Int, and_true, true_and, and_self]); (repeat' (first | omega | rfl | (with_reducible refine And.intro ?_ ?_) | ((exact hkm.1)) | ((exact fun e => by rw [hyy] at e; cases e)) | ((exact kY rfl (iO _))))); done)) | (((try simp (disch := omega) only [aV, Int.natCast_add, Int.cast_ofNat_Int, and_true, true_and, and_self]); (repeat' (first | omega | (with_reducible refine And.intro ?_ ?_) | ((exact kY rfl (iO _))) | ((rw [W9 (by omega)]; exact kY rfl (Gf _))))); done))))
 | ((with_reducible show kJ _ _ (Oper.mk _ (Op.range _ _) _ _ _ _) _ _ _); refine yL (by exact Ui) (by simp (maxSteps := 2000000) only [go_sem, reduceIte, reduceCtorEq, xA, xL, xD, xE, xM, xS, xB, Tryz.f61, Tryz.f179, Tryz.f109, Tryz.f149, Tryz.f150, Tryz.f110, Tryz.f151, Tryz.f72, Tryz.f120, Tryz.f157, Tryz.f176, Tryz.f177, Tryz.f178, hv, hw, hkd, hfk, hrk, bg, fZ, List.length_reverse, List.length_map, List.take_zero, List.length_take, bH, dh, fQ, q8, jo, List.length_replicate, iJ, Int.reduceEq, maxLen]; rfl) (by simp (maxSteps := 2000000) only [go_sem, reduceIte, reduceCtorEq, xA, xL, xD, xE, xM, xS, xB, Tryz.f61, Tryz.f179, Tryz.f109, Tryz.f149, Tryz.f150, Tryz.f110, Tryz.f151, Tryz.f72, Tryz.f120, Tryz.f157, Tryz.f176, Tryz.f177, Tryz.f178, hv, hw, hkd, hfk, hrk, bg, fZ, List.length_reverse, List.length_map, List.take_zero, List.length_take, bH, dh, fQ, q8, jo, List.length_replicate, iJ, Int.reduceEq, maxLen]; rfl) (fun cc => ?_))
 | ((with_reducible show kJ _ _ (Oper.mk _ (Op.next _ _) _ _ _ _) _ _ _); refine BZ (by simp (maxSteps := 2000000) only [go_sem, reduceIte, reduceCtorEq, xA, xL, xD, xE, xM, xS, xB, Tryz.f61, Tryz.f179, Tryz.f109, Tryz.f149, Tryz.f150, Tryz.f110, Tryz.f151, Tryz.f72, Tryz.f120, Tryz.f157, Tryz.f176, Tryz.f177, Tryz.f178, hv, hw, hkd, hfk, hrk, bg, fZ, List.length_reverse, List.length_map, List.take_zero, List.length_take, bH, dh, fQ, q8, jo, List.length_replicate, iJ, Int.reduceEq, maxLen]; rfl) (by simp (maxSteps := 2000000) only [go_sem, reduceIte, reduceCtorEq, xA, xL, xD, xE, xM, xS, xB, Tryz.f61, Tryz.f179, Tryz.f109, Tryz.f149, Tryz.f150, Tryz.f110, Tryz.f151, Tryz.f72, Tryz.f120, Tryz.f157, Tryz.f176, Tryz.f177, Tryz.f178, hv, hw, hkd, hfk, hrk, bg, fZ, List.length_reverse, List.length_map, List.take_zero, List.length_take, bH, dh, fQ, q8, jo, List.length_replicate, iJ, Int.reduceEq, maxLen]; rfl) (by simp (maxSteps := 2000000) only [go_sem, reduceIte, reduceCtorEq, xA, xL, xD, xE, xM, xS, xB, Tryz.f61, Tryz.f179, Tryz.f109, Tryz.f149, Tryz.f150, Tryz.f110, Tryz.f151, Tryz.f72, Tryz.f120, Tryz.f157, Tryz.f176, Tryz.f177, Tryz.f178, hv, hw, hkd, hfk, hrk, bg, fZ, List.length_reverse, List.length_map, List.take_zero, List.length_take, bH, dh, fQ, q8, jo, List.length_replicate, iJ, Int.reduceEq, maxLen]; rfl) (fun hall => ?_) (fun kk yy hyy hnn => ?_))
 | ((with_reducible show kJ _ _ (Oper.mk _ (Op.entry _) _ _ _ _) _ _ _); refine yK (by simp (maxSteps := 2000000) only [go_sem, reduceIte, reduceCtorEq, xA, xL, xD, xE, xM, xS, xB, Tryz.f61, Tryz.f179, Tryz.f109, Tryz.f149, Tryz.f150, Tryz.f110, Tryz.f151, Tryz.f72, Tryz.f120, Tryz.f157, Tryz.f176, Tryz.f177, Tryz.f178, hv, hw, hkd, hfk, hrk, bg, fZ, List.length_reverse, List.length_map, List.take_zero, List.length_take, bH, dh, fQ, q8, jo, List.length_replicate, iJ, Int.reduceEq, maxLen]; rfl) (by simp (maxSteps := 2000000) only [go_sem, reduceIte, reduceCtorEq, xA, xL, xD, xE, xM, xS, xB, Tryz.f61, Tryz.f179, Tryz.f109, Tryz.f149, Tryz.f150, Tryz.f110, Tryz.f151, Tryz.f72, Tryz.f120, Tryz.f157, Tryz.f176, Tryz.f177, Tryz.f178, hv, hw, hkd, hfk, hrk, bg, fZ, List.length_reverse, List.length_map, List.take_zero, List.length_take, bH, dh, fQ, q8, jo, List.length_replicate, iJ, Int.reduceEq, maxLen]; rfl) (by simp (maxSteps := 2000000) only [go_sem, reduceIte, reduceCtorEq, xA, xL, xD, xE, xM, xS, xB, Tryz.f61, Tryz.f179, Tryz.f109, Tryz.f149, Tryz.f150, Tryz.f110, Tryz.f151, Tryz.f72, Tryz.f120, Tryz.f157, Tryz.f176, Tryz.f177, Tryz.f178, hv, hw, hkd, hfk, hrk, bg, fZ, List.length_reverse, List.length_map, List.take_zero, List.length_take, bH, dh, fQ, q8, jo, List.length_replicate, iJ, Int.reduceEq, maxLen]; rfl) (by ((intros; simp_all; done))) (fun yy hyy => ?_))
 | ((fail_if_success (with_reducible show AW _ _ _ _)); simp (maxSteps := 2000000) only [go_sem, reduceIte, reduceCtorEq, xA, xL, xD, xE, xM, xS, xB, Tryz.f61, Tryz.f179, Tryz.f109, Tryz.f149, Tryz.f150, Tryz.f110, Tryz.f151, Tryz.f72, Tryz.f120, Tryz.f157, Tryz.f176, Tryz.f177, Tryz.f178, hv, hw, hkd, hfk, hrk, bg, fZ, List.length_reverse, List.length_map, List.take_zero, List.length_take, bH, dh, fQ, q8, jo, List.length_replicate, iJ, Int.reduceEq, maxLen])
 | ((with_reducible show aQ _ _ _ _ _ _ (.yld _) _ _ _); (refine lS (by simp only [EG, if_true]; exact rfl) ?_ (by simp) ?_ ?_ (fun K hK => ?_)); (focus (exact True.intro)); (focus (simp [ng])); (focus ((simp [jF]; done))); simp only [jm, gf, if_true, Nat.reduceAdd])
 | ((with_reducible refine hK _ ?_); clear hK K)
 | (with_reducible apply_assumption -exfalso only [*]))
  all_goals ((have h8 := keys_eq (kU hG hops k (Nat.le_refl k)).a hnd hks hall; have e7 : v = (jN (LF f n) o k).length := (by omega); subst e7; rw [List.take_length]; have h7 := akl hv hw (Int.le_refl _) hai; refine ⟨⟨by omega, fun c hc9 => (by have := Gf _ c hc9; cases c <;> trivial)⟩, ⟨h7.1, fun i q hi hq => Tt (jN (LF f n) o k) i q hi hq⟩, h7.2⟩))
theorem ab8 (n : Nat) (f : Nat -> aZ) (k : Nat) (o : Nat -> fE) (hn : n <= 9223372036854775807) (hf : ∀ i, i < n -> (f i).Ok) (hk : k <= 9223372036854775807) (ho : ∀ i, i < k -> (o i).f.Ok) (hv : oP n f = false) : aA Tryz.prog 61 [.one (.lst 9 n (dN f)), .one (.lst 16 k (iR o))] (.tup [.one (.lst 9 (Ef n f k o) (dN (apF n f k o))), .one (.g (.int .i64 (apI n f k o))), .one (.g (.int .i64 (zJ n f k o)))]) := by
  refine ak Tryz.func61 rfl (by rw [Tryz.ntmps61]; simp) ?_
  simp only [Tryz.ntmps61, zM, PT.tv, au, Nat.zero_add, Nat.reduceAdd]
  repeat' (first
 | ((with_reducible show AW _ _ _ _); first
 | (with_reducible first | refine aS (fun K hK => ?_) | refine aT ?_ | refine aC ?_)
 | (first
 | (with_reducible first | refine aP (ops := #[⟨some 4, _, _, _, _, _⟩, _, _]) 0 [0,1] ?_ | refine aP (ops := #[⟨some 4, _, _, _, _, _⟩, _, _, _]) 0 [0,1] ?_ | refine aP (ops := #[⟨some 12, _, _, _, _, _⟩, _, _, _, _, _, _, _, _, _, _, _]) 1 [0,1] ?_ | refine aP (ops := #[⟨some 15, _, _, _, _, _⟩, _, _, _, _, _, _, _]) 1 [0,1] ?_ | refine aP (ops := #[⟨some 19, _, _, _, _, _⟩, _]) 2 [7,9,10] ?_ | refine aP (ops := #[⟨some 4, _, _, _, _, _⟩, _, _, _]) 2 [] ?_ | refine aP (ops := #[⟨some 21, _, _, _, _, _⟩, _, _, _, _]) 3 [9,10] ?_)))
 | ((first | (with_reducible refine And.intro ?_ ?_) | (with_reducible refine Need.mk ?_)); focus (first | exact True.intro | (simp; done)))
 | (with_reducible refine aJ ?_)
 | ((with_reducible show bL _ _ _ _ _ _); first
 | ((with_reducible refine aM ?_ ?_) <;> (intro hc; (try simp only [zB, zC, reduceCtorEq] at hc); (try (exfalso; contradiction)))))
 | ((with_reducible show aQ _ _ _ _ _ _ _ _ _ _); first
 | (refine aF (k := 95) qN (za n f hn hf) ?_ ?_)
 | ((refine dA (k := 109) Tryz.func109 rfl tN (by rw [Tryz.ntmps109]; simp) ?_ ?_ (fun K hK => ?_)); (focus (exact True.intro)); (focus ((simp [jF]; done))); simp only [Tryz.ntmps109, List.map_cons, List.map_nil, List.nil_append, List.cons_append, List.append_nil, LV.tv, au, Nat.zero_add, Nat.reduceAdd]))
 | ((with_reducible show bG _ _ _ _ _ _ _ _ _ _); first
 | (refine aO (k := 148) tL (fun hg => CB k o hk ho) ?_ ?_))
 | ((fail_if_success (with_reducible show AW _ _ _ _)); simp (maxSteps := 2000000) only [go_sem, reduceIte, reduceCtorEq, xA, xL, xD, xE, xM, xS, xB, Tryz.f61, Tryz.f109, hv])
 | ((with_reducible refine hK _ ?_); clear hK K)
 | (with_reducible apply_assumption -exfalso only [*]))
  all_goals (exact Vj (by unfold OP; rw [hv]; rfl))
theorem acz (n : Nat) (f : Nat -> aZ) (k : Nat) (o : Nat -> fE) (hn : n <= 9223372036854775807) (hf : ∀ i, i < n -> (f i).Ok) (hk : k <= 9223372036854775807) (ho : ∀ i, i < k -> (o i).f.Ok) (hv : oP n f = true) (hw : D7 k o = false) : aA Tryz.prog 61 [.one (.lst 9 n (dN f)), .one (.lst 16 k (iR o))] (.tup [.one (.lst 9 (Ef n f k o) (dN (apF n f k o))), .one (.g (.int .i64 (apI n f k o))), .one (.g (.int .i64 (zJ n f k o)))]) := by
  refine ak Tryz.func61 rfl (by rw [Tryz.ntmps61]; simp) ?_
  simp only [Tryz.ntmps61, zM, PT.tv, au, Nat.zero_add, Nat.reduceAdd]
  repeat' (first
 | ((with_reducible show AW _ _ _ _); first
 | (with_reducible first | refine aS (fun K hK => ?_) | refine aT ?_ | refine aC ?_)
 | (first
 | (with_reducible first | refine aP (ops := #[⟨some 4, _, _, _, _, _⟩, _, _]) 0 [0,1] ?_ | refine aP (ops := #[⟨some 4, _, _, _, _, _⟩, _, _, _]) 0 [0,1] ?_ | refine aP (ops := #[⟨some 12, _, _, _, _, _⟩, _, _, _, _, _, _, _, _, _, _, _]) 1 [0,1] ?_ | refine aP (ops := #[⟨some 15, _, _, _, _, _⟩, _, _, _, _, _, _, _]) 1 [0,1] ?_ | refine aP (ops := #[⟨some 19, _, _, _, _, _⟩, _]) 2 [7,9,10] ?_ | refine aP (ops := #[⟨some 4, _, _, _, _, _⟩, _, _, _]) 2 [] ?_ | refine aP (ops := #[⟨some 21, _, _, _, _, _⟩, _, _, _, _]) 3 [9,10] ?_)))
 | ((first | (with_reducible refine And.intro ?_ ?_) | (with_reducible refine Need.mk ?_)); focus (first | exact True.intro | (intro _; exact True.intro)))
 | (with_reducible refine aJ ?_)
 | ((with_reducible show bL _ _ _ _ _ _); first
 | ((with_reducible refine aM ?_ ?_) <;> (intro hc; (try simp only [zB, zC, reduceCtorEq] at hc); (try (exfalso; contradiction)))))
 | ((with_reducible show aQ _ _ _ _ _ _ _ _ _ _); first
 | (refine aF (k := 95) qN (za n f hn hf) ?_ ?_)
 | ((refine dA (k := 109) Tryz.func109 rfl tN (by rw [Tryz.ntmps109]; simp) ?_ ?_ (fun K hK => ?_)); (focus (exact True.intro)); (focus ((simp [jF]; done))); simp only [Tryz.ntmps109, List.map_cons, List.map_nil, List.nil_append, List.cons_append, List.append_nil, LV.tv, au, Nat.zero_add, Nat.reduceAdd]))
 | ((with_reducible show bG _ _ _ _ _ _ _ _ _ _); first
 | (refine aO (k := 148) tL (fun hg => CB k o hk ho) ?_ ?_))
 | ((fail_if_success (with_reducible show AW _ _ _ _)); simp (maxSteps := 2000000) only [go_sem, reduceIte, reduceCtorEq, xA, xL, xD, xE, xM, xS, xB, Tryz.f61, Tryz.f109, hv, hw])
 | ((with_reducible refine hK _ ?_); clear hK K)
 | (with_reducible apply_assumption -exfalso only [*]))
  all_goals (exact Vj (by unfold OP; rw [hv]; rw [hw]; rfl))
theorem OH (n : Nat) (f : Nat -> aZ) (k : Nat) (o : Nat -> fE) (hn : n <= 9223372036854775807) (hf : ∀ i, i < n -> (f i).Ok) (hk : k <= 9223372036854775807) (ho : ∀ i, i < k -> (o i).f.Ok) : aA Tryz.prog 61 [.one (.lst 9 n (dN f)), .one (.lst 16 k (iR o))] (.tup [.one (.lst 9 (Ef n f k o) (dN (apF n f k o))), .one (.g (.int .i64 (apI n f k o))), .one (.g (.int .i64 (zJ n f k o)))]) := by
  cases hv : oP n f with
  | false => exact ab8 n f k o hn hf hk ho hv
  | true => cases hw : D7 k o with
    | false => exact acz n f k o hn hf hk ho hv hw
    | true => exact aaW n f k o hn hf hk ho hv hw
end Go.Proofs.YtcfechepbamhkaaGreat
set_option maxRecDepth 100000
set_option maxHeartbeats 4000000
namespace Go.Proofs.YtcfechepbamhkaaGreat
open Go.RowKit Go.Sea
open Nat renaming reduceAdd -> xA, reduceLT -> xL, reduceLeDiff -> xD, reduceEqDiff -> xE, reduceMul -> xM, reduceSub -> xS, reduceBEq -> xB
theorem Il : aN Tryz.prog 155 = true := by kernel_rfl
attribute [go_sem] Il
theorem GL {b : Nat -> Bool} : ∀ k, j3 b k < k -> b (j3 b k) = true /\ ∀ j, j < j3 b k -> b j = false
  | 0, h => absurd h (Nat.not_lt_zero _)
  | k + 1, h => by
    by_cases h1 : j3 b k < k
    · have := GL k h1
      have e : j3 b (k + 1) = j3 b k := lC this.1 this.2 (k + 1) (by omega)
      rw [e]; exact this
    · have e0 : j3 b k = k := by have := qJ b k; omega
      have hA : ∀ j, j < k -> b j = false := fun j hj => by
        cases hb : b j with
        | false => rfl
        | true =>
          exfalso
          obtain ⟨m, hm, hm1, hm2⟩ : ∃ m, m <= j /\ b m = true /\ ∀ q, q < m -> b q = false := by
            clear h h1 e0
            induction j using Nat.strongRecOn with
            | _ j ih =>
              by_cases hx : ∃ q, q < j /\ b q = true
              · obtain ⟨q, hq, hq2⟩ := hx
                obtain ⟨m, h1, h2⟩ := ih q hq (by omega) hq2
                exact ⟨m, by omega, h2⟩
              · exact ⟨j, Nat.le_refl _, hb, fun q hq => by
                  cases hbq : b q with
                  | false => rfl
                  | true => exact absurd ⟨q, hq, hbq⟩ hx⟩
          have := lC hm1 hm2 k (by omega)
          omega
      cases hb : b k with
      | true => rw [lC hb hA (k + 1) (by omega)]; exact ⟨hb, hA⟩
      | false =>
        have : j3 b (k + 1) = k + 1 := sF (k + 1) fun j hj => by
          by_cases e : j = k
          · subst e; exact hb
          · exact hA j (by omega)
        omega
end Go.Proofs.YtcfechepbamhkaaGreat
set_option maxRecDepth 100000
set_option maxHeartbeats 4000000
namespace Go.Proofs.YtcfechepbamhkaaGreat
open Go.RowKit Go.Sea
open Nat renaming reduceAdd -> xA, reduceLT -> xL, reduceLeDiff -> xD, reduceEqDiff -> xE, reduceMul -> xM, reduceSub -> xS, reduceBEq -> xB
theorem adD : dF Tryz.prog 35 0 = some 0 := by kernel_rfl
theorem acr : dF Tryz.prog 35 1 = some 1 := by kernel_rfl
theorem acU : dF Tryz.prog 35 3 = some 3 := by kernel_rfl
theorem aef : dF Tryz.prog 35 4 = some 4 := by kernel_rfl
attribute [go_sem] adD acr acU aef
theorem XU {x y : Int} (hx : -2000000 <= x /\ x <= 2000000) (hy : -2000000 <= y /\ y <= 2000000) : -4000000000000 <= x * y /\ x * y <= 4000000000000 := by
  have h1 : 0 <= (2000000 - x) * (2000000 + y) := Int.mul_nonneg (by omega) (by omega)
  have h2 : 0 <= (2000000 + x) * (2000000 - y) := Int.mul_nonneg (by omega) (by omega)
  have h3 : 0 <= (2000000 - x) * (2000000 - y) := Int.mul_nonneg (by omega) (by omega)
  have h4 : 0 <= (2000000 + x) * (2000000 + y) := Int.mul_nonneg (by omega) (by omega)
  simp only [Int.sub_mul, Int.mul_sub, Int.add_mul, Int.mul_add] at h1 h2 h3 h4
  generalize x * y = z at *
  omega
def oQ (n m : Nat) (s t : Nat -> Int) : Bool := decide (n = m /\ ∀ i, i < n -> s i = t i)
def AL (n m : Nat) (f g : Nat -> aZ) : Bool := decide (n = m /\ ∀ i, i < n -> uG (f i) (g i) = true)
theorem ai4 {q : Nat} {a : Nat -> Int} {i : Nat} (hi : (q : Int) <= i) (g : ∀ i', i' < i -> nD a 10001 i') : decide ((q : Int) <= 200) = yT q a := by
  unfold yT; exact decide_eq_decide.2 ⟨fun h => ⟨by omega, fun k hk => g k (by omega)⟩, fun h => by omega⟩
theorem agU {q : Nat} {a : Nat -> Int} {i : Nat} (hi : (i : Int) < q) (h : ¬ nD a 10001 i) : yT q a = false := decide_eq_false fun g => h (g.2 i (by omega))
theorem aki {m : rT} (h : (-2000000 <= m.A /\ m.A <= 2000000) /\ (-2000000 <= m.B /\ m.B <= 2000000) /\ (-2000000 <= m.D /\ m.D <= 2000000) /\ (-2000000 <= m.E /\ m.E <= 2000000)) : (-4000000000000 <= m.A * m.E /\ m.A * m.E <= 4000000000000) /\ (-4000000000000 <= m.B * m.D /\ m.B * m.D <= 4000000000000) := ⟨XU h.1 h.2.2.2, XU h.2.1 h.2.2.1⟩
def seqB (a b : aH) : Bool := decide (a.ch = b.ch /\ a.sc = b.sc /\ a.ed = b.ed /\ (a.m.A = b.m.A /\ a.m.B = b.m.B /\ a.m.C = b.m.C /\ a.m.D = b.m.D /\ a.m.E = b.m.E /\ a.m.F = b.m.F /\ a.m.R = b.m.R) /\ a.cap = b.cap) && (oQ a.q b.q a.dn b.dn && AL a.n b.n a.f b.f)
theorem Xf (x y : Int) : aA Tryz.prog 93 [.one (.g (.int .i64 x)), .one (.g (.int .i64 y))] (.t (.one (.g (.bool (decide (1 <= x /\ x <= y)))))) := by
  refine ak Tryz.func93 rfl (by rw [Tryz.ntmps93]; simp) ?_
  simp only [Tryz.ntmps93, zM, PT.tv, au, Nat.zero_add, Nat.reduceAdd]
  repeat' (first
 | ((with_reducible show AW _ _ _ _); first
 | (with_reducible first | refine aS (fun K hK => ?_) | refine aT ?_)
 | (first
 | (with_reducible first | refine aP 0 [0,1] ?_ | refine aP 1 [0,1] ?_)))
 | (with_reducible refine aJ ?_)
 | ((fail_if_success (with_reducible show AW _ _ _ _)); simp (maxSteps := 2000000) only [go_sem, reduceIte, reduceCtorEq, xA, xL, xD, xE, xM, xS, xB, Tryz.f93])
 | ((with_reducible refine hK _ ?_); clear hK K))
  all_goals ((try refine Bool.eq_iff_iff.2 ?_); (simp only [Bool.and_eq_true, Bool.or_eq_true, Bool.not_eq_true', decide_eq_true_eq, decide_eq_false_iff_not, bne_iff_ne, beq_iff_eq, ne_eq, ge_iff_le, gt_iff_lt, cond_eq_ite, iff_self, eq_self]; done))
theorem ama (m : rT) (hm : (-2000000 <= m.A /\ m.A <= 2000000) /\ (-2000000 <= m.B /\ m.B <= 2000000) /\ (-2000000 <= m.D /\ m.D <= 2000000) /\ (-2000000 <= m.E /\ m.E <= 2000000)) : aA Tryz.prog 132 [.agg [.g (.int .i64 m.A), .g (.int .i64 m.B), .g (.int .i64 m.C), .g (.int .i64 m.D), .g (.int .i64 m.E), .g (.int .i64 m.F), .g (.int .i64 m.R)]] (.t (.one (.g (.int .i64 (m.A * m.E - m.B * m.D))))) := by
  have hX := aki hm
  refine ak Tryz.func132 rfl (by rw [Tryz.ntmps132]; simp) ?_
  simp only [Tryz.ntmps132, zM, PT.tv, au, Nat.zero_add, Nat.reduceAdd]
  repeat' (first
 | ((with_reducible show AW _ _ _ _); first
 | (with_reducible first | refine aS (fun K hK => ?_) | refine aT ?_)
 | (first
 | (with_reducible first | refine aP 0 [0] ?_ | refine aP 1 [1] ?_)))
 | (with_reducible refine aJ ?_)
 | ((fail_if_success (with_reducible show AW _ _ _ _)); simp (maxSteps := 2000000) only [go_sem, reduceIte, reduceCtorEq, xA, xL, xD, xE, xM, xS, xB, Tryz.f132])
 | ((fail_if_success (with_reducible show AW _ _ _ _)); simp (disch := omega) only [aV, ig, iq])
 | ((with_reducible refine hK _ ?_); clear hK K))
end Go.Proofs.YtcfechepbamhkaaGreat
set_option maxRecDepth 100000
set_option maxHeartbeats 4000000
namespace Go.Proofs.YtcfechepbamhkaaGreat
open Go.RowKit Go.Sea
open Nat renaming reduceAdd -> xA, reduceLT -> xL, reduceLeDiff -> xD, reduceEqDiff -> xE, reduceMul -> xM, reduceSub -> xS, reduceBEq -> xB
theorem H6 : aN Tryz.prog 132 = true := by kernel_rfl
theorem Vf : aN Tryz.prog 152 = true := by kernel_rfl
theorem XG : aN Tryz.prog 153 = true := by kernel_rfl
theorem aix : fM Tryz.prog 161 = true := by kernel_rfl
theorem agG : ixD Tryz.prog 161 = some (4, false, 1) := by kernel_rfl
theorem aaH : dF Tryz.prog 35 2 = some 2 := by kernel_rfl
theorem ae2 : dF Tryz.prog 35 5 = some 5 := by kernel_rfl
theorem afl : dF Tryz.prog 35 6 = some 6 := by kernel_rfl
theorem aaz : dz Tryz.prog 161 0 = some (0, 1) := by kernel_rfl
theorem ZY : dz Tryz.prog 161 1 = some (1, 1) := by kernel_rfl
theorem VO : dz Tryz.prog 161 2 = some (2, 1) := by kernel_rfl
theorem Vq : dz Tryz.prog 161 3 = some (3, 1) := by kernel_rfl
theorem ak3 : lQ Tryz.prog 35 = some (true, 7) := by kernel_rfl
theorem ai8 : fV Tryz.prog 161 = some [.iv (.g (.int .i64 0)), .iv (.g (.int .i64 0)), .iv (.g (.int .i64 0)), .iv (.g (.int .i64 0))] := by kernel_rfl
attribute [go_sem] H6 Vf XG aix agG aaH ae2 afl aaz ZY VO Vq ak3 ai8
theorem FY {n m : Nat} {s t : Nat -> Int} (h : (n : Int) ≠ m) : false = oQ n m s t := (decide_eq_false fun g => by omega).symm
theorem Fj {n m : Nat} {s t : Nat -> Int} {i : Nat} (hi : (i : Int) < n) (h : s i ≠ t i) : false = oQ n m s t := (decide_eq_false fun g => h (g.2 i (by omega))).symm
theorem Fb {n m : Nat} {s t : Nat -> Int} {i : Nat} (h : (n : Int) = m) (hi : (n : Int) <= i) (g : ∀ j, j < i -> s j = t j) : true = oQ n m s t := (decide_eq_true ⟨by omega, fun k hk => g k (by omega)⟩).symm
theorem agd {n m : Nat} {f g : Nat -> aZ} (h : (n : Int) ≠ m) : false = AL n m f g := (decide_eq_false fun e => by omega).symm
theorem aif {n m : Nat} {f g : Nat -> aZ} {i : Nat} (hi : (i : Int) < n) (h : uG (f i) (g i) = false) : false = AL n m f g := (decide_eq_false fun e => by rw [e.2 i (by omega)] at h; cases h).symm
theorem aia {n m : Nat} {f g : Nat -> aZ} {i : Nat} (h : (n : Int) = m) (hi : (n : Int) <= i) (ha : ∀ j, j < i -> uG (f j) (g j) = true) : true = AL n m f g := (decide_eq_true ⟨by omega, fun k hk => ha k (by omega)⟩).symm
def gq (q : Nat) (a : Nat -> Int) (x : Int) : Bool := decide (∃ i, i < q /\ a i = x)
theorem ajP {q : Nat} {a : Nat -> Int} {x : Int} {i : Nat} (hi : (q : Int) <= i) (g : ∀ j, j < i -> a j ≠ x) : false = gq q a x := (decide_eq_false fun ⟨j, h1, h2⟩ => g j (by omega) h2).symm
theorem aip {q : Nat} {a : Nat -> Int} {x : Int} {i : Nat} (hi : (i : Int) < q) (h : a i = x) : true = gq q a x := (decide_eq_true ⟨i, by omega, h⟩).symm
theorem ajB {m : rT} (h : ¬ LQ m) : false = PX m := (decide_eq_false h).symm
theorem aj8 {m : rT} {b : Bool} (h : b = true ↔ LQ m) : b = PX m := Bool.eq_iff_iff.2 (h.trans (decide_eq_true_iff (p := LQ m)).symm)
def Lh (m : rT) (j : Nat) : Int := if j = 0 then m.A else if j = 1 then m.B else if j = 2 then m.D else m.E
def ai3 (m : rT) (j : Nat) : Prop := -2000000 <= Lh m j /\ Lh m j <= 2000000
theorem Nk {m : rT} {j : Nat} (h : ∀ j', j' < j -> ai3 m j') (hj : 4 <= j) : (-2000000 <= m.A /\ m.A <= 2000000) /\ (-2000000 <= m.B /\ m.B <= 2000000) /\ (-2000000 <= m.D /\ m.D <= 2000000) /\ (-2000000 <= m.E /\ m.E <= 2000000) := by
  have h0 := h 0 (by omega); have h1 := h 1 (by omega); have h2 := h 2 (by omega); have h3 := h 3 (by omega)
  simp only [ai3, Lh, if_true, Nat.reduceEqDiff, if_false] at h0 h1 h2 h3
  exact ⟨by simpa using h0, by simpa using h1, by simpa using h2, by simpa using h3⟩
theorem acy {m : rT} {j : Nat} (h : j < 4) : ([.iv (.g (.int .i64 m.A)), .iv (.g (.int .i64 m.B)), .iv (.g (.int .i64 m.D)), .iv (.g (.int .i64 m.E))] : List CV).getD j .any = .iv (.g (.int .i64 (Lh m j))) := by
  rcases (by omega : j = 0 \/ j = 1 \/ j = 2 \/ j = 3) with rfl | rfl | rfl | rfl <;> rfl
theorem aio {m : rT} {j : Nat} (h : j < 4) (hc : Lh m j < -2000000 \/ Lh m j > 2000000) (g : (-2000000 <= m.A /\ m.A <= 2000000) /\ (-2000000 <= m.B /\ m.B <= 2000000) /\ (-2000000 <= m.D /\ m.D <= 2000000) /\ (-2000000 <= m.E /\ m.E <= 2000000)) : False := by
  rcases (by omega : j = 0 \/ j = 1 \/ j = 2 \/ j = 3) with rfl | rfl | rfl | rfl <;> simp [Lh] at hc <;> omega
theorem amV {m : rT} (h : ¬ ((-2000000 <= m.A /\ m.A <= 2000000) /\ (-2000000 <= m.B /\ m.B <= 2000000) /\ (-2000000 <= m.D /\ m.D <= 2000000) /\ (-2000000 <= m.E /\ m.E <= 2000000))) : false = PX m := ajB fun g => h g.1
theorem alT (n m : Nat) (s t : Nat -> Int) (hn : n <= 9223372036854775807) (hm : m <= 9223372036854775807) : aA Tryz.prog 56 [.one (.lst 1 n (bn s)), .one (.lst 1 m (bn t))] (.t (.one (.g (.bool (oQ n m s t))))) := by
  refine ak Tryz.func56 rfl (by rw [Tryz.ntmps56]; simp) ?_
  simp only [Tryz.ntmps56, zM, PT.tv, au, Nat.zero_add, Nat.reduceAdd]
  repeat' (first
 | ((with_reducible show AW _ _ _ _); first
 | (with_reducible first | refine aS (fun K hK => ?_) | refine aI ?_ | refine aX ?_ | refine aT ?_ | refine aC ?_ | refine aB ?_)
 | (first
 | (with_reducible first | refine aP 0 [0,1] ?_ | refine aP 1 [0,1] ?_ | refine aP 2 [] ?_ | refine aP 3 [0,1] ?_ | refine aP 4 [0,1,12,13] ?_ | refine aP 5 [0,1,12,13] ?_)
 | ((with_reducible refine aR (c := Code.region 6 _ true) [0,1,5,12,13] ?_); (with_reducible refine aD ?_ ?_ ?_ ?_); (focus kernel_rfl); (focus kernel_rfl); (focus kernel_rfl))
 | (with_reducible first | refine aP 7 [] ?_ | refine aP 8 [0,1,12,13] ?_ | refine aP 9 [] ?_))
 | ((with_reducible show AW _ (Code.loop _) _ _); first
 | ((with_reducible refine aL (c := (Code.seq (Code.region 4 _ _) _)) (ι := Nat) [0,1,12] (fun i => [(13, iA .i64 (i : Int))]) (fun i => []) (fun i => i <= n /\ (∀ i', i' < i -> s i' = t i')) (fun i => n - i) 0 ?lg4 ?l14 ?l24 ?li4 ?lr4); (case' lg4 => rintro i _); (case' li4 => try (exact ⟨Nat.zero_le _, fun i hi => absurd hi (Nat.not_lt_zero _)⟩)); (case' lr4 => rintro i ⟨hi, hai⟩ KR hR4; simp only [bI, dI, hset, lk, if_true, if_false, xE, reduceIte, zN]))))
 | (((with_reducible refine And.intro ?_ ?_)); focus (omega))
 | (with_reducible refine aJ ?_)
 | ((with_reducible show bL _ _ _ _ _ _); first
 | ((with_reducible refine aM ?_ ?_) <;> (intro hc; (try simp only [zB, zC, reduceCtorEq] at hc); (try (exfalso; contradiction)))))
 | ((with_reducible refine And.intro ?_ ?_); focus ((with_reducible show gW _ _ _ = true); kernel_rfl))
 | ((with_reducible refine hR4 _ (i + 1) ?_); (try clear hR4 KR))
 | ((with_reducible refine Told.mk ?_); simp only [go_sem, reduceIte, reduceCtorEq, xA, xL, xD, xE, xM, xS, xB, bn] <;> ((((try simp (disch := omega) only [aV, Int.natCast_add, Int.cast_ofNat_Int, and_true, true_and, and_self]); (repeat' (first | omega | (with_reducible refine And.intro ?_ ?_) | (exact all_succ (by assumption) (by assumption)) )); done))))
 | ((fail_if_success (with_reducible show AW _ _ _ _)); simp (maxSteps := 2000000) only [go_sem, reduceIte, reduceCtorEq, xA, xL, xD, xE, xM, xS, xB, Tryz.f56, bn])
 | ((with_reducible refine hK _ ?_); clear hK K)
 | (with_reducible apply_assumption -exfalso only [*]))
  all_goals first | exact FY (by assumption) | exact Fj (by assumption) hc | exact Fb (by omega) (by assumption) hai | skip
theorem aaM (n m : Nat) (s t : Nat -> Int) (hn : n <= 9223372036854775807) (hm : m <= 9223372036854775807) : aA Tryz.prog 65 [.one (.lst 1 n (bn s)), .one (.lst 1 m (bn t))] (.t (.one (.g (.bool (oQ n m s t))))) := by
  refine ak Tryz.func65 rfl (by rw [Tryz.ntmps65]; simp) ?_
  simp only [Tryz.ntmps65, zM, PT.tv, au, Nat.zero_add, Nat.reduceAdd]
  repeat' (first
 | ((with_reducible show AW _ _ _ _); first
 | (with_reducible first | refine aS (fun K hK => ?_) | refine aI ?_ | refine aX ?_ | refine aT ?_ | refine aC ?_ | refine aB ?_)
 | (first
 | (with_reducible first | refine aP 0 [0,1] ?_ | refine aP 1 [0,1] ?_ | refine aP 2 [] ?_ | refine aP 3 [0,1] ?_ | refine aP 4 [0,1,5] ?_ | refine aP 5 [0,1,5] ?_)
 | ((with_reducible refine aR (c := Code.region 6 _ true) [0,1,5] ?_); (with_reducible refine aD ?_ ?_ ?_ ?_); (focus kernel_rfl); (focus kernel_rfl); (focus kernel_rfl))
 | (with_reducible first | refine aP 7 [] ?_ | refine aP 8 [] ?_))
 | ((with_reducible show AW _ (Code.loop _) _ _); first
 | ((with_reducible refine aL (c := (Code.seq (Code.seq (Code.region 4 _ _) _) _)) (ι := Nat) [0,1] (fun i => [(5, iA .i64 (i : Int))]) (fun i => []) (fun i => i <= n /\ (∀ i', i' < i -> s i' = t i')) (fun i => n - i) 0 ?lg4 ?l14 ?l24 ?li4 ?lr4); (case' lg4 => rintro i _); (case' li4 => try (exact ⟨Nat.zero_le _, fun i hi => absurd hi (Nat.not_lt_zero _)⟩)); (case' lr4 => rintro i ⟨hi, hai⟩ KR hR4; simp only [bI, dI, hset, lk, if_true, if_false, xE, reduceIte, zN]))))
 | (((with_reducible refine And.intro ?_ ?_)); focus (omega))
 | (with_reducible refine aJ ?_)
 | ((with_reducible show bL _ _ _ _ _ _); first
 | ((with_reducible refine aM ?_ ?_) <;> (intro hc; (try simp only [zB, zC, reduceCtorEq] at hc); (try (exfalso; contradiction)))))
 | ((with_reducible refine And.intro ?_ ?_); focus ((with_reducible show gW _ _ _ = true); kernel_rfl))
 | ((with_reducible refine hR4 _ (i + 1) ?_); (try clear hR4 KR))
 | ((with_reducible refine Told.mk ?_); simp only [go_sem, reduceIte, reduceCtorEq, xA, xL, xD, xE, xM, xS, xB, bn] <;> ((((try simp (disch := omega) only [aV, Int.natCast_add, Int.cast_ofNat_Int, and_true, true_and, and_self]); (repeat' (first | omega | (with_reducible refine And.intro ?_ ?_) | (exact all_succ (by assumption) (by assumption)) )); done))))
 | ((fail_if_success (with_reducible show AW _ _ _ _)); simp (maxSteps := 2000000) only [go_sem, reduceIte, reduceCtorEq, xA, xL, xD, xE, xM, xS, xB, Tryz.f65, bn])
 | ((with_reducible refine hK _ ?_); clear hK K)
 | (with_reducible apply_assumption -exfalso only [*]))
  all_goals first | exact FY (by assumption) | exact Fj (by assumption) hc | exact Fb (by omega) (by assumption) hai | skip
theorem Y8 (n m : Nat) (s t : Nat -> Int) (hn : n <= 9223372036854775807) (hm : m <= 9223372036854775807) : aA Tryz.prog 31 [.one (.lst 1 n (bn s)), .one (.lst 1 m (bn t))] (.t (.one (.g (.bool (oQ n m s t))))) := by
  refine ak Tryz.func31 rfl (by rw [Tryz.ntmps31]; simp) ?_
  simp only [Tryz.ntmps31, zM, PT.tv, au, Nat.zero_add, Nat.reduceAdd]
  repeat' (first
 | ((with_reducible show AW _ _ _ _); first
 | (with_reducible first | refine aS (fun K hK => ?_) | refine aI ?_ | refine aX ?_ | refine aT ?_ | refine aC ?_ | refine aB ?_)
 | (first
 | (with_reducible first | refine aP 0 [0,1] ?_ | refine aP 1 [0,1] ?_ | refine aP 2 [] ?_ | refine aP 3 [0,1] ?_ | refine aP 4 [0,1,5] ?_ | refine aP 5 [0,1,5] ?_)
 | ((with_reducible refine aR (c := Code.region 6 _ true) [0,1,5] ?_); (with_reducible refine aD ?_ ?_ ?_ ?_); (focus kernel_rfl); (focus kernel_rfl); (focus kernel_rfl))
 | (with_reducible first | refine aP 7 [] ?_ | refine aP 8 [] ?_))
 | ((with_reducible show AW _ (Code.loop _) _ _); first
 | ((with_reducible refine aL (c := (Code.seq (Code.seq (Code.region 4 _ _) _) _)) (ι := Nat) [0,1] (fun i => [(5, iA .i64 (i : Int))]) (fun i => []) (fun i => i <= n /\ (∀ i', i' < i -> s i' = t i')) (fun i => n - i) 0 ?lg4 ?l14 ?l24 ?li4 ?lr4); (case' lg4 => rintro i _); (case' li4 => try (exact ⟨Nat.zero_le _, fun i hi => absurd hi (Nat.not_lt_zero _)⟩)); (case' lr4 => rintro i ⟨hi, hai⟩ KR hR4; simp only [bI, dI, hset, lk, if_true, if_false, xE, reduceIte, zN]))))
 | (((with_reducible refine And.intro ?_ ?_)); focus (omega))
 | (with_reducible refine aJ ?_)
 | ((with_reducible show bL _ _ _ _ _ _); first
 | ((with_reducible refine aM ?_ ?_) <;> (intro hc; (try simp only [zB, zC, reduceCtorEq] at hc); (try (exfalso; contradiction)))))
 | ((with_reducible refine And.intro ?_ ?_); focus ((with_reducible show gW _ _ _ = true); kernel_rfl))
 | ((with_reducible refine hR4 _ (i + 1) ?_); (try clear hR4 KR))
 | ((with_reducible refine Told.mk ?_); simp only [go_sem, reduceIte, reduceCtorEq, xA, xL, xD, xE, xM, xS, xB, bn] <;> ((((try simp (disch := omega) only [aV, Int.natCast_add, Int.cast_ofNat_Int, and_true, true_and, and_self]); (repeat' (first | omega | (with_reducible refine And.intro ?_ ?_) | (exact all_succ (by assumption) (by assumption)) )); done))))
 | ((fail_if_success (with_reducible show AW _ _ _ _)); simp (maxSteps := 2000000) only [go_sem, reduceIte, reduceCtorEq, xA, xL, xD, xE, xM, xS, xB, Tryz.f31, bn])
 | ((with_reducible refine hK _ ?_); clear hK K)
 | (with_reducible apply_assumption -exfalso only [*]))
  all_goals first | exact FY (by assumption) | exact Fj (by assumption) hc | exact Fb (by omega) (by assumption) hai | skip
theorem CP (q : Nat) (a : Nat -> Int) (x : Int) (hq : q <= 9223372036854775807) : aA Tryz.prog 14 [.one (.lst 1 q (bn a)), .one (.g (.int .i64 x))] (.t (.one (.g (.bool (gq q a x))))) := by
  refine ak Tryz.func14 rfl (by rw [Tryz.ntmps14]; simp) ?_
  simp only [Tryz.ntmps14, zM, PT.tv, au, Nat.zero_add, Nat.reduceAdd]
  repeat' (first
 | ((with_reducible show AW _ _ _ _); first
 | (with_reducible first | refine aS (fun K hK => ?_) | refine aI ?_ | refine aX ?_ | refine aT ?_ | refine aC ?_ | refine aB ?_)
 | (first
 | (with_reducible first | refine aP 0 [0,1] ?_ | refine aP 1 [0,1] ?_ | refine aP 2 [0,1,5] ?_ | refine aP 3 [0,1,5] ?_ | refine aP 4 [0,1,5] ?_ | refine aP 5 [] ?_ | refine aP 6 [] ?_))
 | ((with_reducible show AW _ (Code.loop _) _ _); first
 | ((with_reducible refine aL (c := (Code.seq (Code.seq (Code.region 2 _ _) _) _)) (ι := Nat) [0,1] (fun i => [(5, iA .i64 (i : Int))]) (fun i => []) (fun i => i <= q /\ (∀ i', i' < i -> a i' ≠ x)) (fun i => q - i) 0 ?lg2 ?l12 ?l22 ?li2 ?lr2); (case' lg2 => rintro i _); (case' li2 => try (exact ⟨Nat.zero_le _, fun i hi => absurd hi (Nat.not_lt_zero _)⟩)); (case' lr2 => rintro i ⟨hi, hai⟩ KR hR2; simp only [bI, dI, hset, lk, if_true, if_false, xE, reduceIte, zN]))))
 | (((with_reducible refine And.intro ?_ ?_)); focus (omega))
 | (with_reducible refine aJ ?_)
 | ((with_reducible show bL _ _ _ _ _ _); first
 | ((with_reducible refine aM ?_ ?_) <;> (intro hc; (try simp only [zB, zC, reduceCtorEq] at hc); (try (exfalso; contradiction)))))
 | ((with_reducible refine hR2 _ (i + 1) ?_); (try clear hR2 KR))
 | ((with_reducible refine Told.mk ?_); simp only [go_sem, reduceIte, reduceCtorEq, xA, xL, xD, xE, xM, xS, xB, bn] <;> ((((try simp (disch := omega) only [aV, Int.natCast_add, Int.cast_ofNat_Int, and_true, true_and, and_self]); (repeat' (first | omega | (with_reducible refine And.intro ?_ ?_) | (exact all_succ (by assumption) (by assumption)) )); done))))
 | ((fail_if_success (with_reducible show AW _ _ _ _)); simp (maxSteps := 2000000) only [go_sem, reduceIte, reduceCtorEq, xA, xL, xD, xE, xM, xS, xB, Tryz.f14, bn])
 | ((with_reducible refine hK _ ?_); clear hK K)
 | (with_reducible apply_assumption -exfalso only [*]))
  all_goals first | exact aip (by assumption) hc | exact ajP (by assumption) hai | skip
theorem ND (n m : Nat) (f g : Nat -> aZ) (hn : n <= 9223372036854775807) (hm : m <= 9223372036854775807) (hf : ∀ i, i < n -> (f i).Ok) (hg : ∀ i, i < m -> (g i).Ok) : aA Tryz.prog 23 [.one (.lst 9 n (dN f)), .one (.lst 9 m (dN g))] (.t (.one (.g (.bool (AL n m f g))))) := by
  refine ak Tryz.func23 rfl (by rw [Tryz.ntmps23]; simp) ?_
  simp only [Tryz.ntmps23, zM, PT.tv, au, Nat.zero_add, Nat.reduceAdd]
  repeat' (first
 | ((with_reducible show AW _ _ _ _); first
 | (with_reducible first | refine aS (fun K hK => ?_) | refine aI ?_ | refine aX ?_ | refine aT ?_ | refine aC ?_ | refine aB ?_)
 | (first
 | (with_reducible first | refine aP 0 [0,1] ?_ | refine aP 1 [0,1] ?_ | refine aP 2 [] ?_ | refine aP 3 [0,1] ?_ | refine aP 4 [0,1,5] ?_ | refine aP 5 [0,1,5] ?_)
 | ((with_reducible refine aR (c := Code.region 6 _ true) [0,1,5] ?_); (with_reducible refine aD ?_ ?_ ?_ ?_); (focus kernel_rfl); (focus kernel_rfl); (focus kernel_rfl))
 | (with_reducible first | refine aP 7 [] ?_ | refine aP 8 [] ?_))
 | ((with_reducible show AW _ (Code.loop _) _ _); first
 | ((with_reducible refine aL (c := (Code.seq (Code.seq (Code.region 4 _ _) _) _)) (ι := Nat) [0,1] (fun i => [(5, iA .i64 (i : Int))]) (fun i => []) (fun i => i <= n /\ (∀ i', i' < i -> uG (f i') (g i') = true)) (fun i => n - i) 0 ?lg4 ?l14 ?l24 ?li4 ?lr4); (case' lg4 => rintro i _); (case' li4 => try (exact ⟨Nat.zero_le _, fun i hi => absurd hi (Nat.not_lt_zero _)⟩)); (case' lr4 => rintro i ⟨hi, hai⟩ KR hR4; simp only [bI, dI, hset, lk, if_true, if_false, xE, reduceIte, zN]))))
 | ((first | (with_reducible refine And.intro ?_ ?_) | (with_reducible refine Need.mk ?_)); focus (first | exact True.intro | omega))
 | (with_reducible refine aJ ?_)
 | ((with_reducible show bL _ _ _ _ _ _); first
 | ((with_reducible refine aM ?_ ?_) <;> (intro hc; (try simp only [zB, zC, reduceCtorEq] at hc); (try (exfalso; contradiction)))))
 | ((with_reducible refine And.intro ?_ ?_); focus ((with_reducible show gW _ _ _ = true); kernel_rfl))
 | ((with_reducible show eu _ _ _ _ _ _ _ _ _ _ _ _ _); first
 | (refine cB (k := 64) GQ (JG (f i) (g i) (hf i (by omega)) (hg i (by omega))) ?_ ?_))
 | ((with_reducible refine hR4 _ (i + 1) ?_); (try clear hR4 KR))
 | ((with_reducible refine Told.mk ?_); simp only [go_sem, reduceIte, reduceCtorEq, xA, xL, xD, xE, xM, xS, xB] <;> ((((try simp (disch := omega) only [aV, Int.natCast_add, Int.cast_ofNat_Int, and_true, true_and, and_self]); (repeat' (first | omega | (with_reducible refine And.intro ?_ ?_) | (exact all_succ (by assumption) (by assumption)) )); done))))
 | ((fail_if_success (with_reducible show AW _ _ _ _)); simp (maxSteps := 2000000) only [go_sem, reduceIte, reduceCtorEq, xA, xL, xD, xE, xM, xS, xB, Tryz.f23])
 | ((with_reducible refine hK _ ?_); clear hK K)
 | (with_reducible apply_assumption -exfalso only [*]))
  all_goals first | exact agd (by assumption) | exact aif (by assumption) hc | exact aia (by omega) (by assumption) hai | skip
theorem akW (m : rT) : aA Tryz.prog 94 [.agg [.g (.int .i64 m.A), .g (.int .i64 m.B), .g (.int .i64 m.C), .g (.int .i64 m.D), .g (.int .i64 m.E), .g (.int .i64 m.F), .g (.int .i64 m.R)]] (.t (.one (.g (.bool (PX m))))) := by
  have hdg : True := trivial
  refine ak Tryz.func94 rfl (by rw [Tryz.ntmps94]; simp) ?_
  simp only [Tryz.ntmps94, zM, PT.tv, au, Nat.zero_add, Nat.reduceAdd]
  repeat' (first
 | ((with_reducible show AW _ _ _ _); first
 | (with_reducible first | refine aS (fun K hK => ?_) | refine aI ?_ | refine aX ?_ | refine aT ?_ | refine aC ?_ | refine aB ?_)
 | (first
 | (with_reducible first | refine aP 0 [0] ?_ | refine aP 1 [1] ?_ | refine aP 2 [1,13,14] ?_ | refine aP 3 [1,13,14] ?_ | refine aP 4 [1,4,13,14] ?_ | refine aP 5 [] ?_ | refine aP 6 [1,13,14] ?_ | refine aP 7 [1] ?_))
 | ((with_reducible show AW _ (Code.loop _) _ _); first
 | ((with_reducible refine aL (c := (Code.seq (Code.region 2 _ _) _)) (ι := Nat) [1,13] (fun j => [(14, iA .i64 (j : Int))]) (fun j => []) (fun j => j <= 4 /\ (∀ j', j' < j -> ai3 m j')) (fun j => 4 - j) 0 ?lg2 ?l12 ?l22 ?li2 ?lr2); (case' lg2 => rintro j _); (case' li2 => try (exact ⟨Nat.zero_le _, fun i hi => absurd hi (Nat.not_lt_zero _)⟩)); (case' lr2 => rintro j ⟨hj, haj⟩ KR hR2; simp only [bI, dI, hset, lk, if_true, if_false, xE, reduceIte, zN, hdg]))))
 | ((first | (with_reducible refine And.intro ?_ ?_) | (with_reducible refine Need.mk ?_)); focus (first | exact True.intro | omega | (simp; done)))
 | (with_reducible refine aJ ?_)
 | ((with_reducible show bL _ _ _ _ _ _); first
 | ((with_reducible refine aM ?_ ?_) <;> (intro hc; (try simp only [zB, zC, reduceCtorEq] at hc); ((try (clear hdg; have hdg := acy (m := m) (j := j) (by omega)))); (try (exfalso; contradiction)))))
 | ((with_reducible show aQ _ _ _ _ _ _ _ _ _ _); first
 | (refine aF (k := 132) H6 (ama m (Nk haj (by omega))) ?_ ?_))
 | ((with_reducible refine hR2 _ (j + 1) ?_); (try clear hR2 KR))
 | ((with_reducible refine Told.mk ?_); simp only [go_sem, reduceIte, reduceCtorEq, xA, xL, xD, xE, xM, xS, xB, hdg] <;> ((((try simp (disch := omega) only [aV, Int.natCast_add, Int.cast_ofNat_Int, and_true, true_and, and_self]); (repeat' (first | omega | (with_reducible refine And.intro ?_ ?_) | (exact all_succ (by assumption) (by assumption)) )); done))))
 | ((fail_if_success (with_reducible show AW _ _ _ _)); simp (maxSteps := 2000000) only [go_sem, reduceIte, reduceCtorEq, xA, xL, xD, xE, xM, xS, xB, Tryz.f94, hdg])
 | ((with_reducible refine hK _ ?_); clear hK K)
 | (with_reducible apply_assumption -exfalso only [*]))
  all_goals (first | (exact amV fun g => by have := g; exact aio (by omega) hc g) | (have h4 := Nk haj (by omega); refine aj8 ?_; simp only [Bool.and_eq_true, decide_eq_true_eq]; unfold LQ; exact ⟨fun h => by omega, fun h => by omega⟩))
end Go.Proofs.YtcfechepbamhkaaGreat
set_option maxRecDepth 100000
set_option maxHeartbeats 4000000
namespace Go.Proofs.YtcfechepbamhkaaGreat
open Go.RowKit Go.Sea
open Nat renaming reduceAdd -> xA, reduceLT -> xL, reduceLeDiff -> xD, reduceEqDiff -> xE, reduceMul -> xM, reduceSub -> xS, reduceBEq -> xB
theorem alM : boD Tryz.prog 35 = false := by kernel_rfl
theorem akM : eqD Tryz.prog 35 = some (true, [.int .i64, .int .i64, .int .i64, .int .i64, .int .i64, .int .i64, .int .i64]) := by kernel_rfl
theorem Ol : aN Tryz.prog 65 = true := by kernel_rfl
theorem uq : aN Tryz.prog 23 = true := by kernel_rfl
theorem Oz : aN Tryz.prog 93 = true := by kernel_rfl
theorem Oj : aN Tryz.prog 94 = true := by kernel_rfl
theorem Pp : aN Tryz.prog 56 = true := by kernel_rfl
theorem U6 : aN Tryz.prog 114 = true := by kernel_rfl
theorem Zr : aN Tryz.prog 115 = true := by kernel_rfl
theorem Ya : aN Tryz.prog 116 = true := by kernel_rfl
theorem acF : dF Tryz.prog 39 0 = some 0 := by kernel_rfl
theorem adI : dF Tryz.prog 39 1 = some 1 := by kernel_rfl
theorem aee : dF Tryz.prog 39 2 = some 2 := by kernel_rfl
theorem ads : dF Tryz.prog 39 3 = some 3 := by kernel_rfl
theorem aeI : dF Tryz.prog 39 4 = some 10 := by kernel_rfl
theorem aeK : dF Tryz.prog 39 5 = some 11 := by kernel_rfl
theorem abH : dF Tryz.prog 39 6 = some 12 := by kernel_rfl
theorem aml : lQ Tryz.prog 37 = some (false, 1) := by kernel_rfl
attribute [go_sem] alM akM Ol uq Oz Oj qN Pp U6 Zr Ya acF adI aee ads aeI aeK abH aml
def lsI (a : Nat -> Int) (i : Nat) : Int := if i = 0 then 0 else a (i - 1)
theorem Xr (a : Nat -> Int) (i : Nat) : lsI a (i + 1) = a i := by simp [lsI]
theorem ah5 {a : Nat -> Int} {i : Nat} (h : lsI a i < a i /\ a i <= 10000) (g : ∀ i', i' < i -> nD a 10001 i') : nD a 10001 i := by
  obtain ⟨h1, h2⟩ := h
  unfold lsI at h1
  by_cases h0 : i = 0
  · rw [if_pos h0] at h1; exact ⟨by omega, by omega, fun h => by omega⟩
  · rw [if_neg h0] at h1
    have := (g (i - 1) (by omega)).1
    exact ⟨by omega, by omega, fun h => by omega⟩
theorem adB {q : Nat} {a : Nat -> Int} {i : Nat} (hi : (i : Int) < q) (h : a i <= lsI a i \/ a i > 10000) : yT q a = false := agU hi fun g => by
  have g1 := g.1; have g2 := g.2.1
  unfold lsI at h
  by_cases h0 : i = 0
  · rw [if_pos h0] at h; omega
  · rw [if_neg h0] at h; have := g.2.2 (by omega); omega
theorem akX {s : aH} (h : yT s.q s.dn = false) : false = gU s := by unfold gU; rw [h]; rfl
theorem alN {s : aH} {b : Bool} (h : b = true ↔ (yT s.q s.dn = true /\ ((1 <= s.ch /\ s.ch <= 1000) /\ (1 <= s.sc /\ s.sc <= 1000) /\ (1 <= s.ed /\ s.ed <= 1000) /\ (1 <= s.cap /\ s.cap <= 100000)) /\ PX s.m = true /\ oP s.n s.f = true)) : b = gU s := by
  refine Bool.eq_iff_iff.2 (h.trans ?_)
  unfold gU
  simp only [Bool.and_eq_true, decide_eq_true_eq, and_assoc]
theorem aiI {q : Nat} {a : Nat -> Int} {i : Nat} (hi : (q : Int) <= i) (g : ∀ i', i' < i -> nD a 10001 i') : yT q a = true ↔ (q : Int) <= 200 := by rw [<- ai4 hi g]; exact decide_eq_true_iff
theorem al1 {a b : aH} {c : Bool} (h : c = true ↔ ((a.ch = b.ch /\ a.sc = b.sc /\ a.ed = b.ed /\ (a.m.A = b.m.A /\ a.m.B = b.m.B /\ a.m.C = b.m.C /\ a.m.D = b.m.D /\ a.m.E = b.m.E /\ a.m.F = b.m.F /\ a.m.R = b.m.R) /\ a.cap = b.cap) /\ oQ a.q b.q a.dn b.dn = true /\ AL a.n b.n a.f b.f = true)) : c = seqB a b := by
  refine Bool.eq_iff_iff.2 (h.trans ?_)
  unfold seqB
  simp only [Bool.and_eq_true, decide_eq_true_eq, and_assoc]
theorem lN (s : aH) (ho : s.Ok) : aA Tryz.prog 48 [(qy s)] (.t (.one (.g (.bool (gU s))))) := by
  have hq := ho.q
  have hn := ho.n
  refine ak Tryz.func48 rfl (by rw [Tryz.ntmps48]; simp) ?_
  simp only [qy, Tryz.ntmps48, zM, PT.tv, au, Nat.zero_add, Nat.reduceAdd]
  repeat' (first
 | ((with_reducible show AW _ _ _ _); first
 | (with_reducible first | refine aS (fun K hK => ?_) | refine aI ?_ | refine aX ?_ | refine aT ?_ | refine aC ?_ | refine aB ?_)
 | (first
 | (with_reducible first | refine aP 0 [0] ?_ | refine aP 1 [1] ?_ | refine aP 2 [1,3] ?_ | refine aP 3 [1,3,7,8,9] ?_ | refine aP 4 [1,3,7,8,9] ?_ | refine aP 5 [1,3,5,7,8,9] ?_ | refine aP 6 [] ?_ | refine aP 7 [1,5,7,8,9] ?_ | refine aP 8 [1,3,7,8,9] ?_ | refine aP 9 [1] ?_))
 | ((with_reducible show AW _ (Code.loop _) _ _); first
 | ((with_reducible refine aL (c := (Code.seq (Code.region 3 _ _) _)) (ι := Nat) [1,7,8] (fun i => [(3, iA .i64 (lsI s.dn i)), (9, iA .i64 (i : Int))]) (fun i => []) (fun i => i <= s.q /\ (∀ i', i' < i -> nD s.dn 10001 i')) (fun i => s.q - i) 0 ?lg3 ?l13 ?l23 ?li3 ?lr3); (case' lg3 => rintro i _); (case' li3 => try (exact ⟨Nat.zero_le _, fun i hi => absurd hi (Nat.not_lt_zero _)⟩)); (case' lr3 => rintro i ⟨hi, hai⟩ KR hR3; simp only [bI, dI, hset, lk, if_true, if_false, xE, reduceIte, zN, Xr]))))
 | ((first | (with_reducible refine And.intro ?_ ?_) | (with_reducible refine Need.mk ?_)); focus (first | omega | (intro _; (with_reducible assumption)) | (simp; done)))
 | (with_reducible refine aJ ?_)
 | ((with_reducible show bL _ _ _ _ _ _); first
 | ((with_reducible refine aM ?_ ?_) <;> (intro hc; (try simp only [zB, zC, reduceCtorEq] at hc); (try (exfalso; contradiction)))))
 | ((with_reducible show bG _ _ _ _ _ _ _ _ _ _); first
 | (refine aO (k := 93) Oz (fun hg => Xf _ _) ?_ ?_)
 | (refine aO (k := 94) Oj (fun hg => akW s.m) ?_ ?_)
 | (refine aO (k := 95) qN (fun hg => za _ _ ho.n ho.f) ?_ ?_))
 | ((with_reducible refine hR3 _ (i + 1) ?_); (try clear hR3 KR))
 | ((with_reducible refine Told.mk ?_); simp only [go_sem, reduceIte, reduceCtorEq, xA, xL, xD, xE, xM, xS, xB, Xr, bn] <;> ((((try simp (disch := omega) only [aV, Int.natCast_add, Int.cast_ofNat_Int, and_true, true_and, and_self]); (repeat' (first | omega | rfl | (with_reducible refine And.intro ?_ ?_) | ((exact all_succ (by assumption) (ah5 hc hai))))); done))))
 | ((fail_if_success (with_reducible show AW _ _ _ _)); simp (maxSteps := 2000000) only [go_sem, reduceIte, reduceCtorEq, xA, xL, xD, xE, xM, xS, xB, Tryz.f48, Xr, bn])
 | ((with_reducible refine hK _ ?_); clear hK K)
 | (with_reducible apply_assumption -exfalso only [*]))
  all_goals (first | (exact akX (adB (by assumption) hc)) | (refine alN ?_; (try rw [aiI (by assumption) hai]); simp only [Bool.and_eq_true, decide_eq_true_eq, reduceCtorEq, false_iff]; exact ⟨fun h => by (repeat' (with_reducible refine And.intro ?_ ?_)) <;> first | omega | (simp only [h]; done), fun h => by (repeat' (with_reducible refine And.intro ?_ ?_)) <;> first | omega | (simp only [h]; done)⟩))
theorem N8 (a b : aH) (ho : a.Ok) (ho2 : b.Ok) : aA Tryz.prog 24 [(qy a), (qy b)] (.t (.one (.g (.bool (seqB a b))))) := by
  refine ak Tryz.func24 rfl (by rw [Tryz.ntmps24]; simp) ?_
  simp only [qy, Tryz.ntmps24, zM, PT.tv, au, Nat.zero_add, Nat.reduceAdd]
  repeat' (first
 | ((with_reducible show AW _ _ _ _); first
 | (with_reducible first | refine aS (fun K hK => ?_) | refine aT ?_)
 | (first
 | (with_reducible first | refine aP 0 [0,1] ?_ | refine aP 1 [2,3] ?_ | refine aP 2 [2,3,5] ?_ | refine aP 3 [2,3,5,6] ?_)))
 | (((with_reducible refine Need.mk ?_)); focus (exact True.intro))
 | (with_reducible refine aJ ?_)
 | ((with_reducible show aQ _ _ _ _ _ _ _ _ _ _); first
 | (refine aF (k := 65) Ol (aaM _ _ _ _ ho.q ho2.q) ?_ ?_)
 | (refine aF (k := 23) uq (ND _ _ _ _ ho.n ho2.n ho.f ho2.f) ?_ ?_))
 | ((fail_if_success (with_reducible show AW _ _ _ _)); simp (maxSteps := 2000000) only [go_sem, reduceIte, reduceCtorEq, xA, xL, xD, xE, xM, xS, xB, Tryz.f24, Go.Sea.nZ])
 | ((with_reducible refine hK _ ?_); clear hK K))
  all_goals ((refine al1 ?_; simp only [Bool.and_eq_true, decide_eq_true_eq, reduceCtorEq, false_iff, beq_iff_eq]; exact ⟨fun h => by simp only [h, and_self], fun h => by simp only [h, and_self]⟩))
end Go.Proofs.YtcfechepbamhkaaGreat
set_option maxRecDepth 100000
set_option maxHeartbeats 4000000
namespace Go.Proofs.YtcfechepbamhkaaGreat
open Go.RowKit Go.Sea
open Nat renaming reduceAdd -> xA, reduceLT -> xL, reduceLeDiff -> xD, reduceEqDiff -> xE, reduceMul -> xM, reduceSub -> xS, reduceBEq -> xB
theorem TM : aN Tryz.prog 126 = true := by kernel_rfl
theorem YG : aN Tryz.prog 127 = true := by kernel_rfl
attribute [go_sem] TM YG
theorem zy (c : Nat -> IV) : ∀ n k, (iG c n k).length = n
  | 0, _ => rfl
  | n + 1, k => by simp [iG, zy c n (k + 1)]
theorem O8 (c : Nat -> IV) : ∀ n k o, o < n -> (iG c n k)[o]? = some (.iv (c (k + o)))
  | n + 1, k, 0, _ => by simp [iG]
  | n + 1, k, o + 1, h => by
    simp only [iG, List.getElem?_cons_succ]
    rw [O8 c n (k + 1) o (by omega), show k + 1 + o = k + (o + 1) by omega]
theorem pz (f : Nat -> Nat -> IV) (E : Nat) : ∀ n k i o, i < n -> o < E -> (eG f E n k)[i * E + o]? = some (.iv (f (k + i) o))
  | n + 1, k, 0, o, _, ho => by
    simp only [eG, Nat.zero_mul, Nat.zero_add]
    rw [List.getElem?_append_left (by rw [zy]; exact ho), O8 _ _ _ _ ho, Nat.zero_add]; rfl
  | n + 1, k, i + 1, o, h, ho => by
    simp only [eG]
    rw [show (i + 1) * E + o = E + (i * E + o) by rw [Nat.add_mul]; omega, List.getElem?_append_right (by rw [zy]; omega), zy, Nat.add_sub_cancel_left, pz f E n (k + 1) i o (by omega) ho, show k + 1 + i = k + (i + 1) by omega]
theorem ZT (c : Nat -> IV) : ∀ n k x, x ∈ iG c n k -> j4 x
  | 0, _, x, h => by simp [iG] at h
  | n + 1, k, x, h => by
    simp only [iG, List.mem_cons] at h
    rcases h with rfl | h
    · trivial
    · exact ZT c n (k + 1) x h
theorem EN (f : Nat -> Nat -> IV) (E : Nat) : ∀ n k x, x ∈ eG f E n k -> j4 x
  | 0, _, x, h => by simp [eG] at h
  | n + 1, k, x, h => by
    simp only [eG, List.mem_append] at h
    rcases h with h | h
    · exact ZT _ _ _ x h
    · exact EN f E n (k + 1) x h
end Go.Proofs.YtcfechepbamhkaaGreat
set_option maxRecDepth 100000
set_option maxHeartbeats 4000000
namespace Go.Proofs.YtcfechepbamhkaaGreat
open Go.RowKit Go.Sea
open Nat renaming reduceAdd -> xA, reduceLT -> xL, reduceLeDiff -> xD, reduceEqDiff -> xE, reduceMul -> xM, reduceSub -> xS, reduceBEq -> xB
theorem Zp : aN Tryz.prog 117 = true := by kernel_rfl
theorem Uh : aN Tryz.prog 118 = true := by kernel_rfl
attribute [go_sem] Il Zp Uh
end Go.Proofs.YtcfechepbamhkaaGreat
namespace Go.Proofs
open Go.Shelf
def Tryz.D9 : Go.Shelf.Ren := ⟨fun | 21 => 101 | 27 => 139 | 28 => 140 | 35 => 173 | 39 => 206 | n => n, fun | 22 => 36 | 3 => 3 | 4 => 4 | 0 => 0 | n => n, fun | n => n⟩
theorem Tryz.oo : Go.Proofs.Lays2.n21 Tryz.prog Tryz.D9 := {
  mixed := by kernel_rfl
  f21 := Tryz.func101.trans (congrArg some (by kernel_rfl))
  f27 := Tryz.func139.trans (congrArg some (by kernel_rfl))
  f28 := Tryz.func140.trans (congrArg some (by kernel_rfl))
  f35 := Tryz.func173.trans (congrArg some (by kernel_rfl))
  f39 := Tryz.func206.trans (congrArg some (by kernel_rfl))
  t0 := Tryz.underlying0
  a0 := Tryz.isAgg0
  z0 := Tryz.sizeOf0
  v0 := Tryz.zeroValue0
  t3 := Tryz.underlying3
  a3 := Tryz.isAgg3
  z3 := Tryz.sizeOf3
  v3 := Tryz.zeroValue3
  t4 := Tryz.underlying4
  a4 := Tryz.isAgg4
  z4 := Tryz.sizeOf4
  v4 := Tryz.zeroValue4
  t22 := Tryz.underlying36
  a22 := Tryz.isAgg36
  z22 := Tryz.sizeOf36
  v22 := Tryz.zeroValue36
  i3 := by kernel_rfl }
end Go.Proofs
