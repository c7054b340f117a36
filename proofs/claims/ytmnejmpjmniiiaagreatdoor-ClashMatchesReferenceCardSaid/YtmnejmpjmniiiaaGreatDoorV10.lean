/- Part 10 of 18: contracts of functions and plain laws for the root text. No condition. -/
import Derived.Test.YtmnejmpjmniiiaaGreatDoorV01
import Derived.Test.YtmnejmpjmniiiaaGreatDoorV02
import Derived.Test.YtmnejmpjmniiiaaGreatDoorV03
import Derived.Test.YtmnejmpjmniiiaaGreatDoorV04
import Derived.Test.YtmnejmpjmniiiaaGreatDoorV05
import Derived.Test.YtmnejmpjmniiiaaGreatDoorV06
import Derived.Test.YtmnejmpjmniiiaaGreatDoorV07
import Derived.Test.YtmnejmpjmniiiaaGreatDoorV08
import Derived.Test.YtmnejmpjmniiiaaGreatDoorV09
set_option linter.unusedVariables false
set_option linter.unusedSimpArgs false
set_option linter.unusedSectionVars false
set_option linter.deprecated false
namespace Go.Proofs.YtmnejmpjmniiiaaGreatDoor
open Go.RowKit Go.Sea
def fQ (b : Nat -> Bool) : Nat -> Nat
  | 0 => 0
  | k + 1 => if fQ b k < k then fQ b k else if b k = true then k else k + 1
theorem vN (b : Nat -> Bool) : ∀ k, fQ b k <= k
  | 0 => Nat.le_refl _
  | k + 1 => by
    have := vN b k
    simp only [fQ]; repeat' split
    all_goals omega
theorem mO {b : Nat -> Bool} : ∀ k, (∀ j, j < k -> b j = false) -> fQ b k = k
  | 0, _ => rfl
  | k + 1, h => by
    have h1 := mO k fun j hj => h j (by omega)
    have h2 := h k (by omega)
    simp only [fQ]
    rw [if_neg (by omega), if_neg (by rw [h2]; simp)]
theorem ku {b : Nat -> Bool} {i : Nat} (h : b i = true) (g : ∀ j, j < i -> b j = false) : ∀ k, i < k -> fQ b k = i
  | 0, hk => by omega
  | k + 1, hk => by
    simp only [fQ]
    by_cases hi : i < k
    · have h1 := ku h g k hi
      rw [h1, if_pos hi]
    · have e : i = k := by omega
      subst e
      rw [mO i g, if_neg (by omega), if_pos h]
def LG (f : aF) : PT := .agg [.g (.int .i64 f.id), .g (.int .i64 f.kd), .g (.int .i64 f.x), .g (.int .i64 f.y), .g (.int .i64 f.r), .lst 2 f.n (bX f.P), .g (.int .i64 f.d), .g (.int .i64 f.s), .lst 6 f.m (bX f.S)]
def dV (L : List aF) (k : Int) : Option PT := (idx L k).map LG
theorem d9 : dV [] = fun _ => none := rfl
theorem Nl {L : List aF} (h : qU L) (f : aF) : jF (dV L) f.id (LG f) = dV (iP L f) := by
  funext k
  unfold jF dV
  rw [yJ h]
  by_cases hk : k = f.id
  · rw [if_pos hk, if_pos hk]; rfl
  · rw [if_neg hk, if_neg hk]
theorem Ww {L : List aF} (h : qU L) (c : Int) : uo (dV L) c = dV (iL L c) := by
  funext k
  unfold uo dV
  rw [rM h]
  by_cases hk : k = c
  · rw [if_pos hk, if_pos hk]; rfl
  · rw [if_neg hk, if_neg hk]
theorem XY {L : List aF} (h : qU L) {f : aF} {k : Int} (hk : f.id = k) : jF (dV L) k (LG f) = dV (iP (iL L k) f) := by
  subst hk
  funext j
  unfold jF dV
  rw [yJ (rT h _), rM h]
  by_cases hj : j = f.id
  · rw [if_pos hj, if_pos hj]; rfl
  · rw [if_neg hj, if_neg hj, if_neg hj]
theorem ZM {L : List aF} {f : aF} (hf : idx L f.id = none) : mE L.length (dV L) f.id = (iP L f).length := by
  unfold mE dV
  rw [hf, yj hf]; rfl
theorem ah0 {L : List aF} (h : qU L) {k : Int} {f : aF} (hf : idx L k = some f) : xu L.length (dV L) k = (iL L k).length := by
  have := DJ h hf
  unfold xu dV
  rw [hf]
  show L.length - 1 = _
  omega
theorem agA {L : List aF} (h : qU L) {k : Int} {f g : aF} (hf : idx L k = some f) (hk : g.id = k) : mE L.length (dV L) k = (iP (iL L k) g).length := by
  have h1 := DJ h hf
  have h2 : idx (iL L k) g.id = none := by rw [rM h, if_pos hk]
  rw [yj h2]
  unfold mE dV
  rw [hf]
  show L.length = _
  omega
theorem QO {L : List aF} {f : aF} (h : ∀ g, g ∈ L -> g.id < f.id) : iP L f = L ++ [f] := by
  unfold iP
  rw [List.filter_eq_self.2 fun g hg => by simpa using h g hg, List.filter_eq_nil_iff.2 fun g hg => by have := h g hg; simp; omega]
def LF (f : Nat -> aF) (k : Nat) : List aF := (List.range k).map f
theorem rY (f : Nat -> aF) : LF f 0 = [] := rfl
theorem agQ (f : Nat -> aF) (k : Nat) : LF f (k + 1) = LF f k ++ [f k] := by unfold LF; rw [List.range_succ, List.map_append]; rfl
theorem fC (f : Nat -> aF) (k : Nat) : (LF f k).length = k := by simp [LF]
theorem Ec {f : Nat -> aF} {k : Nat} {g : aF} : g ∈ LF f k ↔ ∃ i, i < k /\ f i = g := by simp [LF]
theorem adZ {f : Nat -> aF} {k i : Nat} (h : i < k) : (LF f k)[i]? = some (f i) := by simp [LF, h]
def rises (f : Nat -> aF) (n : Nat) : Prop := ∀ i, 0 < i -> i < n -> (f (i - 1)).id < (f i).id
theorem uO {f : Nat -> aF} {n : Nat} (h : rises f n) {i : Nat} : ∀ j, i < j -> j < n -> (f i).id < (f j).id
  | 0, hij, _ => absurd hij (Nat.not_lt_zero _)
  | j + 1, hij, hj => by
    have h1 := h (j + 1) (by omega) hj
    rw [Nat.add_sub_cancel] at h1
    by_cases e : i = j
    · subst e; exact h1
    · have h2 : (f i).id < (f j).id := uO h j (by omega) (by omega)
      omega
theorem Lu {f : Nat -> aF} {n : Nat} (h : rises f n) : ∀ k, k <= n -> qU (LF f k)
  | 0, _ => List.Pairwise.nil
  | k + 1, hk => by
    unfold qU
    rw [agQ, List.pairwise_append]
    refine ⟨Lu h k (by omega), List.pairwise_singleton _ _, fun a ha b hb => ?_⟩
    obtain ⟨i, hi, rfl⟩ := Ec.1 ha
    obtain rfl := List.mem_singleton.1 hb
    exact uO h k hi (by omega)
theorem UU {f : Nat -> aF} {n k : Nat} (h : rises f n) (hk : k < n) : iP (LF f k) (f k) = LF f (k + 1) := by
  rw [agQ]
  refine QO fun g hg => ?_
  obtain ⟨i, hi, rfl⟩ := Ec.1 hg
  exact uO h k hi hk
theorem adI {f : Nat -> aF} {n k : Nat} (h : rises f n) (hk : k < n) : idx (LF f k) (f k).id = none := by
  rw [nD]
  intro g hg
  obtain ⟨i, hi, rfl⟩ := Ec.1 hg
  have := uO h k hi hk
  omega
theorem CO {n : Nat} {f : Nat -> aF} (h : gM n f = true) : rises f n := fun i h0 hi => ((of_decide_eq_true h).2 i hi).2 h0
theorem adN {f : aF} {o : bT} (hf : fI f = true) (ho : oQ o = true) (h1 : o.kd ≠ 1) (h2 : o.kd ≠ 2) (he : dY f o = 0) : fI (fD f o) = true := by
  have g := (jq f).1 hf
  have p := (jM o).1 ho
  unfold dY at he
  have hn : ¬ ((o.kd = 3 /\ ((f.kd = 3 \/ f.kd = 6) \/ f.kd = 4 /\ o.r ≠ 0)) \/ (o.kd = 4 /\ (f.kd = 4 \/ f.kd = 6))) := fun h => by rw [if_pos h] at he; omega
  obtain ⟨g1, g2, g3, g4, g5⟩ := g
  obtain ⟨p1, p2⟩ := p
  have p3 := p2.resolve_left (fun h => h1 h.1)
  rcases p3.2 with q | q | q | q
  · omega
  · have e : fD f o = { f with x := o.x, y := o.y, r := o.r } := by unfold fD; rw [if_pos q.1]
    rw [e, jq]
    refine ⟨g1, g2, g3, q.2.1, ?_⟩
    rcases g5 with k | k | k
    · exact Or.inl ⟨k.1, q.2.2.1, q.2.2.2.1, k.2.2.2.1, k.2.2.2.2⟩
    · exact absurd (Or.inl ⟨q.1, Or.inl k.1⟩) hn
    · refine Or.inr (Or.inr ⟨k.1, q.2.2.1, k.2.2.1, ?_, k.2.2.2.2.1, k.2.2.2.2.2⟩)
      exact Classical.byContradiction fun hr => hn (Or.inl ⟨q.1, Or.inr ⟨k.1, hr⟩⟩)
  · have e : fD f o = { f with d := o.d } := by unfold fD; rw [if_neg (by omega), if_pos q.1]
    rw [e, jq]
    refine ⟨g1, g2, q.2.1, g4, ?_⟩
    rcases g5 with k | k | k
    · exact Or.inl k
    · refine Or.inr (Or.inl ⟨k.1, fun h6 => absurd (Or.inr ⟨q.1, Or.inr h6⟩) hn, k.2.2⟩)
    · exact absurd (Or.inr ⟨q.1, Or.inl k.1⟩) hn
  · have e : fD f o = { f with s := o.s } := by unfold fD; rw [if_neg (by omega), if_neg (by omega), if_pos q.1]
    rw [e, jq]
    exact ⟨g1, q.2.1, g3, g4, g5⟩
def LQ (L : List aF) : Prop := ∀ f, f ∈ L -> fI f = true
theorem Jd {L : List aF} (h : LQ L) (k : Int) : LQ (iL L k) := fun f hf => h f (yY.1 hf).1
theorem Ib {L : List aF} (h : LQ L) {f : aF} (hf : fI f = true) : LQ (iP L f) := fun g hg => by
  rcases yO.1 hg with e | e
  · rw [e]; exact hf
  · exact h g e.1
theorem acZ {L : List aF} (h : LQ L) {o : bT} (ho : oQ o = true) : LQ (gJ L o).2 := by
  unfold gJ
  by_cases h1 : o.kd = 1
  · rw [if_pos h1]
    have hf : fI o.f = true := by
      have p := ((jM o).1 ho).2
      rcases p with p | p
      · exact p.2.2.1
      · omega
    cases hi : idx L o.id with
    | some f => exact h
    | none =>
      simp only
      split
      · exact h
      · exact Ib h hf
  · rw [if_neg h1]
    cases hi : idx L o.id with
    | none => exact h
    | some f =>
      simp only
      by_cases h2 : o.kd = 2
      · rw [if_pos h2]; exact Jd h _
      · rw [if_neg h2]
        by_cases he : dY f o = 0
        · rw [if_pos he]; exact Ib (Jd h _) (adN (h f (fV hi).1) ho h1 h2 he)
        · rw [if_neg he]; exact h
theorem XZ {L : List aF} (hs : qU L) (h : L.length <= 300) {o : bT} (ho : oQ o = true) : (gJ L o).2.length <= 300 := by
  unfold gJ
  by_cases h1 : o.kd = 1
  · rw [if_pos h1]
    have hid : o.f.id = o.id := by
      have p := ((jM o).1 ho).2
      rcases p with p | p
      · exact p.2.1
      · omega
    cases hi : idx L o.id with
    | some f => exact h
    | none =>
      simp only
      by_cases h3 : 300 <= L.length
      · rw [if_pos h3]; exact h
      · rw [if_neg h3]
        show (iP L o.f).length <= 300
        rw [yj (by rw [hid]; exact hi)]; omega
  · rw [if_neg h1]
    cases hi : idx L o.id with
    | none => exact h
    | some f =>
      have hc := DJ hs hi
      simp only
      by_cases h2 : o.kd = 2
      · rw [if_pos h2]; show (iL L o.id).length <= 300; omega
      · rw [if_neg h2]
        by_cases he : dY f o = 0
        · rw [if_pos he]
          show (iP (iL L o.id) (fD f o)).length <= 300
          rw [yj (by rw [rM hs, Ew, (fV hi).2, if_pos rfl])]; omega
        · rw [if_neg he]; exact h
structure Good (L : List aF) : Prop where
  a : qU L
  f : LQ L
  n : L.length <= 300
theorem Yd {L : List aF} (h : Good L) {o : bT} (ho : oQ o = true) : Good (gJ L o).2 := ⟨Oa h.a o, acZ h.f ho, XZ h.a h.n ho⟩
theorem Sw {L : List aF} {k : Int} {f : aF} (h : idx L k = some f) : dV L k = some (.agg [.g (.int .i64 (f.id)), .g (.int .i64 (f.kd)), .g (.int .i64 (f.x)), .g (.int .i64 (f.y)), .g (.int .i64 (f.r)), .lst 2 f.n (bX f.P), .g (.int .i64 (f.d)), .g (.int .i64 (f.s)), .lst 6 f.m (bX f.S)]) := by unfold dV; rw [h]; rfl
theorem abU {L : List aF} {k : Int} (h : idx L k = none) : dV L k = none := by unfold dV; rw [h]; rfl
theorem NP {f : Nat -> aF} {n k : Nat} (h : rises f n) (hk : k < n) : jF (dV (LF f k)) (f k).id (.agg [.g (.int .i64 ((f k).id)), .g (.int .i64 ((f k).kd)), .g (.int .i64 ((f k).x)), .g (.int .i64 ((f k).y)), .g (.int .i64 ((f k).r)), .lst 2 (f k).n (bX (f k).P), .g (.int .i64 ((f k).d)), .g (.int .i64 ((f k).s)), .lst 6 (f k).m (bX (f k).S)]) = dV (LF f (k + 1)) /\ mE k (dV (LF f k)) (f k).id = k + 1 := by
  have h1 := Nl (Lu h k (by omega)) (f k)
  rw [UU h hk] at h1
  have h2 := ZM (adI h hk)
  rw [UU h hk, fC, fC] at h2
  exact ⟨h1, h2⟩
def eu (L : List aF) (o : Nat -> bT) : Nat -> List aF
  | 0 => L
  | i + 1 => (gJ (eu L o i) (o i)).2
theorem iQ (L : List aF) (o : Nat -> bT) : eu L o 0 = L := rfl
theorem y5 (o : Option PT) : P6 o o := by cases o <;> first | trivial | exact PT.aG _
theorem ZQ {o : bT} (h : oQ o = true) : o.kd = 1 \/ o.kd = 2 \/ o.kd = 3 \/ o.kd = 4 \/ o.kd = 5 := by
  rcases ((jM o).1 h).2 with p | ⟨_, p | p | p | p⟩ <;> omega
theorem Vl {o : bT} (h : oQ o = true) (hk : o.kd = 1) : o.f.id = o.id := by
  rcases ((jM o).1 h).2 with p | ⟨_, p | p | p | p⟩
  · exact p.2.1
  all_goals omega
theorem Jy {L : List aF} (h : Good L) {o : bT} (ho : oQ o = true) (hk : o.kd = 1) (hq : idx L o.id = none) (hn : (L.length : Int) < 300) : (gJ L o).1 = 0 /\ mE L.length (dV L) o.id = (gJ L o).2.length /\ jF (dV L) o.id (.agg [.g (.int .i64 (o.f.id)), .g (.int .i64 (o.f.kd)), .g (.int .i64 (o.f.x)), .g (.int .i64 (o.f.y)), .g (.int .i64 (o.f.r)), .lst 2 o.f.n (bX o.f.P), .g (.int .i64 (o.f.d)), .g (.int .i64 (o.f.s)), .lst 6 o.f.m (bX o.f.S)]) = dV (gJ L o).2 := by
  have hi := Vl ho hk
  have e : gJ L o = (0, iP L o.f) := by unfold gJ; rw [if_pos hk, hq]; simp only; rw [if_neg (by omega)]
  rw [e]
  have h1 := ZM (L := L) (f := o.f) (by rw [hi]; exact hq)
  have h2 := Nl h.a o.f
  rw [hi] at h1 h2
  exact ⟨rfl, h1, h2⟩
theorem JA {L : List aF} (h : Good L) {o : bT} (hk : o.kd = 2) {g : aF} (hq : idx L o.id = some g) : (gJ L o).1 = 0 /\ xu L.length (dV L) o.id = (gJ L o).2.length /\ uo (dV L) o.id = dV (gJ L o).2 := by
  have e : gJ L o = (0, iL L o.id) := by unfold gJ; rw [if_neg (by omega), hq]; simp only; rw [if_pos hk]
  rw [e]; exact ⟨rfl, ah0 h.a hq, Ww h.a _⟩
theorem K5 {L : List aF} (h : Good L) {o : bT} (hk : o.kd ≠ 1 /\ o.kd ≠ 2) {g : aF} (hq : idx L o.id = some g) (he : dY g o = 0) : (gJ L o).1 = 0 /\ mE L.length (dV L) o.id = (gJ L o).2.length /\ jF (dV L) o.id (.agg [.g (.int .i64 ((cu g o).id)), .g (.int .i64 ((cu g o).kd)), .g (.int .i64 ((cu g o).x)), .g (.int .i64 ((cu g o).y)), .g (.int .i64 ((cu g o).r)), .lst 2 (cu g o).n (bX (cu g o).P), .g (.int .i64 ((cu g o).d)), .g (.int .i64 ((cu g o).s)), .lst 6 (cu g o).m (bX (cu g o).S)]) = dV (gJ L o).2 := by
  have ex : cu g o = fD g o := by unfold cu; rw [if_neg (by omega)]
  have hi : (fD g o).id = o.id := by rw [Ew]; exact (fV hq).2
  have e : gJ L o = (0, iP (iL L o.id) (fD g o)) := by unfold gJ; rw [if_neg hk.1, hq]; simp only; rw [if_neg hk.2, if_pos he]
  rw [e, ex]
  exact ⟨rfl, agA h.a hq hi, XY h.a hi⟩
theorem aak {L : List aF} {o : bT} (hk : o.kd = 1) {g : aF} (hq : idx L o.id = some g) : (gJ L o).1 = 5 := by unfold gJ; rw [if_pos hk, hq]
theorem Zl {L : List aF} {o : bT} (hk : o.kd = 1) (hq : idx L o.id = none) (hn : (L.length : Int) >= 300) : (gJ L o).1 = 2 := by unfold gJ; rw [if_pos hk, hq]; simp only; rw [if_pos (by omega)]
theorem aax {L : List aF} {o : bT} (hk : o.kd ≠ 1) (hq : idx L o.id = none) : (gJ L o).1 = 4 := by unfold gJ; rw [if_neg hk, hq]
theorem aaw {L : List aF} {o : bT} (hk : o.kd ≠ 1 /\ o.kd ≠ 2) {g : aF} (hq : idx L o.id = some g) (he : dY g o ≠ 0) : (gJ L o).1 = dY g o := by unfold gJ; rw [if_neg hk.1, hq]; simp only; rw [if_neg hk.2, if_neg he]
theorem yw {n : Nat} {f : Nat -> aF} (h : gM n f = true) : Good (LF f n) := by
  have h1 := of_decide_eq_true h
  refine ⟨Lu (CO h) n (Nat.le_refl _), fun g hg => ?_, by rw [fC]; exact h1.1⟩
  obtain ⟨i, hi, rfl⟩ := Ec.1 hg
  exact (h1.2 i hi).1
theorem jD {L : List aF} (h : Good L) {o : Nat -> bT} {k : Nat} (ho : ∀ i, i < k -> oQ (o i) = true) : ∀ i, i <= k -> Good (eu L o i)
  | 0, _ => h
  | i + 1, hi => Yd (jD h ho i (by omega)) (ho i (by omega))
theorem yc {f : aF} (h : fI f = true) : f.Ok := by
  have g := ((jq f).1 h).2.2.2.2
  rcases g with k | k | k
  · exact ⟨by omega, by omega⟩
  · have := (of_decide_eq_true k.2.2.1).1
    exact ⟨by omega, by omega⟩
  · have := (of_decide_eq_true k.2.2.1).1
    exact ⟨by omega, by omega⟩
theorem ajr {k : Int} (h : k = 1) : (((1 : Int) = k) = True) /\ True := ⟨by simp [h], trivial⟩
theorem ai7 {k : Int} (h : k = 2) : (((1 : Int) = k) = False) /\ (((2 : Int) = k) = True) := ⟨by simp [h], by simp [h]⟩
theorem ai1 {k : Int} (h : k = 3) : (((1 : Int) = k) = False) /\ (((2 : Int) = k) = False) /\ (((3 : Int) = k) = True) := ⟨by simp [h], by simp [h], by simp [h]⟩
theorem ai9 {k : Int} (h : k = 4) : (((1 : Int) = k) = False) /\ (((2 : Int) = k) = False) /\ (((3 : Int) = k) = False) /\ (((4 : Int) = k) = True) := ⟨by simp [h], by simp [h], by simp [h], by simp [h]⟩
theorem aiP {k : Int} (h : k = 5) : (((1 : Int) = k) = False) /\ (((2 : Int) = k) = False) /\ (((3 : Int) = k) = False) /\ (((4 : Int) = k) = False) /\ (((5 : Int) = k) = True) := ⟨by simp [h], by simp [h], by simp [h], by simp [h], by simp [h]⟩
theorem yS {ok : Nat -> Prop} : ∀ (m : Nat) (l : List CV), m <= l.length -> V7 ok l (List.replicate m .any)
  | 0, _, _ => by simp [V7]
  | m + 1, [], h => by simp at h
  | m + 1, c :: l, h => ⟨Or.inl rfl, yS m l (by simpa using h)⟩
def Km (L : List aF) (o : Nat -> bT) (k : Nat) : Nat := fQ (fun j => decide ((gJ (eu L o j) (o j)).1 ≠ 0)) k
def Md (n : Nat) (f : Nat -> aF) (k : Nat) (o : Nat -> bT) : Bool := gM n f && fO k o
def WQ (n : Nat) (f : Nat -> aF) (k : Nat) (o : Nat -> bT) : Nat := Km (LF f n) o k
def CZ (n : Nat) (f : Nat -> aF) (k : Nat) (o : Nat -> bT) : Int := if Md n f k o = true then (if WQ n f k o < k then (gJ (eu (LF f n) o (WQ n f k o)) (o (WQ n f k o))).1 else 0) else 1
def ML (n : Nat) (f : Nat -> aF) (k : Nat) (o : Nat -> bT) : Int := if Md n f k o = true then (if WQ n f k o < k then (WQ n f k o : Int) else -1) else -1
def Dc (n : Nat) (f : Nat -> aF) (k : Nat) (o : Nat -> bT) : Nat := if Md n f k o = true then (if WQ n f k o < k then 0 else (eu (LF f n) o k).length) else 0
def Xo (n : Nat) (f : Nat -> aF) (k : Nat) (o : Nat -> bT) (i : Nat) : aF := (eu (LF f n) o k).getD i bL
theorem Bb {n : Nat} {f : Nat -> aF} {k : Nat} {o : Nat -> bT} (hv : gM n f = true) (hw : fO k o = true) {i : Nat} (hi : (i : Int) < k) (hai : ∀ j, j < i -> (gJ (eu (LF f n) o j) (o j)).1 = 0) {e : Int} (he : (gJ (eu (LF f n) o i) (o i)).1 = e) (h0 : e ≠ 0) : Dc n f k o = 0 /\ (i : Int) = ML n f k o /\ e = CZ n f k o := by
  have hj : WQ n f k o = i := ku (b := fun j => decide ((gJ (eu (LF f n) o j) (o j)).1 ≠ 0)) (decide_eq_true (by rw [he]; exact h0)) (fun j hj => decide_eq_false (by rw [hai j hj]; simp)) k (by omega)
  have hV : Md n f k o = true := by unfold Md; rw [hv, hw]; rfl
  have hlt : i < k := by omega
  unfold Dc ML CZ
  rw [if_pos hV, if_pos hV, if_pos hV, hj, if_pos hlt, if_pos hlt, if_pos hlt, he]
  exact ⟨rfl, rfl, rfl⟩
theorem Jl {n : Nat} {f : Nat -> aF} {k : Nat} {o : Nat -> bT} (hv : gM n f = true) (hw : fO k o = true) {i : Nat} (hi : (k : Int) <= i) (hai : ∀ j, j < i -> (gJ (eu (LF f n) o j) (o j)).1 = 0) : (eu (LF f n) o k).length = Dc n f k o /\ (-1) = ML n f k o /\ 0 = CZ n f k o := by
  have hj : WQ n f k o = k := mO k fun j hj => decide_eq_false (by rw [hai j (by omega)]; simp)
  have hV : Md n f k o = true := by unfold Md; rw [hv, hw]; rfl
  unfold Dc ML CZ
  rw [if_pos hV, if_pos hV, if_pos hV, hj, if_neg (Nat.lt_irrefl k), if_neg (Nat.lt_irrefl k), if_neg (Nat.lt_irrefl k)]
  exact ⟨rfl, rfl, rfl⟩
theorem DY {n : Nat} {f : Nat -> aF} {k : Nat} {o : Nat -> bT} (h : Md n f k o = false) : Dc n f k o = 0 /\ -1 = ML n f k o /\ 1 = CZ n f k o := by
  unfold Dc ML CZ
  rw [if_neg (by simp [h]), if_neg (by simp [h]), if_neg (by simp [h])]
  exact ⟨rfl, rfl, rfl⟩
def ddE : List Nat -> List (Nat × AV) -> List (Nat × AV)
  | _, [] => []
  | s, (k, v) :: r => if s.contains k = true then ddE s r else (k, v) :: ddE (k :: s) r
theorem Lj : ∀ (e : List (Nat × AV)) (s : List Nat) (t : Nat), s.contains t = false -> lk (ddE s e) t = lk e t
  | [], _, _, _ => rfl
  | (k, v) :: r, s, t, h => by
    unfold ddE
    by_cases h1 : s.contains k = true
    · rw [if_pos h1, Lj r s t h]
      have : t ≠ k := fun e => by rw [e, h1] at h; cases h
      simp only [lk]; rw [if_neg this]
    · rw [if_neg h1]
      simp only [lk]
      by_cases h2 : t = k
      · rw [if_pos h2, if_pos h2]
      · rw [if_neg h2, if_neg h2]
        refine Lj r (k :: s) t ?_
        rw [List.contains_cons, h]
        simp [h2]
def ddG : List (Nat × List (Nat × AV)) -> List (Nat × List (Nat × AV))
  | [] => []
  | (f, e) :: r => (f, ddE [] e) :: ddG r
theorem TQ : ∀ (g : List (Nat × List (Nat × AV))) (f t : Nat), gk (ddG g) f t = gk g f t
  | [], _, _ => rfl
  | (k, e) :: r, f, t => by
    show lk (if f = k then ddE [] e else gf (ddG r) f) t = lk (if f = k then e else gf r f) t
    by_cases h : f = k
    · rw [if_pos h, if_pos h]; exact Lj e [] t rfl
    · rw [if_neg h, if_neg h]; exact TQ r f t
theorem afy {P : Program} {E : List (Nat × AV)} {H : List (Option (List CV))} {N : Nat} {g : List (Nat × List (Nat × AV))} {l : LP} {Q : Exit -> AS -> Prop} {c : Code} (h : AW P c ⟨E, H, N, ddG g, l⟩ Q) : AW P c ⟨E, H, N, g, l⟩ Q := fun w0 Z0 a w n ⟨J, Z, R⟩ =>
  h w0 Z0 a w n ⟨J, Z, R.nodef, R.size, R.below, R.zfrom, R.zlt, R.jlt, R.inj, R.hole, R.blk, R.slots, fun f t => by
    show bD _ _ _ _ (gk (ddG g) f t); rw [TQ]; exact R.ghost f t, R.loops, R.lnd, R.ro, R.tab⟩
theorem Ao : ∀ {m ks : List Int}, ks.Nodup -> (∀ x, x ∈ ks -> x ∈ m) -> ks.length <= m.length
  | [], ks, _, h => by
    cases ks with
    | nil => simp
    | cons a l => exact absurd (h a (List.mem_cons_self ..)) List.not_mem_nil
  | a :: m, ks, hn, h => by
    have h1 : (ks.erase a).length <= m.length := Ao (hn.erase a) fun x hx => by
      rcases List.mem_cons.1 (h x (List.mem_of_mem_erase hx)) with e | e
      · exact absurd e ((List.Nodup.mem_erase_iff hn).1 hx).1
      · exact e
    rw [List.length_erase] at h1
    split at h1 <;> simp only [List.length_cons] <;> omega
theorem VZ {L : List aF} {x : Int} (h : dV L x ≠ none) : x ∈ L.map (·.id) := by
  unfold dV at h
  cases hi : idx L x with
  | none => rw [hi] at h; exact absurd rfl h
  | some g => exact List.mem_map.2 ⟨g, fV hi⟩
theorem Wy {L : List aF} (h : qU L) {x : Int} (hx : x ∈ L.map (·.id)) : (dV L x).isSome = true := by
  obtain ⟨g, h1, h2⟩ := List.mem_map.1 hx
  unfold dV; rw [<- h2, rU h h1]; rfl
theorem Fg {L : List aF} {ks : List Int} (hn : ks.Nodup) (hk : ∀ x, x ∈ ks -> dV L x ≠ none) : ks.length <= L.length := by
  have := Ao (m := L.map (·.id)) hn fun x hx => VZ (hk x hx)
  simpa using this
theorem keys_eq {L : List aF} (h : qU L) {ks : List Int} (hn : ks.Nodup) (hk : ∀ x, x ∈ ks -> dV L x ≠ none) (ha : ∀ x, (dV L x).isSome = true -> x ∈ ks) : ks.length = L.length := by
  have h1 := Fg hn hk
  have h2 : (L.map (·.id)).length <= ks.length := Ao ((M8 h).imp fun h => by omega) fun x hx => ha x (Wy h hx)
  rw [List.length_map] at h2
  omega
theorem OY {L : List aF} {ks : List Int} (hn : ks.Nodup) (hk : ∀ x, x ∈ ks -> dV L x ≠ none) {kk : Int} {yy : PT} (hy : dV L kk = some yy) (hnn : ¬ kk ∈ ks) : (kk :: ks).Nodup /\ (∀ x, x ∈ kk :: ks -> dV L x ≠ none) /\ ks.length + 1 <= L.length := by
  have h1 : (kk :: ks).Nodup := List.nodup_cons.2 ⟨hnn, hn⟩
  have h2 : ∀ x, x ∈ kk :: ks -> dV L x ≠ none := fun x hx => by
    rcases List.mem_cons.1 hx with e | e
    · rw [e, hy]; simp
    · exact hk x e
  exact ⟨h1, h2, Fg h1 h2⟩
theorem Pm {L : List aF} (h : qU L) {ks : List Int} (hn : ks.Nodup) (hk : ∀ x, x ∈ ks -> dV L x ≠ none) (ha : ∀ x, (dV L x).isSome = true -> x ∈ ks) : ks.reverse.mergeSort (fun x y => decide (x <= y)) = L.map (·.id) := by
  have hp := List.mergeSort_perm ks.reverse (fun x y => decide (x <= y))
  have h1 : (ks.reverse.mergeSort (fun x y => decide (x <= y))).Nodup := hp.symm.nodup ((List.reverse_perm ks).symm.nodup hn)
  have h2 : (ks.reverse.mergeSort (fun x y => decide (x <= y))).Pairwise (fun a b => decide (a <= b) = true) := List.pairwise_mergeSort (by intro a b c; simp only [decide_eq_true_eq]; omega) (by intro a b; simp only [Bool.or_eq_true, decide_eq_true_eq]; omega) _
  have hm : ∀ x, x ∈ ks.reverse.mergeSort (fun x y => decide (x <= y)) ↔ x ∈ ks := fun x => by rw [hp.mem_iff, List.mem_reverse]
  refine Pw h ?_ fun x => ?_
  · refine (h2.and h1).imp fun {a b} p => ?_
    have h3 := of_decide_eq_true p.1
    have h4 : a ≠ b := p.2
    omega
  · rw [hm]
    constructor
    · intro hx e
      exact hk x hx (by unfold dV; rw [e]; rfl)
    · intro hx
      cases hi : idx L x with
      | none => exact absurd hi hx
      | some g => exact ha x (by unfold dV; rw [hi]; rfl)
theorem sort_k {L : List aF} (h : qU L) (hl : L.length <= 300) {ks : List Int} (hn : ks.Nodup) (hk : ∀ x, x ∈ ks -> dV L x ≠ none) (ha : ∀ x, (dV L x).isSome = true -> x ∈ ks) (i : Nat) {H : List (Option (List CV))} (hH : hget H i = some (dL ks.reverse)) : mM Tryz.prog 121 [.one (.slc i 0 ks.length 1)] H (.tup []) (hset H i (dL (L.map (·.id)))) := by
  have h0 := Fg hn hk
  have h1 := aaW ks.reverse (by rw [List.length_reverse]; omega) i H hH
  rw [List.length_reverse, Pm h hn hk ha] at h1
  exact h1
theorem aZ (zs : List Int) (i : Nat) : List.map (CV.bW i) (dL zs) = dL zs := jc i (bU zs)
theorem dZ (zs : List Int) (x : Int) (i : Nat) : List.map (CV.bW i) (dL zs.reverse ++ [.iv (.g (.int .i64 x))]) = dL (x :: zs).reverse := by
  rw [show dL zs.reverse ++ [.iv (.g (.int .i64 x))] = dL (x :: zs).reverse by simp [dL]]
  exact aZ _ _
theorem Rh {L : List aF} {v : Nat} (hv : v < L.length) : (dL (L.map (·.id))).getD v .any = .iv (.g (.int .i64 (L.getD v bL).id)) := by
  rw [uG _ _ (by simpa using hv)]
  simp [List.getD, hv]
def c9 (f : aF) : List CV := [.iv (.g (.int .i64 (f.id))), .iv (.g (.int .i64 (f.kd))), .iv (.g (.int .i64 (f.x))), .iv (.g (.int .i64 (f.y))), .iv (.g (.int .i64 (f.r))), .iv (.lst 2 f.n (bX f.P)), .iv (.g (.int .i64 (f.d))), .iv (.g (.int .i64 (f.s))), .iv (.lst 6 f.m (bX f.S))]
def kW (l : List aF) : List CV := l.flatMap c9
theorem dh (l : List aF) : (kW l).length = l.length * 9 := by
  induction l with
  | nil => rfl
  | cons s l ih => simp only [kW, List.flatMap_cons, List.length_append] at ih ⊢; rw [ih]; simp [c9]; omega
theorem jk (l : List aF) : ∀ c, c ∈ kW l -> kg c := by
  intro c hc
  simp only [kW, List.mem_flatMap, c9] at hc
  obtain ⟨s, _, h⟩ := hc
  simp only [List.mem_cons, List.not_mem_nil, or_false] at h
  rcases h with rfl | rfl | rfl | rfl | rfl | rfl | rfl | rfl | rfl <;> trivial
theorem Td {L : List aF} {v : Nat} (hv : v < L.length) : L.getD v bL ∈ L := by
  rw [List.getD, List.getElem?_eq_getElem hv]; exact List.getElem_mem hv
theorem take_one {L : List aF} {v : Nat} (hv : v < L.length) : L.take v ++ [L.getD v bL] = L.take (v + 1) := by
  rw [List.take_add_one, List.getD]
  simp [hv]
theorem Tj {L : List aF} {v : Nat} (hv : v < L.length) (i : Nat) : List.map (CV.bW i) (kW (L.take v) ++ [.iv (.g (.int .i64 ((L.getD v bL).id))), .iv (.g (.int .i64 ((L.getD v bL).kd))), .iv (.g (.int .i64 ((L.getD v bL).x))), .iv (.g (.int .i64 ((L.getD v bL).y))), .iv (.g (.int .i64 ((L.getD v bL).r))), .iv (.lst 2 (L.getD v bL).n (bX (L.getD v bL).P)), .iv (.g (.int .i64 ((L.getD v bL).d))), .iv (.g (.int .i64 ((L.getD v bL).s))), .iv (.lst 6 (L.getD v bL).m (bX (L.getD v bL).S))]) = kW (L.take (v + 1)) := by
  have e : kW (L.take v) ++ c9 (L.getD v bL) = kW (L.take (v + 1)) := by rw [<- take_one hv]; simp [kW]
  exact (congrArg (List.map (CV.bW i)) e).trans (jc i (jk _))
theorem G8 : ∀ (l : List aF) (i o : Nat), i < l.length -> o < 9 -> (kW l).getD (i * 9 + o) .any = (c9 (l.getD i bL)).getD o .any
  | [], i, _, h, _ => by simp at h
  | f :: l, 0, o, _, ho => by
    show (c9 f ++ kW l).getD (0 * 9 + o) .any = (c9 f).getD o .any
    rw [Nat.zero_mul, Nat.zero_add, List.getD, List.getD, List.getElem?_append_left (by show o < 9; exact ho)]
  | f :: l, i + 1, o, h, ho => by
    show (c9 f ++ kW l).getD ((i + 1) * 9 + o) .any = (c9 (l.getD i bL)).getD o .any
    rw [<- G8 l i o (by simpa using h) ho, List.getD, List.getD, List.getElem?_append_right (by show 9 <= _; omega)]
    congr 2
    show (i + 1) * 9 + o - 9 = i * 9 + o
    omega
theorem zG (l : List aF) : ∀ i o, i < l.length -> o < 9 -> (Fu ((kW l).getD (i * 9 + o) .any)).eqv (bq (fun i => l.getD i bL) i o) := by
  intro i o hi ho
  rw [G8 l i o hi ho]
  match o, ho with
  | 0, _ | 1, _ | 2, _ | 3, _ | 4, _ | 5, _ | 6, _ | 7, _ | 8, _ => exact IV.aG _
end Go.Proofs.YtmnejmpjmniiiaaGreatDoor
set_option maxRecDepth 100000
set_option maxHeartbeats 4000000
namespace Go.Proofs.YtmnejmpjmniiiaaGreatDoor
open Go.RowKit Go.Sea
open Nat renaming reduceAdd -> xA, reduceLT -> xL, reduceLeDiff -> xD, reduceEqDiff -> xE, reduceMul -> xM, reduceSub -> xS, reduceBEq -> xB
theorem kT : aM Tryz.prog 90 = true := by kernel_rfl
theorem Nf : aM Tryz.prog 91 = true := by kernel_rfl
theorem Oy : aM Tryz.prog 92 = true := by kernel_rfl
theorem MV : aM Tryz.prog 93 = true := by kernel_rfl
theorem NQ : aM Tryz.prog 94 = true := by kernel_rfl
theorem Uu : aM Tryz.prog 117 = true := by kernel_rfl
theorem TG : aM Tryz.prog 118 = true := by kernel_rfl
theorem Ta : aM Tryz.prog 119 = true := by kernel_rfl
theorem Bj : aM Tryz.prog 120 = true := by kernel_rfl
theorem Jk : aM Tryz.prog 121 = true := by kernel_rfl
theorem QV : aM Tryz.prog 122 = true := by kernel_rfl
theorem uw : aM Tryz.prog 144 = true := by kernel_rfl
theorem zo : aM Tryz.prog 145 = true := by kernel_rfl
theorem yC : aM Tryz.prog 63 = true := by kernel_rfl
theorem Mq : aM Tryz.prog 64 = true := by kernel_rfl
theorem nY : aM Tryz.prog 89 = true := by kernel_rfl
theorem acD : uY Tryz.prog 107 = none := by kernel_rfl
theorem Vb : Jr Tryz.prog 107 = some 66 := by kernel_rfl
theorem abN : Jr Tryz.prog 135 = some 139 := by kernel_rfl
theorem RX : cZ Tryz.prog 112 2 = some (2, 9) := by kernel_rfl
theorem aaX : mU Tryz.prog 107 = some (false, 1) := by kernel_rfl
theorem abj : XE Tryz.prog 139 = some (.one (.g (.nilFunc))) := by kernel_rfl
theorem afc : XE Tryz.prog 66 = some (.agg [.g (.int .i64 0), .g (.int .i64 0), .g (.int .i64 0), .g (.int .i64 0), .g (.int .i64 0), .g (.slice none 0 0), .g (.int .i64 0), .g (.int .i64 0), .g (.slice none 0 0)]) := by kernel_rfl
attribute [go_sem] kT Nf Oy MV NQ Bj Jk uw zo yC Mq nY acD Vb abN RX aaX abj afc
theorem WR (n : Nat) (f : Nat -> aF) (k : Nat) (o : Nat -> bT) (hn : n <= 9223372036854775807) (hf : ∀ i, i < n -> (f i).Ok) (hk : k <= 9223372036854775807) (ho : ∀ i, i < k -> (o i).f.Ok) (hv : gM n f = true) (hw : fO k o = true) : au Tryz.prog 34 [.one (.lst 9 n (bq f)), .one (.lst 16 k (fu o))] (.tup [.one (.lst 9 (Dc n f k o) (bq (Xo n f k o))), .one (.g (.int .i64 (ML n f k o))), .one (.g (.int .i64 (CZ n f k o)))]) := by
  have mk0 : True := trivial
  have mk2 : True := trivial
  have mk3 : True := trivial
  have hrk : True := trivial
  have hkd : True := trivial
  have hfk : True := trivial
  have hrs := CO hv
  have hG := yw hv
  have hops := (of_decide_eq_true hw).2
  have hk100 := (of_decide_eq_true hw).1
  refine ah Tryz.func34 rfl (by rw [Tryz.ntmps34]; simp) ?_
  simp only [Tryz.ntmps34, zM, PT.tv, ak, Nat.zero_add, Nat.reduceAdd]
  repeat' (first
 | (exact Bb hv hw (by assumption) hai (aak e5 hq) (by omega))
 | (exact Bb hv hw (by assumption) hai (Zl e5 hq (by assumption)) (by omega))
 | (exact Bb hv hw (by assumption) hai (aax (by omega) hq) (by omega))
 | (exact Bb hv hw (by assumption) hai (aaw (by omega) hq (by assumption)) (by omega))
 | (clear mk2; have hkm := OY hnd hks hyy hnn)
 | ((with_reducible show AW _ _ _ _); first
 | (with_reducible first | refine aS (fun K hK => ?_) | refine aI ?_ | refine aX ?_ | refine aT ?_ | refine aC ?_ | refine aB ?_)
 | ((refine fJ (k := 122) rfl Tryz.func122 rfl QV (by rw [Tryz.ntmps122]; simp) ?_ ?_ (fun l hlne A B hA hB => ?_)); (focus (simp (maxSteps := 2000000) only [go_sem, reduceIte, reduceCtorEq, xA, xL, xD, xE, xM, xS, xB, Tryz.f34, Tryz.f122, Tryz.f63, Tryz.f91, Tryz.f92, Tryz.f64, Tryz.f94, Tryz.f93, Tryz.f120, Tryz.f145, Tryz.f117, Tryz.f118, Tryz.f119, hv, hw, hkd, hfk, hrk, aW, dh, List.length_reverse, List.length_map, List.take_zero, List.length_take, aZ, dZ, d9, rY, iQ, List.length_replicate, fC, Int.reduceEq, maxLen]; try exact True.intro)); (focus (simp (maxSteps := 2000000) only [go_sem, reduceIte, reduceCtorEq, xA, xL, xD, xE, xM, xS, xB, Tryz.f34, Tryz.f122, Tryz.f63, Tryz.f91, Tryz.f92, Tryz.f64, Tryz.f94, Tryz.f93, Tryz.f120, Tryz.f145, Tryz.f117, Tryz.f118, Tryz.f119, hv, hw, hkd, hfk, hrk, aW, dh, List.length_reverse, List.length_map, List.take_zero, List.length_take, aZ, dZ, d9, rY, iQ, List.length_replicate, fC, Int.reduceEq, maxLen]; try exact True.intro)); simp only [Tryz.ntmps122, List.map_cons, List.map_nil, LV.tv, ak, yV, Nat.zero_add, Nat.reduceAdd]; clear hlne)
 | (with_reducible refine Bw (by assumption) ?_)
 | (first
 | (with_reducible first | refine aP 0 [0,1,7] ?_ | refine aP 1 [0,1,2,3,4,5,7] ?_ | refine aP (ops := #[⟨some 19, _, _, _, _, _⟩, _]) 2 [7,9,10] ?_ | refine aP (ops := #[⟨some 8, _, _, _, _, _⟩, _, _]) 2 [0,5] ?_ | refine aP (ops := #[⟨some 7, _, _, _, _, _⟩, _, _]) 2 [0,3] ?_ | refine aP (ops := #[⟨some 6, _, _, _, _, _⟩, _, _, _, _]) 2 [0,3] ?_ | refine aP (ops := #[⟨some 6, _, _, _, _, _⟩, _]) 2 [3] ?_ | refine aP (ops := #[⟨some 5, _, _, _, _, _⟩]) 2 [2,7] ?_ | refine aP (ops := #[⟨some 15, _, _, _, _, _⟩]) 2 [0,3,4,7] ?_ | refine aP (ops := #[⟨some 15, _, _, _, _, _⟩, _]) 2 [0,3,4,6,7] ?_ | refine aP (ops := #[⟨some 18, _, _, _, _, _⟩, _]) 2 [0,3,4,6,7] ?_ | refine aP (ops := #[⟨some 21, _, _, _, _, _⟩, _, _, _, _]) 3 [9,10] ?_ | refine aP (ops := #[⟨some 10, _, _, _, _, _⟩, _, _, _]) 3 [0,3,5] ?_ | refine aP (ops := #[⟨some 23, _, _, _, _, _⟩, _, _]) 3 [0,1] ?_ | refine aP (ops := #[⟨some 10, _, _, _, _, _⟩]) 3 [3,7,8,9] ?_ | refine aP (ops := #[⟨some 11, _, _, _, _, _⟩]) 3 [0,3,8,9,10] ?_ | refine aP (ops := #[⟨some 8, _, _, _, _, _⟩, _]) 3 [3] ?_ | refine aP (ops := #[⟨some 8, _, _, _, _, _⟩, _, _, _, _]) 3 [2,5,7] ?_ | refine aP (ops := #[⟨some 16, _, _, _, _, _⟩, _, _]) 3 [4] ?_ | refine aP (ops := #[⟨some 17, _, _, _, _, _⟩, _, _]) 3 [4] ?_ | refine aP (ops := #[⟨some 20, _, _, _, _, _⟩, _, _]) 3 [4] ?_ | refine aP (ops := #[⟨some 23, _, _, _, _, _⟩, _, _, _, _, _, _]) 4 [7,9,10] ?_ | refine aP (ops := #[⟨some 25, _, _, _, _, _⟩, _, _]) 4 [1,8] ?_ | refine aP (ops := #[⟨some 11, _, _, _, _, _⟩, _, _, _]) 4 [3,7,8,9] ?_ | refine aP (ops := #[⟨some 12, _, _, _, _, _⟩, _, _]) 4 [0,3,8,9,10] ?_ | refine aP (ops := #[⟨some 12, _, _, _, _, _⟩, _]) 4 [2] ?_ | refine aP (ops := #[⟨some 17, _, _, _, _, _⟩, _, _]) 4 [0,3,4] ?_ | refine aP (ops := #[⟨some 18, _, _, _, _, _⟩, _, _, _]) 4 [0,3,4,6] ?_ | refine aP (ops := #[⟨some 22, _, _, _, _, _⟩, _, _, _, _, _, _, _, _, _, _, _]) 4 [0,3,4,6] ?_ | refine aP (ops := #[⟨some 10, _, _, _, _, _⟩]) 5 [1,8,9] ?_ | refine aP (ops := #[⟨some 13, _, _, _, _, _⟩, _, _, _, _]) 5 [3,5,7,8,9] ?_ | refine aP (ops := #[⟨some 14, _, _, _, _, _⟩, _, _, _, _, _, _]) 5 [0,3,5,8,9,10] ?_ | refine aP (ops := #[⟨some 20, _, _, _, _, _⟩, _, _]) 5 [4] ?_ | refine aP (ops := #[⟨some 21, _, _, _, _, _⟩, _, _, _, _, _]) 5 [3,4,6] ?_ | refine aP (ops := #[⟨some 28, _, _, _, _, _⟩, _]) 5 [0,3,4,8,9,10] ?_ | refine aP (ops := #[⟨some 27, _, _, _, _, _⟩, _, _]) 6 [1,8,9,10] ?_ | refine aP (ops := #[⟨some 17, _, _, _, _, _⟩, _]) 6 [3,7,8,9] ?_ | refine aP (ops := #[⟨some 20, _, _, _, _, _⟩, _]) 6 [0,3,8,9,10] ?_ | refine aP (ops := #[⟨some 21, _, _, _, _, _⟩, _, _, _, _, _]) 6 [0,3,4] ?_ | refine aP (ops := #[⟨some 30, _, _, _, _, _⟩, _, _, _]) 6 [4,10] ?_ | refine aP (ops := #[⟨some 30, _, _, _, _, _⟩]) 7 [8,9,10,27,28,29] ?_ | refine aP (ops := #[⟨some 18, _, _, _, _, _⟩, _]) 7 [3] ?_ | refine aP (ops := #[⟨some 21, _, _, _, _, _⟩, _]) 7 [3] ?_ | refine aP (ops := #[⟨some 26, _, _, _, _, _⟩, _, _, _, _]) 7 [3,4] ?_ | refine aP (ops := #[⟨some 32, _, _, _, _, _⟩, _, _, _, _]) 7 [0,3,4,8,9] ?_ | refine aP (ops := #[⟨some 31, _, _, _, _, _⟩, _, _, _, _, _]) 8 [8,9,10,27,28,29] ?_ | refine aP (ops := #[⟨some 36, _, _, _, _, _⟩, _, _]) 8 [4,9] ?_ | refine aP 9 [8,9,10,11,12,27,28,29] ?_ | refine aP 10 [8,9,10,11,13,14,27,28,29] ?_ | refine aP 11 [11,14] ?_ | refine aP 12 [8,9,10,13,27,28,29] ?_ | refine aP 13 [8,9,10,27,28,29] ?_ | refine aP 14 [8,10] ?_))
 | ((with_reducible show AW _ (Code.loop _) _ _); first
 | ((with_reducible refine aL (c := (Code.seq (Code.region 7 _ _) _)) (ι := Nat) [8,9,27,28] (fun i => [(10, .t (.one (.slc 2 0 i 16))), (29, iA .i64 (i : Int))]) (fun i => [(0, [.mi none (eu (LF f n) o i).length (dV (eu (LF f n) o i))]), (2, List.replicate (i * 16) .any)]) (fun i => i <= k /\ (∀ j, j < i -> (gJ (eu (LF f n) o j) (o j)).1 = 0)) (fun i => k - i) 0 ?lg7 ?l17 ?l27 ?li7 ?lr7); (case' lg7 => rintro i _); (case' li7 => try (exact ⟨Nat.zero_le _, fun i hi => absurd hi (Nat.not_lt_zero _)⟩)); (case' lr7 => rintro i ⟨hi, hai⟩ KR hR7; simp only [bf, bN, hset, lk, if_true, if_false, xE, reduceIte, zN, hv, hw, hkd, hfk, hrk, aW, dh, List.length_reverse, List.length_map, List.take_zero, List.length_take, aZ, dZ, d9, rY, iQ, List.length_replicate, fC, Int.reduceEq, maxLen]))
 | (((with_reducible refine afy ?_); simp only [ddG, ddE, List.contains_cons, List.contains_nil, Nat.reduceBEq, Bool.or_false, Bool.false_or, Bool.or_true, Bool.true_or, if_true, if_false, Bool.false_eq_true, reduceIte]; with_reducible refine aL (c := (Code.seq (Code.region 1 _ _) _)) (ι := List Int) [0,5] (fun ks => []) (fun ks => [(1, []), (2, []), (4, [.slc 6 0 ks.length 1]), (6, dL ks.reverse), (5, [.mt 0 cc (fun q => q ∈ ks) ks.head?])]) (fun ks => ks.Nodup /\ ∀ x, x ∈ ks -> dV (eu (LF f n) o k) x ≠ none) (fun ks => (eu (LF f n) o k).length - ks.length) [] ?lg1 ?l11 ?l21 ?li1 ?lr1); (case' lg1 => rintro ks _); (case' li1 => try (exact ⟨List.nodup_nil, fun x h => absurd h (List.not_mem_nil)⟩)); (case' lr1 => rintro ks ⟨hnd, hks⟩ KR hR1; simp only [bf, bN, hset, lk, if_true, if_false, xE, reduceIte, zN, hv, hw, hkd, hfk, hrk, aW, dh, List.length_reverse, List.length_map, List.take_zero, List.length_take, aZ, dZ, d9, rY, iQ, List.length_replicate, fC, Int.reduceEq, maxLen]))))
 | ((first | (with_reducible refine And.intro ?_ ?_) | (with_reducible refine Need.mk ?_)); focus (first | exact True.intro | omega | (intro _; exact True.intro)))
 | (with_reducible refine aA ?_)
 | ((with_reducible show aY _ _ _ _ _ _); first
 | ((with_reducible refine aH ?_ ?_) <;> (intro hc; (try simp only [zB, zC, reduceCtorEq] at hc); ((try (clear mk0; have e9 : k = i := (by omega); subst e9; have hgk := jD hG hops k (Nat.le_refl k); have hgn := hgk.n)); (try (clear mk3; have hv8 := keys_eq hgk.a hnd hks hall; have hrk := Rh (L := (eu (LF f n) o k)) (v := v) (by omega); have hfk := Sw (rU hgk.a (Td (L := (eu (LF f n) o k)) (v := v) (by omega))))); (try (have e0 : n = u := (by omega); subst e0)); (try (clear mk0; have hO := hops i (by omega); have hg := jD hG hops i (by omega); clear hkd hfk; rcases ZQ hO with e5 | e5 | e5 | e5 | e5 <;> rcases hq : idx (eu (LF f n) o i) (o i).id with _ | g; all_goals (first | (have hkd := ajr e5) | (have hkd := ai7 e5) | (have hkd := ai1 e5) | (have hkd := ai9 e5) | (have hkd := aiP e5)); all_goals (first | (have hfk := abU hq) | (have hfk := Sw hq; have hgk := yc (hg.f _ (fV hq).1)))))); (try (exfalso; contradiction)))))
 | ((with_reducible show aN _ _ _ _ _ _ _ _ _ _); first
 | (refine aj (k := 89) nY (uN n f hn hf) ?_ ?_)
 | (refine aj (k := 144) uw (Pg g (o i) hgk (ho i (by omega)) e5) ?_ ?_)
 | (refine aj (k := 144) uw (OV g (o i) hgk (ho i (by omega)) e5) ?_ ?_)
 | (refine aj (k := 144) uw (PE g (o i) hgk (ho i (by omega)) e5) ?_ ?_)
 | (refine CJ (k := 121) Jk (sort_k (jD hG hops k (Nat.le_refl k)).a (jD hG hops k (Nat.le_refl k)).n hnd hks hall 6 rfl) ?_ ?_)
 | ((refine bY (k := 63) Tryz.func63 rfl yC (by rw [Tryz.ntmps63]; simp) ?_ ?_ (fun K hK => ?_)); (focus (exact True.intro)); (focus ((simp [iM]; done))); simp only [Tryz.ntmps63, List.map_cons, List.map_nil, List.nil_append, List.cons_append, List.append_nil, LV.tv, ak, Nat.zero_add, Nat.reduceAdd])
 | ((refine bY (k := 91) Tryz.func91 rfl Nf (by rw [Tryz.ntmps91]; simp) ?_ ?_ (fun K hK => ?_)); (focus (exact True.intro)); (focus ((simp [iM]; done))); simp only [Tryz.ntmps91, List.map_cons, List.map_nil, List.nil_append, List.cons_append, List.append_nil, LV.tv, ak, Nat.zero_add, Nat.reduceAdd])
 | ((refine bY (k := 92) Tryz.func92 rfl Oy (by rw [Tryz.ntmps92]; simp) ?_ ?_ (fun K hK => ?_)); (focus (exact True.intro)); (focus ((simp [iM]; done))); simp only [Tryz.ntmps92, List.map_cons, List.map_nil, List.nil_append, List.cons_append, List.append_nil, LV.tv, ak, Nat.zero_add, Nat.reduceAdd])
 | ((refine bY (k := 64) Tryz.func64 rfl Mq (by rw [Tryz.ntmps64]; simp) ?_ ?_ (fun K hK => ?_)); (focus (exact True.intro)); (focus ((simp [iM]; done))); simp only [Tryz.ntmps64, List.map_cons, List.map_nil, List.nil_append, List.cons_append, List.append_nil, LV.tv, ak, Nat.zero_add, Nat.reduceAdd])
 | ((refine bY (k := 94) Tryz.func94 rfl NQ (by rw [Tryz.ntmps94]; simp) ?_ ?_ (fun K hK => ?_)); (focus (exact True.intro)); (focus ((simp [iM]; done))); simp only [Tryz.ntmps94, List.map_cons, List.map_nil, List.nil_append, List.cons_append, List.append_nil, LV.tv, ak, Nat.zero_add, Nat.reduceAdd])
 | ((refine bY (k := 93) Tryz.func93 rfl MV (by rw [Tryz.ntmps93]; simp) ?_ ?_ (fun K hK => ?_)); (focus (exact True.intro)); (focus ((simp [iM]; done))); simp only [Tryz.ntmps93, List.map_cons, List.map_nil, List.nil_append, List.cons_append, List.append_nil, LV.tv, ak, Nat.zero_add, Nat.reduceAdd])
 | ((refine bY (k := 120) Tryz.func120 rfl Bj (by rw [Tryz.ntmps120]; simp) ?_ ?_ (fun K hK => ?_)); (focus (exact True.intro)); (focus ((simp [iM]; done))); simp only [Tryz.ntmps120, List.map_cons, List.map_nil, List.nil_append, List.cons_append, List.append_nil, LV.tv, ak, Nat.zero_add, Nat.reduceAdd])
 | ((refine bY (k := 145) Tryz.func145 rfl zo (by rw [Tryz.ntmps145]; simp) ?_ ?_ (fun K hK => ?_)); (focus (exact True.intro)); (focus ((simp [iM]; done))); simp only [Tryz.ntmps145, List.map_cons, List.map_nil, List.nil_append, List.cons_append, List.append_nil, LV.tv, ak, Nat.zero_add, Nat.reduceAdd])
 | ((refine gK (k := 117) Tryz.func117 rfl Uu (by rw [Tryz.ntmps117]; simp) ?_ ?_ (fun K hK => ?_)); (focus (exact True.intro)); (focus ((simp [iM]; done))); simp only [Tryz.ntmps117, List.map_cons, List.map_nil, List.nil_append, List.cons_append, List.append_nil, LV.tv, ak, Nat.zero_add, Nat.reduceAdd])
 | ((refine gK (k := 118) Tryz.func118 rfl TG (by rw [Tryz.ntmps118]; simp) ?_ ?_ (fun K hK => ?_)); (focus (exact True.intro)); (focus ((simp [iM]; done))); simp only [Tryz.ntmps118, List.map_cons, List.map_nil, List.nil_append, List.cons_append, List.append_nil, LV.tv, ak, Nat.zero_add, Nat.reduceAdd])
 | ((refine gK (k := 119) Tryz.func119 rfl Ta (by rw [Tryz.ntmps119]; simp) ?_ ?_ (fun K hK => ?_)); (focus (exact True.intro)); (focus ((simp [iM]; done))); simp only [Tryz.ntmps119, List.map_cons, List.map_nil, List.nil_append, List.cons_append, List.append_nil, LV.tv, ak, Nat.zero_add, Nat.reduceAdd]))
 | ((with_reducible show bK _ _ _ _ _ _ _ _ _ _); first
 | (refine aQ (k := 90) kT (fun hg => jV k o hk ho) ?_ ?_))
 | (((with_reducible show AW _ (Code.loop (Code.seq (Code.region 3 #[⟨some 10, _, _, _, _, _⟩] _) _)) _ _); with_reducible refine aL (c := (Code.seq (Code.region 3 _ _) _)) (ι := Nat) [3,7,8] (fun u => [(9, iA .i64 (u : Int))]) (fun u => [(0, [.mi none u (dV (LF f u))])]) (fun u => u <= n) (fun u => n - u) 0 ?lg3 ?l13 ?l23 ?li3 ?lr3); (case' lg3 => rintro u _); (case' li3 => try (omega)); (case' lr3 => rintro u hu KR hR3; simp only [bf, bN, hset, lk, if_true, if_false, xE, reduceIte, zN, hv, hw, hkd, hfk, hrk, aW, dh, List.length_reverse, List.length_map, List.take_zero, List.length_take, aZ, dZ, d9, rY, iQ, List.length_replicate, fC, Int.reduceEq, maxLen]))
 | ((with_reducible refine hR3 _ (u + 1) ?_); (try clear hR3 KR))
 | ((with_reducible refine hR7 _ (i + 1) ?_); (try clear hR7 KR))
 | ((with_reducible refine hR1 _ (kk :: ks) ?_); (try clear hR1 KR))
 | (((with_reducible show AW _ (Code.loop (Code.seq (Code.region 3 #[⟨some 11, _, _, _, _, _⟩] _) _)) _ _); with_reducible refine aL (c := (Code.seq (Code.region 3 _ _) _)) (ι := Nat) [0,8,9] (fun v => [(3, .t (.one (.slc 7 0 v 9))), (10, iA .i64 (v : Int))]) (fun v => [(7, kW ((eu (LF f n) o k).take v))]) (fun v => v <= (eu (LF f n) o k).length) (fun v => (eu (LF f n) o k).length - v) 0 ?lg3b ?l13b ?l23b ?li3b ?lr3b); (case' lg3b => rintro v _); (case' li3b => try (omega)); (case' lr3b => rintro v hv9 KR hR3b; simp only [bf, bN, hset, lk, if_true, if_false, xE, reduceIte, zN, hv, hw, hkd, hfk, hrk, aW, dh, List.length_reverse, List.length_map, List.take_zero, List.length_take, aZ, dZ, d9, rY, iQ, List.length_replicate, fC, Int.reduceEq, maxLen]))
 | ((with_reducible refine hR3b _ (v + 1) ?_); (try clear hR3b KR))
 | ((with_reducible refine Told.mk ?_); simp only [go_sem, reduceIte, reduceCtorEq, xA, xL, xD, xE, xM, xS, xB, hv, hw, hkd, hfk, hrk, aW, dh, List.length_reverse, List.length_map, List.take_zero, List.length_take, aZ, dZ, d9, rY, iQ, List.length_replicate, fC, Int.reduceEq, maxLen] <;> (first | (((try simp (disch := omega) only [aJ, Int.natCast_add, Int.cast_ofNat_Int, and_true, true_and, and_self]); (repeat' (first | omega | rfl | (with_reducible refine And.intro ?_ ?_) | ((exact Or.inr ⟨(NP hrs (by omega)).2, fun k => by rw [(NP hrs (by omega)).1]; exact y5 _⟩)))); done)) | (((try simp (disch := omega) only [aJ, Int.natCast_add, Int.cast_ofNat_Int, and_true, true_and, and_self]); (repeat' (first | omega | rfl | (with_reducible refine And.intro ?_ ?_) | ((exact yS _ _ (by simp; omega))) | ((exact Or.inr ⟨(Jy hg hO e5 hq (by omega)).2.1, fun k => by rw [(Jy hg hO e5 hq (by omega)).2.2]; exact y5 _⟩)) | ((exact all_succ (by assumption) (Jy hg hO e5 hq (by omega)).1)) | ((exact Or.inr ⟨(JA hg e5 hq).2.1, fun k => by rw [(JA hg e5 hq).2.2]; exact y5 _⟩)) | ((exact all_succ (by assumption) (JA hg e5 hq).1)) | ((exact Or.inr ⟨(K5 hg (by omega) hq (by assumption)).2.1, fun k => by rw [(K5 hg (by omega) hq (by assumption)).2.2]; exact y5 _⟩)) | ((exact all_succ (by assumption) (K5 hg (by omega) hq (by assumption)).1)))); done)) | (((try simp (disch := omega) only [aJ, Int.natCast_add, Int.cast_ofNat_Int, and_true, true_and, and_self]); (repeat' (first | omega | rfl | (with_reducible refine And.intro ?_ ?_) | ((exact hkm.1)) | ((exact fun e => by rw [hyy] at e; cases e)) | ((exact bO rfl (bU _))))); done)) | (((try simp (disch := omega) only [aJ, Int.natCast_add, Int.cast_ofNat_Int, and_true, true_and, and_self]); (repeat' (first | omega | (with_reducible refine And.intro ?_ ?_) | ((exact bO rfl (bU _))) | ((rw [Tj (by omega)]; exact bO rfl (jk _))))); done))))
 | ((with_reducible show mh _ _ (Oper.mk _ (Op.range _ _) _ _ _ _) _ _ _); refine FV (by exact Vb) (by simp (maxSteps := 2000000) only [go_sem, reduceIte, reduceCtorEq, xA, xL, xD, xE, xM, xS, xB, Tryz.f34, Tryz.f122, Tryz.f63, Tryz.f91, Tryz.f92, Tryz.f64, Tryz.f94, Tryz.f93, Tryz.f120, Tryz.f145, Tryz.f117, Tryz.f118, Tryz.f119, hv, hw, hkd, hfk, hrk, aW, dh, List.length_reverse, List.length_map, List.take_zero, List.length_take, aZ, dZ, d9, rY, iQ, List.length_replicate, fC, Int.reduceEq, maxLen]; rfl) (by simp (maxSteps := 2000000) only [go_sem, reduceIte, reduceCtorEq, xA, xL, xD, xE, xM, xS, xB, Tryz.f34, Tryz.f122, Tryz.f63, Tryz.f91, Tryz.f92, Tryz.f64, Tryz.f94, Tryz.f93, Tryz.f120, Tryz.f145, Tryz.f117, Tryz.f118, Tryz.f119, hv, hw, hkd, hfk, hrk, aW, dh, List.length_reverse, List.length_map, List.take_zero, List.length_take, aZ, dZ, d9, rY, iQ, List.length_replicate, fC, Int.reduceEq, maxLen]; rfl) (fun cc => ?_))
 | ((with_reducible show mh _ _ (Oper.mk _ (Op.next _ _) _ _ _ _) _ _ _); refine KT (by simp (maxSteps := 2000000) only [go_sem, reduceIte, reduceCtorEq, xA, xL, xD, xE, xM, xS, xB, Tryz.f34, Tryz.f122, Tryz.f63, Tryz.f91, Tryz.f92, Tryz.f64, Tryz.f94, Tryz.f93, Tryz.f120, Tryz.f145, Tryz.f117, Tryz.f118, Tryz.f119, hv, hw, hkd, hfk, hrk, aW, dh, List.length_reverse, List.length_map, List.take_zero, List.length_take, aZ, dZ, d9, rY, iQ, List.length_replicate, fC, Int.reduceEq, maxLen]; rfl) (by simp (maxSteps := 2000000) only [go_sem, reduceIte, reduceCtorEq, xA, xL, xD, xE, xM, xS, xB, Tryz.f34, Tryz.f122, Tryz.f63, Tryz.f91, Tryz.f92, Tryz.f64, Tryz.f94, Tryz.f93, Tryz.f120, Tryz.f145, Tryz.f117, Tryz.f118, Tryz.f119, hv, hw, hkd, hfk, hrk, aW, dh, List.length_reverse, List.length_map, List.take_zero, List.length_take, aZ, dZ, d9, rY, iQ, List.length_replicate, fC, Int.reduceEq, maxLen]; rfl) (by simp (maxSteps := 2000000) only [go_sem, reduceIte, reduceCtorEq, xA, xL, xD, xE, xM, xS, xB, Tryz.f34, Tryz.f122, Tryz.f63, Tryz.f91, Tryz.f92, Tryz.f64, Tryz.f94, Tryz.f93, Tryz.f120, Tryz.f145, Tryz.f117, Tryz.f118, Tryz.f119, hv, hw, hkd, hfk, hrk, aW, dh, List.length_reverse, List.length_map, List.take_zero, List.length_take, aZ, dZ, d9, rY, iQ, List.length_replicate, fC, Int.reduceEq, maxLen]; rfl) (fun hall => ?_) (fun kk yy hyy hnn => ?_))
 | ((with_reducible show mh _ _ (Oper.mk _ (Op.entry _) _ _ _ _) _ _ _); refine Jh (by simp (maxSteps := 2000000) only [go_sem, reduceIte, reduceCtorEq, xA, xL, xD, xE, xM, xS, xB, Tryz.f34, Tryz.f122, Tryz.f63, Tryz.f91, Tryz.f92, Tryz.f64, Tryz.f94, Tryz.f93, Tryz.f120, Tryz.f145, Tryz.f117, Tryz.f118, Tryz.f119, hv, hw, hkd, hfk, hrk, aW, dh, List.length_reverse, List.length_map, List.take_zero, List.length_take, aZ, dZ, d9, rY, iQ, List.length_replicate, fC, Int.reduceEq, maxLen]; rfl) (by simp (maxSteps := 2000000) only [go_sem, reduceIte, reduceCtorEq, xA, xL, xD, xE, xM, xS, xB, Tryz.f34, Tryz.f122, Tryz.f63, Tryz.f91, Tryz.f92, Tryz.f64, Tryz.f94, Tryz.f93, Tryz.f120, Tryz.f145, Tryz.f117, Tryz.f118, Tryz.f119, hv, hw, hkd, hfk, hrk, aW, dh, List.length_reverse, List.length_map, List.take_zero, List.length_take, aZ, dZ, d9, rY, iQ, List.length_replicate, fC, Int.reduceEq, maxLen]; rfl) (by simp (maxSteps := 2000000) only [go_sem, reduceIte, reduceCtorEq, xA, xL, xD, xE, xM, xS, xB, Tryz.f34, Tryz.f122, Tryz.f63, Tryz.f91, Tryz.f92, Tryz.f64, Tryz.f94, Tryz.f93, Tryz.f120, Tryz.f145, Tryz.f117, Tryz.f118, Tryz.f119, hv, hw, hkd, hfk, hrk, aW, dh, List.length_reverse, List.length_map, List.take_zero, List.length_take, aZ, dZ, d9, rY, iQ, List.length_replicate, fC, Int.reduceEq, maxLen]; rfl) (by ((intros; simp_all; done))) (fun yy hyy => ?_))
 | ((fail_if_success (with_reducible show AW _ _ _ _)); simp (maxSteps := 2000000) only [go_sem, reduceIte, reduceCtorEq, xA, xL, xD, xE, xM, xS, xB, Tryz.f34, Tryz.f122, Tryz.f63, Tryz.f91, Tryz.f92, Tryz.f64, Tryz.f94, Tryz.f93, Tryz.f120, Tryz.f145, Tryz.f117, Tryz.f118, Tryz.f119, hv, hw, hkd, hfk, hrk, aW, dh, List.length_reverse, List.length_map, List.take_zero, List.length_take, aZ, dZ, d9, rY, iQ, List.length_replicate, fC, Int.reduceEq, maxLen])
 | ((with_reducible show aN _ _ _ _ _ _ (.yld _) _ _ _); (refine nX (by simp only [Fj, if_true]; exact rfl) ?_ (by simp) ?_ ?_ (fun K hK => ?_)); (focus (exact True.intro)); (focus (simp [oI])); (focus ((simp [iM]; done))); simp only [jw, gf, if_true, Nat.reduceAdd])
 | ((with_reducible refine hK _ ?_); clear hK K)
 | (with_reducible apply_assumption -exfalso only [*]))
  all_goals ((have h8 := keys_eq (jD hG hops k (Nat.le_refl k)).a hnd hks hall; have e7 : v = (eu (LF f n) o k).length := (by omega); subst e7; rw [List.take_length]; have h7 := Jl hv hw (Int.le_refl _) hai; refine ⟨⟨by omega, fun c hc9 => (by have := jk _ c hc9; cases c <;> trivial)⟩, ⟨h7.1, fun i q hi hq => zG (eu (LF f n) o k) i q hi hq⟩, h7.2⟩))
theorem WS (n : Nat) (f : Nat -> aF) (k : Nat) (o : Nat -> bT) (hn : n <= 9223372036854775807) (hf : ∀ i, i < n -> (f i).Ok) (hk : k <= 9223372036854775807) (ho : ∀ i, i < k -> (o i).f.Ok) (hv : gM n f = false) : au Tryz.prog 34 [.one (.lst 9 n (bq f)), .one (.lst 16 k (fu o))] (.tup [.one (.lst 9 (Dc n f k o) (bq (Xo n f k o))), .one (.g (.int .i64 (ML n f k o))), .one (.g (.int .i64 (CZ n f k o)))]) := by
  refine ah Tryz.func34 rfl (by rw [Tryz.ntmps34]; simp) ?_
  simp only [Tryz.ntmps34, zM, PT.tv, ak, Nat.zero_add, Nat.reduceAdd]
  repeat' (first
 | ((with_reducible show AW _ _ _ _); first
 | (with_reducible first | refine aS (fun K hK => ?_) | refine aT ?_ | refine aC ?_)
 | (first
 | (with_reducible first | refine aP (ops := #[⟨some 4, _, _, _, _, _⟩, _, _]) 0 [0,1] ?_ | refine aP (ops := #[⟨some 4, _, _, _, _, _⟩, _, _, _]) 0 [0,1] ?_ | refine aP (ops := #[⟨some 12, _, _, _, _, _⟩, _, _, _, _, _, _, _, _, _, _, _]) 1 [0,1] ?_ | refine aP (ops := #[⟨some 15, _, _, _, _, _⟩, _, _, _, _, _, _, _]) 1 [0,1] ?_ | refine aP (ops := #[⟨some 19, _, _, _, _, _⟩, _]) 2 [7,9,10] ?_ | refine aP (ops := #[⟨some 4, _, _, _, _, _⟩, _, _, _]) 2 [] ?_ | refine aP (ops := #[⟨some 21, _, _, _, _, _⟩, _, _, _, _]) 3 [9,10] ?_)))
 | ((first | (with_reducible refine And.intro ?_ ?_) | (with_reducible refine Need.mk ?_)); focus (first | exact True.intro | (simp; done)))
 | (with_reducible refine aA ?_)
 | ((with_reducible show aY _ _ _ _ _ _); first
 | ((with_reducible refine aH ?_ ?_) <;> (intro hc; (try simp only [zB, zC, reduceCtorEq] at hc); (try (exfalso; contradiction)))))
 | ((with_reducible show aN _ _ _ _ _ _ _ _ _ _); first
 | (refine aj (k := 89) nY (uN n f hn hf) ?_ ?_)
 | ((refine bY (k := 63) Tryz.func63 rfl yC (by rw [Tryz.ntmps63]; simp) ?_ ?_ (fun K hK => ?_)); (focus (exact True.intro)); (focus ((simp [iM]; done))); simp only [Tryz.ntmps63, List.map_cons, List.map_nil, List.nil_append, List.cons_append, List.append_nil, LV.tv, ak, Nat.zero_add, Nat.reduceAdd]))
 | ((with_reducible show bK _ _ _ _ _ _ _ _ _ _); first
 | (refine aQ (k := 90) kT (fun hg => jV k o hk ho) ?_ ?_))
 | ((fail_if_success (with_reducible show AW _ _ _ _)); simp (maxSteps := 2000000) only [go_sem, reduceIte, reduceCtorEq, xA, xL, xD, xE, xM, xS, xB, Tryz.f34, Tryz.f63, hv])
 | ((with_reducible refine hK _ ?_); clear hK K)
 | (with_reducible apply_assumption -exfalso only [*]))
  all_goals (exact DY (by unfold Md; rw [hv]; rfl))
theorem XC (n : Nat) (f : Nat -> aF) (k : Nat) (o : Nat -> bT) (hn : n <= 9223372036854775807) (hf : ∀ i, i < n -> (f i).Ok) (hk : k <= 9223372036854775807) (ho : ∀ i, i < k -> (o i).f.Ok) (hv : gM n f = true) (hw : fO k o = false) : au Tryz.prog 34 [.one (.lst 9 n (bq f)), .one (.lst 16 k (fu o))] (.tup [.one (.lst 9 (Dc n f k o) (bq (Xo n f k o))), .one (.g (.int .i64 (ML n f k o))), .one (.g (.int .i64 (CZ n f k o)))]) := by
  refine ah Tryz.func34 rfl (by rw [Tryz.ntmps34]; simp) ?_
  simp only [Tryz.ntmps34, zM, PT.tv, ak, Nat.zero_add, Nat.reduceAdd]
  repeat' (first
 | ((with_reducible show AW _ _ _ _); first
 | (with_reducible first | refine aS (fun K hK => ?_) | refine aT ?_ | refine aC ?_)
 | (first
 | (with_reducible first | refine aP (ops := #[⟨some 4, _, _, _, _, _⟩, _, _]) 0 [0,1] ?_ | refine aP (ops := #[⟨some 4, _, _, _, _, _⟩, _, _, _]) 0 [0,1] ?_ | refine aP (ops := #[⟨some 12, _, _, _, _, _⟩, _, _, _, _, _, _, _, _, _, _, _]) 1 [0,1] ?_ | refine aP (ops := #[⟨some 15, _, _, _, _, _⟩, _, _, _, _, _, _, _]) 1 [0,1] ?_ | refine aP (ops := #[⟨some 19, _, _, _, _, _⟩, _]) 2 [7,9,10] ?_ | refine aP (ops := #[⟨some 4, _, _, _, _, _⟩, _, _, _]) 2 [] ?_ | refine aP (ops := #[⟨some 21, _, _, _, _, _⟩, _, _, _, _]) 3 [9,10] ?_)))
 | ((first | (with_reducible refine And.intro ?_ ?_) | (with_reducible refine Need.mk ?_)); focus (first | exact True.intro | (intro _; exact True.intro)))
 | (with_reducible refine aA ?_)
 | ((with_reducible show aY _ _ _ _ _ _); first
 | ((with_reducible refine aH ?_ ?_) <;> (intro hc; (try simp only [zB, zC, reduceCtorEq] at hc); (try (exfalso; contradiction)))))
 | ((with_reducible show aN _ _ _ _ _ _ _ _ _ _); first
 | (refine aj (k := 89) nY (uN n f hn hf) ?_ ?_)
 | ((refine bY (k := 63) Tryz.func63 rfl yC (by rw [Tryz.ntmps63]; simp) ?_ ?_ (fun K hK => ?_)); (focus (exact True.intro)); (focus ((simp [iM]; done))); simp only [Tryz.ntmps63, List.map_cons, List.map_nil, List.nil_append, List.cons_append, List.append_nil, LV.tv, ak, Nat.zero_add, Nat.reduceAdd]))
 | ((with_reducible show bK _ _ _ _ _ _ _ _ _ _); first
 | (refine aQ (k := 90) kT (fun hg => jV k o hk ho) ?_ ?_))
 | ((fail_if_success (with_reducible show AW _ _ _ _)); simp (maxSteps := 2000000) only [go_sem, reduceIte, reduceCtorEq, xA, xL, xD, xE, xM, xS, xB, Tryz.f34, Tryz.f63, hv, hw])
 | ((with_reducible refine hK _ ?_); clear hK K)
 | (with_reducible apply_assumption -exfalso only [*]))
  all_goals (exact DY (by unfold Md; rw [hv]; rw [hw]; rfl))
theorem Yc (n : Nat) (f : Nat -> aF) (k : Nat) (o : Nat -> bT) (hn : n <= 9223372036854775807) (hf : ∀ i, i < n -> (f i).Ok) (hk : k <= 9223372036854775807) (ho : ∀ i, i < k -> (o i).f.Ok) : au Tryz.prog 34 [.one (.lst 9 n (bq f)), .one (.lst 16 k (fu o))] (.tup [.one (.lst 9 (Dc n f k o) (bq (Xo n f k o))), .one (.g (.int .i64 (ML n f k o))), .one (.g (.int .i64 (CZ n f k o)))]) := by
  cases hv : gM n f with
  | false => exact WS n f k o hn hf hk ho hv
  | true => cases hw : fO k o with
    | false => exact XC n f k o hn hf hk ho hv hw
    | true => exact WR n f k o hn hf hk ho hv hw
end Go.Proofs.YtmnejmpjmniiiaaGreatDoor
namespace Go.Proofs.YtmnejmpjmniiiaaGreatDoor
open Go.RowKit Go.Sea
def bl (s : Nat) : List Nat := (List.range 10).filter s.testBit
def cz (s : Nat) : Nat := Lib.ctz 64 s
theorem Jv : ∀ s, s < 1024 -> 0 < s -> bl s = cz s :: bl (s &&& (s - 1)) /\ s &&& (s - 1) < s /\ cz s < 10 := by decide +kernel
theorem aha : bl 0 = [] := by decide +kernel
theorem Aj {s i : Nat} : i ∈ bl s ↔ i < 10 /\ s.testBit i = true := by unfold bl; simp
theorem abv (s : Nat) : (bl s).Nodup := List.Nodup.sublist List.filter_sublist List.nodup_range
theorem aam (s : Nat) : (bl s).Pairwise (· < ·) := List.Pairwise.sublist List.filter_sublist List.pairwise_lt_range
theorem Nn {s t : Nat} (hs : s < 1024) (ht : t < 1024) (h : ∀ i, i < 10 -> s.testBit i = t.testBit i) : s = t := by
  apply Nat.eq_of_testBit_eq
  intro i
  by_cases hi : i < 10
  · exact h i hi
  · have : 1024 <= 2 ^ i := Nat.pow_le_pow_right (n := 2) (by decide) (by omega : 10 <= i)
    rw [Nat.testBit_lt_two_pow (by omega), Nat.testBit_lt_two_pow (by omega)]
theorem wrN (x : Nat) (h : x < 18446744073709551616) : IntKind.u64.wrap (x : Int) = (x : Int) := by rw [IntKind.wrap_u64]; omega
theorem Z8 {k : Nat} (h : k < 64) : IntKind.u64.wrap (1 * 2 ^ (min (k : Int).toNat IntKind.u64.bits)) = ((2 ^ k : Nat) : Int) := by
  have e : min (k : Int).toNat IntKind.u64.bits = k := by simp [IntKind.bits]; omega
  have h2 : 2 ^ k < 2 ^ 64 := Nat.pow_lt_pow_right (by decide) h
  rw [e, Int.one_mul, <- wrN (2 ^ k) (by omega)]; simp
theorem agf (x k : Nat) (h : k < 64) : (x : Int).fdiv (2 ^ (min (k : Int).toNat IntKind.u64.bits)) = ((x >>> k : Nat) : Int) := by
  have e : min (k : Int).toNat IntKind.u64.bits = k := by simp [IntKind.bits]; omega
  rw [e, Int.fdiv_eq_ediv_of_nonneg _ (Int.pow_nonneg (by decide)), Nat.shiftRight_eq_div_pow]
  simp
theorem IQ {x y : Nat} (hx : x < 18446744073709551616) (hy : y < 18446744073709551616) : bits .and .u64 (x : Int) (y : Int) = ((x &&& y : Nat) : Int) := bits_and_u64_nat x y hx hy
theorem ahi {x y : Nat} (hx : x < 18446744073709551616) (hy : y < 18446744073709551616) : bits .or .u64 (x : Int) (y : Int) = ((x ||| y : Nat) : Int) := bits_or_u64_nat x y hx hy
theorem ae1 {x y : Nat} (hx : x < 18446744073709551616) (hy : y < 18446744073709551616) : bits .xor .u64 (x : Int) (y : Int) = ((x ^^^ y : Nat) : Int) := bits_xor_u64_nat x y hx hy
theorem aaq (x k : Nat) : ((x >>> k &&& 1 : Nat) : Int) = 1 ↔ x.testBit k = true := by
  unfold Nat.testBit
  rw [Nat.and_comm (x >>> k) 1]
  have : 1 &&& x >>> k < 2 := Nat.lt_of_le_of_lt Nat.and_le_left (by decide)
  rcases (by omega : 1 &&& x >>> k = 0 \/ 1 &&& x >>> k = 1) with e | e <;> rw [e] <;> simp
theorem SC {x y : Nat} (hx : x < 18446744073709551616) (hy : y < 18446744073709551616) : bits .andNot .u64 (x : Int) (y : Int) = ((x ^^^ (x &&& y) : Nat) : Int) := by
  have h1 : (BitVec.ofInt 64 (x : Int)).toNat = x := by
    rw [BitVec.ofInt_natCast, BitVec.toNat_ofNat]; exact Nat.mod_eq_of_lt (by omega)
  have h2 : (BitVec.ofInt 64 (y : Int)).toNat = y := by
    rw [BitVec.ofInt_natCast, BitVec.toNat_ofNat]; exact Nat.mod_eq_of_lt (by omega)
  have h3 : x ^^^ (x &&& y) < 18446744073709551616 := Nat.xor_lt_two_pow (n := 64) hx (Nat.and_lt_two_pow _ hy)
  show IntKind.u64.wrap ((BitVec.ofInt 64 (x : Int) &&& ~~~BitVec.ofInt 64 (y : Int)).toNat : Int) = _
  have h4 : (BitVec.ofInt 64 (x : Int) &&& ~~~BitVec.ofInt 64 (y : Int)).toNat = x ^^^ (x &&& y) := by
    apply Nat.eq_of_testBit_eq
    intro i
    rw [BitVec.toNat_and, Nat.testBit_and, Nat.testBit_xor, Nat.testBit_and, h1, BitVec.toNat_not, h2]
    by_cases hi : i < 64
    · rw [show 2 ^ 64 - 1 - y = 2 ^ 64 - (y + 1) by omega, Nat.testBit_two_pow_sub_succ (by omega)]
      cases x.testBit i <;> cases y.testBit i <;> simp [hi]
    · have : 2 ^ 64 <= 2 ^ i := Nat.pow_le_pow_right (by decide) (by omega)
      rw [Nat.testBit_lt_two_pow (by omega : x < 2 ^ i)]; simp
  rw [h4]; exact wrN _ h3
def lb (d : Nat) : Nat := if d = 0 then 0 else 2 ^ cz d
theorem ah5 {d : Nat} (h : d < 1024) : bits .and .u64 (d : Int) (IntKind.u64.wrap (0 - (d : Int))) = ((lb d : Nat) : Int) := by
  unfold lb
  by_cases e : d = 0
  · subst e; decide +kernel
  · rw [if_neg e]
    obtain ⟨h1, h2⟩ := Lib.lowest_bit 64 d e (by omega)
    have e1 : IntKind.u64.wrap (0 - (d : Int)) = ((18446744073709551616 - d : Nat) : Int) := by rw [IntKind.wrap_u64]; omega
    rw [e1, IQ (by omega) (by omega)]
    exact congrArg _ h1
def xU (s t : Nat) : Bool := decide (s &&& lb (s ^^^ t) ≠ 0)
theorem ahr : ∀ d, d < 1024 -> lb d < 1024 := by decide +kernel
theorem J8 {s t : Nat} (h : s < 1024) (h2 : t < 1024) : s ^^^ t < 1024 := Nat.xor_lt_two_pow (n := 10) h h2
theorem NZ {s t : Nat} (h : s < 1024) (h2 : t < 1024) : s ||| t < 1024 := Nat.or_lt_two_pow (n := 10) h h2
theorem af9 {s t : Nat} (hs : s < 1024) (ht : t < 1024) : (bits .and .u64 (s : Int) (bits .and .u64 (bits .xor .u64 (s : Int) (t : Int)) (IntKind.u64.wrap (0 - bits .xor .u64 (s : Int) (t : Int)))) != 0) = xU s t := by
  have hx := J8 hs ht
  have hl := ahr _ hx
  rw [ae1 (by omega) (by omega), ah5 hx, IQ (by omega) (by omega)]
  unfold xU
  rw [Bool.eq_iff_iff]; simp
theorem xw {k : Nat} (h : k < 10) : 2 ^ k < 1024 := Nat.pow_lt_pow_right (n := 10) (by decide) h
structure aK where
  nu : Int
  q : Nat
  a : Nat -> Int
structure wB where
  k : Nat
  o : Nat -> bT
structure bF where
  n : Nat
  f : Nat -> aF
  m : Nat
  S : Nat -> aK
  mo : Nat
  O : Nat -> wB
structure bF.Ok (x : bF) : Prop where
  n : x.n <= 9223372036854775807
  f : ∀ i, i < x.n -> (x.f i).Ok
  m : x.m <= 9223372036854775807
  q : ∀ i, i < x.m -> (x.S i).q <= 9223372036854775807
  mo : x.mo <= 9223372036854775807
  k : ∀ i, i < x.mo -> (x.O i).k <= 9223372036854775807
  o : ∀ i, i < x.mo -> ∀ j, j < (x.O i).k -> ((x.O i).o j).f.Ok
def adG : aK -> Nat -> IV
  | s, 0 => .g (.int .i64 s.nu)
  | s, _ + 1 => .lst 1 s.q (bG s.a)
def fA (S : Nat -> aK) (i o : Nat) : IV := adG (S i) o
def iJ (O : Nat -> wB) (i o : Nat) : IV := .lst 16 (O i).k (fu (O i).o)
theorem bJ (S : Nat -> aK) (i : Nat) : fA S i 0 = .g (.int .i64 (S i).nu) := rfl
theorem bI (S : Nat -> aK) (i : Nat) : fA S i 1 = .lst 1 (S i).q (bG (S i).a) := rfl
theorem dD (O : Nat -> wB) (i : Nat) : iJ O i 0 = .lst 16 (O i).k (fu (O i).o) := rfl
def zS (l : List Int) (k : Int) : Option PT := if l.contains k = true then some (.one (.g (.bool true))) else none
theorem gU : zS [] = fun _ => none := rfl
theorem aeI {l : List Int} {k : Int} (h : l.contains k = true) : zS l k = some (.one (.g (.bool true))) := by unfold zS; rw [if_pos h]
theorem TR {l : List Int} {k : Int} (h : l.contains k = false) : zS l k = none := by unfold zS; rw [if_neg (by rw [h]; simp)]
theorem uQ (l : List Int) (k : Int) : jF (zS l) k (.one (.g (.bool true))) = zS (l ++ [k]) := by
  funext j
  unfold jF zS
  by_cases h : j = k
  · rw [if_pos h, if_pos (by simp [h])]
  · rw [if_neg h]
    have : (l ++ [k]).contains j = l.contains j := by
      rw [Bool.eq_iff_iff]; simp [h]
    rw [this]
theorem RQ {l : List Int} {k : Int} {n : Nat} (h : l.contains k = false) : mE n (zS l) k = n + 1 := by unfold mE; rw [TR h]; rfl
theorem Rn : ∀ x : Option PT, P6 x x
  | none => trivial
  | some x => PT.aG x
def Oi (S : Nat -> aK) (i : Nat) : List Int := (List.range i).map fun j => (S j).nu
theorem MS (S : Nat -> aK) : Oi S 0 = [] := rfl
theorem aeZ (S : Nat -> aK) (i : Nat) : Oi S (i + 1) = Oi S i ++ [(S i).nu] := by unfold Oi; rw [List.range_succ, List.map_append]; rfl
theorem Ei {S : Nat -> aK} {i : Nat} {x : Int} : (Oi S i).contains x = true ↔ ∃ j, j < i /\ (S j).nu = x := by
  unfold Oi; simp
def tX (x : Int) : Bool := decide (1 <= x /\ x <= 10000)
def BQ (q : Nat) (a : Nat -> Int) : Bool := decide (∀ j, j < q -> 0 < j -> a (j - 1) < a j)
def Kc (S : Nat -> aK) (i : Nat) : Int := if i = 0 then 0 else (S (i - 1)).nu
theorem OC (S : Nat -> aK) : Kc S 0 = 0 := rfl
theorem CP (S : Nat -> aK) (i : Nat) : Kc S (i + 1) = (S i).nu := by unfold Kc; rw [if_neg (by omega)]; rfl
def Xk (l : List Int) (q : Nat) (a : Nat -> Int) : Bool := decide (∀ j, j < q -> l.contains (a j) = true)
def Nq (S : Nat -> aK) (i : Nat) : Prop := tX (S i).nu = true /\ Kc S i < (S i).nu /\ BQ (S i).q (S i).a = true /\ Xk (Oi S i) (S i).q (S i).a = true
instance (S : Nat -> aK) (i : Nat) : Decidable (Nq S i) := by unfold Nq; infer_instance
def vsB (S : Nat -> aK) (m : Nat) : Bool := decide (m <= 200 /\ ∀ i, i < m -> Nq S i)
theorem WE {S : Nat -> aK} {i : Nat} (h : ∀ j, j < i -> Nq S j) (hi : Kc S i < (S i).nu) : (Oi S i).contains (S i).nu = false := by
  have up : ∀ i, (∀ j, j < i -> Nq S j) -> ∀ j, j < i -> (S j).nu <= Kc S i := by
    intro i
    induction i with
    | zero => intro _ j hj; omega
    | succ i ih =>
      intro h j hj
      rw [CP]
      rcases (by omega : j < i \/ j = i) with g | rfl
      · have := ih (fun k hk => h k (by omega)) j g
        have := (h i (by omega)).2.1
        omega
      · exact Int.le_refl _
  cases e : (Oi S i).contains (S i).nu with
  | false => rfl
  | true =>
    obtain ⟨j, h1, h2⟩ := Ei.1 e
    have := up i h j h1
    omega
theorem aiO {S : Nat -> aK} {m i : Nat} (hi : (i : Int) < m) (h : ¬ Nq S i) : false = vsB S m := (decide_eq_false fun g => h (g.2 i (by omega))).symm
theorem aiS {S : Nat -> aK} {m i : Nat} (hi : (m : Int) <= i) (g : ∀ j, j < i -> Nq S j) : decide ((m : Int) <= 200) = vsB S m := by
  unfold vsB; exact decide_eq_decide.2 ⟨fun h => ⟨by omega, fun k hk => g k (by omega)⟩, fun h => by omega⟩
theorem ahf {q : Nat} {a : Nat -> Int} {j : Nat} (hj : (j : Int) + 1 < q) (h : a (j + 1) <= a j) : false = BQ q a := (decide_eq_false fun g => by have := g (j + 1) (by omega) (by omega); simp only [Nat.add_sub_cancel] at this; omega).symm
theorem agO {q : Nat} {a : Nat -> Int} {j : Nat} (hj : (q : Int) <= (j : Int) + 1) (h : ∀ i, i < j -> a i < a (i + 1)) : true = BQ q a := (decide_eq_true fun k hk h0 => by have := h (k - 1) (by omega); rwa [Nat.sub_add_cancel (by omega)] at this).symm
theorem aeO {l : List Int} {q : Nat} {a : Nat -> Int} {j : Nat} (hj : (j : Int) < q) (h : l.contains (a j) = false) : Xk l q a = false := decide_eq_false fun g => by have := g j (by omega); rw [h] at this; cases this
theorem agV {l : List Int} {q : Nat} {a : Nat -> Int} {j : Nat} (hj : (q : Int) <= j) (h : ∀ i, i < j -> l.contains (a i) = true) : Xk l q a = true := decide_eq_true fun k hk => h k (by omega)
def P5 (S : Nat -> aK) (i : Nat) : List Int := ((List.range i).filter fun j => (S j).q == 0).map fun j => (S j).nu
theorem zU (S : Nat -> aK) : P5 S 0 = [] := rfl
theorem aas {S : Nat -> aK} {i : Nat} (h : (S i).q = 0) : P5 S (i + 1) = P5 S i ++ [(S i).nu] := by
  unfold P5; rw [List.range_succ, List.filter_append, List.map_append, List.filter_cons_of_pos (by simp [h])]; rfl
theorem aah {S : Nat -> aK} {i : Nat} (h : 0 < (S i).q) : P5 S (i + 1) = P5 S i := by
  unfold P5; rw [List.range_succ, List.filter_append, List.filter_cons_of_neg (by simp; omega)]; simp
theorem adf (S : Nat -> aK) (i : Nat) : (P5 S i).length <= i := by
  unfold P5; rw [List.length_map]; exact Nat.le_trans (List.length_filter_le ..) (by simp)
def nE (o : bT) : Bool := decide (3 <= o.kd /\ o.kd <= 5)
def nR (x y : bT) : Bool := decide (x.id = y.id /\ (x.kd = y.kd \/ nE x = false \/ nE y = false))
def Aa (x : bT) (l : Nat) (p : Nat -> bT) : Nat := fQ (fun j => nR x (p j)) l
def BZ (k : Nat) (o : Nat -> bT) (l : Nat) (p : Nat -> bT) : Nat := fQ (fun i => decide (Aa (o i) l p < l)) k
def mR (k : Nat) (o : Nat -> bT) (l : Nat) (p : Nat -> bT) : Int := if BZ k o l p < k then BZ k o l p else -1
def vF (k : Nat) (o : Nat -> bT) (l : Nat) (p : Nat -> bT) : Int := if BZ k o l p < k then Aa (o (BZ k o l p)) l p else -1
theorem aaj {k : Nat} {o : Nat -> bT} {l : Nat} {p : Nat -> bT} {i j : Nat} (hi : (i : Int) < k) (g : ∀ i', i' < i -> ∀ j, j < l -> nR (o i') (p j) = false) (hj : (j : Int) < l) (h : nR (o i) (p j) = true) (gj : ∀ j', j' < j -> nR (o i) (p j') = false) : (i : Int) = mR k o l p /\ (j : Int) = vF k o l p := by
  have e1 : Aa (o i) l p = j := ku (b := fun j => nR (o i) (p j)) h gj l (by omega)
  have e2 : BZ k o l p = i := ku (b := fun i => decide (Aa (o i) l p < l)) (decide_eq_true (by rw [e1]; omega)) (fun t ht => decide_eq_false (by
    have : Aa (o t) l p = l := mO l fun j hj => g t ht j hj
    omega)) k (by omega)
  unfold mR vF
  rw [e2, if_pos (by omega), if_pos (by omega), e1]
  exact ⟨rfl, rfl⟩
theorem ZE {k : Nat} {o : Nat -> bT} {l : Nat} {p : Nat -> bT} {i : Nat} (hi : (k : Int) <= i) (g : ∀ i', i' < i -> ∀ j, j < l -> nR (o i') (p j) = false) : -1 = mR k o l p /\ -1 = vF k o l p := by
  have e2 : BZ k o l p = k := mO k fun t ht => decide_eq_false (by
    have : Aa (o t) l p = l := mO l fun j hj => g t (by omega) j hj
    omega)
  unfold mR vF
  rw [e2, if_neg (by omega), if_neg (by omega)]
  exact ⟨rfl, rfl⟩
def O7 (O : Nat -> wB) : Nat -> Nat
  | 0 => 0
  | i + 1 => O7 O i + (O i).k
def zL (l : List Int) (i : Nat) : Int := l.getD i 0
theorem p9 (l : List Int) : ∀ i o, i < l.length -> o < 1 -> (Fu ((dL l).getD (i + o) .any)).eqv (.g (.int .i64 (zL l i))) := fun i o hi ho => by
  obtain rfl : o = 0 := by omega
  rw [Nat.add_zero, uG _ _ hi]; exact IV.aG _
theorem bH (zs : List Int) (x : Int) (i : Nat) : List.map (CV.bW i) (dL zs ++ [.iv (.g (.int .i64 x))]) = dL (zs ++ [x]) := by
  have e : dL zs ++ [CV.iv (.g (.int .i64 x))] = dL (zs ++ [x]) := by simp [dL]
  rw [e]; exact aZ _ _
theorem n00 : ((0 : Nat) : Int) = 0 := rfl
theorem iy {P : Program} {gs : List (Option Nat)} {b : Bool} {o : Oper} {os : List Oper} {s : AS} {K : AS -> Prop} (h1 : b = true -> mh P gs o os s K) (h2 : b = false -> eD P gs os (s.put o.dst .any) K) : iT P gs b o os s K := Or.inr ⟨h1, h2⟩
def Fb (x : bF) : Prop := vsB x.S x.m = false \/ gM x.n x.f = false \/ x.mo ≠ x.m \/ ∃ i, i < x.mo /\ fO (x.O i).k (x.O i).o = false
instance (x : bF) : Decidable (Fb x) := by unfold Fb; infer_instance
def cB (x : bF) : Int := if Fb x then 1 else if x.m > 10 \/ x.n + O7 x.O x.mo > 300 then 2 else 0
theorem K3 {a b : List Nat} {i : Nat} (h : i < a.length) : (a ++ b).getD i 0 = a.getD i 0 := by
  simp only [List.getD_eq_getElem?_getD]; rw [List.getElem?_append_left h]
theorem Jt {a b : List Nat} {i : Nat} (h : a.length <= i) : (a ++ b).getD i 0 = b.getD (i - a.length) 0 := by
  simp only [List.getD_eq_getElem?_getD]; rw [List.getElem?_append_right h]
def eT (S : Nat -> aK) (m : Nat) (x : Int) : Nat := fQ (fun i => decide ((S i).nu = x)) m
def Ay (S : Nat -> aK) (m i : Nat) (P : List Nat) : Nat -> Nat
  | 0 => 0
  | j + 1 => Ay S m i P j ||| (P.getD (eT S m ((S i).a j)) 0 ||| 2 ^ eT S m ((S i).a j))
def gH (S : Nat -> aK) (m : Nat) : Nat -> List Nat
  | 0 => []
  | i + 1 => gH S m i ++ [Ay S m i (gH S m i) (S i).q]
theorem fG (S : Nat -> aK) (m : Nat) : ∀ i, (gH S m i).length = i
  | 0 => rfl
  | i + 1 => by show (_ ++ _ : List Nat).length = _; rw [List.length_append, fG S m i]; rfl
theorem Ik (S : Nat -> aK) (m : Nat) {i : Nat} : ∀ {k : Nat}, i <= k -> ∃ r, gH S m k = gH S m i ++ r
  | 0, h => ⟨[], by rw [Nat.le_zero.1 h]; rfl⟩
  | k + 1, h => by
    rcases (by omega : i = k + 1 \/ i <= k) with rfl | g
    · exact ⟨[], by simp⟩
    · obtain ⟨r, e⟩ := Ik S m g
      exact ⟨r ++ [Ay S m k (gH S m k) (S k).q], by show gH S m k ++ _ = _; rw [e, List.append_assoc]⟩
def eY (S : Nat -> aK) (m i : Nat) : Nat := (gH S m m).getD i 0
theorem Ey (S : Nat -> aK) (m : Nat) {i k : Nat} (h : i < k) (hk : k <= m) : (gH S m k).getD i 0 = eY S m i := by
  obtain ⟨r, e⟩ := Ik S m hk
  unfold eY
  rw [e, K3 (by rw [fG]; exact h)]
def nT (S : Nat -> aK) (m i x : Nat) : List Nat := gH S m i ++ x :: List.replicate (m - (i + 1)) 0
def wL (S : Nat -> aK) (m i : Nat) : List Nat := gH S m i ++ List.replicate (m - i) 0
theorem ab9 (S : Nat -> aK) {m i : Nat} (h : i < m) : wL S m i = nT S m i 0 := by
  unfold wL nT
  rw [show m - i = (m - (i + 1)) + 1 by omega]; rfl
theorem adh (S : Nat -> aK) {m i : Nat} : nT S m i (Ay S m i (gH S m i) (S i).q) = wL S m (i + 1) := by
  unfold wL nT
  show _ = (gH S m i ++ [_]) ++ _
  rw [List.append_assoc]; rfl
theorem SQ (S : Nat -> aK) (m : Nat) : wL S m m = gH S m m := by unfold wL; simp
theorem Fx (S : Nat -> aK) {m i : Nat} (x : Nat) (h : i < m) : (nT S m i x).length = m := by
  unfold nT; rw [List.length_append, fG]; simp; omega
theorem Je (S : Nat -> aK) {m i : Nat} (h : i <= m) : (wL S m i).length = m := by
  unfold wL; rw [List.length_append, fG]; simp; omega
theorem acs (S : Nat -> aK) {m i : Nat} (x : Nat) : (nT S m i x).getD i 0 = x := by
  unfold nT
  rw [Jt (by rw [fG]; omega), fG, Nat.sub_self]; rfl
theorem adF (S : Nat -> aK) {m i k : Nat} (x : Nat) (h : k < i) : (nT S m i x).getD k 0 = (gH S m i).getD k 0 := by
  unfold nT
  rw [K3 (by rw [fG]; exact h)]
theorem Uf (S : Nat -> aK) {m i : Nat} (x y : Nat) : (nT S m i x).set i y = nT S m i y := by
  unfold nT
  rw [List.set_append_right _ _ (by rw [fG]; omega), fG, Nat.sub_self]; rfl
def fP (L : List (Nat × Nat)) (j : Nat) : Nat := L.foldl (fun a p => if p.1 = j then a ||| 2 ^ p.2 else if p.2 = j then a ||| 2 ^ p.1 else a) 0
def jJ (L : List (Nat × Nat)) (m : Nat) : List Nat := (List.range m).map (fP L)
theorem RO (m : Nat) : jJ [] m = List.replicate m 0 := by
  unfold jJ
  have : fP [] = fun _ => 0 := rfl
  rw [this, List.map_const', List.length_range]
theorem gq (L : List (Nat × Nat)) (m : Nat) : (jJ L m).length = m := by simp [jJ]
theorem Eb (L : List (Nat × Nat)) {m j : Nat} (h : j < m) : (jJ L m).getD j 0 = fP L j := by
  unfold jJ; simp [List.getD_eq_getElem?_getD, List.getElem?_range h]
theorem PN (L : List (Nat × Nat)) (i k j : Nat) : fP (L ++ [(i, k)]) j = if i = j then fP L j ||| 2 ^ k else if k = j then fP L j ||| 2 ^ i else fP L j := by
  unfold fP; rw [List.foldl_append]; rfl
theorem UY (L : List (Nat × Nat)) {m i k : Nat} (h : i < k) (hk : k < m) : ((jJ L m).set i (fP L i ||| 2 ^ k)).set k (fP L k ||| 2 ^ i) = jJ (L ++ [(i, k)]) m := by
  apply List.ext_getElem
  · simp [jJ]
  · intro j h1 h2
    have hj : j < m := by simpa [jJ] using h2
    have e0 : ∀ (L : List (Nat × Nat)) (h : j < (jJ L m).length), (jJ L m)[j] = fP L j := fun L h => by
      show ((List.range m).map (fP L))[j]'(by simpa using hj) = _
      simp
    rw [List.getElem_set, e0, PN]
    by_cases e1 : k = j
    · subst e1; rw [if_pos rfl, if_neg (by omega), if_pos rfl]
    · rw [if_neg e1, if_neg e1, List.getElem_set]
      by_cases e2 : i = j
      · subst e2; rw [if_pos rfl, if_pos rfl]
      · rw [if_neg e2, if_neg e2, e0]
theorem aee (L : List (Nat × Nat)) {m i k : Nat} (x : Nat) (h : i < k) (hk : k < m) : ((jJ L m).set i x).getD k 0 = fP L k := by
  rw [<- Eb L hk]
  simp only [List.getD_eq_getElem?_getD]
  rw [List.getElem?_set_ne (by omega)]
theorem Rz (L : List (Nat × Nat)) (hL : ∀ p, p ∈ L -> p.1 < p.2) (j t : Nat) : (fP L j).testBit t = true ↔ (j, t) ∈ L \/ (t, j) ∈ L := by
  unfold fP
  have key : ∀ (L : List (Nat × Nat)) (a : Nat), (∀ p, p ∈ L -> p.1 < p.2) -> ((L.foldl (fun a p => if p.1 = j then a ||| 2 ^ p.2 else if p.2 = j then a ||| 2 ^ p.1 else a) a).testBit t = true ↔ a.testBit t = true \/ (j, t) ∈ L \/ (t, j) ∈ L) := by
    intro L
    induction L with
    | nil => intro a _; simp
    | cons p L ih =>
      intro a hL
      obtain ⟨x, y⟩ := p
      have hxy : x < y := hL (x, y) (List.mem_cons_self ..)
      rw [List.foldl_cons, ih _ fun p hp => hL p (List.mem_cons_of_mem _ hp)]
      simp only [List.mem_cons, Prod.mk.injEq]
      by_cases e1 : x = j
      · subst e1
        rw [if_pos rfl]
        rw [Nat.testBit_or, Nat.testBit_two_pow]
        by_cases e : y = t
        · subst e; simp
        · have n1 : ¬ x = y := by omega
          simp [e, Ne.symm e, n1]
      · rw [if_neg e1]
        by_cases e2 : y = j
        · subst e2
          rw [if_pos rfl, Nat.testBit_or, Nat.testBit_two_pow]
          by_cases e : x = t
          · subst e; simp
          · have n1 : ¬ y = x := by omega
            simp [e, Ne.symm e, n1]
        · rw [if_neg e2]
          simp [Ne.symm e1, Ne.symm e2]
  rw [key L 0 hL]; simp
theorem DR (L : List (Nat × Nat)) (hL : ∀ p, p ∈ L -> p.1 < 10 /\ p.2 < 10) (j : Nat) : fP L j < 1024 := by
  unfold fP
  have key : ∀ (L : List (Nat × Nat)) (a : Nat), a < 1024 -> (∀ p, p ∈ L -> p.1 < 10 /\ p.2 < 10) -> L.foldl (fun a p => if p.1 = j then a ||| 2 ^ p.2 else if p.2 = j then a ||| 2 ^ p.1 else a) a < 1024 := by
    intro L
    induction L with
    | nil => intro a h _; exact h
    | cons p L ih =>
      intro a ha hL
      have hp := hL p (List.mem_cons_self ..)
      rw [List.foldl_cons]
      refine ih _ ?_ fun p hp => hL p (List.mem_cons_of_mem _ hp)
      split
      · exact NZ ha (xw hp.2)
      · split
        · exact NZ ha (xw hp.1)
        · exact ha
  exact key L 0 (by decide) hL
def mV (P : Nat -> Nat) (X : Nat -> Nat -> Bool) (i : Nat) : Nat -> List (Nat × Nat)
  | 0 => []
  | t + 1 => mV P X i t ++ if (P (i + 1 + t)).testBit i = false /\ X i (i + 1 + t) = true then [(i, i + 1 + t)] else []
def lF (P : Nat -> Nat) (X : Nat -> Nat -> Bool) (m : Nat) : Nat -> List (Nat × Nat)
  | 0 => []
  | i + 1 => lF P X m i ++ mV P X i (m - (i + 1))
theorem EM {P : Nat -> Nat} {X : Nat -> Nat -> Bool} {i : Nat} : ∀ {t : Nat} {p : Nat × Nat}, p ∈ mV P X i t ↔ p.1 = i /\ i < p.2 /\ p.2 < i + 1 + t /\ (P p.2).testBit i = false /\ X i p.2 = true
  | 0, p => by constructor <;> intro h <;> simp [mV] at h; omega
  | t + 1, p => by
    show p ∈ _ ++ _ ↔ _
    rw [List.mem_append, EM]
    obtain ⟨x, y⟩ := p
    simp only
    constructor
    · rintro (⟨h1, h2, h3, h4⟩ | h)
      · exact ⟨h1, h2, by omega, h4⟩
      · split at h
        · rename_i g
          simp only [List.mem_singleton, Prod.mk.injEq] at h
          obtain ⟨rfl, rfl⟩ := h
          exact ⟨rfl, by omega, by omega, g⟩
        · simp at h
    · rintro ⟨h1, h2, h3, h4⟩
      rcases (by omega : y < i + 1 + t \/ y = i + 1 + t) with g | g
      · exact Or.inl ⟨h1, h2, g, h4⟩
      · right; subst g; rw [if_pos h4, h1]; simp
theorem yN {P : Nat -> Nat} {X : Nat -> Nat -> Bool} {m : Nat} : ∀ {k : Nat} {p : Nat × Nat}, k <= m -> (p ∈ lF P X m k ↔ p.1 < k /\ p.1 < p.2 /\ p.2 < m /\ (P p.2).testBit p.1 = false /\ X p.1 p.2 = true)
  | 0, p, _ => by constructor <;> intro h <;> simp [lF] at h
  | k + 1, p, hk => by
    show p ∈ _ ++ _ ↔ _
    rw [List.mem_append, yN (by omega), EM]
    obtain ⟨x, y⟩ := p
    simp only
    constructor
    · rintro (⟨h1, h2, h3, h4⟩ | ⟨rfl, h2, h3, h4⟩)
      · exact ⟨by omega, h2, h3, h4⟩
      · exact ⟨by omega, h2, by omega, h4⟩
    · rintro ⟨h1, h2, h3, h4⟩
      rcases (by omega : x < k \/ x = k) with g | rfl
      · exact Or.inl ⟨g, h2, h3, h4⟩
      · exact Or.inr ⟨rfl, h2, by omega, h4⟩
theorem aeB {P : Nat -> Nat} {X : Nat -> Nat -> Bool} {m k t : Nat} (hk : k < m) (ht : k + 1 + t <= m) {p : Nat × Nat} (h : p ∈ lF P X m k ++ mV P X k t) : p.1 < p.2 /\ p.2 < m := by
  rcases List.mem_append.1 h with g | g
  · have := (yN (by omega)).1 g; omega
  · have := EM.1 g; omega
theorem Zr {P : Nat -> Nat} {X : Nat -> Nat -> Bool} {i t : Nat} (h : (P (i + 1 + t)).testBit i = false) (hx : X i (i + 1 + t) = true) : mV P X i (t + 1) = mV P X i t ++ [(i, i + 1 + t)] := by
  show _ ++ _ = _; rw [if_pos ⟨h, hx⟩]
theorem TA {P : Nat -> Nat} {X : Nat -> Nat -> Bool} {i t : Nat} (h : (P (i + 1 + t)).testBit i = true \/ X i (i + 1 + t) = false) : mV P X i (t + 1) = mV P X i t := by
  show _ ++ _ = _; rw [if_neg (by rintro ⟨h1, h2⟩; rcases h with h | h <;> simp_all)]; simp
def iR (P : Nat -> Nat) (s : Nat) : Nat := (bl s).foldl (fun a i => a ||| P i) s
end Go.Proofs.YtmnejmpjmniiiaaGreatDoor
set_option maxRecDepth 100000
set_option maxHeartbeats 4000000
namespace Go.Proofs.YtmnejmpjmniiiaaGreatDoor
open Go.RowKit Go.Sea
open Nat renaming reduceAdd -> xA, reduceLT -> xL, reduceLeDiff -> xD, reduceEqDiff -> xE, reduceMul -> xM, reduceSub -> xS, reduceBEq -> xB
theorem ag9 : BP Tryz.prog 23 = none := by kernel_rfl
theorem Ed : aM Tryz.prog 62 = true := by kernel_rfl
theorem Nk : aM Tryz.prog 84 = true := by kernel_rfl
theorem Et : aM Tryz.prog 85 = true := by kernel_rfl
theorem aiA : uY Tryz.prog 23 = some true := by kernel_rfl
theorem ab5 : Jr Tryz.prog 102 = some 4 := by kernel_rfl
theorem Vw : dB Tryz.prog 48 0 = some 0 := by kernel_rfl
theorem Yj : dB Tryz.prog 48 1 = some 1 := by kernel_rfl
theorem ah1 : oU Tryz.prog 23 = some (2, 32, 48) := by kernel_rfl
theorem afC : mU Tryz.prog 48 = some (true, 2) := by kernel_rfl
theorem aix : eX Tryz.prog 48 = some [.iv (.g (.int .i64 0)), .iv (.g (.slice none 0 0))] := by kernel_rfl
theorem ajx : XE Tryz.prog 4 = some (.one (.g (.bool false))) := by kernel_rfl
attribute [go_sem] ag9 Ed Nk Et aiA ab5 Vw Yj ah1 afC aix ajx
theorem adE (x : Int) : au Tryz.prog 84 [.one (.g (.int .i64 x))] (.t (.one (.g (.bool (tX x))))) := by
  refine ah Tryz.func84 rfl (by rw [Tryz.ntmps84]; simp) ?_
  simp only [Tryz.ntmps84, zM, PT.tv, ak, Nat.zero_add, Nat.reduceAdd]
  repeat' (first
 | ((with_reducible show AW _ _ _ _); first
 | (with_reducible first | refine aS (fun K hK => ?_) | refine aT ?_)
 | (first
 | (with_reducible first | refine aP 0 [0] ?_ | refine aP 1 [0] ?_)))
 | (with_reducible refine aA ?_)
 | ((fail_if_success (with_reducible show AW _ _ _ _)); simp (maxSteps := 2000000) only [go_sem, reduceIte, reduceCtorEq, xA, xL, xD, xE, xM, xS, xB, Tryz.f84])
 | ((with_reducible refine hK _ ?_); clear hK K))
  all_goals ((unfold tX; (try refine Bool.eq_iff_iff.2 ?_); (simp only [Bool.and_eq_true, Bool.or_eq_true, Bool.not_eq_true', decide_eq_true_eq, decide_eq_false_iff_not, bne_iff_ne, beq_iff_eq, ne_eq, ge_iff_le, gt_iff_lt, cond_eq_ite, iff_self, eq_self]; done)))
theorem TT (q : Nat) (a : Nat -> Int) (hq : q <= 9223372036854775807) : au Tryz.prog 85 [.one (.lst 1 q (bG a))] (.t (.one (.g (.bool (BQ q a))))) := by
  have hsx : True := trivial
  refine ah Tryz.func85 rfl (by rw [Tryz.ntmps85]; simp) ?_
  simp only [Tryz.ntmps85, zM, PT.tv, ak, Nat.zero_add, Nat.reduceAdd]
  repeat' (first
 | ((with_reducible show AW _ _ _ _); first
 | (with_reducible first | refine aS (fun K hK => ?_) | refine aI ?_ | refine aX ?_ | refine aT ?_ | refine aC ?_ | refine aB ?_)
 | (first
 | (with_reducible first | refine aP 0 [0] ?_ | refine aP 1 [0] ?_ | refine aP 2 [0,3] ?_ | refine aP 3 [0,3] ?_)
 | ((with_reducible refine aR (c := Code.region 4 _ true) [0,3] ?_); (with_reducible refine aD ?_ ?_ ?_ ?_); (focus kernel_rfl); (focus kernel_rfl); (focus kernel_rfl))
 | (with_reducible first | refine aP 5 [] ?_ | refine aP 6 [] ?_))
 | ((with_reducible show AW _ (Code.loop _) _ _); first
 | ((with_reducible refine aL (c := (Code.seq (Code.seq (Code.region 2 _ _) _) _)) (ι := Nat) [0] (fun j => [(3, iA .i64 ((j : Int) + 1))]) (fun j => []) (fun j => (j + 1 <= q \/ j = 0) /\ (∀ j', j' < j -> a j' < a (j' + 1))) (fun j => q - j) 0 ?lg2 ?l12 ?l22 ?li2 ?lr2); (case' lg2 => rintro j _); (case' li2 => try (exact ⟨Or.inr rfl, fun _ h => absurd h (Nat.not_lt_zero _)⟩)); (case' lr2 => rintro j ⟨hj, haj⟩ KR hR2; simp only [bf, bN, hset, lk, if_true, if_false, xE, reduceIte, zN, hsx]))))
 | (((with_reducible refine And.intro ?_ ?_)); focus (omega))
 | (with_reducible refine aA ?_)
 | ((with_reducible show aY _ _ _ _ _ _); first
 | ((with_reducible refine aH ?_ ?_) <;> (intro hc; (try simp only [zB, zC, reduceCtorEq] at hc); ((try (have hsx : (((j : Int) + 1 - 1).toNat) = j := by omega))); (try (exfalso; contradiction)))))
 | ((with_reducible refine And.intro ?_ ?_); focus ((with_reducible show fB _ _ _ = true); kernel_rfl))
 | ((with_reducible refine hR2 _ (j + 1) ?_); (try clear hR2 KR))
 | ((with_reducible refine Told.mk ?_); simp only [go_sem, reduceIte, reduceCtorEq, xA, xL, xD, xE, xM, xS, xB, bG, hsx] <;> ((((try simp (disch := omega) only [aJ, Int.natCast_add, Int.cast_ofNat_Int, and_true, true_and, and_self]); (repeat' (first | omega | (with_reducible refine And.intro ?_ ?_) | (exact all_succ (by assumption) (by assumption)))); done))))
 | ((fail_if_success (with_reducible show AW _ _ _ _)); simp (maxSteps := 2000000) only [go_sem, reduceIte, reduceCtorEq, xA, xL, xD, xE, xM, xS, xB, Tryz.f85, bG, hsx])
 | ((fail_if_success (with_reducible show AW _ _ _ _)); simp (disch := omega) only [aJ, dG, dH])
 | ((with_reducible refine hK _ ?_); clear hK K)
 | (with_reducible apply_assumption -exfalso only [*]))
  all_goals first | exact ahf (by omega) (by omega) | exact agO (by omega) haj | skip
theorem aeL {S : Nat -> aK} {i : Nat} (h : tX (S i).nu = false) : ¬ Nq S i := fun g => by rw [g.1] at h; cases h
theorem ahA {S : Nat -> aK} {i : Nat} (h : (S i).nu <= Kc S i) : ¬ Nq S i := fun g => by have := g.2.1; omega
theorem agM {S : Nat -> aK} {i : Nat} (h : BQ (S i).q (S i).a = false) : ¬ Nq S i := fun g => by rw [g.2.2.1] at h; cases h
theorem agz {S : Nat -> aK} {i j : Nat} (hj : (j : Int) < (S i).q) (h : (Oi S i).contains ((S i).a j) = false) : ¬ Nq S i := fun g => by have e := g.2.2.2; rw [aeO hj h] at e; cases e
theorem ahP (S : Nat -> aK) (i : Nat) : (tX (S i).nu = false /\ True /\ True) \/ (tX (S i).nu = true /\ decide ((S i).nu <= Kc S i) = true /\ True) \/ (tX (S i).nu = true /\ decide ((S i).nu <= Kc S i) = false /\ BQ (S i).q (S i).a = false) \/ (tX (S i).nu = true /\ decide ((S i).nu <= Kc S i) = false /\ BQ (S i).q (S i).a = true) := by
  cases tX (S i).nu <;> cases decide ((S i).nu <= Kc S i) <;> cases BQ (S i).q (S i).a <;> simp
theorem ajf {S : Nat -> aK} {i j : Nat} (h1 : tX (S i).nu = true) (h2 : Kc S i < (S i).nu) (h3 : BQ (S i).q (S i).a = true) (hj : ((S i).q : Int) <= j) (h4 : ∀ k, k < j -> (Oi S i).contains ((S i).a k) = true) : Nq S i := ⟨h1, h2, h3, agV hj h4⟩
theorem Sz (S : Nat -> aK) (m : Nat) (hm : m <= 9223372036854775807) (hq : ∀ i, i < m -> (S i).q <= 9223372036854775807) : au Tryz.prog 60 [.one (.lst 2 m (fA S))] (.t (.one (.g (.bool (vsB S m))))) := by
  have hfk : True := trivial
  have hb1 : True := trivial
  have hb2 : True := trivial
  have hb3 : True := trivial
  have mk0 : True := trivial
  have mk1 : True := trivial
  refine ah Tryz.func60 rfl (by rw [Tryz.ntmps60]; simp) ?_
  simp only [Tryz.ntmps60, zM, PT.tv, ak, Nat.zero_add, Nat.reduceAdd]
  repeat' (first
 | ((with_reducible show bK _ _ _ _ _ _ _ _ _ _); ((refine eO ?_ ?_) <;> (intro hc; (try rw [hc]); (try simp only [zB, zC, reduceCtorEq] at hc); (try (exfalso; contradiction)))))
 | (refine Cv ?_)
 | ((with_reducible show AW _ _ _ _); first
 | (with_reducible first | refine aS (fun K hK => ?_) | refine aI ?_ | refine aX ?_ | refine aT ?_ | refine aC ?_ | refine aB ?_)
 | (first
 | (with_reducible first | refine aP (ops := #[⟨some 2, _, _, _, _, _⟩]) 0 [0] ?_ | refine aP (ops := #[⟨some 4, _, _, _, _, _⟩]) 0 [0,1] ?_ | refine aP (ops := #[⟨some 7, _, _, _, _, _⟩, _]) 1 [0] ?_ | refine aP (ops := #[⟨some 7, _, _, _, _, _⟩, _, _]) 1 [0,1] ?_ | refine aP (ops := #[⟨some 4, _, _, _, _, _⟩]) 2 [0,3] ?_ | refine aP (ops := #[⟨some 10, _, _, _, _, _⟩]) 2 [0,7,8,9] ?_ | refine aP (ops := #[⟨some 8, _, _, _, _, _⟩, _, _]) 3 [0,3,4] ?_ | refine aP (ops := #[⟨some 11, _, _, _, _, _⟩, _, _]) 3 [0,7,8,9] ?_ | refine aP (ops := #[⟨some 11, _, _, _, _, _⟩]) 4 [0,3,4,8,9,10] ?_ | refine aP (ops := #[⟨some 13, _, _, _, _, _⟩, _, _, _]) 4 [0,6,7,8,9] ?_ | refine aP (ops := #[⟨some 12, _, _, _, _, _⟩, _, _, _]) 5 [0,3,4,8,9,10] ?_ | refine aP (ops := #[⟨some 4, _, _, _, _, _⟩]) 5 [] ?_ | refine aP (ops := #[⟨some 14, _, _, _, _, _⟩, _, _, _, _, _, _, _, _, _, _, _, _, _, _, _, _, _, _, _, _, _, _]) 6 [0,3,4,6,8,9,10] ?_ | refine aP (ops := #[⟨some 17, _, _, _, _, _⟩, _]) 6 [0,7,8,9] ?_ | refine aP (ops := #[⟨some 2, _, _, _, _, _⟩]) 7 [] ?_ | refine aP (ops := #[⟨some 4, _, _, _, _, _⟩]) 7 [] ?_ | refine aP 8 [0,3,6,8,9,10] ?_ | refine aP 9 [0,3,4,8,9,10] ?_ | refine aP 10 [0,3,4,8,9,10] ?_ | refine aP 11 [0] ?_))
 | ((with_reducible show AW _ (Code.loop _) _ _); first
 | ((with_reducible refine aL (c := (Code.seq (Code.region 4 _ _) _)) (ι := Nat) [0,3,8,9] (fun i => [(4, iA .i64 (Kc S i)), (10, iA .i64 (i : Int))]) (fun i => [(0, [.mi none i (zS (Oi S i))])]) (fun i => i <= m /\ (∀ i', i' < i -> Nq S i')) (fun i => m - i) 0 ?lg4 ?l14 ?l24 ?li4 ?lr4); (case' lg4 => rintro i _); (case' li4 => try (exact ⟨Nat.zero_le _, fun i hi => absurd hi (Nat.not_lt_zero _)⟩)); (case' lr4 => rintro i ⟨hi, hai⟩ KR hR4; simp only [bf, bN, hset, lk, if_true, if_false, xE, reduceIte, zN, bJ, bI, hb1, hb2, hb3, hfk, uQ, gU, CP, OC, MS]))
 | ((with_reducible refine aL (c := (Code.seq (Code.region 2 _ _) _)) (ι := Nat) [0,7,8] (fun j => [(9, iA .i64 (j : Int))]) (fun j => []) (fun j => j <= (S i).q /\ (∀ j', j' < j -> (Oi S i).contains ((S i).a j') = true)) (fun j => (S i).q - j) 0 ?lg2 ?l12 ?l22 ?li2 ?lr2); (case' lg2 => rintro j _); (case' li2 => try (exact ⟨Nat.zero_le _, fun i hi => absurd hi (Nat.not_lt_zero _)⟩)); (case' lr2 => rintro j ⟨hj, haj⟩ KR hR2; simp only [bf, bN, hset, lk, if_true, if_false, xE, reduceIte, zN, bJ, bI, hb1, hb2, hb3, hfk, uQ, gU, CP, OC, MS]))))
 | ((first | (with_reducible refine And.intro ?_ ?_) | (with_reducible refine Need.mk ?_)); focus (first | exact True.intro | omega))
 | (with_reducible refine aA ?_)
 | ((with_reducible show aY _ _ _ _ _ _); first
 | ((with_reducible refine aH ?_ ?_) <;> (intro hc; (try simp only [zB, zC, reduceCtorEq] at hc); ((try (clear mk1; have hq2 := hq i (by omega); clear hb1 hb2 hb3; rcases ahP S i with ⟨hb1, hb2, hb3⟩ | ⟨hb1, hb2, hb3⟩ | ⟨hb1, hb2, hb3⟩ | ⟨hb1, hb2, hb3⟩)); (try (clear mk0; clear hfk; cases hcn : (Oi S i).contains ((S i).a j); all_goals (first | (have hfk := aeI hcn) | (have hfk := TR hcn)))); (try (have e0 : ¬ ((i : Int) < m) := (by omega); clear mk0))); (try (exfalso; contradiction)))))
 | ((with_reducible show aN _ _ _ _ _ _ _ _ _ _); first
 | (refine aj (k := 84) Nk (adE (S i).nu) ?_ ?_)
 | (refine aj (k := 85) Et (TT (S i).q (S i).a (hq i (by omega))) ?_ ?_)
 | ((refine bY (k := 62) Tryz.func62 rfl Ed (by rw [Tryz.ntmps62]; simp) ?_ ?_ (fun K hK => ?_)); (focus (exact True.intro)); (focus ((simp [iM]; done))); simp only [Tryz.ntmps62, List.map_cons, List.map_nil, List.nil_append, List.cons_append, List.append_nil, LV.tv, ak, Nat.zero_add, Nat.reduceAdd]))
 | ((with_reducible refine hR4 _ (i + 1) ?_); (try clear hR4 KR))
 | ((with_reducible refine hR2 _ (j + 1) ?_); (try clear hR2 KR))
 | ((with_reducible refine Told.mk ?_); simp only [go_sem, reduceIte, reduceCtorEq, xA, xL, xD, xE, xM, xS, xB, bJ, bI, bG, hb1, hb2, hb3, hfk, uQ, gU, CP, OC, MS] <;> ((((try simp (disch := omega) only [aJ, Int.natCast_add, Int.cast_ofNat_Int, and_true, true_and, and_self]); (repeat' (first | omega | (with_reducible refine And.intro ?_ ?_) | (exact all_succ (by assumption) (by assumption)) | ((exact Or.inr ⟨RQ (WE hai (by have := of_decide_eq_false hb2; omega)), fun k => by rw [aeZ]; exact Rn _⟩)) | ((exact all_succ (by assumption) (ajf (by assumption) (by have := of_decide_eq_false hb2; omega) (by assumption) (by assumption) (by assumption)))))); done))))
 | ((fail_if_success (with_reducible show AW _ _ _ _)); simp (maxSteps := 2000000) only [go_sem, reduceIte, reduceCtorEq, xA, xL, xD, xE, xM, xS, xB, Tryz.f60, Tryz.f62, bJ, bI, bG, hb1, hb2, hb3, hfk, uQ, gU, CP, OC, MS])
 | ((with_reducible refine hK _ ?_); clear hK K)
 | (with_reducible apply_assumption -exfalso only [*]))
  all_goals first | exact aiO (by assumption) (by first | exact aeL (by assumption) | exact ahA (of_decide_eq_true (by assumption)) | exact agM (by assumption) | exact agz (by assumption) (by assumption)) | exact aiS (by omega) hai | skip
end Go.Proofs.YtmnejmpjmniiiaaGreatDoor
