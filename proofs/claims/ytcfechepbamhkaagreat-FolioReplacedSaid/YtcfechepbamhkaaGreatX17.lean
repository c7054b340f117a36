/- Part 17 of 17: contracts of functions and plain laws for the root text. No condition. -/
import Derived.Test.YtcfechepbamhkaaGreatX01
import Derived.Test.YtcfechepbamhkaaGreatX02
import Derived.Test.YtcfechepbamhkaaGreatX03
import Derived.Test.YtcfechepbamhkaaGreatX04
import Derived.Test.YtcfechepbamhkaaGreatX05
import Derived.Test.YtcfechepbamhkaaGreatX06
import Derived.Test.YtcfechepbamhkaaGreatX07
import Derived.Test.YtcfechepbamhkaaGreatX08
import Derived.Test.YtcfechepbamhkaaGreatX09
import Derived.Test.YtcfechepbamhkaaGreatX10
import Derived.Test.YtcfechepbamhkaaGreatX11
import Derived.Test.YtcfechepbamhkaaGreatX12
import Derived.Test.YtcfechepbamhkaaGreatX13
import Derived.Test.YtcfechepbamhkaaGreatX14
import Derived.Test.YtcfechepbamhkaaGreatX15
import Derived.Test.YtcfechepbamhkaaGreatX16
import Derived.Shelf.SlGeneric
import Derived.Ground.SlgfProg
import Derived.Shelf.SlicesE.DeleteFunc
import Derived.Test.YtcfechepbamhkaaGreatProg
set_option linter.unusedVariables false
set_option linter.unusedSimpArgs false
namespace Go.Proofs.YtcfechepbamhkaaGreat
open Go.RowKit Go.Sea
theorem zT : bg.Ok := ⟨Nat.zero_le _, Nat.zero_le _, fun _ h => absurd h (Nat.not_lt_zero _)⟩
theorem Lr {s : aF} {n : Nat} {N : Nat -> ah} {k : Nat} {od : Nat -> Int} (h : qB s n N k od = 0) : dW (sj s n N k od) = true /\ sj s n N k od = dO s n N od k /\ zI s n N k = true /\ ∀ j, j < k -> nI (dO s n N od j) n N (od j) = 0 := by
  unfold qB at h
  split at h
  · rename_i hB
    split at h
    · rename_i hj
      exact absurd h (of_decide_eq_true ((iU (b := fun i => decide (nI (dO s n N od i) n N (od i) ≠ 0)) (k := k)).2 hj))
    · rename_i hj
      have g : ∀ j, j < k -> nI (dO s n N od j) n N (od j) = 0 := fun j hj2 => by
        have := (iU (b := fun i => decide (nI (dO s n N od i) n N (od i) ≠ 0)) (k := k)).1 j (by unfold Gv at hj; omega)
        simpa using this
      have hv : dW s = true := by unfold zI at hB; simp only [Bool.and_eq_true] at hB; exact hB.1.1
      have e : sj s n N k od = dO s n N od k := by unfold sj; rw [if_pos hB, if_neg hj]
      exact ⟨e ▸ afX hv k g, e, hB, g⟩
  · cases h
theorem abA (s : aF) (n : Nat) (N : Nat -> ah) (k : Nat) (od : Nat -> Int) : (sj s n N k od).Ok := by
  by_cases h : qB s n N k od = 0
  · exact wW (Lr h).1
  · have e : sj s n N k od = bg := by
      unfold qB at h; unfold sj
      split
      · rw [if_pos (by assumption)] at h
        split
        · rfl
        · rw [if_neg (by assumption)] at h; exact absurd rfl h
      · rfl
    rw [e]; exact zT
theorem ZP (s : aF) (n : Nat) (N : Nat -> ah) : (mV s n N).Ok := by
  unfold mV
  split
  · split
    · exact zT
    · unfold mkF
      split
      · have := abA s n N (gD s N n).length (zL (gD s N n))
        exact ⟨this.q, this.n, this.f⟩
      · exact zT
  · exact zT
theorem ahd (q : Nat) (a : Nat -> Int) (x y : Int) : fD (q + 1) (LU q a x) y = (decide (y = x) || fD q a y) := by
  have hp : jB (jZ q a) x <= q := by have := kE (jZ q a) x; simpa [jZ] using this
  refine Bool.eq_iff_iff.2 ?_
  unfold fD
  simp only [Bool.or_eq_true, decide_eq_true_eq]
  constructor
  · rintro ⟨i, hi, he⟩
    rcases Nat.lt_trichotomy i (jB (jZ q a) x) with h | h | h
    · exact Or.inr ⟨i, by omega, by rw [<- he]; exact (Gi h).1.symm⟩
    · subst h; exact Or.inl (he.symm.trans LJ)
    · exact Or.inr ⟨i - 1, by omega, by rw [<- he]; exact (LY h hi).symm⟩
  · rintro (h | ⟨j, hj, he⟩)
    · exact ⟨jB (jZ q a) x, by omega, LJ.trans h.symm⟩
    · by_cases h : j < jB (jZ q a) x
      · exact ⟨j, by omega, (Gi h).1.trans he⟩
      · exact ⟨j + 1, by omega, by rw [LY (by omega) (by omega)]; simpa using he⟩
def LN (n : Nat) (N : Nat -> ah) : List ah := (List.range n).map N
theorem aoH (n : Nat) (N : Nat -> ah) : LN (n + 1) N = LN n N ++ [N n] := by unfold LN; rw [List.range_succ, List.map_append]; rfl
theorem U3 (n : Nat) (N : Nat -> ah) : (LN n N).length = n := by simp [LN]
theorem aah {n i : Nat} {N : Nat -> ah} (h : i < (LN n N).length) : (LN n N)[i] = N i := by simp [LN]
theorem U8 {n : Nat} {N : Nat -> ah} {a : ah} : a ∈ LN n N ↔ ∃ i, i < n /\ N i = a := by simp [LN]
theorem Zb (s : aF) (N : Nat -> ah) : ∀ i, gD s N i = ((LN i N).filter fun a => kN a s.ch && !fD s.q s.dn a.nu).map ah.nu
  | 0 => rfl
  | i + 1 => by
    rw [aoH, List.filter_append, List.map_append, <- Zb s N i]
    cases h : zy s N i with
    | true => rw [Zm h]; unfold zy at h; simp [h]
    | false => rw [Mw h]; unfold zy at h; simp [h]
theorem YS {n : Nat} {N : Nat -> ah} (h : ∀ i, i < n -> uU N i) {i : Nat} (hi : i < n) : nV n N (N i).nu = i :=
  jY (b := fun j => decide ((N j).nu = (N i).nu)) (decide_eq_true rfl) (fun j hj => decide_eq_false (by have := mo h i hj hi; omega)) n hi
def kY (s : aF) : List ah -> aF
  | [] => s
  | a :: l => kY (Mq s a) l
def okR (s : aF) : List ah -> Prop
  | [] => True
  | a :: l => pQ s a = 0 /\ okR (Mq s a) l
theorem IY : ∀ (l m : List ah) (s : aF), kY s (l ++ m) = kY (kY s l) m
  | [], _, _ => rfl
  | a :: l, m, s => IY l m (Mq s a)
theorem Oc : ∀ (l m : List ah) (s : aF), okR s (l ++ m) ↔ okR s l /\ okR (kY s l) m
  | [], m, s => ⟨fun h => ⟨trivial, h⟩, fun h => h.2⟩
  | a :: l, m, s => by
    show (pQ s a = 0 /\ okR (Mq s a) (l ++ m)) ↔ (pQ s a = 0 /\ okR (Mq s a) l) /\ _
    rw [Oc l m (Mq s a)]
    exact ⟨fun ⟨a, b, c⟩ => ⟨⟨a, b⟩, c⟩, fun ⟨⟨a, b⟩, c⟩ => ⟨a, b, c⟩⟩
theorem agd : ∀ (l : List ah) {s : aF}, dW s = true -> okR s l -> dW (kY s l) = true
  | [], _, h, _ => h
  | a :: l, _, _, h => agd l (OP h.1).1 h.2
theorem zX : ∀ (l : List ah) (s : aF), (kY s l).ch = s.ch /\ (kY s l).ed = s.ed
  | [], _ => ⟨rfl, rfl⟩
  | a :: l, s => zX l (Mq s a)
theorem ah6 {s : aF} {e : Int} (h : dW s = true) (h1 : 1 <= e) (h2 : e <= 1000) : dW { s with ed := e } = true := by
  unfold dW at h ⊢
  simp only [Bool.and_eq_true, decide_eq_true_eq] at h ⊢
  exact ⟨⟨⟨h.1.1.1, h.1.1.2.1, h.1.1.2.2.1, ⟨h1, h2⟩, h.1.1.2.2.2.2⟩, h.1.2⟩, h.2⟩
theorem NP : ∀ (l : List ah) (s : aF) (y : Int), fD (kY s l).q (kY s l).dn y = (fD s.q s.dn y || l.any fun a => decide (y = a.nu))
  | [], s, y => by simp [kY]
  | a :: l, s, y => by
    show fD (kY (Mq s a) l).q (kY (Mq s a) l).dn y = _
    rw [NP l (Mq s a) y]
    show (fD (s.q + 1) (LU s.q s.dn a.nu) y || _) = _
    rw [ahd, List.any_cons]
    cases decide (y = a.nu) <;> cases fD s.q s.dn y <;> rfl
def Dz (s : aF) (L : List ah) : List ah := L.filter fun a => kN a s.ch && !fD s.q s.dn a.nu
theorem Av (s : aF) (n : Nat) (N : Nat -> ah) (od : Nat -> Int) : ∀ k, dO s n N od k = kY s ((List.range k).map fun j => N (nV n N (od j)))
  | 0 => rfl
  | k + 1 => by
    rw [List.range_succ, List.map_append, IY, <- Av s n N od k]; rfl
theorem ac6 {s : aF} {n : Nat} {N : Nat -> ah} {k : Nat} {od : Nat -> Int} (hB : zI s n N k = true) (hf : ∀ j, j < k -> nV n N (od j) < n) : (qB s n N k od = 0 ↔ okR s ((List.range k).map fun j => N (nV n N (od j)))) /\ (qB s n N k od = 0 -> sj s n N k od = kY s ((List.range k).map fun j => N (nV n N (od j)))) := by
  have key : ∀ i, i <= k -> ((∀ j, j < i -> nI (dO s n N od j) n N (od j) = 0) ↔ okR s ((List.range i).map fun j => N (nV n N (od j)))) := fun i => by
    induction i with
    | zero => intro _; exact ⟨fun _ => trivial, fun _ j h => absurd h (Nat.not_lt_zero j)⟩
    | succ i ih =>
      intro hi
      rw [List.range_succ, List.map_append, Oc, <- ih (by omega), <- Av]
      have e : nI (dO s n N od i) n N (od i) = pQ (dO s n N od i) (N (nV n N (od i))) := by unfold nI; rw [if_pos (hf i (by omega))]
      constructor
      · intro h
        exact ⟨fun j hj => h j (by omega), e ▸ h i (by omega), trivial⟩
      · rintro ⟨h1, h2, _⟩ j hj
        rcases Nat.lt_or_ge j i with g | g
        · exact h1 j g
        · obtain rfl : j = i := by omega
          rw [e]; exact h2
  refine ⟨?_, fun h => (Lr h).2.1.trans (Av s n N od k)⟩
  rw [<- key k (Nat.le_refl k)]
  exact ⟨fun h => (Lr h).2.2.2, fun h => (X4 hB (Int.le_refl _) h).2.2⟩
theorem adB {s : aF} {n : Nat} {N : Nat -> ah} (h : pq n N = true) : ((List.range (gD s N n).length).map fun j => N (nV n N (zL (gD s N n) j))) = Dz s (LN n N) /\ ∀ j, j < (gD s N n).length -> nV n N (zL (gD s N n) j) < n := by
  have hl : gD s N n = (Dz s (LN n N)).map ah.nu := Zb s N n
  have at_ : ∀ j (hj : j < (Dz s (LN n N)).length), ∃ i, i < n /\ N i = (Dz s (LN n N))[j] /\ zL (gD s N n) j = (N i).nu := fun j hj => by
    have hm := List.getElem_mem hj
    obtain ⟨i, h1, h2⟩ := U8.1 (List.mem_filter.1 hm).1
    refine ⟨i, h1, h2, ?_⟩
    rw [hl, h2]
    unfold zL
    rw [List.getD, List.getElem?_map, List.getElem?_eq_getElem hj]; rfl
  have hlen : (gD s N n).length = (Dz s (LN n N)).length := by rw [hl, List.length_map]
  refine ⟨List.ext_getElem (by simp [hlen]) fun j h1 h2 => ?_, fun j hj => ?_⟩
  · obtain ⟨i, g1, g2, g3⟩ := at_ j h2
    rw [List.getElem_map, List.getElem_range, g3, YS (kP h).2 g1, g2]
  · obtain ⟨i, g1, g2, g3⟩ := at_ j (by omega)
    rw [g3, YS (kP h).2 g1]; exact g1
theorem ZY {s : aF} {n : Nat} {N : Nat -> ah} (hB : zw s n N = true) (he : s.ed < 1000) : (Ac s n N = 0 ↔ okR s (Dz s (LN n N))) /\ (Ac s n N = 0 -> mV s n N = { kY s (Dz s (LN n N)) with ed := s.ed + 1 }) := by
  have hs := qL hB
  have hl := adB (s := s) hs.2.1
  have hc := ac6 (s := s) (YU hB) hl.2
  rw [hl.1] at hc
  have e : Ac s n N = qB s n N (gD s N n).length (zL (gD s N n)) := by unfold Ac; rw [if_pos hB, if_neg (by omega)]
  rw [e]
  refine ⟨hc.1, fun h => ?_⟩
  unfold mV
  rw [if_pos hB, if_neg (by omega), agn h, hc.2 h, (zX _ s).2]
theorem NU {n k : Nat} (N : Nat -> ah) (h : k <= n) : LN n N = LN k N ++ (LN n N).drop k := by
  have e : LN k N = (LN n N).take k := by unfold LN; rw [<- List.map_take, List.take_range, Nat.min_eq_left h]
  rw [e, List.take_append_drop]
theorem acO {n : Nat} {N : Nat -> ah} (h : pq n N = true) : (LN n N).Pairwise fun a b => a.nu < b.nu := by
  rw [List.pairwise_iff_getElem]
  intro i j hi hj hij
  rw [aah, aah]
  exact mo (kP h).2 j hij (by simpa [U3] using hj)
theorem abU {s : aF} {n k : Nat} {N : Nat -> ah} (h : pq n N = true) (hk : k <= n) (e : Int) : Dz { kY s (Dz s (LN k N)) with ed := e } (LN n N) = Dz s ((LN n N).drop k) := by
  have hp := acO h
  rw [NU N hk] at hp
  have hx := (List.pairwise_append.1 hp).2.2
  have hch := (zX (Dz s (LN k N)) s).1
  have eh : ∀ y, fD (kY s (Dz s (LN k N))).q (kY s (Dz s (LN k N))).dn y = (fD s.q s.dn y || (Dz s (LN k N)).any fun a => decide (y = a.nu)) := NP _ s
  show (LN n N).filter (fun a => kN a (kY s (Dz s (LN k N))).ch && !fD (kY s (Dz s (LN k N))).q (kY s (Dz s (LN k N))).dn a.nu) = ((LN n N).drop k).filter _
  conv => lhs; rw [NU N hk]
  rw [List.filter_append]
  have e1 : (LN k N).filter (fun a => kN a (kY s (Dz s (LN k N))).ch && !fD (kY s (Dz s (LN k N))).q (kY s (Dz s (LN k N))).dn a.nu) = [] := by
    rw [List.filter_eq_nil_iff]
    intro a ha hq
    rw [hch, eh] at hq
    simp only [Bool.and_eq_true, Bool.not_eq_true', Bool.or_eq_false_iff] at hq
    have hm : a ∈ Dz s (LN k N) := List.mem_filter.2 ⟨ha, by rw [hq.1, hq.2.1]; rfl⟩
    have := List.any_eq_false.1 hq.2.2 a hm
    simp at this
  rw [e1, List.nil_append]
  refine List.filter_congr fun a ha => ?_
  rw [hch, eh]
  have e2 : ((Dz s (LN k N)).any fun b => decide (a.nu = b.nu)) = false := by
    rw [List.any_eq_false]
    intro b hb
    have := hx b (List.mem_filter.1 hb).1 a ha
    simp; omega
  rw [e2, Bool.or_false]
theorem aot {s : aF} {n : Nat} {N : Nat -> ah} (h : Ac s n N = 0) : zw s n N = true /\ s.ed < 1000 /\ dW (mV s n N) = true := by
  have hB : zw s n N = true := by
    unfold Ac at h
    split at h
    · assumption
    · cases h
  have he : s.ed < 1000 := by
    unfold Ac at h
    rw [if_pos hB] at h
    split at h
    · cases h
    · omega
  have hs := qL hB
  have g := ZY hB he
  refine ⟨hB, he, ?_⟩
  rw [g.2 h]
  have h1 := Vr hs.1
  exact ah6 (agd _ hs.1 (g.1.1 h)) (by omega) (by omega)
theorem acy {s : aF} {n : Nat} {N : Nat -> ah} (h : Ac s n N = 0) : (mV s n N).ch = s.ch /\ (mV s n N).ed = s.ed + 1 /\ dW (mV s n N) = true /\ ∀ i, i < n -> rU (mV s n N) (N i) = false := by
  have hv := aot h
  have hr := (ZY hv.1 hv.2.1).2 h
  have h3 := qL hv.1
  refine ⟨?_, ?_, hv.2.2, fun i hi => ?_⟩
  · rw [hr]; exact (zX _ s).1
  · rw [hr]
  · have e : Dz (mV s n N) (LN n N) = [] := by
      rw [hr, abU h3.2.1 (Nat.le_refl n)]
      have : (LN n N).drop n = [] := List.drop_eq_nil_iff.2 (by rw [U3]; exact Nat.le_refl n)
      rw [this]; rfl
    have := List.filter_eq_nil_iff.1 e (N i) (U8.2 ⟨i, hi, rfl⟩)
    unfold rU
    cases q : (kN (N i) (mV s n N).ch && !fD (mV s n N).q (mV s n N).dn (N i).nu)
    · rfl
    · exact absurd q this
end Go.Proofs.YtcfechepbamhkaaGreat
set_option maxRecDepth 100000
set_option maxHeartbeats 4000000
namespace Go.Proofs.YtcfechepbamhkaaGreat
open Go.RowKit Go.Sea
open Nat renaming reduceAdd -> xA, reduceLT -> xL, reduceLeDiff -> xD, reduceEqDiff -> xE, reduceMul -> xM, reduceSub -> xS, reduceBEq -> xB
theorem F9 : aM Tryz.prog 38 = true := by kernel_rfl
attribute [go_sem] F9
theorem OC {f : aj} (hv : gy f = true) : ∀ (j : Nat) {i : Nat}, i < j -> j < f.k -> (f.S i).ch < (f.S j).ch
  | 0, _, h, _ => absurd h (Nat.not_lt_zero _)
  | j + 1, i, h, hj => by
    have h2 : (f.S j).ch < (f.S (j + 1)).ch := ((iJ hv).2.1 (j + 1) hj).2 (Nat.succ_pos _)
    by_cases e : i = j
    · rw [e]; exact h2
    · have := OC hv j (i := i) (by omega) (by omega); omega
theorem aiG {f : aj} (hv : gy f = true) {k : Nat} (hk : k < f.k) {c : Int} (hc : (f.S k).ch = c) : iO f c = 0 /\ iN f c = k := by
  have hJ : iN f c = k := jY (b := fun i => decide ((f.S i).ch = c)) (decide_eq_true hc) (fun j hj => decide_eq_false (by have := OC hv k hj hk; omega)) _ hk
  have hch := adz ((iJ hv).2.1 k hk).1
  exact ⟨(anI ⟨⟨hv, by omega⟩, by omega⟩ (by unfold Pq; rw [hJ, if_pos hk]; omega)).2, hJ⟩
theorem anC {f : aj} {j : Nat} (hj : j < f.k) (s : aF) {m : Nat} (hm : m < f.k) : (rpF f j s).S m = if m = j then s else f.S m := by
  show ((iT f 0).set j s).getD m bg = _
  rw [List.getD, List.getElem?_set]
  by_cases e : m = j
  · rw [if_pos e.symm, if_pos (by rw [fZ]; exact hj), if_pos e]; rfl
  · have := BD (f := f) (i := 0) hm
    rw [if_neg (Nat.not_lt_zero _), List.getD] at this
    rw [if_neg (Ne.symm e), if_neg e, this]
theorem agG {s : aF} {N : Nat -> ah} : ∀ {n : Nat}, (∀ i, i < n -> rU s (N i) = false) -> RA s N n = []
  | 0, _ => rfl
  | n + 1, h => by rw [agm (h n (Nat.lt_succ_self n))]; exact agG fun i hi => h i (by omega)
structure RpD (G : aj) (k : Nat) (X : aF) : Prop where
  e : ER G X = 0
  q : (nW G X).k = G.k
  a : iO (nW G X) X.ch = 0
  s : seqB (jK (nW G X) X.ch) X = true
  w : wL (nW G X) X.ch = []
  o : ∀ m, m < G.k -> m ≠ k -> seqB ((nW G X).S m) (G.S m) = true
  d : ER (nW G X) (G.S k) = 13
theorem aeo {G : aj} (hv : gy G = true) (hfix : ∀ i, rJ (G.S i) G.n G.N = G.S i) {k : Nat} (hk : k < G.k) (hm : Ac (G.S k) G.n G.N = 0) : RpD G k (mV (G.S k) G.n G.N) := by
  have hx := acy hm
  generalize mV (G.S k) G.n G.N = X at hx
  have h1 := aiG hv hk hx.1.symm
  have hr := af0 hx.2.2.1 h1.1 (by rw [h1.2]; omega)
  rw [h1.2] at hr
  have hS : ∀ m, m < G.k -> (nW G X).S m = if m = k then X else G.S m := fun m hm => by
    rw [hr.2]
    show rJ ((rpF G k X).S m) G.n G.N = _
    rw [anC hk X hm]
    split
    · exact Ov (Mg fun j hj => by rw [hx.2.2.2 j hj]; rfl)
    · exact hfix m
  have hK : (nW G X).k = G.k := by rw [hr.2]; rfl
  have hn : (nW G X).n = G.n /\ (nW G X).N = G.N := by rw [hr.2]; exact ⟨rfl, rfl⟩
  have hc : ∀ m, m < G.k -> ((nW G X).S m).ch = (G.S m).ch /\ dW ((nW G X).S m) = true := fun m hm => by
    rw [hS m hm]
    split
    · rename_i e; rw [e]; exact ⟨hx.1, hx.2.2.1⟩
    · exact ⟨rfl, ((iJ hv).2.1 m hm).1⟩
  have hV : gy (nW G X) = true := by
    unfold gy
    rw [Bool.and_eq_true, hn.1, hn.2, hK]
    refine ⟨decide_eq_true ⟨(iJ hv).1, fun i hi => ⟨(hc i hi).2, fun h0 => ?_⟩⟩, (iJ hv).2.2⟩
    rw [(hc i hi).1, (hc (i - 1) (by omega)).1]
    exact ((iJ hv).2.1 i hi).2 h0
  have hXk : (nW G X).S k = X := by rw [hS k hk, if_pos rfl]
  have h2 := aiG hV (by rw [hK]; exact hk) (by rw [hXk])
  refine ⟨hr.1, hK, h2.1, ?_, ?_, fun m hm hne => ?_, ?_⟩
  · rw [OM h2.1, h2.2, hXk]; exact Zv X
  · rw [alv h2.1, h2.2, hXk, hn.1, hn.2]; exact agG hx.2.2.2
  · rw [hS m hm, if_neg hne]; exact Zv _
  · have h3 := aiG hV (k := k) (by rw [hK]; exact hk) (c := (G.S k).ch) (by rw [hXk]; exact hx.1)
    exact (agI ((iJ hv).2.1 k hk).1 h3.1 (by rw [h3.2, hXk]; omega)).1
theorem ant {f : aj} {M : ah} (h : qj f M = 0) {k : Nat} (hk : k < (dJ f M).k) (hm : Ac ((dJ f M).S k) (dJ f M).n (dJ f M).N = 0) : RpD (dJ f M) k (mV ((dJ f M).S k) (dJ f M).n (dJ f M).N) :=
  aeo (alL h).1 (fun i => by rw [(alL h).2]; exact ac1 (rcG f M) i) hk hm
theorem aos (f : aj) (hf : f.Ok) (M : ah) (ho : M.Ok) (a : Int) (ha : 0 <= a /\ a <= 255) (h1 : oJ f = false) : aA Tryz.prog 9 [j6 f, .agg [.g (.int .i64 M.oc), .g (.int .i64 M.nu), .g (.int .i64 M.kd), .g (.int .i64 M.fr), .g (.int .i64 M.un), .g (.int .i64 M.ca), .lst 3 M.n (dZ M.p)], .one (.g (.int .u8 a))] (.t (.one (.g (.bool (true))))) := by
  refine ak Tryz.func9 rfl (by rw [Tryz.ntmps9]; simp) ?_
  simp only [Tryz.ntmps9, zM, PT.tv, au, Nat.zero_add, Nat.reduceAdd]
  repeat' (first
 | ((with_reducible show aZ _ _ (some 22) _ _ _ _ _ _ _); (refine aG (k := 10) pz (yB) ?_ ?_))
 | ((with_reducible show aZ _ _ (some 24) _ _ _ _ _ _ _); (refine aG (k := 11) jC (sJ f hf) ?_ ?_))
 | ((with_reducible show bM _ _ false _ _ _ _ _ _ _); (with_reducible refine nP (fun h => by cases h) (fun _ => ?_)))
 | ((with_reducible show xC _ _ false _ _ _ _); (with_reducible refine mJ (fun h => by cases h) (fun _ => ?_)))
 | ((with_reducible show AW _ _ _ _); first
 | (with_reducible first | refine aS (fun K hK => ?_) | refine aT ?_ | refine aC ?_)
 | ((with_reducible first | refine aP 0 [0,1,2] ?_ | refine aP 1 [2,3,4] ?_ | refine aP 2 [2,3,4,7] ?_ | refine aP 3 [7] ?_)))
 | (((with_reducible refine Need.mk ?_)); focus (exact True.intro))
 | (with_reducible refine aK ?_)
 | ((with_reducible show bL _ _ _ _ _ _); first
 | ((with_reducible refine aN ?_ ?_) <;> (intro hc; (try simp only [zB, zC, reduceCtorEq] at hc); (try (exfalso; contradiction)))))
 | ((fail_if_success (with_reducible show AW _ _ _ _)); simp (maxSteps := 2000000) only [go_sem, reduceIte, reduceCtorEq, xA, xL, xD, xE, xM, xS, xB, Tryz.f9, dh, cB, cK, cO, cu, cZ, bZ, bY, bX, dw, bJ, bH, bI, bC, Bool.and_self, h1])
 | ((with_reducible refine hK _ ?_); clear hK K))
theorem aof (f : aj) (hf : f.Ok) (M : ah) (ho : M.Ok) (a : Int) (ha : 0 <= a /\ a <= 255) (h1 : oJ f = true) (h2 : oJ (aj.mk 0 (fun _ => bg) 1 (fun _ => M)) = false) : aA Tryz.prog 9 [j6 f, .agg [.g (.int .i64 M.oc), .g (.int .i64 M.nu), .g (.int .i64 M.kd), .g (.int .i64 M.fr), .g (.int .i64 M.un), .g (.int .i64 M.ca), .lst 3 M.n (dZ M.p)], .one (.g (.int .u8 a))] (.t (.one (.g (.bool (true))))) := by
  refine ak Tryz.func9 rfl (by rw [Tryz.ntmps9]; simp) ?_
  simp only [Tryz.ntmps9, zM, PT.tv, au, Nat.zero_add, Nat.reduceAdd]
  repeat' (first
 | ((with_reducible show aZ _ _ (some 22) _ _ _ _ _ _ _); (refine aG (k := 10) pz (yB) ?_ ?_))
 | ((with_reducible show aZ _ _ (some 24) _ _ _ _ _ _ _); (refine aG (k := 11) jC (sJ f hf) ?_ ?_))
 | ((with_reducible show bM _ _ _ (some 30) _ _ _ _ _ _); (refine aV (k := 11) jC (fun hg => BJ M ho _ (fun i u hi hu => by obtain rfl : i = 0 := (by omega); rcases (by omega : u = 0 \/ u = 1 \/ u = 2 \/ u = 3 \/ u = 4 \/ u = 5 \/ u = 6) with rfl | rfl | rfl | rfl | rfl | rfl | rfl <;> exact IV.bn _)) ?_ ?_))
 | ((with_reducible show AW _ _ _ _); first
 | (with_reducible first | refine aS (fun K hK => ?_) | refine aT ?_ | refine aC ?_)
 | ((with_reducible first | refine aP 0 [0,1,2] ?_ | refine aP 1 [2,3,4] ?_ | refine aP 2 [2,3,4,7] ?_ | refine aP 3 [7] ?_)))
 | (((with_reducible refine Need.mk ?_)); focus (first | exact True.intro | (intro _; exact True.intro)))
 | (with_reducible refine aK ?_)
 | ((with_reducible show bL _ _ _ _ _ _); first
 | ((with_reducible refine aN ?_ ?_) <;> (intro hc; (try simp only [zB, zC, reduceCtorEq] at hc); (try (exfalso; contradiction)))))
 | ((fail_if_success (with_reducible show AW _ _ _ _)); simp (maxSteps := 2000000) only [go_sem, reduceIte, reduceCtorEq, xA, xL, xD, xE, xM, xS, xB, Tryz.f9, dh, cB, cK, cO, cu, cZ, bZ, bY, bX, dw, bJ, bH, bI, bC, Bool.and_self, h1, h2])
 | ((with_reducible refine hK _ ?_); clear hK K))
theorem aog (f : aj) (hf : f.Ok) (M : ah) (ho : M.Ok) (a : Int) (ha : 0 <= a /\ a <= 255) (h1 : oJ f = true) (h2 : oJ (aj.mk 0 (fun _ => bg) 1 (fun _ => M)) = true) (h0 : qj f M ≠ 0) : aA Tryz.prog 9 [j6 f, .agg [.g (.int .i64 M.oc), .g (.int .i64 M.nu), .g (.int .i64 M.kd), .g (.int .i64 M.fr), .g (.int .i64 M.un), .g (.int .i64 M.ca), .lst 3 M.n (dZ M.p)], .one (.g (.int .u8 a))] (.t (.one (.g (.bool (true))))) := by
  have hn0 : (qj f M != 0) = true := bne_iff_ne.2 h0
  refine ak Tryz.func9 rfl (by rw [Tryz.ntmps9]; simp) ?_
  simp only [Tryz.ntmps9, zM, PT.tv, au, Nat.zero_add, Nat.reduceAdd]
  repeat' (first
 | ((with_reducible show aZ _ _ (some 22) _ _ _ _ _ _ _); (refine aG (k := 10) pz (yB) ?_ ?_))
 | ((with_reducible show aZ _ _ (some 24) _ _ _ _ _ _ _); (refine aG (k := 11) jC (sJ f hf) ?_ ?_))
 | ((with_reducible show bM _ _ _ (some 30) _ _ _ _ _ _); (refine aV (k := 11) jC (fun hg => BJ M ho _ (fun i u hi hu => by obtain rfl : i = 0 := (by omega); rcases (by omega : u = 0 \/ u = 1 \/ u = 2 \/ u = 3 \/ u = 4 \/ u = 5 \/ u = 6) with rfl | rfl | rfl | rfl | rfl | rfl | rfl <;> exact IV.bn _)) ?_ ?_))
 | ((with_reducible show aZ _ _ (some 37) _ _ _ _ _ _ _); (refine aG (k := 12) jT (rY f hf M ho) ?_ ?_))
 | ((with_reducible show AW _ _ _ _); first
 | (with_reducible first | refine aS (fun K hK => ?_) | refine aI ?_ | refine aT ?_ | refine aC ?_)
 | ((with_reducible first | refine aP 0 [0,1,2] ?_ | refine aP 1 [2,3,4] ?_ | refine aP 2 [2,3,4,7] ?_ | refine aP 4 [2,3,4,7] ?_ | refine aP 5 [2,7,8,9] ?_ | refine aP 6 [7] ?_)))
 | (((with_reducible refine Need.mk ?_)); focus (first | exact True.intro | (intro _; exact True.intro)))
 | (with_reducible refine aK ?_)
 | ((with_reducible show bL _ _ _ _ _ _); first
 | ((with_reducible refine aN ?_ ?_) <;> (intro hc; (try simp only [zB, zC, reduceCtorEq] at hc); (try (exfalso; contradiction)))))
 | ((fail_if_success (with_reducible show AW _ _ _ _)); simp (maxSteps := 2000000) only [go_sem, reduceIte, reduceCtorEq, xA, xL, xD, xE, xM, xS, xB, Tryz.f9, dh, cB, cK, cO, cu, cZ, bZ, bY, bX, dw, bJ, bH, bI, bC, Bool.and_self, h1, h2, hn0])
 | ((with_reducible refine hK _ ?_); clear hK K))
theorem an3 (f : aj) (hf : f.Ok) (M : ah) (ho : M.Ok) (a : Int) (ha : 0 <= a /\ a <= 255) (h1 : oJ f = true) (h2 : oJ (aj.mk 0 (fun _ => bg) 1 (fun _ => M)) = true) (h0 : qj f M = 0) (h3 : (dJ f M).k = 0) : aA Tryz.prog 9 [j6 f, .agg [.g (.int .i64 M.oc), .g (.int .i64 M.nu), .g (.int .i64 M.kd), .g (.int .i64 M.fr), .g (.int .i64 M.un), .g (.int .i64 M.ca), .lst 3 M.n (dZ M.p)], .one (.g (.int .u8 a))] (.t (.one (.g (.bool (true))))) := by
  have hk9 : ((((dJ f M).k : Int)) == 0) = true := beq_iff_eq.2 (by omega)
  refine ak Tryz.func9 rfl (by rw [Tryz.ntmps9]; simp) ?_
  simp only [Tryz.ntmps9, zM, PT.tv, au, Nat.zero_add, Nat.reduceAdd]
  repeat' (first
 | ((with_reducible show aZ _ _ (some 22) _ _ _ _ _ _ _); (refine aG (k := 10) pz (yB) ?_ ?_))
 | ((with_reducible show aZ _ _ (some 24) _ _ _ _ _ _ _); (refine aG (k := 11) jC (sJ f hf) ?_ ?_))
 | ((with_reducible show bM _ _ _ (some 30) _ _ _ _ _ _); (refine aV (k := 11) jC (fun hg => BJ M ho _ (fun i u hi hu => by obtain rfl : i = 0 := (by omega); rcases (by omega : u = 0 \/ u = 1 \/ u = 2 \/ u = 3 \/ u = 4 \/ u = 5 \/ u = 6) with rfl | rfl | rfl | rfl | rfl | rfl | rfl <;> exact IV.bn _)) ?_ ?_))
 | ((with_reducible show aZ _ _ (some 37) _ _ _ _ _ _ _); (refine aG (k := 12) jT (rY f hf M ho) ?_ ?_))
 | ((with_reducible show AW _ _ _ _); first
 | (with_reducible first | refine aS (fun K hK => ?_) | refine aI ?_ | refine aT ?_ | refine aC ?_)
 | ((with_reducible first | refine aP 0 [0,1,2] ?_ | refine aP 1 [2,3,4] ?_ | refine aP 2 [2,3,4,7] ?_ | refine aP 4 [2,3,4,7] ?_ | refine aP 5 [2,7,8,9] ?_ | refine aP 6 [7] ?_)))
 | ((first | (with_reducible refine And.intro ?_ ?_) | (with_reducible refine Need.mk ?_)); focus (first | exact True.intro | (intro _; exact True.intro) | (simp; done)))
 | (with_reducible refine aK ?_)
 | ((with_reducible show bL _ _ _ _ _ _); first
 | ((with_reducible refine aN ?_ ?_) <;> (intro hc; (try simp only [zB, zC, reduceCtorEq] at hc); (try (exfalso; contradiction)))))
 | ((fail_if_success (with_reducible show AW _ _ _ _)); simp (maxSteps := 2000000) only [go_sem, reduceIte, reduceCtorEq, xA, xL, xD, xE, xM, xS, xB, Tryz.f9, dh, cB, cK, cO, cu, cZ, bZ, bY, bX, dw, bJ, bH, bI, bC, Bool.and_self, h1, h2, h0, hk9])
 | ((with_reducible refine hK _ ?_); clear hK K))
theorem aox (f : aj) (hf : f.Ok) (M : ah) (ho : M.Ok) (a : Int) (ha : 0 <= a /\ a <= 255) (h1 : oJ f = true) (h2 : oJ (aj.mk 0 (fun _ => bg) 1 (fun _ => M)) = true) (h0 : qj f M = 0) (h3 : 0 < (dJ f M).k) (h5 : (Ac ((dJ f M).S (a.toNat % (dJ f M).k)) (dJ f M).n (dJ f M).N) ≠ 0) : aA Tryz.prog 9 [j6 f, .agg [.g (.int .i64 M.oc), .g (.int .i64 M.nu), .g (.int .i64 M.kd), .g (.int .i64 M.fr), .g (.int .i64 M.un), .g (.int .i64 M.ca), .lst 3 M.n (dZ M.p)], .one (.g (.int .u8 a))] (.t (.one (.g (.bool (true))))) := by
  have hGo := wQ hf ho
  have hgn := hGo.n
  have hk := hGo.k
  have hk0 : ((((dJ f M).k : Int)) == 0) = false := beq_eq_false_iff_ne.2 (by omega)
  have hkl : (a.toNat % (dJ f M).k) < (dJ f M).k := Nat.mod_lt _ (by omega)
  have hsk := hGo.s _ hkl
  have hmod : a % ((dJ f M).k : Int) = (((a.toNat % (dJ f M).k) : Nat) : Int) := by rw [Int.natCast_emod, Int.toNat_of_nonneg ha.1]
  have hXo := ZP ((dJ f M).S (a.toNat % (dJ f M).k)) (dJ f M).n (dJ f M).N
  have hn5 : ((Ac ((dJ f M).S (a.toNat % (dJ f M).k)) (dJ f M).n (dJ f M).N) != 0) = true := bne_iff_ne.2 h5
  refine ak Tryz.func9 rfl (by rw [Tryz.ntmps9]; simp) ?_
  simp only [Tryz.ntmps9, zM, PT.tv, au, Nat.zero_add, Nat.reduceAdd]
  repeat' (first
 | ((with_reducible show aZ _ _ (some 22) _ _ _ _ _ _ _); (refine aG (k := 10) pz (yB) ?_ ?_))
 | ((with_reducible show aZ _ _ (some 24) _ _ _ _ _ _ _); (refine aG (k := 11) jC (sJ f hf) ?_ ?_))
 | ((with_reducible show bM _ _ _ (some 30) _ _ _ _ _ _); (refine aV (k := 11) jC (fun hg => BJ M ho _ (fun i u hi hu => by obtain rfl : i = 0 := (by omega); rcases (by omega : u = 0 \/ u = 1 \/ u = 2 \/ u = 3 \/ u = 4 \/ u = 5 \/ u = 6) with rfl | rfl | rfl | rfl | rfl | rfl | rfl <;> exact IV.bn _)) ?_ ?_))
 | ((with_reducible show aZ _ _ (some 37) _ _ _ _ _ _ _); (refine aG (k := 12) jT (rY f hf M ho) ?_ ?_))
 | ((with_reducible show eP _ _ _ _ (some 63) _ _ _ _ _ _ _ _); (refine bR (k := 38) F9 (akF ((dJ f M).S (a.toNat % (dJ f M).k)) (dJ f M).n (dJ f M).N hsk hgn hGo.nn) ?_ ?_))
 | ((with_reducible show AW _ _ _ _); first
 | (with_reducible first | refine aS (fun K hK => ?_) | refine aI ?_ | refine aT ?_ | refine aC ?_)
 | (first
 | (with_reducible first | refine aP 0 [0,1,2] ?_ | refine aP 1 [2,3,4] ?_ | refine aP 2 [2,3,4,7] ?_ | refine aP 4 [2,3,4,7] ?_ | refine aP 5 [2,7,8,9] ?_ | refine aP 7 [2,7,8] ?_)
 | ((with_reducible refine aR (c := Code.region 8 _ true) [7,8,10] ?_); (with_reducible refine aD ?_ ?_ ?_ ?_); (focus kernel_rfl); (focus kernel_rfl); (focus kernel_rfl))
 | (with_reducible first | refine aP 9 [7,8,10,11,12] ?_ | refine aP 10 [7] ?_)))
 | ((first | (with_reducible refine And.intro ?_ ?_) | (with_reducible refine Need.mk ?_)); focus (first | exact True.intro | omega | (intro _; exact True.intro) | (simp; done)))
 | (with_reducible refine aK ?_)
 | ((with_reducible show bL _ _ _ _ _ _); first
 | ((with_reducible refine aN ?_ ?_) <;> (intro hc; (try simp only [zB, zC, reduceCtorEq] at hc); (try (exfalso; contradiction)))))
 | ((with_reducible refine And.intro ?_ ?_); focus ((with_reducible show iL _ _ _ = true); kernel_rfl))
 | ((fail_if_success (with_reducible show AW _ _ _ _)); simp (maxSteps := 2000000) only [go_sem, reduceIte, reduceCtorEq, xA, xL, xD, xE, xM, xS, xB, Tryz.f9, dh, cB, cK, cO, cu, cZ, bZ, bY, bX, dw, bJ, bH, bI, bC, Bool.and_self, h1, h2, h0, hk0, hmod, hn5])
 | ((fail_if_success (with_reducible show AW _ _ _ _)); simp (disch := omega) only [aY, iP, iX])
 | ((with_reducible refine hK _ ?_); clear hK K))
theorem an5 (f : aj) (hf : f.Ok) (M : ah) (ho : M.Ok) (a : Int) (ha : 0 <= a /\ a <= 255) (h1 : oJ f = true) (h2 : oJ (aj.mk 0 (fun _ => bg) 1 (fun _ => M)) = true) (h0 : qj f M = 0) (h3 : 0 < (dJ f M).k) (h5 : (Ac ((dJ f M).S (a.toNat % (dJ f M).k)) (dJ f M).n (dJ f M).N) = 0) : aA Tryz.prog 9 [j6 f, .agg [.g (.int .i64 M.oc), .g (.int .i64 M.nu), .g (.int .i64 M.kd), .g (.int .i64 M.fr), .g (.int .i64 M.un), .g (.int .i64 M.ca), .lst 3 M.n (dZ M.p)], .one (.g (.int .u8 a))] (.t (.one (.g (.bool (true))))) := by
  have hGo := wQ hf ho
  have hgn := hGo.n
  have hk := hGo.k
  have hk0 : ((((dJ f M).k : Int)) == 0) = false := beq_eq_false_iff_ne.2 (by omega)
  have hkl : (a.toNat % (dJ f M).k) < (dJ f M).k := Nat.mod_lt _ (by omega)
  have hsk := hGo.s _ hkl
  have hmod : a % ((dJ f M).k : Int) = (((a.toNat % (dJ f M).k) : Nat) : Int) := by rw [Int.natCast_emod, Int.toNat_of_nonneg ha.1]
  have hXo := ZP ((dJ f M).S (a.toNat % (dJ f M).k)) (dJ f M).n (dJ f M).N
  have hD := ant h0 hkl h5
  have hAo : (nW (dJ f M) (mV ((dJ f M).S (a.toNat % (dJ f M).k)) (dJ f M).n (dJ f M).N)).Ok := ajU _ hGo _ hXo
  have hAk := hD.q
  have hDe := hD.e
  have hDa := hD.a
  have hDs := hD.s
  have hDd := hD.d
  have hwl : (((wL (nW (dJ f M) (mV ((dJ f M).S (a.toNat % (dJ f M).k)) (dJ f M).n (dJ f M).N)) (mV ((dJ f M).S (a.toNat % (dJ f M).k)) (dJ f M).n (dJ f M).N).ch).length : Int) == 0) = true := by rw [hD.w]; rfl
  have hkk : (((nW (dJ f M) (mV ((dJ f M).S (a.toNat % (dJ f M).k)) (dJ f M).n (dJ f M).N)).k : Int) != ((dJ f M).k : Int)) = false := by rw [hAk]; simp
  have hsm : True := trivial
  refine ak Tryz.func9 rfl (by rw [Tryz.ntmps9]; simp) ?_
  simp only [Tryz.ntmps9, zM, PT.tv, au, Nat.zero_add, Nat.reduceAdd]
  repeat' (first
 | ((with_reducible show aZ _ _ (some 22) _ _ _ _ _ _ _); (refine aG (k := 10) pz (yB) ?_ ?_))
 | ((with_reducible show aZ _ _ (some 24) _ _ _ _ _ _ _); (refine aG (k := 11) jC (sJ f hf) ?_ ?_))
 | ((with_reducible show bM _ _ _ (some 30) _ _ _ _ _ _); (refine aV (k := 11) jC (fun hg => BJ M ho _ (fun i u hi hu => by obtain rfl : i = 0 := (by omega); rcases (by omega : u = 0 \/ u = 1 \/ u = 2 \/ u = 3 \/ u = 4 \/ u = 5 \/ u = 6) with rfl | rfl | rfl | rfl | rfl | rfl | rfl <;> exact IV.bn _)) ?_ ?_))
 | ((with_reducible show aZ _ _ (some 37) _ _ _ _ _ _ _); (refine aG (k := 12) jT (rY f hf M ho) ?_ ?_))
 | ((with_reducible show eP _ _ _ _ (some 63) _ _ _ _ _ _ _ _); (refine bR (k := 38) F9 (akF ((dJ f M).S (a.toNat % (dJ f M).k)) (dJ f M).n (dJ f M).N hsk hgn hGo.nn) ?_ ?_))
 | ((with_reducible show aZ _ _ (some 72) _ _ _ _ _ _ _); (refine aG (k := 35) FL (agv (dJ f M) hGo (mV ((dJ f M).S (a.toNat % (dJ f M).k)) (dJ f M).n (dJ f M).N) hXo) ?_ ?_))
 | ((with_reducible show aZ _ _ (some 79) _ _ _ _ _ _ _); (refine aG (k := 21) zY (Uc (nW (dJ f M) (mV ((dJ f M).S (a.toNat % (dJ f M).k)) (dJ f M).n (dJ f M).N)) hAo (mV ((dJ f M).S (a.toNat % (dJ f M).k)) (dJ f M).n (dJ f M).N).ch) ?_ ?_))
 | ((with_reducible show aZ _ _ (some 86) _ _ _ _ _ _ _); (refine aG (k := 13) Ae (Zp (nW (dJ f M) (mV ((dJ f M).S (a.toNat % (dJ f M).k)) (dJ f M).n (dJ f M).N)) hAo (mV ((dJ f M).S (a.toNat % (dJ f M).k)) (dJ f M).n (dJ f M).N).ch) ?_ ?_))
 | ((with_reducible show bM _ _ _ (some 117) _ _ _ _ _ _); (refine aV (k := 24) FT (fun hg => Pk (jK (nW (dJ f M) (mV ((dJ f M).S (a.toNat % (dJ f M).k)) (dJ f M).n (dJ f M).N)) (mV ((dJ f M).S (a.toNat % (dJ f M).k)) (dJ f M).n (dJ f M).N).ch) (mV ((dJ f M).S (a.toNat % (dJ f M).k)) (dJ f M).n (dJ f M).N) (ajC (nW (dJ f M) (mV ((dJ f M).S (a.toNat % (dJ f M).k)) (dJ f M).n (dJ f M).N)) hAo _) hXo) ?_ ?_))
 | ((with_reducible show nA _ _ _ _ _ (some 142) _ _ _ _ _ _ _); (refine jG (k := 24) FT (fun hg => Pk ((nW (dJ f M) (mV ((dJ f M).S (a.toNat % (dJ f M).k)) (dJ f M).n (dJ f M).N)).S m) ((dJ f M).S m) (hAo.s m (by omega)) (hGo.s m (by omega))) ?_ ?_))
 | ((with_reducible show eP _ _ _ _ (some 152) _ _ _ _ _ _ _ _); (refine bR (k := 35) FL (agv (nW (dJ f M) (mV ((dJ f M).S (a.toNat % (dJ f M).k)) (dJ f M).n (dJ f M).N)) hAo ((dJ f M).S (a.toNat % (dJ f M).k)) hsk) ?_ ?_))
 | ((with_reducible show AW _ _ _ _); first
 | (with_reducible first | refine aS (fun K hK => ?_) | refine aI ?_ | refine aX ?_ | refine aT ?_ | refine aC ?_ | refine aB ?_)
 | (first
 | (with_reducible first | refine aP 0 [0,1,2] ?_ | refine aP 1 [2,3,4] ?_ | refine aP 2 [2,3,4,7] ?_ | refine aP 4 [2,3,4,7] ?_ | refine aP 5 [2,7,8,9] ?_ | refine aP 7 [2,7,8] ?_)
 | ((with_reducible refine aR (c := Code.region 8 _ true) [7,8,10] ?_); (with_reducible refine aD ?_ ?_ ?_ ?_); (focus kernel_rfl); (focus kernel_rfl); (focus kernel_rfl))
 | (with_reducible first | refine aP 9 [7,8,10,11,12] ?_ | refine aP 11 [7,8,10,11] ?_ | refine aP 12 [7,8,10,11,13,14] ?_ | refine aP 13 [7,8,10,11,13,14,15,16] ?_ | refine aP 14 [7,8,10,11,13,14,15,16,17,18] ?_ | refine aP 16 [7,8,10,11,13,15,16,17,18] ?_ | refine aP 17 [7,8,10,13] ?_ | refine aP 18 [7,8,10,13,19] ?_ | refine aP 19 [7,8,10,13,19] ?_)
 | ((with_reducible refine aR (c := Code.region 20 _ true) [7,8,10,13,19] ?_); (with_reducible refine aD ?_ ?_ ?_ ?_); (focus kernel_rfl); (focus kernel_rfl); (focus kernel_rfl))
 | ((with_reducible refine aR (c := Code.region 21 _ true) [7,8,10,13] ?_); (with_reducible refine aD ?_ ?_ ?_ ?_); (focus kernel_rfl); (focus kernel_rfl); (focus kernel_rfl))
 | (with_reducible refine aP 22 [7,21] ?_))
 | ((with_reducible show AW _ (Code.loop _) _ _); first
 | ((with_reducible refine aL (c := (Code.seq (Code.seq (Code.region 18 _ _) _) _)) (ι := Nat) [8,10,13] (fun m => [(7, .t (.one (.iv (.g (.bool true))))), (19, iA .i64 (m : Int))]) (fun m => []) (fun m => m <= (nW (dJ f M) (mV ((dJ f M).S (a.toNat % (dJ f M).k)) (dJ f M).n (dJ f M).N)).k) (fun m => (nW (dJ f M) (mV ((dJ f M).S (a.toNat % (dJ f M).k)) (dJ f M).n (dJ f M).N)).k - m) 0 ?_ ?_ ?_ ?_ ?_); (case' refine_5 => rintro m hm KR hR18; simp only [bG, dL, hset, lk, if_true, if_false, xE, reduceIte, zN, dh, cB, cK, cO, cu, cZ, bZ, bY, bX, dw, bJ, bH, bI, Bool.and_self, h1, h2, h0, hk0, hmod, h5, hDe, hDa, hDs, hDd, hwl, hkk, hsm]); (case' refine_4 => try (omega)); (case' refine_1 => rintro m _))))
 | ((first | (with_reducible refine And.intro ?_ ?_) | (with_reducible refine Need.mk ?_)); focus (first | exact True.intro | omega | (intro _; first | exact True.intro | (with_reducible assumption)) | (intros; (repeat' (first | omega | (with_reducible refine And.intro ?_ ?_))); done) | (simp; done)))
 | (with_reducible refine aK ?_)
 | ((with_reducible show bL _ _ _ _ _ _); first
 | ((with_reducible refine aN ?_ ?_) <;> (intro hc; (try simp only [zB, zC, reduceCtorEq] at hc); ((try (have hml : m < (nW (dJ f M) (mV ((dJ f M).S (a.toNat % (dJ f M).k)) (dJ f M).n (dJ f M).N)).k := (by omega); have hsm : (((m : Int) == (((a.toNat % (dJ f M).k) : Nat) : Int)) || seqB ((nW (dJ f M) (mV ((dJ f M).S (a.toNat % (dJ f M).k)) (dJ f M).n (dJ f M).N)).S m) ((dJ f M).S m)) = true := (by by_cases hq : m = (a.toNat % (dJ f M).k) <;> (first | (rw [beq_iff_eq.2 (by omega)]; rfl) | (rw [hD.o m (by omega) hq, Bool.or_true])))))); (try (exfalso; contradiction)))))
 | ((with_reducible refine And.intro ?_ ?_); focus ((with_reducible show iL _ _ _ = true); kernel_rfl))
 | ((with_reducible refine hR18 _ (m + 1) ?_); (try clear hR18 KR))
 | ((with_reducible refine Told.mk ?_); simp only [go_sem, reduceIte, reduceCtorEq, xA, xL, xD, xE, xM, xS, xB, dh, cB, cK, cO, cu, cZ, bZ, bY, bX, dw, bJ, bH, bI, bC, Bool.and_self, h1, h2, h0, hk0, hmod, h5, hDe, hDa, hDs, hDd, hwl, hkk, hsm] <;> ((((try simp (disch := omega) only [aY, Int.natCast_add, Int.cast_ofNat_Int, and_true, true_and, and_self]); (repeat' (omega)); done))))
 | ((fail_if_success (with_reducible show AW _ _ _ _)); simp (maxSteps := 2000000) only [go_sem, reduceIte, reduceCtorEq, xA, xL, xD, xE, xM, xS, xB, Tryz.f9, dh, cB, cK, cO, cu, cZ, bZ, bY, bX, dw, bJ, bH, bI, bC, Bool.and_self, h1, h2, h0, hk0, hmod, h5, hDe, hDa, hDs, hDd, hwl, hkk, hsm])
 | ((fail_if_success (with_reducible show AW _ _ _ _)); simp (disch := omega) only [aY, iP, iX])
 | ((with_reducible refine hK _ ?_); clear hK K)
 | (with_reducible apply_assumption -exfalso only [*]))
theorem aiX (f : aj) (hf : f.Ok) (M : ah) (ho : M.Ok) (a : Int) (ha : 0 <= a /\ a <= 255) : aA Tryz.prog 9 [j6 f, .agg [.g (.int .i64 M.oc), .g (.int .i64 M.nu), .g (.int .i64 M.kd), .g (.int .i64 M.fr), .g (.int .i64 M.un), .g (.int .i64 M.ca), .lst 3 M.n (dZ M.p)], .one (.g (.int .u8 a))] (.t (.one (.g (.bool (true))))) := by
  cases h1 : oJ f with
  | false => exact aos f hf M ho a ha h1
  | true => cases h2 : oJ (aj.mk 0 (fun _ => bg) 1 (fun _ => M)) with
    | false => exact aof f hf M ho a ha h1 h2
    | true =>
      by_cases h0 : qj f M = 0
      · rcases Nat.eq_zero_or_pos (dJ f M).k with h3 | h3
        · exact an3 f hf M ho a ha h1 h2 h0 h3
        · by_cases h5 : (Ac ((dJ f M).S (a.toNat % (dJ f M).k)) (dJ f M).n (dJ f M).N) = 0
          · exact an5 f hf M ho a ha h1 h2 h0 h3 h5
          · exact aox f hf M ho a ha h1 h2 h0 h3 h5
      · exact aog f hf M ho a ha h1 h2 h0
end Go.Proofs.YtcfechepbamhkaaGreat
