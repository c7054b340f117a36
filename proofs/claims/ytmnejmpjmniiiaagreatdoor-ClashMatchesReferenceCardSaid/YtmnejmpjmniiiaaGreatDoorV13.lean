/- Part 13 of 18: contracts of functions and plain laws for the root text. No condition. -/
import Derived.Test.YtmnejmpjmniiiaaGreatDoorV01
import Derived.Test.YtmnejmpjmniiiaaGreatDoorV02
import Derived.Test.YtmnejmpjmniiiaaGreatDoorV03
import Derived.Test.YtmnejmpjmniiiaaGreatDoorV04
import Derived.Test.YtmnejmpjmniiiaaGreatDoorV05
import Derived.Test.YtmnejmpjmniiiaaGreatDoorV06
import Derived.Test.YtmnejmpjmniiiaaGreatDoorV07
import Derived.Test.YtmnejmpjmniiiaaGreatDoorV08
import Derived.Test.YtmnejmpjmniiiaaGreatDoorV09
import Derived.Test.YtmnejmpjmniiiaaGreatDoorV10
import Derived.Test.YtmnejmpjmniiiaaGreatDoorV11
import Derived.Test.YtmnejmpjmniiiaaGreatDoorV12
set_option linter.unusedVariables false
set_option linter.unusedSimpArgs false
set_option linter.unusedSectionVars false
set_option linter.deprecated false
set_option maxRecDepth 100000
set_option maxHeartbeats 4000000
namespace Go.Proofs.YtmnejmpjmniiiaaGreatDoor
open Go.RowKit Go.Sea
open Nat renaming reduceAdd -> xA, reduceLT -> xL, reduceLeDiff -> xD, reduceEqDiff -> xE, reduceMul -> xM, reduceSub -> xS, reduceBEq -> xB
theorem q8 : aM Tryz.prog 65 = true := by kernel_rfl
theorem NV : aM Tryz.prog 67 = true := by kernel_rfl
theorem ag7 : fF Tryz.prog 50 = true := by kernel_rfl
theorem aik : fF Tryz.prog 73 = true := by kernel_rfl
theorem Zc : dB Tryz.prog 73 5 = some 5 := by kernel_rfl
theorem Xb : cZ Tryz.prog 50 0 = some (0, 1) := by kernel_rfl
theorem YH : cZ Tryz.prog 50 1 = some (1, 1) := by kernel_rfl
theorem Wo : cZ Tryz.prog 50 2 = some (2, 1) := by kernel_rfl
theorem XK : cZ Tryz.prog 50 3 = some (3, 1) := by kernel_rfl
theorem WJ : cZ Tryz.prog 73 0 = some (0, 1) := by kernel_rfl
theorem Wp : cZ Tryz.prog 73 1 = some (1, 1) := by kernel_rfl
theorem XU : cZ Tryz.prog 73 2 = some (2, 1) := by kernel_rfl
theorem Y0 : cZ Tryz.prog 73 3 = some (3, 1) := by kernel_rfl
theorem X8 : cZ Tryz.prog 73 4 = some (4, 1) := by kernel_rfl
theorem ahm : oU Tryz.prog 29 = some (4, 32, 50) := by kernel_rfl
theorem agW : mU Tryz.prog 29 = some (false, 1) := by kernel_rfl
theorem ahS : eX Tryz.prog 50 = some [.iv (.g (.int .i64 0)), .iv (.g (.int .i64 0)), .iv (.g (.int .i64 0)), .iv (.g (.int .i64 0))] := by kernel_rfl
theorem afx : eX Tryz.prog 73 = some [.iv (.g (.slice none 0 0)), .iv (.g (.slice none 0 0)), .iv (.g (.slice none 0 0)), .iv (.g (.slice none 0 0)), .iv (.g (.slice none 0 0)), .iv (.g (.slice none 0 0))] := by kernel_rfl
attribute [go_sem] q8 NV ag7 aik Zc Xb YH Wo XK WJ Wp XU Y0 X8 ahm agW ahS afx
theorem cK {x : bF} (h : cB x = 0) : vsB x.S x.m = true /\ gM x.n x.f = true /\ x.mo = x.m /\ (∀ i, i < x.mo -> fO (x.O i).k (x.O i).o = true) /\ x.m <= 10 /\ x.n + O7 x.O x.mo <= 300 := by
  unfold cB at h
  split at h
  · exact absurd h (by decide)
  · rename_i h0
    split at h
    · exact absurd h (by decide)
    · rename_i h1
      refine ⟨?_, ?_, ?_, fun i hi => ?_, by omega, by omega⟩
      · cases e : vsB x.S x.m with
        | true => rfl
        | false => exact absurd (Or.inl e) h0
      · cases e : gM x.n x.f with
        | true => rfl
        | false => exact absurd (Or.inr (Or.inl e)) h0
      · by_cases e : x.mo = x.m
        · exact e
        · exact absurd (Or.inr (Or.inr (Or.inl e))) h0
      · cases e : fO (x.O i).k (x.O i).o with
        | true => rfl
        | false => exact absurd (Or.inr (Or.inr (Or.inr ⟨i, hi, e⟩))) h0
theorem CF {S : Nat -> aK} {m i j : Nat} (h : vsB S m = true) (hi : i < m) (hj : j < (S i).q) : ∃ t, t < i /\ (S t).nu = (S i).a j :=
  Ei.1 (of_decide_eq_true ((of_decide_eq_true h).2 i hi).2.2.2 j hj)
theorem Ox {S : Nat -> aK} {m t : Nat} {x : Int} (ht : t < m) (h : (S t).nu = x) (g : ∀ j, j < t -> (S j).nu ≠ x) : eT S m x = t :=
  ku (b := fun i => decide ((S i).nu = x)) (decide_eq_true h) (fun j hj => decide_eq_false (g j hj)) m ht
theorem yu {i : Nat} {cs : List CV} : ∀ l : List CV, (∀ c, c ∈ l -> kg c) -> List.map (mJ i cs) l = l
  | [], _ => rfl
  | c :: l, h => by
    have h1 := h c (List.mem_cons_self ..)
    rw [List.map_cons, yu l fun c hc => h c (List.mem_cons_of_mem _ hc)]
    cases c <;> first | rfl | exact h1.elim
def gP (l : List Nat) : List CV := l.map fun (x : Nat) => CV.iv (.g (.int .u64 (x : Int)))
theorem gV (l : List Nat) : (gP l).length = l.length := by simp [gP]
theorem fT (l : List Nat) : ∀ c, c ∈ gP l -> kg c := fun c hc => by obtain ⟨x, _, rfl⟩ := List.mem_map.1 hc; trivial
theorem nG {l : List Nat} {k : Nat} (h : k < l.length) : (gP l).getD k .any = .iv (.g (.int .u64 ((l.getD k 0 : Nat) : Int))) := by
  unfold gP; simp [List.getD_eq_getElem?_getD, List.getElem?_eq_getElem h]
theorem zZ {l : List Nat} {k : Nat} (h : k < l.length) (x : Nat) : List.take k (gP l) ++ [.iv (.g (.int .u64 (x : Int)))] ++ List.drop (k + 1) (gP l) = gP (l.set k x) := by
  unfold gP
  rw [List.map_set, List.set_eq_take_append_cons_drop, if_pos (by simpa using h)]; simp
theorem gW (l : List Nat) (i : Nat) : List.map (CV.bW i) (gP l) = gP l := jc i (fT l)
theorem iq (l : List Nat) (i : Nat) (cs : List CV) : List.map (mJ i cs) (gP l) = gP l := yu _ (fT l)
theorem ko : ∀ m, nV [.iv (.g (.int .u64 0))] m = gP (List.replicate m 0)
  | 0 => rfl
  | m + 1 => by show _ ++ nV _ m = _; rw [ko m]; rfl
def dQ (x : bF) (i k : Nat) : Bool := decide (0 <= mR (x.O i).k (x.O i).o (x.O k).k (x.O k).o)
def IC (x : bF) (p : Nat × Nat) : Nat -> IV
  | 0 => .g (.int .i64 (x.S p.1).nu)
  | 1 => .g (.int .i64 (x.S p.2).nu)
  | 2 => .g (.int .i64 (mR (x.O p.1).k (x.O p.1).o (x.O p.2).k (x.O p.2).o))
  | _ + 3 => .g (.int .i64 (vF (x.O p.1).k (x.O p.1).o (x.O p.2).k (x.O p.2).o))
def c4 (x : bF) (p : Nat × Nat) : List CV := [.iv (IC x p 0), .iv (IC x p 1), .iv (IC x p 2), .iv (IC x p 3)]
def mP (x : bF) (L : List (Nat × Nat)) : List CV := L.flatMap (c4 x)
theorem lS (x : bF) : mP x [] = [] := rfl
theorem gL (x : bF) : ∀ L, (mP x L).length = L.length * 4
  | [] => rfl
  | p :: L => by show (c4 x p ++ mP x L).length = _; rw [List.length_append, gL x L]; simp [c4]; omega
theorem kS (x : bF) (L : List (Nat × Nat)) : ∀ c, c ∈ mP x L -> kg c := fun c hc => by
  obtain ⟨p, _, h⟩ := List.mem_flatMap.1 hc
  simp only [c4, List.mem_cons, List.not_mem_nil, or_false] at h
  rcases h with rfl | rfl | rfl | rfl <;> trivial
theorem gZ (x : bF) (L : List (Nat × Nat)) (i : Nat) : List.map (CV.bW i) (mP x L) = mP x L := jc i (kS x L)
theorem iw (x : bF) (L : List (Nat × Nat)) (i : Nat) (cs : List CV) : List.map (mJ i cs) (mP x L) = mP x L := yu _ (kS x L)
theorem Rs (x : bF) (L : List (Nat × Nat)) (p : Nat × Nat) : mP x (L ++ [p]) = mP x L ++ c4 x p := by simp [mP, List.flatMap_append]
theorem gy (x : bF) (L : List (Nat × Nat)) (a b : Nat) (i : Nat) : List.map (CV.bW i) (mP x L ++ [.iv (.g (.int .i64 (x.S a).nu)), .iv (.g (.int .i64 (x.S b).nu)), .iv (.g (.int .i64 (mR (x.O a).k (x.O a).o (x.O b).k (x.O b).o))), .iv (.g (.int .i64 (vF (x.O a).k (x.O a).o (x.O b).k (x.O b).o)))]) = mP x (L ++ [(a, b)]) := by
  rw [Rs]; exact jc i (by have := kS x (L ++ [(a, b)]); rw [Rs] at this; exact this)
theorem Nt (x : bF) : ∀ (L : List (Nat × Nat)) (i o : Nat), i < L.length -> o < 4 -> (mP x L).getD (i * 4 + o) .any = .iv (IC x (L.getD i (0, 0)) o)
  | p :: L, 0, o, _, ho => by
    rcases (by omega : o = 0 \/ o = 1 \/ o = 2 \/ o = 3) with rfl | rfl | rfl | rfl <;> rfl
  | p :: L, i + 1, o, h, ho => by
    have := Nt x L i o (by simpa using h) ho
    show (c4 x p ++ mP x L).getD ((i + 1) * 4 + o) .any = _
    rw [List.getD_eq_getElem?_getD, List.getElem?_append_right (by simp [c4]; omega), show (i + 1) * 4 + o - (c4 x p).length = i * 4 + o by simp [c4]; omega, <- List.getD_eq_getElem?_getD, this]
    rfl
def dU (x : bF) : Nat -> Nat := eY x.S x.m
def mg (x : bF) : List (Nat × Nat) := lF (dU x) (dQ x) x.m x.m
def iU (x : bF) : xP := ⟨x, dU x, fP (mg x), (mg x).length, fun i o => IC x ((mg x).getD i (0, 0)) o⟩
theorem J9 {S : Nat -> aK} {m i : Nat} {P : List Nat} (hv : vsB S m = true) (hm : m <= 10) (hi : i < m) (hP : ∀ k, k < i -> P.getD k 0 < 2 ^ k) : ∀ j, j <= (S i).q -> Ay S m i P j < 2 ^ i
  | 0, _ => Nat.pow_pos (by decide)
  | j + 1, hj => by
    obtain ⟨t0, h1, h2⟩ := CF hv hi (j := j) (by omega)
    have h3 : eT S m ((S i).a j) < i := by
      have : ∀ k, t0 < k -> fQ (fun i' => decide ((S i').nu = (S i).a j)) k <= t0 := by
        intro k
        induction k with
        | zero => intro h; omega
        | succ k ih =>
          intro hk
          simp only [fQ]
          rcases (by omega : t0 < k \/ t0 = k) with q | rfl
          · have := ih q; rw [if_pos (by omega)]; exact this
          · split
            · omega
            · rw [if_pos (decide_eq_true h2)]; omega
      exact Nat.lt_of_le_of_lt (this m (by omega)) h1
    have a1 := J9 hv hm hi hP j (by omega)
    have a2 : P.getD (eT S m ((S i).a j)) 0 < 2 ^ i := Nat.lt_trans (hP _ h3) (Nat.pow_lt_pow_right (by decide) h3)
    exact Nat.or_lt_two_pow a1 (Nat.or_lt_two_pow a2 (Nat.pow_lt_pow_right (by decide) h3))
theorem KZ {S : Nat -> aK} {m : Nat} (hv : vsB S m = true) (hm : m <= 10) : ∀ i, i <= m -> ∀ k, k < i -> (gH S m i).getD k 0 < 2 ^ k
  | 0, _, k, hk => by omega
  | i + 1, hi, k, hk => by
    have ih := KZ hv hm i (by omega)
    show (gH S m i ++ [_]).getD k 0 < _
    rcases (by omega : k < i \/ k = i) with g | rfl
    · rw [K3 (by rw [fG]; exact g)]; exact ih k g
    · rw [Jt (by rw [fG]; omega), fG, Nat.sub_self]
      exact J9 hv hm (by omega) ih _ (Nat.le_refl _)
theorem qV {S : Nat -> aK} {m : Nat} (hv : vsB S m = true) (hm : m <= 10) {i : Nat} (hi : i < m) : eY S m i < 2 ^ i := KZ hv hm m (Nat.le_refl _) i hi
theorem vw {x : bF} {p : Nat × Nat} : p ∈ mg x ↔ p.1 < p.2 /\ p.2 < x.m /\ (dU x p.2).testBit p.1 = false /\ dQ x p.1 p.2 = true := by
  unfold mg; rw [yN (Nat.le_refl _)]
  constructor
  · exact fun h => h.2
  · exact fun h => ⟨by omega, h⟩
theorem Ap {k x : Nat} (hk : k <= 10) (h : x < 2 ^ k) : x < 1024 := Nat.lt_of_lt_of_le h (show 2 ^ k <= 2 ^ 10 from Nat.pow_le_pow_right (by decide) hk)
theorem jO {x : bF} (hx : x.Ok) (he : cB x = 0) : (iU x).Ok := by
  obtain ⟨h1, h2, h3, h4, h5, h6⟩ := cK he
  exact ⟨hx, h5, h3, fun i hi => Ap (k := i) (by have : i < x.m := hi; omega) (qV h1 h5 hi), fun i hi => DR _ (fun p hp => by have := vw.1 hp; omega) i, h2⟩
theorem Gv (P : Nat -> Nat) (X : Nat -> Nat -> Bool) (i : Nat) : mV P X i 0 = [] := rfl
theorem y8 (P : Nat -> Nat) (X : Nat -> Nat -> Bool) (i : Nat) : ∀ t, (mV P X i t).length <= t
  | 0 => Nat.le_refl _
  | t + 1 => by
    have := y8 P X i t
    show (_ ++ _ : List (Nat × Nat)).length <= _
    rw [List.length_append]; split <;> simp <;> omega
theorem vR (P : Nat -> Nat) (X : Nat -> Nat -> Bool) (m : Nat) : ∀ k, (lF P X m k).length <= k * m
  | 0 => by simp [lF]
  | k + 1 => by
    have h1 := vR P X m k
    have h2 := y8 P X k (m - (k + 1))
    show (_ ++ _ : List (Nat × Nat)).length <= _
    rw [List.length_append, Nat.add_mul]; omega
theorem WA {P : Nat -> Nat} {X : Nat -> Nat -> Bool} {m i t : Nat} (hm : m <= 10) (hi : i < m) (ht : i + 1 + t <= m) : (lF P X m i ++ mV P X i t).length <= 110 := by
  have h1 := vR P X m i
  have h2 := y8 P X i t
  have h3 : i * m <= 10 * 10 := Nat.mul_le_mul (by omega) hm
  rw [List.length_append]; omega
theorem OX {S : Nat -> aK} {m i j t : Nat} (hv : vsB S m = true) (hm : m <= 10) (hi : i < m) (hj : j < (S i).q) (hti : t < i) (hk : eT S m ((S i).a j) = t) :
    (gP (nT S m i (Ay S m i (gH S m i) j))).getD i .any = .iv (.g (.int .u64 (Ay S m i (gH S m i) j : Nat))) ∧
    (gP (nT S m i (Ay S m i (gH S m i) j))).getD t .any = .iv (.g (.int .u64 ((gH S m i).getD t 0 : Nat))) ∧
    bits .or .u64 ((gH S m i).getD t 0 : Nat) ((2 ^ t : Nat) : Int) = (((gH S m i).getD t 0 ||| 2 ^ t : Nat) : Int) ∧
    bits .or .u64 (Ay S m i (gH S m i) j : Nat) (((gH S m i).getD t 0 ||| 2 ^ t : Nat) : Int) = ((Ay S m i (gH S m i) (j + 1) : Nat) : Int) ∧
    List.take i (gP (nT S m i (Ay S m i (gH S m i) j))) ++ [.iv (.g (.int .u64 (Ay S m i (gH S m i) (j + 1) : Nat)))] ++ List.drop (i + 1) (gP (nT S m i (Ay S m i (gH S m i) j))) = gP (nT S m i (Ay S m i (gH S m i) (j + 1))) := by
  have hl := Fx S (i := i) (Ay S m i (gH S m i) j) hi
  have hp := KZ hv hm i (by omega)
  have h1 : Ay S m i (gH S m i) j < 1024 := Ap (k := i) (by omega) (J9 hv hm hi hp j (by omega))
  have h2 : (gH S m i).getD t 0 < 1024 := Ap (k := t) (by omega) (hp t hti)
  have h3 := xw (k := t) (by omega)
  refine ⟨?_, ?_, Iy h2 h3, ?_, ?_⟩
  · rw [nG (by rw [hl]; exact hi), acs]
  · rw [nG (by rw [hl]; omega), adF _ _ hti]
  · rw [Iy h1 (NZ h2 h3)]
    show _ = ((Ay S m i (gH S m i) j ||| ((gH S m i).getD (eT S m ((S i).a j)) 0 ||| 2 ^ eT S m ((S i).a j)) : Nat) : Int)
    rw [hk]
  · rw [zZ (by rw [hl]; exact hi), Uf]
theorem PD {m i k : Nat} {L : List (Nat × Nat)} (hm : m <= 10) (hik : i < k) (hk : k < m) (hL : ∀ p, p ∈ L -> p.1 < p.2 /\ p.2 < m) :
    (gP (jJ L m)).getD i .any = .iv (.g (.int .u64 (fP L i : Nat))) ∧
    bits .or .u64 (fP L i : Nat) ((2 ^ k : Nat) : Int) = ((fP L i ||| 2 ^ k : Nat) : Int) ∧
    List.take i (gP (jJ L m)) ++ [.iv (.g (.int .u64 ((fP L i ||| 2 ^ k : Nat) : Int)))] ++ List.drop (i + 1) (gP (jJ L m)) = gP ((jJ L m).set i (fP L i ||| 2 ^ k)) ∧
    (gP ((jJ L m).set i (fP L i ||| 2 ^ k))).getD k .any = .iv (.g (.int .u64 (fP L k : Nat))) ∧
    bits .or .u64 (fP L k : Nat) ((2 ^ i : Nat) : Int) = ((fP L k ||| 2 ^ i : Nat) : Int) ∧
    List.take k (gP ((jJ L m).set i (fP L i ||| 2 ^ k))) ++ [.iv (.g (.int .u64 ((fP L k ||| 2 ^ i : Nat) : Int)))] ++ List.drop (k + 1) (gP ((jJ L m).set i (fP L i ||| 2 ^ k))) = gP (jJ (L ++ [(i, k)]) m) := by
  have hn : ∀ p, p ∈ L -> p.1 < 10 /\ p.2 < 10 := fun p hp => by have := hL p hp; omega
  have hl := gq L m
  refine ⟨?_, Iy (DR L hn i) (xw (by omega)), ?_, ?_, Iy (DR L hn k) (xw (by omega)), ?_⟩
  · rw [nG (by rw [hl]; omega), Eb L (by omega)]
  · exact zZ (by rw [hl]; omega) _
  · rw [nG (by simp [hl]; omega), aee L _ hik hk]
  · rw [zZ (by simp [hl]; omega), UY L hik hk]
theorem Xp {S : Nat -> aK} {m k : Nat} (hk : k < m) : (gP (wL S m m)).getD k .any = .iv (.g (.int .u64 (eY S m k : Nat))) := by
  rw [nG (by rw [Je _ (Nat.le_refl _)]; exact hk), SQ]; rfl
theorem Ri (x k : Nat) (h : k < 64) : (x : Int).fdiv (2 ^ (min k 64)) = ((x >>> k : Nat) : Int) := agf x k h
theorem SA {x : Nat} (h : x < 18446744073709551616) : bits .and .u64 (x : Int) 1 = ((x &&& 1 : Nat) : Int) := IQ h (y := 1) (by decide)
theorem UQ {x : Nat} (k : Nat) (h : x < 18446744073709551616) : x >>> k < 18446744073709551616 := Nat.lt_of_le_of_lt (Nat.shiftRight_le x k) h
theorem Zk {x k : Nat} (h : ((x >>> k &&& 1 : Nat) : Int) = 1) : x.testBit k = true := (aaq x k).1 h
theorem Zi {x k : Nat} (h : ((x >>> k &&& 1 : Nat) : Int) ≠ 1) : x.testBit k = false := by
  cases e : x.testBit k with
  | false => rfl
  | true => exact absurd ((aaq x k).2 e) h
theorem U1 {l : List Nat} {F : Nat -> Nat} (h : ∀ i, i < l.length -> l.getD i 0 = F i) : ∀ i o, i < l.length -> o < 1 -> (Fu ((gP l).getD (i + o) .any)).eqv (uF F i o) := fun i o hi ho => by
  obtain rfl : o = 0 := by omega
  rw [Nat.add_zero, nG hi, h i hi]; exact IV.aG _
theorem adw {x : bF} {L : List (Nat × Nat)} : ∀ i o, i < L.length -> o < 4 -> (Fu ((mP x L).getD (i * 4 + o) .any)).eqv (IC x (L.getD i (0, 0)) o) := fun i o hi ho => by
  rw [Nt x L i o hi ho]; exact IV.aG _
theorem KI (L : List (Nat × Nat)) (p : Nat × Nat) : (L ++ [p]).length = L.length + 1 := by simp
theorem aaf {x : bF} {i k : Nat} (h : 0 <= mR (x.O i).k (x.O i).o (x.O k).k (x.O k).o) : dQ x i k = true := decide_eq_true h
theorem SL {x : bF} {i k : Nat} (h : mR (x.O i).k (x.O i).o (x.O k).k (x.O k).o < 0) : dQ x i k = false := decide_eq_false (by omega)
theorem agi {x : bF} {i t : Nat} (h1 : ((eY x.S x.m (i + 1 + t) >>> i &&& 1 : Nat) : Int) ≠ 1) (h2 : 0 <= mR (x.O i).k (x.O i).o (x.O (i + 1 + t)).k (x.O (i + 1 + t)).o) : lF (dU x) (dQ x) x.m i ++ mV (dU x) (dQ x) i (t + 1) = (lF (dU x) (dQ x) x.m i ++ mV (dU x) (dQ x) i t) ++ [(i, i + 1 + t)] := by
  rw [Zr (P := dU x) (X := dQ x) (Zi h1) (aaf h2), List.append_assoc]
theorem aef {x : bF} {i t : Nat} (h1 : ((eY x.S x.m (i + 1 + t) >>> i &&& 1 : Nat) : Int) = 1) : lF (dU x) (dQ x) x.m i ++ mV (dU x) (dQ x) i (t + 1) = (lF (dU x) (dQ x) x.m i ++ mV (dU x) (dQ x) i t) := by
  rw [TA (P := dU x) (X := dQ x) (Or.inl (Zk h1))]
theorem abJ {x : bF} {i t : Nat} (h2 : mR (x.O i).k (x.O i).o (x.O (i + 1 + t)).k (x.O (i + 1 + t)).o < 0) : lF (dU x) (dQ x) x.m i ++ mV (dU x) (dQ x) i (t + 1) = (lF (dU x) (dQ x) x.m i ++ mV (dU x) (dQ x) i t) := by
  rw [TA (P := dU x) (X := dQ x) (Or.inr (SL h2))]
theorem Ir (x : bF) (hx : x.Ok) (he : cB x ≠ 0) : au Tryz.prog 37 [.one (.lst 9 x.n (bq x.f)), .one (.lst 2 x.m (fA x.S)), .one (.lst 1 x.mo (iJ x.O))] (.tup [.one (.g (.pointer none)), .one (.g (.int .i64 (cB x)))]) := by
  refine ah Tryz.func37 rfl (by rw [Tryz.ntmps37]; simp) ?_
  simp only [Tryz.ntmps37, zM, PT.tv, ak, Nat.zero_add, Nat.reduceAdd]
  repeat' (first
 | ((with_reducible show AW _ _ _ _); first
 | (with_reducible first | refine aS (fun K hK => ?_) | refine aT ?_ | refine aC ?_)
 | ((with_reducible first | refine aP 0 [0,1,2] ?_ | refine aP 1 [0,1,2] ?_ | refine aP 2 [0,1,2,8] ?_ | refine aP 3 [8] ?_)))
 | (((with_reducible refine Need.mk ?_)); focus (exact True.intro))
 | (with_reducible refine aA ?_)
 | ((with_reducible show aY _ _ _ _ _ _); first
 | ((with_reducible refine aH ?_ ?_) <;> (intro hc; (try simp only [zB, zC, reduceCtorEq] at hc); (try (exfalso; contradiction)))))
 | ((with_reducible show aN _ _ _ _ _ _ _ _ _ _); first
 | (refine aj (k := 65) q8 (zV x hx) ?_ ?_))
 | ((fail_if_success (with_reducible show AW _ _ _ _)); simp (maxSteps := 2000000) only [go_sem, reduceIte, reduceCtorEq, xA, xL, xD, xE, xM, xS, xB, Tryz.f37])
 | ((with_reducible refine hK _ ?_); clear hK K))
  all_goals ((exfalso; simp at hc; omega))
def af6 (x : bF) (i2 t2 : Nat) (D : Nat -> Bool) : AS := ⟨[(1, .t (.one (.iv (.lst 2 x.m (fA x.S))))), (2, .t (.one (.iv (.lst 1 x.mo (iJ x.O))))), (9, .t (.one (.ptr 10 0))), (15, iA .i64 ((i2 : Int))), (16, iA .i64 ((i2 : Int) + 1 + (t2 : Int))), (17, iA .i64 (mR (x.O i2).k (x.O i2).o (x.O (i2 + 1 + t2)).k (x.O (i2 + 1 + t2)).o)), (18, iA .i64 (vF (x.O i2).k (x.O i2).o (x.O (i2 + 1 + t2)).k (x.O (i2 + 1 + t2)).o)), (77, iA .i64 ((x.m : Int))), (78, iA .i64 ((i2 : Int))), (141, bif D 0 then .t (.one (.ptr 10 0)) else .any), (142, bif D 1 then .t (.one (.ptr 10 0)) else .any), (143, bif D 2 then .t (.one (.ptr 10 0)) else .any), (144, bif D 3 then .t (.one (.ptr 10 5)) else .any), (145, bif D 19 then .any else bif D 4 then .t (.one (.slc 11 0 (lF (dU x) (dQ x) x.m i2 ++ mV (dU x) (dQ x) i2 t2).length 4)) else .any), (146, bif D 5 then .t (.one (.iv (.lst 2 x.m (fA x.S)))) else .any), (147, bif D 6 then iA .i64 ((i2 : Int)) else .any), (148, bif D 7 then .t (.one (.ip 2 fun o => fA x.S i2 o)) else .any), (149, bif D 8 then .t (.one (.ip 2 fun o => fA x.S i2 o)) else .any), (150, bif D 9 then iA .i64 (((x.S i2).nu)) else .any), (151, bif D 10 then .t (.one (.iv (.lst 2 x.m (fA x.S)))) else .any), (152, bif D 11 then iA .i64 ((i2 : Int) + 1 + (t2 : Int)) else .any), (153, bif D 12 then .t (.one (.ip 2 fun o => fA x.S (i2 + 1 + t2) o)) else .any), (154, bif D 13 then .t (.one (.ip 2 fun o => fA x.S (i2 + 1 + t2) o)) else .any), (155, bif D 14 then iA .i64 (((x.S (i2 + 1 + t2)).nu)) else .any), (156, bif D 15 then iA .i64 (mR (x.O i2).k (x.O i2).o (x.O (i2 + 1 + t2)).k (x.O (i2 + 1 + t2)).o) else .any), (157, bif D 16 then iA .i64 (vF (x.O i2).k (x.O i2).o (x.O (i2 + 1 + t2)).k (x.O (i2 + 1 + t2)).o) else .any), (158, bif D 17 then .t (.agg [.iv (.g (.int .i64 ((x.S i2).nu))), .iv (.g (.int .i64 ((x.S (i2 + 1 + t2)).nu))), .iv (.g (.int .i64 (mR (x.O i2).k (x.O i2).o (x.O (i2 + 1 + t2)).k (x.O (i2 + 1 + t2)).o))), .iv (.g (.int .i64 (vF (x.O i2).k (x.O i2).o (x.O (i2 + 1 + t2)).k (x.O (i2 + 1 + t2)).o)))]) else .any), (159, bif D 18 then .t (.one (.slc 30 0 1 4)) else .any), (160, bif D 19 then .t (.one (.slc 11 0 ((lF (dU x) (dQ x) x.m i2 ++ mV (dU x) (dQ x) i2 t2).length + 1) 4)) else .any), (161, bif D 20 then .t (.one (.ptr 10 0)) else .any), (162, bif D 21 then .t (.one (.ptr 10 5)) else .any)], bif D 18 then [none, none, none, none, none, some (gP (wL x.S x.m x.m)), none, none, some (gP (jJ ((lF (dU x) (dQ x) x.m i2 ++ mV (dU x) (dQ x) i2 t2) ++ [(i2, i2 + 1 + t2)]) x.m)), none, some (bif D 22 then [.iv (.lst 9 x.n (bq x.f)), .iv (.lst 2 x.m (fA x.S)), .iv (.lst 1 x.mo (iJ x.O)), .slc 5 0 x.m 1, .slc 8 0 x.m 1, .slc 11 0 ((lF (dU x) (dQ x) x.m i2 ++ mV (dU x) (dQ x) i2 t2).length + 1) 4] else bif D 19 then [.iv (.lst 9 x.n (bq x.f)), .iv (.lst 2 x.m (fA x.S)), .iv (.lst 1 x.mo (iJ x.O)), .slc 5 0 x.m 1, .slc 8 0 x.m 1, .any] else [.iv (.lst 9 x.n (bq x.f)), .iv (.lst 2 x.m (fA x.S)), .iv (.lst 1 x.mo (iJ x.O)), .slc 5 0 x.m 1, .slc 8 0 x.m 1, .slc 11 0 (lF (dU x) (dQ x) x.m i2 ++ mV (dU x) (dQ x) i2 t2).length 4]), some (bif D 19 then mP x ((lF (dU x) (dQ x) x.m i2 ++ mV (dU x) (dQ x) i2 t2) ++ [(i2, i2 + 1 + t2)]) else mP x (lF (dU x) (dQ x) x.m i2 ++ mV (dU x) (dQ x) i2 t2)), none, none, none, none, none, none, none, none, none, none, none, none, none, none, none, none, none, none, some [.iv (.g (.int .i64 ((x.S i2).nu))), .iv (.g (.int .i64 ((x.S (i2 + 1 + t2)).nu))), .iv (.g (.int .i64 (mR (x.O i2).k (x.O i2).o (x.O (i2 + 1 + t2)).k (x.O (i2 + 1 + t2)).o))), .iv (.g (.int .i64 (vF (x.O i2).k (x.O i2).o (x.O (i2 + 1 + t2)).k (x.O (i2 + 1 + t2)).o)))]] else [none, none, none, none, none, some (gP (wL x.S x.m x.m)), none, none, some (gP (jJ ((lF (dU x) (dQ x) x.m i2 ++ mV (dU x) (dQ x) i2 t2) ++ [(i2, i2 + 1 + t2)]) x.m)), none, some [.iv (.lst 9 x.n (bq x.f)), .iv (.lst 2 x.m (fA x.S)), .iv (.lst 1 x.mo (iJ x.O)), .slc 5 0 x.m 1, .slc 8 0 x.m 1, .slc 11 0 (lF (dU x) (dQ x) x.m i2 ++ mV (dU x) (dQ x) i2 t2).length 4], some (mP x (lF (dU x) (dQ x) x.m i2 ++ mV (dU x) (dQ x) i2 t2))], 165, [], LP.top⟩
attribute [go_sem] af6
theorem Ud (c : Bool) (a b : List (Option (List CV))) (k : Nat) : (bif c then a else b)[k]? = bif c then a[k]? else b[k]? := by cases c <;> rfl
theorem Ux (c : Bool) (a b : Option (Option (List CV))) : (bif c then a else b).getD none = bif c then a.getD none else b.getD none := by cases c <;> rfl
theorem pO (c : Bool) (a b : List (Option (List CV))) (k : Nat) : hget (bif c then a else b) k = bif c then hget a k else hget b k := by cases c <;> rfl
theorem AQ (c : Bool) (a b : AV) (k : Nat) : (bif c then a else b).bW k = bif c then a.bW k else b.bW k := by cases c <;> rfl
theorem GH (x : bF) (hx : x.Ok) (he : cB x = 0) : au Tryz.prog 37 [.one (.lst 9 x.n (bq x.f)), .one (.lst 2 x.m (fA x.S)), .one (.lst 1 x.mo (iJ x.O))] (.tup [.one (.ptr 6 (EK (iU x))), .one (.g (.int .i64 (0)))]) := by
  obtain ⟨hv, hfe, hmo, hop, hm, hsum⟩ := cK he
  have mk0 : True := trivial
  have mk1 : True := trivial
  have mkA : True := trivial
  have mk2 : True := trivial
  have hpl : True := trivial
  have hp0 : True := trivial
  have hkn : True := trivial
  have hgp : True := trivial
  have hsr : True := trivial
  have ha1 : True := trivial
  have he1 : True := trivial
  have hxx : True := trivial
  have hyy : True := trivial
  have hf1 : True := trivial
  have hs2 : True := trivial
  have ho3 : True := trivial
  have hu3 : True := trivial
  have hf2 : True := trivial
  have hs3 : True := trivial
  have ho4 : True := trivial
  have hu4 : True := trivial
  have hg1 : True := trivial
  have hg2 : True := trivial
  have hsh : True := trivial
  have ho1 : True := trivial
  have ho2 : True := trivial
  have hst : True := trivial
  refine ah Tryz.func37 rfl (by rw [Tryz.ntmps37]; simp) ?_
  simp only [Tryz.ntmps37, zM, PT.tv, ak, Nat.zero_add, Nat.reduceAdd]
  repeat' (first
 | (refine CS rfl rfl (by omega) ?_)
 | (refine Bo rfl rfl (by omega) ?_)
 | ((with_reducible refine Need.mk ?_); exact ⟨fT _, fT _, kS _ _⟩)
 | ((with_reducible show AW _ _ _ _); first
 | (with_reducible first | refine aS (fun K hK => ?_) | refine aI ?_ | refine aX ?_ | refine aT ?_ | refine aC ?_ | refine aB ?_)
 | (first
 | (with_reducible first | refine aP (ops := #[⟨some 6, _, _, _, _, _⟩, _]) 0 [0,1,2] ?_ | refine aP (ops := #[⟨some 3, _, _, _, _, _⟩, _]) 0 [0,1] ?_ | refine aP (ops := #[⟨some 4, _, _, _, _, _⟩]) 0 [0,1] ?_ | refine aP (ops := #[⟨some 2, _, _, _, _, _⟩, _]) 0 [0,1] ?_ | refine aP (ops := #[⟨some 20, _, _, _, _, _⟩, _, _, _, _]) 1 [0,1,2] ?_ | refine aP (ops := #[⟨some 5, _, _, _, _, _⟩, _, _, _, _, _, _]) 1 [0,3] ?_ | refine aP (ops := #[⟨some 6, _, _, _, _, _⟩, _, _]) 1 [0,1] ?_ | refine aP (ops := #[⟨some 4, _, _, _, _, _⟩, _, _, _, _]) 1 [1,2] ?_ | refine aP (ops := #[⟨some 24, _, _, _, _, _⟩, _]) 2 [0,1,2,8] ?_ | refine aP (ops := #[⟨some 9, _, _, _, _, _⟩]) 2 [0,1,7,8] ?_ | refine aP (ops := #[⟨some 10, _, _, _, _, _⟩, _]) 3 [0,1,7,8] ?_ | refine aP 4 [0,1,5,7,8] ?_)
 | ((with_reducible refine aR (c := Code.region 4 _ true) [0,1,2] ?_); (with_reducible refine aD ?_ ?_ ?_ ?_); (focus kernel_rfl); (focus kernel_rfl); (focus kernel_rfl))
 | (with_reducible first | refine aP (ops := #[⟨some 38, _, _, _, _, _⟩, _, _]) 5 [1,2,9] ?_ | refine aP (ops := #[⟨some 17, _, _, _, _, _⟩, _]) 5 [5] ?_ | refine aP (ops := #[⟨some 41, _, _, _, _, _⟩]) 6 [1,2,9,38,39,40] ?_ | refine aP (ops := #[⟨some 18, _, _, _, _, _⟩, _]) 6 [0,1,7,8] ?_ | refine aP (ops := #[⟨some 42, _, _, _, _, _⟩, _, _, _, _, _]) 7 [1,2,9,38,39,40] ?_ | refine aP 8 [1,2,9,10,11,38,39,40] ?_ | refine aP 9 [1,2,9,10,38,39,40,46,47,48] ?_ | refine aP 10 [1,2,9,10,38,39,40,46,47,48] ?_ | refine aP 11 [1,2,9,10,13,38,39,40,46,47,48] ?_)
 | ((with_reducible refine aR (c := Code.region 12 _ true) [1,2,9,10,14,38,39,40,46,47,48] ?_); (with_reducible refine aD ?_ ?_ ?_ ?_); (focus kernel_rfl); (focus kernel_rfl); (focus kernel_rfl))
 | (with_reducible first | refine aP 13 [1,2,9,10,38,39,40,46,47,48] ?_ | refine aP 14 [1,2,9,38,39,40] ?_ | refine aP 15 [1,2,9] ?_ | refine aP 16 [1,2,9,77,78] ?_ | refine aP 17 [1,2,9,77,78] ?_ | refine aP 18 [1,2,9,15,77,78] ?_ | refine aP 19 [1,2,9,15,16,77,78] ?_ | refine aP 20 [1,2,9,15,16,77,78] ?_ | refine aP 21 [1,2,9,15,16,77,78] ?_)
 | ((with_reducible refine aR (c := Code.region 22 _ true) [1,2,9,15,16,77,78] ?_); (with_reducible refine aD ?_ ?_ ?_ ?_); (focus kernel_rfl); (focus kernel_rfl); (focus kernel_rfl))
 | (with_reducible refine aP 23 [1,2,9,15,16,17,18,19,77,78] ?_)
 | ((with_reducible refine aR (c := Code.region 24 _ true) [1,2,9,15,16,17,18,77,78] ?_); (with_reducible refine aD ?_ ?_ ?_ ?_); (focus kernel_rfl); (focus kernel_rfl); (focus kernel_rfl))
 | ((with_reducible refine aR (c := Code.region 25 _ true) [1,2,9,15,16,17,18,77,78] ?_); (with_reducible refine aD ?_ ?_ ?_ ?_); (focus kernel_rfl); (focus kernel_rfl); (focus kernel_rfl))
 | ((with_reducible refine aR (c := Code.region 26 _ true) [1,2,9,15,16,17,18,77,78] ?_); (with_reducible refine LB 12 [1,2,9,15,16,17,18,77,78,141,142,143,144,145,146,147,148,149,150,151,152,153,154,155,156,157,158,159,160,161,162] [([], [0,20,21,22]), ([], [1,2,3,4,19,20,21,22]), ([1], [2,3,4,19,20,21,22]), ([1,2], [3,4,19,20,21,22]), ([1,2,3], [4,19,20,21,22]), ([], [5,7,8,9,17,18,19,20,21,22]), ([], [6,7,8,9,17,18,19,20,21,22]), ([5,6], [7,8,9,17,18,19,20,21,22]), ([5,6,7], [8,9,17,18,19,20,21,22]), ([5,6,7,8], [9,17,18,19,20,21,22]), ([], [10,12,13,14,17,18,19,20,21,22]), ([], [11,12,13,14,17,18,19,20,21,22]), ([10,11], [12,13,14,17,18,19,20,21,22]), ([10,11,12], [13,14,17,18,19,20,21,22]), ([10,11,12,13], [14,17,18,19,20,21,22]), ([], [15,17,18,19,20,21,22]), ([], [16,17,18,19,20,21,22]), ([5,6,7,8,9,10,11,12,13,14,15,16], [17,18,19,20,21,22]), ([5,6,7,8,9,10,11,12,13,14,15,16,17], [18,19,20,21,22]), ([1,2,3,4,5,6,7,8,9,10,11,12,13,14,15,16,17,18], [19,20,21,22]), ([0,1,2,3,4,5,6,7,8,9,10,11,12,13,14,15,16,17,18,19], [20,21,22]), ([0,1,2,3,4,5,6,7,8,9,10,11,12,13,14,15,16,17,18,19,20], [21,22]), ([0,1,2,3,4,5,6,7,8,9,10,11,12,13,14,15,16,17,18,19,20,21], [22])] [0,1,2,3,4,5,6,7,8,9,10,11,12,13,14,15,16,17,18,19,20,21,22] (af6 x i2 t2) ?hm26 ?hb26 ?hd26 ?hc26 ?h026 ?hh26 ?ha26 ?hq26); (case' hm26 => kernel_rfl); (case' hb26 => kernel_rfl); (case' hd26 => kernel_rfl); (case' hc26 => kernel_rfl); (case' ha26 => kernel_rfl); (case' h026 => (exact ⟨rfl⟩)); (case' hh26 => (simp only [List.toList_toArray, List.length_cons, List.length_nil, Nat.reduceAdd]; repeat' (first | ((with_reducible show Le _ _ _ _ _ _ _); first | exact PL | (with_reducible refine KS (fun D hT hF K hK => ?_) ?_)) | ((with_reducible show Hq _ _ _ _ _ _); (simp only [WT, dnF, and_true] at hT hF); simp (maxSteps := 2000000) only [go_sem, reduceIte, reduceCtorEq, xA, xL, xD, xE, xM, xS, xB, Tryz.f37, Tryz.f66, Tryz.f99, Tryz.f100, bJ, bI, dD, bG, he, ko, maxLen, gV, gW, gZ, gL, gy, lS, pO, Ud, Ux, AQ, Bool.cond_self, iq, iw, gq, List.length_set, hpl, hp0, hkn, hgp, hsr, ha1, he1, hxx, hyy, hf1, hs2, ho3, hu3, hf2, hs3, ho4, hu4, hg1, hg2, hsh, ho1, ho2, hst, hT, hF, EU]) | ((with_reducible refine hK _ ?_); clear hK K) | ((with_reducible show Leaf _ _); simp (maxSteps := 2000000) only [go_sem, reduceIte, reduceCtorEq, xA, xL, xD, xE, xM, xS, xB, Tryz.f37, Tryz.f66, Tryz.f99, Tryz.f100, bJ, bI, dD, bG, he, ko, maxLen, gV, gW, gZ, gL, gy, lS, pO, Ud, Ux, AQ, Bool.cond_self, iq, iw, gq, List.length_set, hpl, hp0, hkn, hgp, hsr, ha1, he1, hxx, hyy, hf1, hs2, ho3, hu3, hf2, hs3, ho4, hu4, hg1, hg2, hsh, ho1, ho2, hst, hT, hF, EU]; exact ⟨rfl⟩) | ((with_reducible show Leaf _ _); cases hDu : D 0 <;> (simp (maxSteps := 2000000) only [go_sem, reduceIte, reduceCtorEq, xA, xL, xD, xE, xM, xS, xB, Tryz.f37, Tryz.f66, Tryz.f99, Tryz.f100, bJ, bI, dD, bG, he, ko, maxLen, gV, gW, gZ, gL, gy, lS, pO, Ud, Ux, AQ, Bool.cond_self, iq, iw, gq, List.length_set, hpl, hp0, hkn, hgp, hsr, ha1, he1, hxx, hyy, hf1, hs2, ho3, hu3, hf2, hs3, ho4, hu4, hg1, hg2, hsh, ho1, ho2, hst, hT, hF, EU, hDu]; exact ⟨rfl⟩)) | (with_reducible refine And.intro ?_ ?_) | omega))); (case' hq26 => (intro D hT; simp only [WT, and_true] at hT; simp (maxSteps := 2000000) only [go_sem, reduceIte, reduceCtorEq, xA, xL, xD, xE, xM, xS, xB, Tryz.f37, Tryz.f66, Tryz.f99, Tryz.f100, bJ, bI, dD, bG, he, ko, maxLen, gV, gW, gZ, gL, gy, lS, pO, Ud, Ux, AQ, Bool.cond_self, iq, iw, gq, List.length_set, hpl, hp0, hkn, hgp, hsr, ha1, he1, hxx, hyy, hf1, hs2, ho3, hu3, hf2, hs3, ho4, hu4, hg1, hg2, hsh, ho1, ho2, hst, hT, EU])))
 | (with_reducible first | refine aP 27 [1,2,9,77,78] ?_ | refine Dr (c := Code.region 28 _ false) [5,8,11] ?_ (aP 28 [9] ?_)))
 | ((with_reducible show AW _ (Code.loop _) _ _); first
 | ((with_reducible refine aL (c := (Code.seq (Code.region 6 _ _) _)) (ι := Nat) [1,2,9,38,39] (fun i => [(40, iA .i64 (i : Int))]) (fun i => [(5, gP (wL x.S x.m i))]) (fun i => i <= x.m) (fun i => x.m - i) 0 ?lg6 ?l16 ?l26 ?li6 ?lr6); (case' lg6 => rintro i _); (case' li6 => try (omega)); (case' lr6 => rintro i hi KR hR6; simp only [bf, bN, hset, lk, if_true, if_false, xE, reduceIte, zN, bJ, bI, dD, he, ko, maxLen, gV, gW, gZ, gL, gy, lS, pO, Ud, Ux, AQ, Bool.cond_self, iq, iw, gq, List.length_set, hpl, hp0, hkn, hgp, hsr, ha1, he1, hxx, hyy, hf1, hs2, ho3, hu3, hf2, hs3, ho4, hu4, hg1, hg2, hsh, ho1, ho2, hst]))
 | ((with_reducible refine aL (c := (Code.seq (Code.region 9 _ _) _)) (ι := Nat) [1,2,9,10,38,39,40,46,47] (fun j => [(48, iA .i64 (j : Int))]) (fun j => [(5, gP (nT x.S x.m i (Ay x.S x.m i (gH x.S x.m i) j)))]) (fun j => j <= (x.S i).q) (fun j => (x.S i).q - j) 0 ?lg9 ?l19 ?l29 ?li9 ?lr9); (case' lg9 => rintro j _); (case' li9 => try (omega)); (case' lr9 => rintro j hj KR hR9; simp only [bf, bN, hset, lk, if_true, if_false, xE, reduceIte, zN, bJ, bI, dD, he, ko, maxLen, gV, gW, gZ, gL, gy, lS, pO, Ud, Ux, AQ, Bool.cond_self, iq, iw, gq, List.length_set, hpl, hp0, hkn, hgp, hsr, ha1, he1, hxx, hyy, hf1, hs2, ho3, hu3, hf2, hs3, ho4, hu4, hg1, hg2, hsh, ho1, ho2, hst]))
 | ((with_reducible refine aL (c := (Code.seq (Code.region 2 _ _) _)) (ι := Nat) [0,1,7] (fun t => [(8, iA .i64 (t : Int))]) (fun t => []) (fun t => t <= x.m /\ (∀ t', t' < t -> (x.S t').nu ≠ (x.S i).a j)) (fun t => x.m - t) 0 ?lg2 ?l12 ?l22 ?li2 ?lr2); (case' lg2 => rintro t _); (case' li2 => try (exact ⟨Nat.zero_le _, fun i hi => absurd hi (Nat.not_lt_zero _)⟩)); (case' lr2 => rintro t ⟨ht, hat⟩ KR hR2; simp only [bf, bN, hset, lk, if_true, if_false, xE, reduceIte, zN, bJ, bI, dD, he, ko, maxLen, gV, gW, gZ, gL, gy, lS, pO, Ud, Ux, AQ, Bool.cond_self, iq, iw, gq, List.length_set, hpl, hp0, hkn, hgp, hsr, ha1, he1, hxx, hyy, hf1, hs2, ho3, hu3, hf2, hs3, ho4, hu4, hg1, hg2, hsh, ho1, ho2, hst]))
 | ((with_reducible refine aL (c := (Code.seq (Code.region 16 _ _) _)) (ι := Nat) [1,2,9,77] (fun i2 => [(78, iA .i64 (i2 : Int))]) (fun i2 => [(8, gP (jJ (lF (dU x) (dQ x) x.m i2) x.m)), (10, [.iv (.lst 9 x.n (bq x.f)), .iv (.lst 2 x.m (fA x.S)), .iv (.lst 1 x.mo (iJ x.O)), .slc 5 0 x.m 1, .slc 8 0 x.m 1, .slc 11 0 (lF (dU x) (dQ x) x.m i2).length 4]), (11, mP x (lF (dU x) (dQ x) x.m i2))]) (fun i2 => i2 <= x.m) (fun i2 => x.m - i2) 0 ?lg16 ?l116 ?l216 ?li16 ?lr16); (case' lg16 => rintro i2 _); (case' li16 => try (omega)); (case' lr16 => rintro i2 hi2 KR hR16; simp only [bf, bN, hset, lk, if_true, if_false, xE, reduceIte, zN, bJ, bI, dD, he, ko, maxLen, gV, gW, gZ, gL, gy, lS, pO, Ud, Ux, AQ, Bool.cond_self, iq, iw, gq, List.length_set, hpl, hp0, hkn, hgp, hsr, ha1, he1, hxx, hyy, hf1, hs2, ho3, hu3, hf2, hs3, ho4, hu4, hg1, hg2, hsh, ho1, ho2, hst]))
 | ((with_reducible refine aL (c := (Code.seq (Code.seq (Code.region 19 _ _) _) _)) (ι := Nat) [1,2,9,15,77,78] (fun t2 => [(16, iA .i64 ((i2 : Int) + 1 + (t2 : Int)))]) (fun t2 => [(8, gP (jJ (lF (dU x) (dQ x) x.m i2 ++ mV (dU x) (dQ x) i2 t2) x.m)), (10, [.iv (.lst 9 x.n (bq x.f)), .iv (.lst 2 x.m (fA x.S)), .iv (.lst 1 x.mo (iJ x.O)), .slc 5 0 x.m 1, .slc 8 0 x.m 1, .slc 11 0 (lF (dU x) (dQ x) x.m i2 ++ mV (dU x) (dQ x) i2 t2).length 4]), (11, mP x (lF (dU x) (dQ x) x.m i2 ++ mV (dU x) (dQ x) i2 t2))]) (fun t2 => i2 + 1 + t2 <= x.m) (fun t2 => x.m - (i2 + 1 + t2)) 0 ?lg19 ?l119 ?l219 ?li19 ?lr19); (case' lg19 => rintro t2 _); (case' li19 => try (omega)); (case' lr19 => rintro t2 ht2 KR hR19; simp only [bf, bN, hset, lk, if_true, if_false, xE, reduceIte, zN, bJ, bI, dD, he, ko, maxLen, gV, gW, gZ, gL, gy, lS, pO, Ud, Ux, AQ, Bool.cond_self, iq, iw, gq, List.length_set, hpl, hp0, hkn, hgp, hsr, ha1, he1, hxx, hyy, hf1, hs2, ho3, hu3, hf2, hs3, ho4, hu4, hg1, hg2, hsh, ho1, ho2, hst]))))
 | ((first | (with_reducible refine And.intro ?_ ?_) | (with_reducible refine Need.mk ?_)); focus (first | exact True.intro | (with_reducible assumption) | omega | (simp; done)))
 | (with_reducible refine aA ?_)
 | ((with_reducible show aY _ _ _ _ _ _); first
 | ((with_reducible refine aH ?_ ?_) <;> (intro hc; (try simp only [zB, zC, reduceCtorEq] at hc); ((try (clear mk0; have hxq := hx.q i (by omega); have hex := CF hv (i := i) (j := j) (by omega) (by omega))); (try (exfalso; obtain ⟨t0, h1, h2⟩ := hex; exact hat t0 (by omega) h2)); (try (clear mk1 hpl hg1 hg2 hsh ho1 ho2 hst; have hk := Ox (S := x.S) (m := x.m) (by omega) hc hat; have hti : t < i := (by obtain ⟨t0, h1, h2⟩ := hex; exact (Nat.lt_or_ge t i).elim id (fun g => absurd h2 (hat t0 (by omega)))); obtain ⟨hg1, hg2, ho1, ho2, hst⟩ := OX hv hm (i := i) (j := j) (by omega) (by omega) hti hk; have hpl := Fx x.S (m := x.m) (i := i) (Ay x.S x.m i (gH x.S x.m i) j) (by omega); have hsh := wU (k := t) (by omega))); (try (clear mkA hp0; have e0 : i = x.m := (by omega); subst e0; have hp0 := Je x.S (Nat.le_refl x.m))); (try (clear mk2 hkn hgp hsr ha1 he1 hxx hyy hf1 hs2 ho3 hu3 hf2 hs3 ho4 hu4; have hkm : (i2 + 1 + t2) < x.m := (by omega); have hkn : ((i2 : Int) + 1 + (t2 : Int)).toNat = (i2 + 1 + t2) := (by omega); have hgp := Xp (S := x.S) hkm; have hp2 : eY x.S x.m (i2 + 1 + t2) < 1024 := Ap (k := (i2 + 1 + t2)) (by omega) (qV hv hm hkm); have hsr := Ri (eY x.S x.m (i2 + 1 + t2)) i2 (by omega); have ha1 := SA (UQ i2 (x := eY x.S x.m (i2 + 1 + t2)) (by omega)); have hv1 := hop i2 (by omega); have hv2 := hop (i2 + 1 + t2) (by omega); have he1 : X4 (x.O i2).k (x.O i2).o (x.O (i2 + 1 + t2)).k (x.O (i2 + 1 + t2)).o = 0 := if_pos ⟨hv1, hv2⟩; have hxx : Xh (x.O i2).k (x.O i2).o (x.O (i2 + 1 + t2)).k (x.O (i2 + 1 + t2)).o = mR (x.O i2).k (x.O i2).o (x.O (i2 + 1 + t2)).k (x.O (i2 + 1 + t2)).o := if_pos ⟨hv1, hv2⟩; have hyy : WH (x.O i2).k (x.O i2).o (x.O (i2 + 1 + t2)).k (x.O (i2 + 1 + t2)).o = vF (x.O i2).k (x.O i2).o (x.O (i2 + 1 + t2)).k (x.O (i2 + 1 + t2)).o := if_pos ⟨hv1, hv2⟩; obtain ⟨hf1, ho3, hu3, hf2, ho4, hu4⟩ := PD hm (i := i2) (k := (i2 + 1 + t2)) (by omega) hkm (fun p hp => aeB (P := dU x) (X := dQ x) (k := i2) (t := t2) (by omega) (by omega) hp); have hs2 := wU (k := (i2 + 1 + t2)) (by omega); have hs3 := wU (k := i2) (by omega); have hll := WA (P := dU x) (X := dQ x) hm (i := i2) (t := t2) (by omega) (by omega)))); (try (exfalso; contradiction)))))
 | ((with_reducible refine And.intro ?_ ?_); focus ((with_reducible show fB _ _ _ = true); kernel_rfl))
 | ((with_reducible show aN _ _ _ _ _ _ _ _ _ _); first
 | (refine aj (k := 65) q8 (zV x hx) ?_ ?_)
 | ((refine bY (k := 66) Tryz.func66 rfl E5 (by rw [Tryz.ntmps66]; simp) ?_ ?_ (fun K hK => ?_)); (focus (exact True.intro)); (focus ((simp [iM]; done))); simp only [Tryz.ntmps66, List.map_cons, List.map_nil, List.nil_append, List.cons_append, List.append_nil, LV.tv, ak, Nat.zero_add, Nat.reduceAdd])
 | ((refine bY (k := 99) Tryz.func99 rfl vK (by rw [Tryz.ntmps99]; simp) ?_ ?_ (fun K hK => ?_)); (focus (exact True.intro)); (focus ((simp [iM]; done))); simp only [Tryz.ntmps99, List.map_cons, List.map_nil, List.nil_append, List.cons_append, List.append_nil, LV.tv, ak, Nat.zero_add, Nat.reduceAdd])
 | ((refine gK (k := 100) Tryz.func100 rfl GJ (by rw [Tryz.ntmps100]; simp) ?_ ?_ (fun K hK => ?_)); (focus (exact True.intro)); (focus ((simp [iM]; done))); simp only [Tryz.ntmps100, List.map_cons, List.map_nil, List.nil_append, List.cons_append, List.append_nil, LV.tv, ak, Nat.zero_add, Nat.reduceAdd]))
 | ((with_reducible show dA _ _ _ _ _ _ _ _ _ _ _ _ _); first
 | (refine aV (k := 67) NV (abM (x.O i2).k (x.O i2).o (x.O (i2 + 1 + t2)).k (x.O (i2 + 1 + t2)).o (hx.k i2 (by omega)) (hx.o i2 (by omega)) (hx.k (i2 + 1 + t2) (by omega)) (hx.o (i2 + 1 + t2) (by omega))) ?_ ?_))
 | ((with_reducible refine hR6 _ (i + 1) ?_); (try clear hR6 KR))
 | ((with_reducible refine hR9 _ (j + 1) ?_); (try clear hR9 KR))
 | ((with_reducible refine hR2 _ (t + 1) ?_); (try clear hR2 KR))
 | ((with_reducible refine hR16 _ (i2 + 1) ?_); (try clear hR16 KR))
 | ((with_reducible refine hR19 _ (t2 + 1) ?_); (try clear hR19 KR))
 | ((with_reducible refine Told.mk ?_); simp only [go_sem, reduceIte, reduceCtorEq, xA, xL, xD, xE, xM, xS, xB, bJ, bI, dD, bG, he, ko, maxLen, gV, gW, gZ, gL, gy, lS, pO, Ud, Ux, AQ, Bool.cond_self, iq, iw, gq, List.length_set, hpl, hp0, hkn, hgp, hsr, ha1, he1, hxx, hyy, hf1, hs2, ho3, hu3, hf2, hs3, ho4, hu4, hg1, hg2, hsh, ho1, ho2, hst] <;> (first | (((try simp (disch := omega) only [aJ, Int.natCast_add, Int.cast_ofNat_Int, and_true, true_and, and_self]); (repeat' (first | omega | rfl | (with_reducible refine And.intro ?_ ?_) | (exact all_succ (by assumption) (by assumption)) | ((exact bO rfl (fT _))) | ((rw [show j = (x.S i).q by omega, adh]; exact bO rfl (fT _))))); done)) | (((try simp (disch := omega) only [aJ, Int.natCast_add, Int.cast_ofNat_Int, and_true, true_and, and_self]); (repeat' (first | omega | rfl | (with_reducible refine And.intro ?_ ?_) | ((exact bO rfl (fT _))) | ((rw [ab9 _ (by omega)]; exact bO rfl (fT _))))); done)) | (((try simp (disch := omega) only [aJ, Int.natCast_add, Int.cast_ofNat_Int, and_true, true_and, and_self]); (repeat' (first | omega | rfl | (with_reducible refine And.intro ?_ ?_) | ((exact bO rfl (fT _))) | ((rw [show t2 = x.m - (i2 + 1) by omega]; exact bO rfl (fT _))) | ((rw [show t2 = x.m - (i2 + 1) by omega]; exact bO rfl (kS _ _))) | ((rw [show t2 = x.m - (i2 + 1) by omega]; rfl)) | ((exact bO (by rw [<- RO]; rfl) (fT _))))); done)) | (((try simp (disch := omega) only [aJ, Int.natCast_add, Int.cast_ofNat_Int, and_true, true_and, and_self]); (repeat' (first | omega | (with_reducible refine And.intro ?_ ?_) | ((exact bO rfl (fT _))) | ((rw [Gv, List.append_nil]; exact bO rfl (fT _))) | ((rw [Gv, List.append_nil]; exact bO rfl (kS _ _))) | ((rw [Gv, List.append_nil])) | ((rw [aef (by assumption)]; first | done | exact bO rfl (fT _) | exact bO rfl (kS _ _))) | ((rw [abJ (hc.resolve_left (fun h => h rfl))]; first | done | exact bO rfl (fT _) | exact bO rfl (kS _ _))) | ((rw [agi (by assumption) hc.2]; first | exact bO rfl (fT _) | exact bO rfl (kS _ _) | exact congrArg (fun n => CV.slc 11 0 n 4) (KI _ _).symm)))); done))))
 | ((fail_if_success (with_reducible show AW _ _ _ _)); simp (maxSteps := 2000000) only [go_sem, reduceIte, reduceCtorEq, xA, xL, xD, xE, xM, xS, xB, Tryz.f37, Tryz.f66, Tryz.f99, Tryz.f100, bJ, bI, dD, bG, he, ko, maxLen, gV, gW, gZ, gL, gy, lS, pO, Ud, Ux, AQ, Bool.cond_self, iq, iw, gq, List.length_set, hpl, hp0, hkn, hgp, hsr, ha1, he1, hxx, hyy, hf1, hs2, ho3, hu3, hf2, hs3, ho4, hu4, hg1, hg2, hsh, ho1, ho2, hst])
 | ((fail_if_success (with_reducible show AW _ _ _ _)); simp (disch := omega) only [aJ, dG, dH])
 | ((with_reducible refine hK _ ?_); clear hK K)
 | (with_reducible apply_assumption -exfalso only [*]))
  all_goals first
    | (have e0 : i2 = x.m := (by omega)
       subst e0
       intro o ho
       rcases (by omega : o = 0 \/ o = 1 \/ o = 2 \/ o = 3 \/ o = 4 \/ o = 5) with rfl | rfl | rfl | rfl | rfl | rfl
       · exact IV.aG _
       · exact IV.aG _
       · exact IV.aG _
       · exact ⟨rfl, rfl, fun i o hi ho => U1 (l := wL x.S x.m x.m) (F := dU x) (fun i hi => by rw [SQ]; rfl) i o (by rw [hp0]; exact hi) ho⟩
       · exact ⟨rfl, rfl, fun i o hi ho => U1 (l := jJ (mg x) x.m) (F := fP (mg x)) (fun i hi => Eb _ (by simpa [jJ] using hi)) i o (by rw [gq]; exact hi) ho⟩
       · exact ⟨rfl, rfl, fun i o hi ho => adw (x := x) (L := mg x) i o hi ho⟩)
    | skip
end Go.Proofs.YtmnejmpjmniiiaaGreatDoor
set_option maxRecDepth 100000
set_option maxHeartbeats 4000000
namespace Go.Proofs.YtmnejmpjmniiiaaGreatDoor
open Go.RowKit Go.Sea
open Nat renaming reduceAdd -> xA, reduceLT -> xL, reduceLeDiff -> xD, reduceEqDiff -> xE, reduceMul -> xM, reduceSub -> xS, reduceBEq -> xB
theorem jr : aM Tryz.prog 37 = true := by kernel_rfl
theorem EJ : aM Tryz.prog 41 = true := by kernel_rfl
theorem qZ : aM Tryz.prog 48 = true := by kernel_rfl
theorem EC : aM Tryz.prog 73 = true := by kernel_rfl
theorem MO : aM Tryz.prog 74 = true := by kernel_rfl
theorem Oz : aM Tryz.prog 75 = true := by kernel_rfl
attribute [go_sem] jr EJ qZ EC Oz
def fH (x : bF) (q : Nat) (a : Nat -> Int) : Int := if cB x = 1 then 1 else if fK x.S x.m q a = false then 1 else cB x
def eG (x : bF) (q : Nat) (a : Nat -> Int) : Nat := JO x.S x.m a q
def iN (x : bF) (q : Nat) (a : Nat -> Int) : Bool := if fH x q a = 0 then dS (iU x) (eG x q a) else false
def rX (x : bF) (q : Nat) (a : Nat -> Int) : Nat := if fH x q a = 0 then Ht (iU x) (eG x q a) else 0
def pW (x : bF) (q : Nat) (a : Nat -> Int) : Nat -> aF := Xz (iU x) (eG x q a)
theorem qE {x : bF} {q : Nat} {a : Nat -> Int} (h : fH x q a ≠ 0) : rX x q a = 0 /\ iN x q a = false := by
  unfold rX iN; rw [if_neg h, if_neg h]; exact ⟨rfl, rfl⟩
theorem Zj {x : bF} {q : Nat} {a : Nat -> Int} (h : cB x = 1) : fH x q a = 1 := if_pos h
theorem Gz {x : bF} {q : Nat} {a : Nat -> Int} (h : fK x.S x.m q a = false) : fH x q a = 1 := by unfold fH; rw [if_pos h]; split <;> rfl
theorem Bh {x : bF} {q : Nat} {a : Nat -> Int} (h : cB x ≠ 1) (h2 : fK x.S x.m q a = true) : fH x q a = cB x := by unfold fH; rw [if_neg h, if_neg (by rw [h2]; simp)]
theorem ZF {x : bF} {q : Nat} {a : Nat -> Int} (h : cB x = 0) (h2 : fK x.S x.m q a = true) : rX x q a = Ht (iU x) (Pv x.S x.m q a) /\ iN x q a = dS (iU x) (Pv x.S x.m q a) /\ pW x q a = Xz (iU x) (Pv x.S x.m q a) /\ fH x q a = 0 := by
  have e : fH x q a = 0 := by rw [Bh (by omega) h2, h]
  have e2 : eG x q a = Pv x.S x.m q a := by unfold eG Pv; rw [h2]; rfl
  unfold rX iN pW
  rw [if_pos e, if_pos e, e2]; exact ⟨rfl, rfl, rfl, e⟩
theorem adX {x : bF} {q : Nat} {a : Nat -> Int} (h2 : fK x.S x.m q a = true) : iV x.m (Pv x.S x.m q a) := by
  unfold Pv; rw [if_pos h2]; exact qI (of_decide_eq_true h2)
theorem Vz {S : Nat -> aK} {m q : Nat} {a : Nat -> Int} {j : Nat} (hj : (j : Int) < q) (h : ¬ qK S m a j) : fK S m q a = false := decide_eq_false fun g => h (g j (by omega))
theorem aeY {S : Nat -> aK} {m q : Nat} {a : Nat -> Int} {j : Nat} (hj : (q : Int) <= j) (h : ∀ i, i < j -> qK S m a i) : fK S m q a = true := decide_eq_true fun i hi => h i (by omega)
theorem aaz {S : Nat -> aK} {m t : Nat} {x : Int} (ht : (m : Int) <= t) (g : ∀ j, j < t -> (S j).nu ≠ x) : m <= eT S m x := by
  have e : eT S m x = m := mO m fun j hj => decide_eq_false (g j (by omega))
  omega
def Kl (x : bF) : Nat := if cB x = 0 then (mg x).length else 0
def prC (x : bF) (i o : Nat) : IV := IC x ((mg x).getD i (0, 0)) o
theorem QL {x : bF} (h : cB x ≠ 0) : Kl x = 0 := if_neg h
theorem ND {x : bF} (h : cB x = 0) : Kl x = (mg x).length := if_pos h
def K7 (x : bF) (q : Nat) (a : Nat -> Int) : Int := if fH x q a ≠ 0 then fH x q a else if iN x q a = true then 0 else 15
def GL (x : bF) (q : Nat) (a : Nat -> Int) : Nat := if iN x q a = true then rX x q a else 0
theorem Xu {x : bF} {q : Nat} {a : Nat -> Int} (h : fH x q a ≠ 0) : K7 x q a = fH x q a /\ GL x q a = 0 := by
  unfold K7 GL; rw [if_pos h, (qE h).2]; exact ⟨rfl, rfl⟩
theorem Y9 {x : bF} {q : Nat} {a : Nat -> Int} (h : fH x q a = 0) (h2 : iN x q a = false) : K7 x q a = 15 /\ GL x q a = 0 := by
  unfold K7 GL; rw [if_neg (by omega), h2]; exact ⟨rfl, rfl⟩
theorem YM {x : bF} {q : Nat} {a : Nat -> Int} (h : fH x q a = 0) (h2 : iN x q a = true) : K7 x q a = 0 /\ GL x q a = rX x q a := by
  unfold K7 GL; rw [if_neg (by omega), h2]; exact ⟨rfl, rfl⟩
theorem vQ (f : Nat -> aF) : PT.eqv (.one (.g (.slice none 0 0))) (.one (.lst 9 0 (bq f))) := ⟨rfl, rfl⟩
theorem aeb (x : bF) (hx : x.Ok) (h0 : x.n = 0) (he : cB x ≠ 0) : au Tryz.prog 37 [.one (.g (.slice none 0 0)), .one (.lst 2 x.m (fA x.S)), .one (.lst 1 x.mo (iJ x.O))] (.tup [.one (.g (.pointer none)), .one (.g (.int .i64 (cB x)))]) := (Ir x hx he).eqv ⟨by rw [h0]; exact vQ _, PT.aG _, PT.aG _, trivial⟩ (PV.aG _)
theorem aaY (x : bF) (hx : x.Ok) (h0 : x.n = 0) (he : cB x = 0) : au Tryz.prog 37 [.one (.g (.slice none 0 0)), .one (.lst 2 x.m (fA x.S)), .one (.lst 1 x.mo (iJ x.O))] (.tup [.one (.ptr 6 (EK (iU x))), .one (.g (.int .i64 (0)))]) := (GH x hx he).eqv ⟨by rw [h0]; exact vQ _, PT.aG _, PT.aG _, trivial⟩ (PV.aG _)
theorem ahU (x : bF) (hx : x.Ok) (h0 : x.n = 0) (he : cB x ≠ 0) : au Tryz.prog 12 [.one (.lst 2 x.m (fA x.S)), .one (.lst 1 x.mo (iJ x.O))] (.tup [.one (.lst 4 (Kl x) (prC x)), .one (.g (.int .i64 (cB x)))]) := by
  refine ah Tryz.func12 rfl (by rw [Tryz.ntmps12]; simp) ?_
  simp only [Tryz.ntmps12, zM, PT.tv, ak, Nat.zero_add, Nat.reduceAdd]
  repeat' (first
 | ((with_reducible show AW _ _ _ _); first
 | (with_reducible first | refine aS (fun K hK => ?_) | refine aT ?_ | refine aC ?_)
 | (first
 | (with_reducible first | refine aP 0 [0,1] ?_ | refine aP 1 [0,1] ?_ | refine aP 2 [6,7] ?_ | refine aP 3 [7] ?_)))
 | (((with_reducible refine Need.mk ?_)); focus (exact True.intro))
 | (with_reducible refine aA ?_)
 | ((with_reducible show aY _ _ _ _ _ _); first
 | ((with_reducible refine aH ?_ ?_) <;> (intro hc; (try simp only [zB, zC, reduceCtorEq] at hc); (try (exfalso; contradiction)))))
 | ((with_reducible show aN _ _ _ _ _ _ _ _ _ _); first
 | (refine aj (k := 37) jr (aeb x hx h0 he) ?_ ?_))
 | ((fail_if_success (with_reducible show AW _ _ _ _)); simp (maxSteps := 2000000) only [go_sem, reduceIte, reduceCtorEq, xA, xL, xD, xE, xM, xS, xB, Tryz.f12])
 | ((with_reducible refine hK _ ?_); clear hK K))
  all_goals (exact QL he)
theorem afF (x : bF) (hx : x.Ok) (h0 : x.n = 0) (he : cB x = 0) : au Tryz.prog 12 [.one (.lst 2 x.m (fA x.S)), .one (.lst 1 x.mo (iJ x.O))] (.tup [.one (.lst 4 (Kl x) (prC x)), .one (.g (.int .i64 (cB x)))]) := by
  refine ah Tryz.func12 rfl (by rw [Tryz.ntmps12]; simp) ?_
  simp only [Tryz.ntmps12, zM, PT.tv, ak, Nat.zero_add, Nat.reduceAdd]
  repeat' (first
 | ((with_reducible show AW _ _ _ _); first
 | (with_reducible first | refine aS (fun K hK => ?_) | refine aI ?_ | refine aT ?_ | refine aC ?_)
 | (first
 | (with_reducible first | refine aP 0 [0,1] ?_ | refine aP 1 [0,1] ?_ | refine aP 2 [6,7] ?_ | refine aP 4 [6] ?_)))
 | ((first | (with_reducible refine And.intro ?_ ?_) | (with_reducible refine Need.mk ?_)); focus (exact True.intro))
 | (with_reducible refine aA ?_)
 | ((with_reducible show aY _ _ _ _ _ _); first
 | ((with_reducible refine aH ?_ ?_) <;> (intro hc; (try simp only [zB, zC, reduceCtorEq] at hc); (try (exfalso; contradiction)))))
 | ((with_reducible show aN _ _ _ _ _ _ _ _ _ _); first
 | (refine aj (k := 37) jr (aaY x hx h0 he) ?_ ?_))
 | ((fail_if_success (with_reducible show AW _ _ _ _)); simp (maxSteps := 2000000) only [go_sem, reduceIte, reduceCtorEq, xA, xL, xD, xE, xM, xS, xB, Tryz.f12, he, kK, EK])
 | ((with_reducible refine hK _ ?_); clear hK K))
  all_goals ((rw [ND he]; exact ⟨rfl, fun i o _ _ => IV.aG _⟩))
theorem af7 (x : bF) (hx : x.Ok) (h0 : x.n = 0) : au Tryz.prog 12 [.one (.lst 2 x.m (fA x.S)), .one (.lst 1 x.mo (iJ x.O))] (.tup [.one (.lst 4 (Kl x) (prC x)), .one (.g (.int .i64 (cB x)))]) := by
  by_cases he : cB x = 0
  · exact afF x hx h0 he
  · exact ahU x hx h0 he
theorem ahy (x : bF) (hx : x.Ok) (q : Nat) (a : Nat -> Int) (hqq : q <= 9223372036854775807) (he : cB x = 1) : au Tryz.prog 41 [.one (.lst 9 x.n (bq x.f)), .one (.lst 2 x.m (fA x.S)), .one (.lst 1 x.mo (iJ x.O)), .one (.lst 1 q (bG a))] (.tup [.one (.lst 9 (rX x q a) (bq (pW x q a))), .one (.g (.bool (iN x q a))), .one (.g (.int .i64 (fH x q a)))]) := by
  refine ah Tryz.func41 rfl (by rw [Tryz.ntmps41]; simp) ?_
  simp only [Tryz.ntmps41, zM, PT.tv, ak, Nat.zero_add, Nat.reduceAdd]
  repeat' (first
 | ((with_reducible show AW _ _ _ _); first
 | (with_reducible first | refine aS (fun K hK => ?_) | refine aT ?_ | refine aC ?_)
 | (first
 | (with_reducible first | refine aP 0 [0,1,2,3] ?_ | refine aP 1 [0,1,2,3] ?_ | refine aP 2 [0,1,2,3,11] ?_ | refine aP 3 [11] ?_)))
 | ((first | (with_reducible refine And.intro ?_ ?_) | (with_reducible refine Need.mk ?_)); focus (exact True.intro))
 | (with_reducible refine aA ?_)
 | ((with_reducible show aY _ _ _ _ _ _); first
 | ((with_reducible refine aH ?_ ?_) <;> (intro hc; (try simp only [zB, zC, reduceCtorEq] at hc); (try (exfalso; contradiction)))))
 | ((with_reducible show aN _ _ _ _ _ _ _ _ _ _); first
 | (refine aj (k := 65) q8 (zV x hx) ?_ ?_))
 | ((fail_if_success (with_reducible show AW _ _ _ _)); simp (maxSteps := 2000000) only [go_sem, reduceIte, reduceCtorEq, xA, xL, xD, xE, xM, xS, xB, Tryz.f41, he])
 | ((with_reducible refine hK _ ?_); clear hK K))
  all_goals ((have e := Zj (q := q) (a := a) he; have e2 := qE (x := x) (q := q) (a := a) (by omega); rw [e, e2.1, e2.2]; exact ⟨rfl, rfl, rfl⟩))
theorem ag1 (x : bF) (hx : x.Ok) (q : Nat) (a : Nat -> Int) (hqq : q <= 9223372036854775807) (he : cB x ≠ 1) (he0 : cB x ≠ 0) : au Tryz.prog 41 [.one (.lst 9 x.n (bq x.f)), .one (.lst 2 x.m (fA x.S)), .one (.lst 1 x.mo (iJ x.O)), .one (.lst 1 q (bG a))] (.tup [.one (.lst 9 (rX x q a) (bq (pW x q a))), .one (.g (.bool (iN x q a))), .one (.g (.int .i64 (fH x q a)))]) := by
  have hxm := hx.m
  have mk0 : True := trivial
  have hle : True := trivial
  have hst : True := trivial
  have hsq : True := trivial
  refine ah Tryz.func41 rfl (by rw [Tryz.ntmps41]; simp) ?_
  simp only [Tryz.ntmps41, zM, PT.tv, ak, Nat.zero_add, Nat.reduceAdd]
  repeat' (first
 | ((with_reducible show bK _ _ false _ _ _ _ _ _ _); (with_reducible refine eO (fun h => by cases h) (fun _ => ?_)))
 | ((with_reducible show iT _ _ false _ _ _ _); (with_reducible refine iy (fun h => by cases h) (fun _ => ?_)))
 | ((with_reducible show bK _ _ true _ _ _ _ _ _ _); (with_reducible refine eO (fun _ => ?_) (fun h => by cases h)))
 | ((with_reducible show AW _ _ _ _); first
 | (with_reducible first | refine aS (fun K hK => ?_) | refine aI ?_ | refine aX ?_ | refine aT ?_ | refine aC ?_ | refine aB ?_)
 | (first
 | (with_reducible first | refine aP 0 [0,1,2,3] ?_ | refine aP (ops := #[⟨some 19, _, _, _, _, _⟩, _, _, _, _]) 1 [0,1,2,3] ?_ | refine aP (ops := #[⟨some 5, _, _, _, _, _⟩, _, _, _, _]) 1 [0,1] ?_ | refine aP (ops := #[⟨some 6, _, _, _, _, _⟩, _, _]) 1 [0,1] ?_ | refine aP (ops := #[⟨some 4, _, _, _, _, _⟩, _, _, _, _]) 1 [1,2] ?_ | refine aP (ops := #[⟨some 23, _, _, _, _, _⟩, _]) 2 [0,1,2,3,11] ?_ | refine aP (ops := #[⟨some 9, _, _, _, _, _⟩]) 2 [0,1,7,8] ?_ | refine aP (ops := #[⟨some 10, _, _, _, _, _⟩, _]) 3 [0,1,7,8] ?_ | refine aP (ops := #[⟨some 12, _, _, _, _, _⟩]) 4 [0,1,2,3] ?_ | refine aP (ops := #[⟨some 11, _, _, _, _, _⟩, _, _, _, _, _]) 4 [0,1,5,7,8] ?_ | refine aP (ops := #[⟨some 26, _, _, _, _, _⟩, _, _]) 5 [0,1,2,3,12] ?_ | refine aP (ops := #[⟨some 17, _, _, _, _, _⟩, _]) 5 [5] ?_ | refine aP (ops := #[⟨some 29, _, _, _, _, _⟩]) 6 [0,1,2,3,12,26,27,28] ?_ | refine aP (ops := #[⟨some 18, _, _, _, _, _⟩, _]) 6 [0,1,7,8] ?_ | refine aP (ops := #[⟨some 30, _, _, _, _, _⟩, _, _, _]) 7 [0,1,2,3,12,26,27,28] ?_ | refine aP (ops := #[⟨some 4, _, _, _, _, _⟩]) 7 [] ?_ | refine aP 8 [0,1,2,3,12,14,26,27,28] ?_ | refine aP 9 [] ?_ | refine aP 10 [0,1,2,3,14,26,27,28] ?_ | refine aP 11 [0,1,2,3,12,26,27,28] ?_ | refine aP 12 [0,1,2,3] ?_ | refine aP 13 [3,11,15] ?_ | refine aP 14 [11] ?_))
 | ((with_reducible show AW _ (Code.loop _) _ _); first
 | ((with_reducible refine aL (c := (Code.seq (Code.region 6 _ _) _)) (ι := Nat) [0,1,2,3,26,27] (fun j => [(12, iA .i64 (lsA a j)), (28, iA .i64 (j : Int))]) (fun j => []) (fun j => j <= q /\ (∀ j', j' < j -> qK x.S x.m a j')) (fun j => q - j) 0 ?lg6 ?l16 ?l26 ?li6 ?lr6); (case' lg6 => rintro j _); (case' li6 => try (exact ⟨Nat.zero_le _, fun i hi => absurd hi (Nat.not_lt_zero _)⟩)); (case' lr6 => rintro j ⟨hj, haj⟩ KR hR6; simp only [bf, bN, hset, lk, if_true, if_false, xE, reduceIte, zN, bJ, bI, oG, qN, hle]))
 | ((with_reducible refine aL (c := (Code.seq (Code.region 2 _ _) _)) (ι := Nat) [0,1,7] (fun t => [(8, iA .i64 (t : Int))]) (fun t => []) (fun t => t <= x.m /\ (∀ t', t' < t -> (x.S t').nu ≠ a j)) (fun t => x.m - t) 0 ?lg2 ?l12 ?l22 ?li2 ?lr2); (case' lg2 => rintro t _); (case' li2 => try (exact ⟨Nat.zero_le _, fun i hi => absurd hi (Nat.not_lt_zero _)⟩)); (case' lr2 => rintro t ⟨ht, hat⟩ KR hR2; simp only [bf, bN, hset, lk, if_true, if_false, xE, reduceIte, zN, bJ, bI, oG, qN, hle]))))
 | ((first | (with_reducible refine And.intro ?_ ?_) | (with_reducible refine Need.mk ?_)); focus (first | exact True.intro | omega))
 | (with_reducible refine aA ?_)
 | ((with_reducible show aY _ _ _ _ _ _); first
 | ((with_reducible refine aH ?_ ?_) <;> (intro hc; (try simp only [zB, zC, reduceCtorEq] at hc); ((try (exfalso; omega)); (try (clear mk0 hle; have hjq : j < q := (by omega); rcases hle0 : decide (a j <= lsA a j) with _ | _; all_goals (have hle := hle0))); (try (have hsb := aeY (S := x.S) (m := x.m) (q := q) (a := a) (by omega) haj; clear hst; have hst := hsb; have hsq : fK (iU x).x.S (iU x).x.m q a = true := hsb))); (try (exfalso; contradiction)))))
 | ((with_reducible show aN _ _ _ _ _ _ _ _ _ _); first
 | (refine aj (k := 65) q8 (zV x hx) ?_ ?_)
 | (refine aj (k := 37) jr (Ir x hx he0) ?_ ?_)
 | ((refine bY (k := 73) Tryz.func73 rfl EC (by rw [Tryz.ntmps73]; simp) ?_ ?_ (fun K hK => ?_)); (focus (exact True.intro)); (focus ((simp [iM]; done))); simp only [Tryz.ntmps73, List.map_cons, List.map_nil, List.nil_append, List.cons_append, List.append_nil, LV.tv, ak, Nat.zero_add, Nat.reduceAdd])
 | ((refine bY (k := 99) Tryz.func99 rfl vK (by rw [Tryz.ntmps99]; simp) ?_ ?_ (fun K hK => ?_)); (focus (exact True.intro)); (focus ((simp [iM]; done))); simp only [Tryz.ntmps99, List.map_cons, List.map_nil, List.nil_append, List.cons_append, List.append_nil, LV.tv, ak, Nat.zero_add, Nat.reduceAdd])
 | ((refine gK (k := 74) Tryz.func74 rfl MO (by rw [Tryz.ntmps74]; simp) ?_ ?_ (fun K hK => ?_)); (focus (exact True.intro)); (focus ((simp [iM]; done))); simp only [Tryz.ntmps74, List.map_cons, List.map_nil, List.nil_append, List.cons_append, List.append_nil, LV.tv, ak, Nat.zero_add, Nat.reduceAdd]))
 | ((with_reducible refine hR6 _ (j + 1) ?_); (try clear hR6 KR))
 | ((with_reducible refine hR2 _ (t + 1) ?_); (try clear hR2 KR))
 | ((with_reducible refine Told.mk ?_); simp only [go_sem, reduceIte, reduceCtorEq, xA, xL, xD, xE, xM, xS, xB, bJ, bI, bG, oG, qN, hle] <;> ((((try simp (disch := omega) only [aJ, Int.natCast_add, Int.cast_ofNat_Int, and_true, true_and, and_self]); (repeat' (first | omega | (with_reducible refine And.intro ?_ ?_) | (exact all_succ (by assumption) (by assumption)) | ((exact all_succ (by assumption) ⟨by have := Ox (S := x.S) (m := x.m) (by omega) (by assumption) hat; omega, by have := of_decide_eq_false hle; omega⟩)))); done))))
 | ((fail_if_success (with_reducible show AW _ _ _ _)); simp (maxSteps := 2000000) only [go_sem, reduceIte, reduceCtorEq, xA, xL, xD, xE, xM, xS, xB, Tryz.f41, Tryz.f73, Tryz.f99, Tryz.f74, bJ, bI, bG, oG, qN, hle])
 | ((with_reducible refine hK _ ?_); clear hK K)
 | (with_reducible apply_assumption -exfalso only [*]))
  all_goals first
    | (have e0 := Vz (S := x.S) (m := x.m) (q := q) (a := a) (j := j) (by omega) (LC (of_decide_eq_true hle)); have e := Gz (x := x) e0; have e2 := qE (x := x) (q := q) (a := a) (by omega); rw [e, e2.1, e2.2]; exact ⟨rfl, rfl, rfl⟩)
    | (have e0 := Vz (S := x.S) (m := x.m) (q := q) (a := a) (j := j) (by omega) (Ka (aaz (by omega) hat)); have e := Gz (x := x) e0; have e2 := qE (x := x) (q := q) (a := a) (by omega); rw [e, e2.1, e2.2]; exact ⟨rfl, rfl, rfl⟩)
    | (have e := Bh (x := x) he hsb; have e2 := qE (x := x) (q := q) (a := a) (by omega); rw [e, e2.1, e2.2]; exact ⟨rfl, rfl, rfl⟩)
    | (have e := ZF (x := x) he hsb; rw [e.1, e.2.1, e.2.2.1, e.2.2.2]; exact ⟨⟨rfl, fun i o _ _ => IV.aG _⟩, rfl, rfl⟩)
    | (exfalso; simp at hc; omega)
    | skip
theorem afD (x : bF) (hx : x.Ok) (q : Nat) (a : Nat -> Int) (hqq : q <= 9223372036854775807) (he : cB x = 0) : au Tryz.prog 41 [.one (.lst 9 x.n (bq x.f)), .one (.lst 2 x.m (fA x.S)), .one (.lst 1 x.mo (iJ x.O)), .one (.lst 1 q (bG a))] (.tup [.one (.lst 9 (rX x q a) (bq (pW x q a))), .one (.g (.bool (iN x q a))), .one (.g (.int .i64 (fH x q a)))]) := by
  have hxm := hx.m
  have mk0 : True := trivial
  have hle : True := trivial
  have hst : True := trivial
  have hsq : True := trivial
  refine ah Tryz.func41 rfl (by rw [Tryz.ntmps41]; simp) ?_
  simp only [Tryz.ntmps41, zM, PT.tv, ak, Nat.zero_add, Nat.reduceAdd]
  repeat' (first
 | ((with_reducible show bK _ _ false _ _ _ _ _ _ _); (with_reducible refine eO (fun h => by cases h) (fun _ => ?_)))
 | ((with_reducible show iT _ _ false _ _ _ _); (with_reducible refine iy (fun h => by cases h) (fun _ => ?_)))
 | ((with_reducible show bK _ _ true _ _ _ _ _ _ _); (with_reducible refine eO (fun _ => ?_) (fun h => by cases h)))
 | ((with_reducible show AW _ _ _ _); first
 | (with_reducible first | refine aS (fun K hK => ?_) | refine aI ?_ | refine aX ?_ | refine aT ?_ | refine aC ?_ | refine aB ?_)
 | (first
 | (with_reducible first | refine aP 0 [0,1,2,3] ?_ | refine aP (ops := #[⟨some 19, _, _, _, _, _⟩, _, _, _, _]) 1 [0,1,2,3] ?_ | refine aP (ops := #[⟨some 5, _, _, _, _, _⟩, _, _, _, _]) 1 [0,1] ?_ | refine aP (ops := #[⟨some 6, _, _, _, _, _⟩, _, _]) 1 [0,1] ?_ | refine aP (ops := #[⟨some 4, _, _, _, _, _⟩, _, _, _, _]) 1 [1,2] ?_ | refine aP (ops := #[⟨some 23, _, _, _, _, _⟩, _]) 2 [0,1,2,3,11] ?_ | refine aP (ops := #[⟨some 9, _, _, _, _, _⟩]) 2 [0,1,7,8] ?_ | refine aP (ops := #[⟨some 10, _, _, _, _, _⟩, _]) 3 [0,1,7,8] ?_ | refine aP (ops := #[⟨some 12, _, _, _, _, _⟩]) 4 [0,1,2,3] ?_ | refine aP (ops := #[⟨some 11, _, _, _, _, _⟩, _, _, _, _, _]) 4 [0,1,5,7,8] ?_ | refine aP (ops := #[⟨some 26, _, _, _, _, _⟩, _, _]) 5 [0,1,2,3,12] ?_ | refine aP (ops := #[⟨some 17, _, _, _, _, _⟩, _]) 5 [5] ?_ | refine aP (ops := #[⟨some 29, _, _, _, _, _⟩]) 6 [0,1,2,3,12,26,27,28] ?_ | refine aP (ops := #[⟨some 18, _, _, _, _, _⟩, _]) 6 [0,1,7,8] ?_ | refine aP (ops := #[⟨some 30, _, _, _, _, _⟩, _, _, _]) 7 [0,1,2,3,12,26,27,28] ?_ | refine aP (ops := #[⟨some 4, _, _, _, _, _⟩]) 7 [] ?_ | refine aP 8 [0,1,2,3,12,14,26,27,28] ?_ | refine aP 9 [] ?_ | refine aP 10 [0,1,2,3,14,26,27,28] ?_ | refine aP 11 [0,1,2,3,12,26,27,28] ?_ | refine aP 12 [0,1,2,3] ?_ | refine aP 13 [3,11,15] ?_ | refine aP 15 [3,15] ?_ | refine aP 16 [15,16,17] ?_ | refine aP 18 [15,16] ?_ | refine aP 19 [17,18] ?_))
 | ((with_reducible show AW _ (Code.loop _) _ _); first
 | ((with_reducible refine aL (c := (Code.seq (Code.region 6 _ _) _)) (ι := Nat) [0,1,2,3,26,27] (fun j => [(12, iA .i64 (lsA a j)), (28, iA .i64 (j : Int))]) (fun j => []) (fun j => j <= q /\ (∀ j', j' < j -> qK x.S x.m a j')) (fun j => q - j) 0 ?lg6 ?l16 ?l26 ?li6 ?lr6); (case' lg6 => rintro j _); (case' li6 => try (exact ⟨Nat.zero_le _, fun i hi => absurd hi (Nat.not_lt_zero _)⟩)); (case' lr6 => rintro j ⟨hj, haj⟩ KR hR6; simp only [bf, bN, hset, lk, if_true, if_false, xE, reduceIte, zN, bJ, bI, oG, qN, hle, he, hsq]))
 | ((with_reducible refine aL (c := (Code.seq (Code.region 2 _ _) _)) (ι := Nat) [0,1,7] (fun t => [(8, iA .i64 (t : Int))]) (fun t => []) (fun t => t <= x.m /\ (∀ t', t' < t -> (x.S t').nu ≠ a j)) (fun t => x.m - t) 0 ?lg2 ?l12 ?l22 ?li2 ?lr2); (case' lg2 => rintro t _); (case' li2 => try (exact ⟨Nat.zero_le _, fun i hi => absurd hi (Nat.not_lt_zero _)⟩)); (case' lr2 => rintro t ⟨ht, hat⟩ KR hR2; simp only [bf, bN, hset, lk, if_true, if_false, xE, reduceIte, zN, bJ, bI, oG, qN, hle, he, hsq]))))
 | ((first | (with_reducible refine And.intro ?_ ?_) | (with_reducible refine Need.mk ?_)); focus (first | exact True.intro | omega))
 | (with_reducible refine aA ?_)
 | ((with_reducible show aY _ _ _ _ _ _); first
 | ((with_reducible refine aH ?_ ?_) <;> (intro hc; (try simp only [zB, zC, reduceCtorEq] at hc); ((try (exfalso; omega)); (try (clear mk0 hle; have hjq : j < q := (by omega); rcases hle0 : decide (a j <= lsA a j) with _ | _; all_goals (have hle := hle0))); (try (have hsb := aeY (S := x.S) (m := x.m) (q := q) (a := a) (by omega) haj; clear hst; have hst := hsb; have hsq : fK (iU x).x.S (iU x).x.m q a = true := hsb))); (try (exfalso; contradiction)))))
 | ((with_reducible show aN _ _ _ _ _ _ _ _ _ _); first
 | (refine aj (k := 65) q8 (zV x hx) ?_ ?_)
 | (refine aj (k := 37) jr (GH x hx he) ?_ ?_)
 | (refine aj (k := 75) Oz (acg (iU x) (jO hx he) q a hqq) ?_ ?_)
 | (refine aj (k := 48) qZ (Fw (iU x) (jO hx he) (Pv x.S x.m q a) (adX hsb)) ?_ ?_)
 | ((refine bY (k := 73) Tryz.func73 rfl EC (by rw [Tryz.ntmps73]; simp) ?_ ?_ (fun K hK => ?_)); (focus (exact True.intro)); (focus ((simp [iM]; done))); simp only [Tryz.ntmps73, List.map_cons, List.map_nil, List.nil_append, List.cons_append, List.append_nil, LV.tv, ak, Nat.zero_add, Nat.reduceAdd])
 | ((refine bY (k := 99) Tryz.func99 rfl vK (by rw [Tryz.ntmps99]; simp) ?_ ?_ (fun K hK => ?_)); (focus (exact True.intro)); (focus ((simp [iM]; done))); simp only [Tryz.ntmps99, List.map_cons, List.map_nil, List.nil_append, List.cons_append, List.append_nil, LV.tv, ak, Nat.zero_add, Nat.reduceAdd])
 | ((refine gK (k := 74) Tryz.func74 rfl MO (by rw [Tryz.ntmps74]; simp) ?_ ?_ (fun K hK => ?_)); (focus (exact True.intro)); (focus ((simp [iM]; done))); simp only [Tryz.ntmps74, List.map_cons, List.map_nil, List.nil_append, List.cons_append, List.append_nil, LV.tv, ak, Nat.zero_add, Nat.reduceAdd]))
 | ((with_reducible refine hR6 _ (j + 1) ?_); (try clear hR6 KR))
 | ((with_reducible refine hR2 _ (t + 1) ?_); (try clear hR2 KR))
 | ((with_reducible refine Told.mk ?_); simp only [go_sem, reduceIte, reduceCtorEq, xA, xL, xD, xE, xM, xS, xB, bJ, bI, bG, oG, qN, hle, he, hsq] <;> ((((try simp (disch := omega) only [aJ, Int.natCast_add, Int.cast_ofNat_Int, and_true, true_and, and_self]); (repeat' (first | omega | (with_reducible refine And.intro ?_ ?_) | (exact all_succ (by assumption) (by assumption)) | ((exact all_succ (by assumption) ⟨by have := Ox (S := x.S) (m := x.m) (by omega) (by assumption) hat; omega, by have := of_decide_eq_false hle; omega⟩)))); done))))
 | ((fail_if_success (with_reducible show AW _ _ _ _)); simp (maxSteps := 2000000) only [go_sem, reduceIte, reduceCtorEq, xA, xL, xD, xE, xM, xS, xB, Tryz.f41, Tryz.f73, Tryz.f99, Tryz.f74, bJ, bI, bG, oG, qN, hle, he, hsq])
 | ((with_reducible refine hK _ ?_); clear hK K)
 | (with_reducible apply_assumption -exfalso only [*]))
  all_goals first
    | (have e0 := Vz (S := x.S) (m := x.m) (q := q) (a := a) (j := j) (by omega) (LC (of_decide_eq_true hle)); have e := Gz (x := x) e0; have e2 := qE (x := x) (q := q) (a := a) (by omega); rw [e, e2.1, e2.2]; exact ⟨rfl, rfl, rfl⟩)
    | (have e0 := Vz (S := x.S) (m := x.m) (q := q) (a := a) (j := j) (by omega) (Ka (aaz (by omega) hat)); have e := Gz (x := x) e0; have e2 := qE (x := x) (q := q) (a := a) (by omega); rw [e, e2.1, e2.2]; exact ⟨rfl, rfl, rfl⟩)
    | (have e := Bh (x := x) he hsb; have e2 := qE (x := x) (q := q) (a := a) (by omega); rw [e, e2.1, e2.2]; exact ⟨rfl, rfl, rfl⟩)
    | (have e := ZF (x := x) he hsb; rw [e.1, e.2.1, e.2.2.1, e.2.2.2]; exact ⟨⟨rfl, fun i o _ _ => IV.aG _⟩, rfl, rfl⟩)
    | (exfalso; simp at hc; omega)
    | skip
theorem ME (x : bF) (hx : x.Ok) (q : Nat) (a : Nat -> Int) (hqq : q <= 9223372036854775807) : au Tryz.prog 41 [.one (.lst 9 x.n (bq x.f)), .one (.lst 2 x.m (fA x.S)), .one (.lst 1 x.mo (iJ x.O)), .one (.lst 1 q (bG a))] (.tup [.one (.lst 9 (rX x q a) (bq (pW x q a))), .one (.g (.bool (iN x q a))), .one (.g (.int .i64 (fH x q a)))]) := by
  by_cases he : cB x = 1
  · exact ahy x hx q a hqq he
  · by_cases he0 : cB x = 0
    · exact afD x hx q a hqq he0
    · exact ag1 x hx q a hqq he he0
theorem aav (x : bF) (hx : x.Ok) (q : Nat) (a : Nat -> Int) (hqq : q <= 9223372036854775807) : au Tryz.prog 15 [.one (.lst 9 x.n (bq x.f)), .one (.lst 2 x.m (fA x.S)), .one (.lst 1 x.mo (iJ x.O)), .one (.lst 1 q (bG a))] (.tup [.one (.g (.bool (iN x q a))), .one (.g (.int .i64 (fH x q a)))]) := by
  refine ah Tryz.func15 rfl (by rw [Tryz.ntmps15]; simp) ?_
  simp only [Tryz.ntmps15, zM, PT.tv, ak, Nat.zero_add, Nat.reduceAdd]
  repeat' (first
 | ((with_reducible show AW _ _ _ _); first
 | (with_reducible first | refine aS (fun K hK => ?_) | refine aT ?_)
 | (first
 | (with_reducible first | refine aP 0 [0,1,2,3] ?_ | refine aP 1 [0,1,2,3] ?_ | refine aP 2 [11,12] ?_)))
 | (((with_reducible refine Need.mk ?_)); focus (exact True.intro))
 | (with_reducible refine aA ?_)
 | ((with_reducible show aN _ _ _ _ _ _ _ _ _ _); first
 | (refine aj (k := 41) EJ (ME x hx q a hqq) ?_ ?_))
 | ((fail_if_success (with_reducible show AW _ _ _ _)); simp (maxSteps := 2000000) only [go_sem, reduceIte, reduceCtorEq, xA, xL, xD, xE, xM, xS, xB, Tryz.f15])
 | ((with_reducible refine hK _ ?_); clear hK K))
theorem Zm (x : bF) (hx : x.Ok) (q : Nat) (a : Nat -> Int) (hqq : q <= 9223372036854775807) : au Tryz.prog 17 [.one (.lst 9 x.n (bq x.f)), .one (.lst 2 x.m (fA x.S)), .one (.lst 1 x.mo (iJ x.O)), .one (.lst 1 q (bG a))] (.tup [.one (.lst 9 (GL x q a) (bq (pW x q a))), .one (.g (.int .i64 (K7 x q a)))]) := by
  refine ah Tryz.func17 rfl (by rw [Tryz.ntmps17]; simp) ?_
  simp only [Tryz.ntmps17, zM, PT.tv, ak, Nat.zero_add, Nat.reduceAdd]
  repeat' (first
 | ((with_reducible show AW _ _ _ _); first
 | (with_reducible first | refine aS (fun K hK => ?_) | refine aI ?_ | refine aT ?_ | refine aC ?_)
 | (first
 | (with_reducible first | refine aP 0 [0,1,2,3] ?_ | refine aP 1 [0,1,2,3] ?_ | refine aP 2 [10,11,12] ?_ | refine aP 3 [12] ?_ | refine aP 4 [10,11] ?_ | refine aP 5 [] ?_ | refine aP 6 [10] ?_)))
 | ((first | (with_reducible refine And.intro ?_ ?_) | (with_reducible refine Need.mk ?_)); focus (exact True.intro))
 | (with_reducible refine aA ?_)
 | ((with_reducible show aY _ _ _ _ _ _); first
 | ((with_reducible refine aH ?_ ?_) <;> (intro hc; (try simp only [zB, zC, reduceCtorEq] at hc); (try (exfalso; contradiction)))))
 | ((with_reducible show aN _ _ _ _ _ _ _ _ _ _); first
 | (refine aj (k := 41) EJ (ME x hx q a hqq) ?_ ?_))
 | ((fail_if_success (with_reducible show AW _ _ _ _)); simp (maxSteps := 2000000) only [go_sem, reduceIte, reduceCtorEq, xA, xL, xD, xE, xM, xS, xB, Tryz.f17])
 | ((with_reducible refine hK _ ?_); clear hK K))
  all_goals first
    | (have e := Xu (x := x) (q := q) (a := a) (by omega); rw [e.1, e.2]; exact ⟨rfl, rfl⟩)
    | (have e := Y9 (x := x) (q := q) (a := a) (by omega) (by assumption); rw [e.1, e.2]; exact ⟨rfl, rfl⟩)
    | (have e := YM (x := x) (q := q) (a := a) (by omega) (by assumption); rw [e.1, e.2]; exact ⟨⟨rfl, fun i o _ _ => IV.aG _⟩, rfl⟩)
    | skip
end Go.Proofs.YtmnejmpjmniiiaaGreatDoor
